/- The row of the law HashFlows: for every input it returns true, and each argument reads as it read. -/
import Derived.Test.YtgemicgpaklmlaaRows
import Derived.Test.YtgemicgpaklmlaaQLx20
import Derived.Test.YtgemicgpaklmlaaPureHashFlows
import Derived.Test.YtgemicgpaklmlaaOpn
import Derived.WalkKit
import Derived.ProofKit
import Derived.OpenShut
import Derived.ShutString
import Derived.ChangeOld
import Derived.Below
import Derived.SizedLaws
namespace Go.Proofs.Ytgemicgpaklmlaa.hashFlows
open Go.ChangeShapes Go.WideShapes Go.ChangeAt Go.RowKit Go.Proofs.Ytgemicgpaklmlaa.QL Go.Proofs.Ytgemicgpaklmlaa.Opn Go.Proofs.YtgemicgpaklmlaaW.PrintWords
open Go.ChangeMaps (open_string shut_string)
set_option linter.unusedVariables false
set_option linter.unusedSimpArgs false
theorem own : ownKnob Try.prog.godebug = none := by kernel_rfl
theorem laidOut : laidOutB Try.prog = true := by kernel_rfl
def R39 (x : S39) (cs : List Value) : Prop := ∃ c0 c1 c2 c3 c4 : List Value, cs = c0 ++ (c1 ++ (c2 ++ (c3 ++ (c4)))) ∧ (fun (x : Int) cs => cs = [.int .u32 x] ∧ (Lit.int .u32 x).wf = true) (x.f0) c0 ∧ (fun (x : Int) cs => cs = [.int .u32 x] ∧ (Lit.int .u32 x).wf = true) (x.f1) c1 ∧ (fun (x : Int) cs => cs = [.int .u16 x] ∧ (Lit.int .u16 x).wf = true) (x.f2) c2 ∧ (fun (x : Int) cs => cs = [.int .u16 x] ∧ (Lit.int .u16 x).wf = true) (x.f3) c3 ∧ (fun (x : Int) cs => cs = [.int .u8 x] ∧ (Lit.int .u8 x).wf = true) (x.f4) c4
theorem gv_39 {H : Type} {enc : TypeId × Value → H} {W : World} {base : Nat} {spare : Nat → Bool} {held : Bool} : Gv enc Try.prog W base spare held 39 (R39) := by
  intro n cs y hy
  obtain ⟨hlen, hf⟩ := fields Try.underlying39 hy
  have hlen' : cs.length = 5 := hlen.trans (by kernel_rfl)
  obtain ⟨m0, z0, h0⟩ := hf 0 _ rfl
  obtain ⟨x0, r0⟩ := (gv_int Try.underlying22 : Gv enc Try.prog W base spare held 22 _) m0 _ _ h0
  obtain ⟨m1, z1, h1⟩ := hf 1 _ rfl
  obtain ⟨x1, r1⟩ := (gv_int Try.underlying22 : Gv enc Try.prog W base spare held 22 _) m1 _ _ h1
  obtain ⟨m2, z2, h2⟩ := hf 2 _ rfl
  obtain ⟨x2, r2⟩ := (gv_int Try.underlying37 : Gv enc Try.prog W base spare held 37 _) m2 _ _ h2
  obtain ⟨m3, z3, h3⟩ := hf 3 _ rfl
  obtain ⟨x3, r3⟩ := (gv_int Try.underlying37 : Gv enc Try.prog W base spare held 37 _) m3 _ _ h3
  obtain ⟨m4, z4, h4⟩ := hf 4 _ rfl
  obtain ⟨x4, r4⟩ := (gv_int Try.underlying5 : Gv enc Try.prog W base spare held 5 _) m4 _ _ h4
  refine ⟨⟨x0, x1, x2, x3, x4⟩, _, _, _, _, _, ?_, r0, r1, r2, r3, r4⟩
  match cs, hlen' with
  | [c0, c1, c2, c3, c4], _ => exact rfl
theorem r39_cells {x : S39} {cs : List Value} (h : R39 x cs) : cs = [.int .u32 x.f0, .int .u32 x.f1, .int .u16 x.f2, .int .u16 x.f3, .int .u8 x.f4] ∧ ((Lit.int .u32 x.f0).wf = true ∧ (Lit.int .u32 x.f1).wf = true ∧ (Lit.int .u16 x.f2).wf = true ∧ (Lit.int .u16 x.f3).wf = true ∧ (Lit.int .u8 x.f4).wf = true) := by
  obtain ⟨_, _, _, _, _, rfl, ⟨rfl, w1⟩, ⟨rfl, w2⟩, ⟨rfl, w3⟩, ⟨rfl, w4⟩, ⟨rfl, w5⟩⟩ := h
  exact ⟨rfl, w1, w2, w3, w4, w5⟩
set_option maxHeartbeats 2000000 in
set_option maxRecDepth 100000 in
theorem lifted (os : Os) (started : os.Started) (H : Type) (enc : TypeId × Value → H) :
    ReturnsInHanded {} Try.checked os 10 .any (Rows.hashFlowsSpec.pre6 enc Try.prog Try.f10 Rows.hashFlowsRow.domain false) (Rows.hashFlowsSpec.post enc Try.prog Try.f10 false true false false) := by
  refine returnsInHanded_of_change_sized (C := Try.checked) own started (by kernel_rfl) Try.func10
    (ChangeSpec.witness6 (enc := enc) (C := Try.checked) false ⟨#[], #[.agg #[.int .u32 0, .int .u32 0, .int .u16 0, .int .u16 0, .int .u8 0], .int .u32 0], []⟩ 8 (by kernel_rfl) (by kernel_rfl) (by kernel_rfl) (by kernel_rfl)) ?_
  intro W base args ds gs before hval0 hW hcnd hsz0 _
  have hval : ∀ (j : Nat) t v, Try.f10.params[j]? = some t → args[j]? = some v → Value.okWide Try.prog W .any base t v := hval0
  have hW' := hW
  obtain ⟨p, q, hA0, hV, rfl, hfz, hnd⟩ := hW
  have hA : DataW.TrodAll enc Try.prog W 0 (fun _ => true) true Try.f10.params.toList args.toList ds p := hA0
  rw [Try.params10] at hA hval
  obtain ⟨v0, vs0, d0, ds0, p0, q0, hargs, rfl, rfl, h0, r0⟩ := trodAll_cons hA
  obtain ⟨v1, vs1, d1, ds1, p1, q1, rfl, rfl, rfl, h1, r1⟩ := trodAll_cons r0
  obtain ⟨rfl, rfl, rfl⟩ := trodAll_nil r1
  obtain rfl : args = #[v0, v1] := by cases args; simp_all
  obtain ⟨rfl, rfl⟩ := trodVars_none hV
  have k0 := h0
  have lt0 : ∀ x ∈ p0, x.block < W.heap.size := by obtain ⟨m, hm⟩ := k0; exact DataW.trod_lt m _ _ _ hm
  obtain ⟨fu0, hf0⟩ := h0
  obtain ⟨a0, ra0⟩ := (gv_39 : Gv enc Try.prog W 0 (fun _ => true) true 39 _) fu0 _ _ hf0
  obtain ⟨cs0, rfl, _⟩ := okWide_struct Try.underlying39 (hval 0 39 v0 rfl rfl)
  obtain ⟨ea0, wa0⟩ := r39_cells ra0
  obtain ⟨cs0⟩ := cs0
  replace ea0 : cs0 = _ := ea0
  subst ea0
  have k1 := h1
  have lt1 : ∀ x ∈ p1, x.block < W.heap.size := by obtain ⟨m, hm⟩ := k1; exact DataW.trod_lt m _ _ _ hm
  obtain ⟨fu1, hf1⟩ := h1
  obtain ⟨a1, ra1⟩ := (gv_int Try.underlying22 : Gv enc Try.prog W 0 (fun _ => true) true 22 _) fu1 _ _ hf1
  obtain ⟨ea1, wa1⟩ := ra1
  obtain ⟨z1, rfl, _, rfl, _⟩ := open_int Try.underlying22 (hval 1 22 v1 rfl rfl) k1
  obtain rfl : a1 = z1 := (show z1 = a1 from by simpa [Value.cells] using ea1).symm
  clear hA0 hval0 hsz0
  obtain ⟨k, hk⟩ := Pure.HashFlows a0 a1 wa0 wa1
  refine (QL.waymasterlaw07_HashFlows.calls k a0.f0 a0.f1 a0.f2 a0.f3 a0.f4 a1 true W  hk).mono ?_
  rintro e W' ⟨rfl, hd⟩
  have bel : Below W.heap.size W W' := hd
  exact ⟨_, rfl, _, _, _, [], _, [], hW', trodAll_mk1 (shut_bool Try.underlying4 _), (trodAll_cons_mk (Below.trod laidOut (by kernel_rfl) (of_decide_eq_true (by kernel_rfl)) k0 bel lt0) (trodAll_cons_mk (Below.trod laidOut (by kernel_rfl) (of_decide_eq_true (by kernel_rfl)) k1 bel lt1) trodAll_mk0)), rfl, bel.frame _, fun h => by cases h⟩
theorem over : Rows.hashFlowsRow.holds Try.pinned (OpenSpec.ofChange Rows.hashFlowsSpec) :=
  OpenClaim.holds_of_wide 10 Try.f10 rfl rfl rfl rfl rfl rfl rfl ⟨rfl, rfl, rfl, rfl, rfl⟩ rfl rfl rfl rfl rfl (by kernel_rfl) Try.func10 (by kernel_rfl)
    (of_decide_eq_true (by kernel_rfl)) (by unfold Func.isWrapper; first | (rw [if_pos (by decide +kernel)]; kernel_rfl) | (rw [if_neg (by decide +kernel)]; exact ⟨rfl, rfl⟩))
    (fun os started H enc _ => lifted os started H enc)
theorem proved : Rows.HashFlowsSaid := over
#print axioms proved
end Go.Proofs.Ytgemicgpaklmlaa.hashFlows
namespace Go.Proofs.Ytgemicgpaklmlaa
/-- The row, under a short name, for the claim. -/
theorem hashFlows_holds : Rows.HashFlowsSaid := hashFlows.proved
end Go.Proofs.Ytgemicgpaklmlaa
