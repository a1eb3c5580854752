/- The row of the law ScriptBack: for every input it returns true, and each argument reads as it read. -/
import Derived.Test.YtkjhklnjmpicgaaRows
import Derived.Test.YtkjhklnjmpicgaaQLx16
import Derived.Test.YtkjhklnjmpicgaaPureScriptBack
import Derived.Test.YtkjhklnjmpicgaaOpn
import Derived.WalkKit
import Derived.ProofKit
import Derived.OpenShut
import Derived.ShutString
import Derived.ChangeOld
import Derived.Below
import Derived.SizedLaws
namespace Go.Proofs.Ytkjhklnjmpicgaa.scriptBack
open Go.ChangeShapes Go.WideShapes Go.ChangeAt Go.RowKit Go.Proofs.Ytkjhklnjmpicgaa.QL Go.Proofs.Ytkjhklnjmpicgaa.Opn Go.Proofs.YtkjhklnjmpicgaaW.PrintWords
open Go.ChangeMaps (open_string shut_string)
set_option linter.unusedVariables false
set_option linter.unusedSimpArgs false
theorem own : ownKnob Try.prog.godebug = none := by kernel_rfl
theorem laidOut : laidOutB Try.prog = true := by kernel_rfl
def R29 (x : S29) (cs : List Value) : Prop := ∃ c0 c1 c2 c3 c4 : List Value, cs = c0 ++ (c1 ++ (c2 ++ (c3 ++ (c4)))) ∧ (fun (x : Int) cs => cs = [.int .i64 x] ∧ (Lit.int .i64 x).wf = true) (x.f0) c0 ∧ (fun (x : Int) cs => cs = [.int .i64 x] ∧ (Lit.int .i64 x).wf = true) (x.f1) c1 ∧ (fun (x : Int) cs => cs = [.int .i64 x] ∧ (Lit.int .i64 x).wf = true) (x.f2) c2 ∧ (fun (x : Int) cs => cs = [.int .i64 x] ∧ (Lit.int .i64 x).wf = true) (x.f3) c3 ∧ (fun (x : Int) cs => cs = [.int .i64 x] ∧ (Lit.int .i64 x).wf = true) (x.f4) c4
theorem gv_29 {H : Type} {enc : TypeId × Value → H} {W : World} {base : Nat} {spare : Nat → Bool} {held : Bool} : Gv enc Try.prog W base spare held 29 (R29) := by
  intro n cs y hy
  obtain ⟨hlen, hf⟩ := fields Try.underlying29 hy
  have hlen' : cs.length = 5 := hlen.trans (by kernel_rfl)
  obtain ⟨m0, z0, h0⟩ := hf 0 _ rfl
  obtain ⟨x0, r0⟩ := (gv_int Try.underlying3 : Gv enc Try.prog W base spare held 3 _) m0 _ _ h0
  obtain ⟨m1, z1, h1⟩ := hf 1 _ rfl
  obtain ⟨x1, r1⟩ := (gv_int Try.underlying3 : Gv enc Try.prog W base spare held 3 _) m1 _ _ h1
  obtain ⟨m2, z2, h2⟩ := hf 2 _ rfl
  obtain ⟨x2, r2⟩ := (gv_int Try.underlying3 : Gv enc Try.prog W base spare held 3 _) m2 _ _ h2
  obtain ⟨m3, z3, h3⟩ := hf 3 _ rfl
  obtain ⟨x3, r3⟩ := (gv_int Try.underlying3 : Gv enc Try.prog W base spare held 3 _) m3 _ _ h3
  obtain ⟨m4, z4, h4⟩ := hf 4 _ rfl
  obtain ⟨x4, r4⟩ := (gv_int Try.underlying3 : Gv enc Try.prog W base spare held 3 _) m4 _ _ h4
  refine ⟨⟨x0, x1, x2, x3, x4⟩, _, _, _, _, _, ?_, r0, r1, r2, r3, r4⟩
  match cs, hlen' with
  | [c0, c1, c2, c3, c4], _ => exact rfl
theorem r29_cells {x : S29} {cs : List Value} (h : R29 x cs) : cs = [.int .i64 x.f0, .int .i64 x.f1, .int .i64 x.f2, .int .i64 x.f3, .int .i64 x.f4] ∧ ((Lit.int .i64 x.f0).wf = true ∧ (Lit.int .i64 x.f1).wf = true ∧ (Lit.int .i64 x.f2).wf = true ∧ (Lit.int .i64 x.f3).wf = true ∧ (Lit.int .i64 x.f4).wf = true) := by
  obtain ⟨_, _, _, _, _, rfl, ⟨rfl, w1⟩, ⟨rfl, w2⟩, ⟨rfl, w3⟩, ⟨rfl, w4⟩, ⟨rfl, w5⟩⟩ := h
  exact ⟨rfl, w1, w2, w3, w4, w5⟩
instance : Inhabited S29 := ⟨z29⟩
set_option maxRecDepth 100000 in
theorem lifted (os : Os) (started : os.Started) (H : Type) (enc : TypeId × Value → H) :
    ReturnsInHanded {} Try.checked os 6 .any (Rows.scriptBackSpec.pre6 enc Try.prog Try.f6 Rows.scriptBackRow.domain false) (Rows.scriptBackSpec.post enc Try.prog Try.f6 false true false false) := by
  refine returnsInHanded_of_change_sized (C := Try.checked) own started (by kernel_rfl) Try.func6
    (ChangeSpec.witness6 (enc := enc) (C := Try.checked) false ⟨#[], #[.slice none 0 0], []⟩ 8 (by kernel_rfl) (by kernel_rfl) (by kernel_rfl) (by kernel_rfl)) ?_
  intro W base args ds gs before hval0 hW hcnd hsz0 _
  have hval : ∀ (j : Nat) t v, Try.f6.params[j]? = some t → args[j]? = some v → Value.okWide Try.prog W .any base t v := hval0
  have hW' := hW
  obtain ⟨p, q, hA0, hV, rfl, hfz, hnd⟩ := hW
  have hA : DataW.TrodAll enc Try.prog W 0 (fun _ => true) true Try.f6.params.toList args.toList ds p := hA0
  rw [Try.params6] at hA hval
  obtain ⟨v0, vs0, d0, ds0, p0, q0, hargs, rfl, rfl, h0, r0⟩ := trodAll_cons hA
  obtain ⟨rfl, rfl, rfl⟩ := trodAll_nil r0
  obtain rfl : args = #[v0] := by cases args; simp_all
  obtain ⟨rfl, rfl⟩ := trodVars_none hV
  have k0 := h0
  have lt0 : ∀ x ∈ p0, x.block < W.heap.size := by obtain ⟨m, hm⟩ := k0; exact DataW.trod_lt m _ _ _ hm
  obtain ⟨fu0, hf0⟩ := h0
  obtain ⟨a0, ra0⟩ := ((gv_slice (sz := 5) Try.underlying24 (by kernel_rfl) (fun x cs h => by rw [(r29_cells h).1]; rfl) (gv_29)) : Gv enc Try.prog W 0 (fun _ => true) true 24 _) fu0 _ _ hf0
  obtain ⟨ad0, la0, ca0, rfl⟩ := okWide_slice Try.underlying24 (hval 0 24 v0 rfl rfl)
  obtain ⟨ea0, lca0, cma0, rra0⟩ := ra0
  obtain ⟨rfl, rfl, rfl⟩ : ad0 = a0.a ∧ la0 = a0.l.length ∧ ca0 = a0.cap := by simpa [Value.cells] using ea0
  have hc0 : Kd.C k29 W a0.a a0.l.length a0.l := rra0.imp_ (Below.refl _ _) (fun x cs h => by rw [(r29_cells h).1]; exact k29_mk W x)
  have wa0 : ∀ x ∈ a0.l, _ := RowOk.all ⟨ea0, lca0, cma0, rra0⟩ (fun x cs h => (r29_cells h).2)
  clear hA0 hval0 hsz0
  obtain ⟨k, hk⟩ := Pure.ScriptBack a0.l (Nat.le_trans lca0 cma0) wa0
  refine (QL.waymasterlaw18_ScriptBack.calls k _ _ a0.l true W hc0 lca0 hk).mono ?_
  rintro e W' ⟨rfl, hd⟩
  have bel : Below W.heap.size W W' := hd
  exact ⟨_, rfl, _, _, _, [], _, [], hW', trodAll_mk1 (shut_bool Try.underlying4 _), (trodAll_cons_mk (Below.trod laidOut (by kernel_rfl) (of_decide_eq_true (by kernel_rfl)) k0 bel lt0) trodAll_mk0), rfl, bel.frame _, fun h => by cases h⟩
theorem over : Rows.scriptBackRow.holds Try.pinned (OpenSpec.ofChange Rows.scriptBackSpec) :=
  OpenClaim.holds_of_wide 6 Try.f6 rfl rfl rfl rfl rfl rfl rfl ⟨rfl, rfl, rfl, rfl, rfl⟩ rfl rfl rfl rfl rfl (by kernel_rfl) Try.func6 (by kernel_rfl)
    (of_decide_eq_true (by kernel_rfl)) (by unfold Func.isWrapper; first | (rw [if_pos (by decide +kernel)]; kernel_rfl) | (rw [if_neg (by decide +kernel)]; exact ⟨rfl, rfl⟩))
    (fun os started H enc _ => lifted os started H enc)
theorem proved : Rows.ScriptBackSaid := over
#print axioms proved
end Go.Proofs.Ytkjhklnjmpicgaa.scriptBack
namespace Go.Proofs.Ytkjhklnjmpicgaa
/-- The row, under a short name, for the claim. -/
theorem scriptBack_holds : Rows.ScriptBackSaid := scriptBack.proved
end Go.Proofs.Ytkjhklnjmpicgaa
