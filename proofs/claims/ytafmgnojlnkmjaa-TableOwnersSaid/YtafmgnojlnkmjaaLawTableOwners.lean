/- The row of the law TableOwners: for every input it returns true, and each argument reads as it read. -/
import Derived.Test.YtafmgnojlnkmjaaRows
import Derived.Test.YtafmgnojlnkmjaaQLx21
import Derived.Test.YtafmgnojlnkmjaaPureTableOwners
import Derived.Test.YtafmgnojlnkmjaaOpn
import Derived.WalkKit
import Derived.ProofKit
import Derived.OpenShut
import Derived.ShutString
import Derived.ChangeOld
import Derived.Below
import Derived.SizedLaws
namespace Go.Proofs.Ytafmgnojlnkmjaa.tableOwners
open Go.ChangeShapes Go.WideShapes Go.ChangeAt Go.RowKit Go.Proofs.Ytafmgnojlnkmjaa.QL Go.Proofs.Ytafmgnojlnkmjaa.Opn Go.Proofs.YtafmgnojlnkmjaaW.PrintWords
open Go.ChangeMaps (open_string shut_string)
set_option linter.unusedVariables false
set_option linter.unusedSimpArgs false
theorem own : ownKnob Try.prog.godebug = none := by kernel_rfl
theorem laidOut : laidOutB Try.prog = true := by kernel_rfl
def R32 (x : S32) (cs : List Value) : Prop := ∃ c0 c1 : List Value, cs = c0 ++ (c1) ∧ (fun (x : Int) cs => cs = [.int .i64 x] ∧ (Lit.int .i64 x).wf = true) (x.f0) c0 ∧ (fun (x : Int) cs => cs = [.int .i64 x] ∧ (Lit.int .i64 x).wf = true) (x.f1) c1
theorem gv_32 {H : Type} {enc : TypeId × Value → H} {W : World} {base : Nat} {spare : Nat → Bool} {held : Bool} : Gv enc Try.prog W base spare held 32 (R32) := by
  intro n cs y hy
  obtain ⟨hlen, hf⟩ := fields Try.underlying32 hy
  have hlen' : cs.length = 2 := hlen.trans (by kernel_rfl)
  obtain ⟨m0, z0, h0⟩ := hf 0 _ rfl
  obtain ⟨x0, r0⟩ := (gv_int Try.underlying3 : Gv enc Try.prog W base spare held 3 _) m0 _ _ h0
  obtain ⟨m1, z1, h1⟩ := hf 1 _ rfl
  obtain ⟨x1, r1⟩ := (gv_int Try.underlying3 : Gv enc Try.prog W base spare held 3 _) m1 _ _ h1
  refine ⟨⟨x0, x1⟩, _, _, ?_, r0, r1⟩
  match cs, hlen' with
  | [c0, c1], _ => exact rfl
theorem r32_cells {x : S32} {cs : List Value} (h : R32 x cs) : cs = [.int .i64 x.f0, .int .i64 x.f1] ∧ ((Lit.int .i64 x.f0).wf = true ∧ (Lit.int .i64 x.f1).wf = true) := by
  obtain ⟨_, _, rfl, ⟨rfl, w1⟩, ⟨rfl, w2⟩⟩ := h
  exact ⟨rfl, w1, w2⟩
instance : Inhabited S32 := ⟨z32⟩
def R25 (W : World) (x : (Int) × (Row (Int)) × (Row (S32))) (cs : List Value) : Prop := ∃ c0 c1 c2 : List Value, cs = c0 ++ (c1 ++ (c2)) ∧ (fun (x : Int) cs => cs = [.int .i64 x] ∧ (Lit.int .i64 x).wf = true) (x.1) c0 ∧ (RowOk W (fun (x : Int) cs => cs = [.int .i64 x] ∧ (Lit.int .i64 x).wf = true) 1) (x.2.1) c1 ∧ (RowOk W R32 2) (x.2.2) c2
theorem gv_25 {H : Type} {enc : TypeId × Value → H} {W : World} {base : Nat} {spare : Nat → Bool} {held : Bool} : Gv enc Try.prog W base spare held 25 (R25 W) := by
  intro n cs y hy
  obtain ⟨hlen, hf⟩ := fields Try.underlying25 hy
  have hlen' : cs.length = 3 := hlen.trans (by kernel_rfl)
  obtain ⟨m0, z0, h0⟩ := hf 0 _ rfl
  obtain ⟨x0, r0⟩ := (gv_int Try.underlying3 : Gv enc Try.prog W base spare held 3 _) m0 _ _ h0
  obtain ⟨m1, z1, h1⟩ := hf 1 _ rfl
  obtain ⟨x1, r1⟩ := ((gv_slice (sz := 1) Try.underlying22 (by kernel_rfl) (fun x cs h => by rw [h.1]; rfl) (gv_int Try.underlying3)) : Gv enc Try.prog W base spare held 22 _) m1 _ _ h1
  obtain ⟨m2, z2, h2⟩ := hf 2 _ rfl
  obtain ⟨x2, r2⟩ := ((gv_slice (sz := 2) Try.underlying23 (by kernel_rfl) (fun x cs h => by rw [(r32_cells h).1]; rfl) (gv_32)) : Gv enc Try.prog W base spare held 23 _) m2 _ _ h2
  refine ⟨⟨x0, x1, x2⟩, _, _, _, ?_, r0, r1, r2⟩
  match cs, hlen' with
  | [c0, c1, c2], _ => exact rfl
set_option maxHeartbeats 2000000 in
set_option maxRecDepth 100000 in
theorem lifted (os : Os) (started : os.Started) (H : Type) (enc : TypeId × Value → H) :
    ReturnsInHanded {} Try.checked os 9 .any (Rows.tableOwnersSpec.pre6 enc Try.prog Try.f9 Rows.tableOwnersRow.domain false) (Rows.tableOwnersSpec.post enc Try.prog Try.f9 false true false false) := by
  refine returnsInHanded_of_change_sized (C := Try.checked) own started (by kernel_rfl) Try.func9
    (ChangeSpec.witness6 (enc := enc) (C := Try.checked) false ⟨#[], #[.agg #[.int .i64 0, .slice none 0 0, .slice none 0 0]], []⟩ 8 (by kernel_rfl) (by kernel_rfl) (by kernel_rfl) (by kernel_rfl)) ?_
  intro W base args ds gs before hval0 hW hcnd hsz0 _
  have hval : ∀ (j : Nat) t v, Try.f9.params[j]? = some t → args[j]? = some v → Value.okWide Try.prog W .any base t v := hval0
  have hW' := hW
  obtain ⟨p, q, hA0, hV, rfl, hfz, hnd⟩ := hW
  have hA : DataW.TrodAll enc Try.prog W 0 (fun _ => true) true Try.f9.params.toList args.toList ds p := hA0
  rw [Try.params9] at hA hval
  obtain ⟨v0, vs0, d0, ds0, p0, q0, hargs, rfl, rfl, h0, r0⟩ := trodAll_cons hA
  obtain ⟨rfl, rfl, rfl⟩ := trodAll_nil r0
  obtain rfl : args = #[v0] := by cases args; simp_all
  obtain ⟨rfl, rfl⟩ := trodVars_none hV
  have k0 := h0
  have lt0 : ∀ x ∈ p0, x.block < W.heap.size := by obtain ⟨m, hm⟩ := k0; exact DataW.trod_lt m _ _ _ hm
  obtain ⟨fu0, hf0⟩ := h0
  obtain ⟨a0, ra0⟩ := (gv_25 : Gv enc Try.prog W 0 (fun _ => true) true 25 _) fu0 _ _ hf0
  obtain ⟨cs0, rfl, _⟩ := okWide_struct Try.underlying25 (hval 0 25 v0 rfl rfl)
  obtain ⟨c0_0, c0_1, c0_2, ea0, r0_0, r0_1, r0_2⟩ := ra0
  obtain ⟨rfl, w0_0⟩ := r0_0
  obtain ⟨rfl, w0_1⟩ := r0_1
  have hc0_1 : Kd.C (Kd.int .i64) W (a0.2.1).a (a0.2.1).l.length (a0.2.1).l := w0_1.2.2.imp_ (Below.refl _ _) (fun x cs h => h.1)
  have wa0_1 : ∀ x ∈ (a0.2.1).l, _ := RowOk.all ⟨rfl, w0_1⟩ (fun x cs h => h.2)
  obtain ⟨rfl, w0_2⟩ := r0_2
  have hc0_2 : Kd.C k32 W (a0.2.2).a (a0.2.2).l.length (a0.2.2).l := w0_2.2.2.imp_ (Below.refl _ _) (fun x cs h => by rw [(r32_cells h).1]; exact k32_mk W x)
  have wa0_2 : ∀ x ∈ (a0.2.2).l, _ := RowOk.all ⟨rfl, w0_2⟩ (fun x cs h => (r32_cells h).2)
  obtain ⟨cs0⟩ := cs0
  replace ea0 : cs0 = _ := ea0
  subst ea0
  clear hA0 hval0 hsz0
  obtain ⟨k, hk⟩ := Pure.TableOwners (a0.1) (a0.2.1).l (a0.2.2).l w0_0 (Nat.le_trans w0_1.1 w0_1.2.1) wa0_1 (Nat.le_trans w0_2.1 w0_2.2.1) wa0_2
  refine (QL.waymasterlaw08_TableOwners_c.calls k (a0.1) _ _ (a0.2.1).l _ _ (a0.2.2).l true W hc0_1 w0_1.1 hc0_2 w0_2.1 hk).mono ?_
  rintro e W' ⟨rfl, hd⟩
  have bel : Below W.heap.size W W' := hd
  exact ⟨_, rfl, _, _, _, [], _, [], hW', trodAll_mk1 (shut_bool Try.underlying4 _), (trodAll_cons_mk (Below.trod laidOut (by kernel_rfl) (of_decide_eq_true (by kernel_rfl)) k0 bel lt0) trodAll_mk0), rfl, bel.frame _, fun h => by cases h⟩
theorem over : Rows.tableOwnersRow.holds Try.pinned (OpenSpec.ofChange Rows.tableOwnersSpec) :=
  OpenClaim.holds_of_wide 9 Try.f9 rfl rfl rfl rfl rfl rfl rfl ⟨rfl, rfl, rfl, rfl, rfl⟩ rfl rfl rfl rfl rfl (by kernel_rfl) Try.func9 (by kernel_rfl)
    (of_decide_eq_true (by kernel_rfl)) (by unfold Func.isWrapper; first | (rw [if_pos (by decide +kernel)]; kernel_rfl) | (rw [if_neg (by decide +kernel)]; exact ⟨rfl, rfl⟩))
    (fun os started H enc _ => lifted os started H enc)
theorem proved : Rows.TableOwnersSaid := over
#print axioms proved
end Go.Proofs.Ytafmgnojlnkmjaa.tableOwners
namespace Go.Proofs.Ytafmgnojlnkmjaa
/-- The row, under a short name, for the claim. -/
theorem tableOwners_holds : Rows.TableOwnersSaid := tableOwners.proved
end Go.Proofs.Ytafmgnojlnkmjaa
