/- The row of the law HashWords: for every input it returns true, and each argument reads as it read. -/
import Derived.Test.YtgemicgpaklmlaaRows
import Derived.Test.YtgemicgpaklmlaaQLx11
import Derived.Test.YtgemicgpaklmlaaPureHashWords
import Derived.Test.YtgemicgpaklmlaaOpn
import Derived.WalkKit
import Derived.ProofKit
import Derived.OpenShut
import Derived.ShutString
import Derived.ChangeOld
import Derived.Below
import Derived.SizedLaws
namespace Go.Proofs.Ytgemicgpaklmlaa.hashWords
open Go.ChangeShapes Go.WideShapes Go.ChangeAt Go.RowKit Go.Proofs.Ytgemicgpaklmlaa.QL Go.Proofs.Ytgemicgpaklmlaa.Opn Go.Proofs.YtgemicgpaklmlaaW.PrintWords
open Go.ChangeMaps (open_string shut_string)
set_option linter.unusedVariables false
set_option linter.unusedSimpArgs false
theorem own : ownKnob Try.prog.godebug = none := by kernel_rfl
theorem laidOut : laidOutB Try.prog = true := by kernel_rfl
set_option maxHeartbeats 2000000 in
set_option maxRecDepth 100000 in
theorem lifted (os : Os) (started : os.Started) (H : Type) (enc : TypeId × Value → H) :
    ReturnsInHanded {} Try.checked os 4 .any (Rows.hashWordsSpec.pre6 enc Try.prog Try.f4 Rows.hashWordsRow.domain false) (Rows.hashWordsSpec.post enc Try.prog Try.f4 false true false false) := by
  refine returnsInHanded_of_change_sized (C := Try.checked) own started (by kernel_rfl) Try.func4
    (ChangeSpec.witness6 (enc := enc) (C := Try.checked) false ⟨#[], #[.int .u32 0, .slice none 0 0], []⟩ 8 (by kernel_rfl) (by kernel_rfl) (by kernel_rfl) (by kernel_rfl)) ?_
  intro W base args ds gs before hval0 hW hcnd hsz0 _
  have hval : ∀ (j : Nat) t v, Try.f4.params[j]? = some t → args[j]? = some v → Value.okWide Try.prog W .any base t v := hval0
  have hW' := hW
  obtain ⟨p, q, hA0, hV, rfl, hfz, hnd⟩ := hW
  have hA : DataW.TrodAll enc Try.prog W 0 (fun _ => true) true Try.f4.params.toList args.toList ds p := hA0
  rw [Try.params4] at hA hval
  obtain ⟨v0, vs0, d0, ds0, p0, q0, hargs, rfl, rfl, h0, r0⟩ := trodAll_cons hA
  obtain ⟨v1, vs1, d1, ds1, p1, q1, rfl, rfl, rfl, h1, r1⟩ := trodAll_cons r0
  obtain ⟨rfl, rfl, rfl⟩ := trodAll_nil r1
  obtain rfl : args = #[v0, v1] := by cases args; simp_all
  obtain ⟨rfl, rfl⟩ := trodVars_none hV
  have k0 := h0
  have lt0 : ∀ x ∈ p0, x.block < W.heap.size := by obtain ⟨m, hm⟩ := k0; exact DataW.trod_lt m _ _ _ hm
  obtain ⟨fu0, hf0⟩ := h0
  obtain ⟨a0, ra0⟩ := (gv_int Try.underlying22 : Gv enc Try.prog W 0 (fun _ => true) true 22 _) fu0 _ _ hf0
  obtain ⟨ea0, wa0⟩ := ra0
  obtain ⟨z0, rfl, _, rfl, _⟩ := open_int Try.underlying22 (hval 0 22 v0 rfl rfl) k0
  obtain rfl : a0 = z0 := (show z0 = a0 from by simpa [Value.cells] using ea0).symm
  have k1 := h1
  have lt1 : ∀ x ∈ p1, x.block < W.heap.size := by obtain ⟨m, hm⟩ := k1; exact DataW.trod_lt m _ _ _ hm
  obtain ⟨fu1, hf1⟩ := h1
  obtain ⟨a1, ra1⟩ := ((gv_slice (sz := 1) Try.underlying27 (by kernel_rfl) (fun x cs h => by rw [h.1]; rfl) (gv_int Try.underlying22)) : Gv enc Try.prog W 0 (fun _ => true) true 27 _) fu1 _ _ hf1
  obtain ⟨ad1, la1, ca1, rfl⟩ := okWide_slice Try.underlying27 (hval 1 27 v1 rfl rfl)
  obtain ⟨ea1, lca1, cma1, rra1⟩ := ra1
  obtain ⟨rfl, rfl, rfl⟩ : ad1 = a1.a ∧ la1 = a1.l.length ∧ ca1 = a1.cap := by simpa [Value.cells] using ea1
  have hc1 : Kd.C (Kd.int .u32) W a1.a a1.l.length a1.l := rra1.imp_ (Below.refl _ _) (fun x cs h => h.1)
  have wa1 : ∀ x ∈ a1.l, _ := RowOk.all ⟨ea1, lca1, cma1, rra1⟩ (fun x cs h => h.2)
  clear hA0 hval0 hsz0
  obtain ⟨k, hk⟩ := Pure.HashWords a0 a1.l wa0 (Nat.le_trans lca1 cma1) wa1
  refine (QL.waymasterlaw07_HashWords.calls k a0 _ _ a1.l true W hc1 lca1 hk).mono ?_
  rintro e W' ⟨rfl, hd⟩
  have bel : Below W.heap.size W W' := hd
  exact ⟨_, rfl, _, _, _, [], _, [], hW', trodAll_mk1 (shut_bool Try.underlying4 _), (trodAll_cons_mk (Below.trod laidOut (by kernel_rfl) (of_decide_eq_true (by kernel_rfl)) k0 bel lt0) (trodAll_cons_mk (Below.trod laidOut (by kernel_rfl) (of_decide_eq_true (by kernel_rfl)) k1 bel lt1) trodAll_mk0)), rfl, bel.frame _, fun h => by cases h⟩
theorem over : Rows.hashWordsRow.holds Try.pinned (OpenSpec.ofChange Rows.hashWordsSpec) :=
  OpenClaim.holds_of_wide 4 Try.f4 rfl rfl rfl rfl rfl rfl rfl ⟨rfl, rfl, rfl, rfl, rfl⟩ rfl rfl rfl rfl rfl (by kernel_rfl) Try.func4 (by kernel_rfl)
    (of_decide_eq_true (by kernel_rfl)) (by unfold Func.isWrapper; first | (rw [if_pos (by decide +kernel)]; kernel_rfl) | (rw [if_neg (by decide +kernel)]; exact ⟨rfl, rfl⟩))
    (fun os started H enc _ => lifted os started H enc)
theorem proved : Rows.HashWordsSaid := over
#print axioms proved
end Go.Proofs.Ytgemicgpaklmlaa.hashWords
namespace Go.Proofs.Ytgemicgpaklmlaa
/-- The row, under a short name, for the claim. -/
theorem hashWords_holds : Rows.HashWordsSaid := hashWords.proved
end Go.Proofs.Ytgemicgpaklmlaa
