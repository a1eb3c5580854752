/- The law WrapOrders, overV numbers alone: of two indexes not half the way round apart just one is aheadB, or they are the same. -/
import Derived.Test.YtihonionnfeagaaQLx6
import Derived.Test.YtihonionnfeagaaPB
namespace Go.Proofs.Ytihonionnfeagaa.Pure
open Go.RowKit Go.Proofs.Ytihonionnfeagaa.H Go.Proofs.Ytihonionnfeagaa.QB Go.Proofs.Ytihonionnfeagaa.QL Go.Proofs.Ytihonionnfeagaa.PB Go.Proofs.YtihonionnfeagaaW.PrintWords Go.Proofs.YtihonionnfeagaaW.PrintLast
set_option linter.unusedSimpArgs false
set_option linter.unusedVariables false
theorem WrapOrders : waymasterlaw01_WrapOrders.Pure := by
  intro a b ha hb
  obtain ⟨ha0, ha1⟩ := u32_of ha
  obtain ⟨hb0, hb1⟩ := u32_of hb
  refine ⟨1, ?_⟩
  unfold waymasterlaw01_WrapOrders.f
  simp only [shown_true, Option.bind_some, far_f, ahead_f, ite_t, waymasterlaw01_WrapOrders.j0, over_f]
  by_cases h : (b - a) % 4294967296 = 2147483648
  · rw [if_pos h]
    have e1 : aheadB a b = false := by unfold aheadB; rw [decide_eq_false_iff_not]; omega
    have e2 : aheadB b a = false := by unfold aheadB; rw [decide_eq_false_iff_not]; omega
    simp [e1, e2]
  · rw [if_neg h]
    by_cases hab : a = b
    · subst hab
      have e1 : aheadB a a = false := by unfold aheadB; rw [decide_eq_false_iff_not]; omega
      simp [e1, overV]
    · by_cases h2 : (b - a) % 4294967296 < 2147483648
      · have e1 : aheadB a b = true := by unfold aheadB; rw [decide_eq_true_eq]; omega
        have e2 : aheadB b a = false := by unfold aheadB; rw [decide_eq_false_iff_not]; omega
        have e3 : wrap64 1 = 1 := by decide +kernel
        simp [e1, e2, overV, hab, e3]
      · have e1 : aheadB a b = false := by unfold aheadB; rw [decide_eq_false_iff_not]; omega
        have e2 : aheadB b a = true := by unfold aheadB; rw [decide_eq_true_eq]; omega
        have e3 : wrap64 1 = 1 := by decide +kernel
        simp [e1, e2, overV, hab, e3]

end Go.Proofs.Ytihonionnfeagaa.Pure
