/- The law HashRises, over numbers alone: what is scaled is within the range, and does not fall where the number rises. -/
import Derived.Test.YtgemicgpaklmlaaQLx15
import Derived.Test.YtgemicgpaklmlaaPS
namespace Go.Proofs.Ytgemicgpaklmlaa.Pure
open Go.RowKit Go.Proofs.Ytgemicgpaklmlaa.QL Go.Proofs.YtgemicgpaklmlaaW.PrintWords Go.Proofs.YtgemicgpaklmlaaW.PrintLast
open Go.Proofs.Ytgemicgpaklmlaa.PB

theorem sc_bounds {a n : Int} (ha : 0 ≤ a ∧ a < 4294967296) (hn : 1 ≤ n ∧ n ≤ 65536) : 0 ≤ sc a n ∧ sc a n < n := by
  have hp := prod_lt ha hn
  have h1 : a * n ≤ 4294967295 * n := Int.mul_le_mul_of_nonneg_right (by omega) (by omega)
  unfold sc
  generalize a * n = p at hp h1
  omega
theorem sc_mono {a b n : Int} (h : a ≤ b) (hn : 1 ≤ n ∧ n ≤ 65536) : sc a n ≤ sc b n := by
  have h1 : a * n ≤ b * n := Int.mul_le_mul_of_nonneg_right h (by omega)
  unfold sc
  generalize a * n = p at h1
  generalize b * n = q at h1
  omega
theorem sc_top {n : Int} (hn : 1 ≤ n ∧ n ≤ 65536) : sc 4294967295 n = n - 1 := by unfold sc; omega
theorem sc_zero (n : Int) : sc 0 n = 0 := by unfold sc; omega
theorem HashRises : waymasterlaw07_HashRises.Pure := by
  intro a b n h0 h1 _
  have ha := u32_of h0
  have hb := u32_of h1
  refine ⟨0 + 1, ?_⟩
  unfold waymasterlaw07_HashRises.f
  by_cases hn : 1 ≤ n ∧ n ≤ 65536
  · rw [shown, Option.bind_some, scale_ok ha hn, Option.bind_some, scale_ok hb hn, Option.bind_some, if_neg (by omega)]
    have hd : decide (n > 65536) = false := decide_eq_false (by omega)
    rw [hd]
    rw [waymasterlaw07_HashRises.j0]
    rw [if_neg (by decide), scale_ok ⟨by omega, by omega⟩ hn, Option.bind_some, scale_ok ⟨by omega, by omega⟩ hn, Option.bind_some, if_pos rfl, if_pos rfl, if_pos rfl, if_pos rfl, if_pos rfl, if_pos (sc_bounds ha hn).1, if_pos (sc_bounds ha hn).2]
    have hw : wrap64 (n - 1) = n - 1 := by unfold wrap64; omega
    rw [hw, if_pos (sc_top hn), if_pos (sc_zero n)]
    by_cases hab : a > b
    · rw [if_pos hab]
    · rw [if_neg hab, decide_eq_true (sc_mono (by omega) hn)]
  · rw [shown, Option.bind_some, scale_bad hn, Option.bind_some, scale_bad hn, Option.bind_some]
    have e : waymasterlaw07_HashRises.j0 (0 + 1) a b n true (0, (2 : Int)).1 (0, (2 : Int)).2 (0, (2 : Int)).1 (0, (2 : Int)).2 true = some true := by
      rw [waymasterlaw07_HashRises.j0]
      rw [if_pos rfl, if_pos rfl, if_pos rfl]
      rfl
    by_cases hl : n < 1
    · rw [if_pos hl]
      exact e
    · rw [if_neg hl]
      have hd : decide (n > 65536) = true := decide_eq_true (by omega)
      rw [hd]
      exact e

end Go.Proofs.Ytgemicgpaklmlaa.Pure
