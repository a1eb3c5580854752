/- The law TableShares, over numbers and lists alone. -/
import Derived.Test.YtafmgnojlnkmjaaQLx22
import Derived.Test.YtafmgnojlnkmjaaPE1
namespace Go.Proofs.Ytafmgnojlnkmjaa.Pure
open Go.RowKit Go.Proofs.Ytafmgnojlnkmjaa.QL Go.Proofs.Ytafmgnojlnkmjaa.H Go.Proofs.Ytafmgnojlnkmjaa.PB Go.Proofs.YtafmgnojlnkmjaaW.PrintWords Go.Proofs.YtafmgnojlnkmjaaW.PrintLast
set_option linter.unusedVariables false

theorem rdS_get (l : List S32) (j : Nat) (h : j < l.length) : rd_T32 l (j : Int) = l[j] := by
  unfold rd_T32
  simp [List.getD_eq_getElem?_getD, h]
theorem shares_l0 {n m : Int} {c : List Int} {s : List S32} (h1 : 1 ≤ n) (h2 : n ≤ 64) (h3 : 1 ≤ m) (h4 : m ≤ 16) (hE : EvenT n m c s) : ∀ (d k j : Nat) (o last : Int), j + d = s.length → d + 2 ≤ k → 0 ≤ o → o ≤ 64 → (j = 0 ∨ ∃ i, ∃ h : i < s.length, j = i + 1 ∧ last = s[i].f1) → chain (s.drop j) o n = true → sharesB (Int.tdiv n m) (s.drop j) o last = true → waymasterlaw08_TableShares.l0 k n m true o (j : Int) n c s = some true
  | d, 0, j, _, _, _, hk, _, _, _, _, _ => absurd hk (by omega)
  | 0, k + 1, j, o, last, h, _, _, _, _, hc, _ => by
    simp only [waymasterlaw08_TableShares.l0]
    rw [if_neg (by omega)]
    rw [List.drop_of_length_le (by omega)] at hc
    have e : o = n := by simpa [chain] using hc
    have hi : idleP n c s = ([], 0) := by
      unfold idleP
      rw [even_right h1 h2 h3 h4 hE, if_pos rfl, even_idle h1 h2 h3 h4 hE n.toNat (by omega)]
    show (some (idleP n c s)).bind _ = _
    rw [hi, Option.bind_some, if_pos trivial, if_pos e, if_pos hE.cnt]
    rfl
  | d + 1, k + 1, j, o, last, h, hk, ho0, ho, hp, hc, hs => by
    have hj : j < s.length := by omega
    have hcnt := hE.cnt
    have hm := hE.ok s[j] (List.getElem_mem hj)
    rw [okS_iff] at hm
    have hw : wrap64 ((j : Int) + 1) = ((j + 1 : Nat) : Int) := by unfold wrap64; omega
    have hw2 : wrap64 (o + s[j].f1) = o + s[j].f1 := by unfold wrap64; omega
    have hq0 : 0 ≤ Int.tdiv n m := Int.tdiv_nonneg (by omega) (by omega)
    have hq1 : Int.tdiv n m ≤ n := by
      rw [Int.tdiv_eq_ediv_of_nonneg (by omega)]
      exact Int.ediv_le_self _ (by omega)
    rw [List.drop_eq_getElem_cons hj] at hc hs
    generalize hL : Int.tdiv n m = lo at *
    have hl1 : wrap64 lo = lo := by unfold wrap64; omega
    have hl2 : wrap64 (lo + 1) = lo + 1 := by unfold wrap64; omega
    simp only [chain, Bool.and_eq_true, beq_iff_eq, decide_eq_true_eq] at hc
    simp only [sharesB, Bool.and_eq_true, beq_iff_eq, decide_eq_true_eq] at hs
    obtain ⟨g1, g2, g3⟩ := hc
    obtain ⟨_, g4, g5, g6, g7⟩ := hs
    have ih := shares_l0 h1 h2 h3 h4 hE d k (j + 1) (o + s[j].f1) s[j].f1 (by omega) (by omega) (by omega) (by omega) (.inr ⟨j, hj, rfl, rfl⟩) g3 (by rw [hL]; exact g7)
    simp only [waymasterlaw08_TableShares.l0]
    rw [if_pos (by omega), if_pos (by omega), rdS_get s j hj, if_pos g1, if_neg (by omega), hL, hl1, hl2, if_neg (by omega), if_neg (by omega), hw, hw2]
    by_cases hz : j = 0
    · rw [if_neg (by omega)]
      exact ih
    · rcases hp with hp | ⟨i, hi, he, hlast⟩
      · exact absurd hp hz
      · have hw3 : wrap64 ((j : Int) - 1) = ((i : Nat) : Int) := by unfold wrap64; omega
        rw [if_pos (by omega), hw3, if_pos (by omega), if_pos (by omega), rdS_get s i hi, if_neg (by omega)]
        exact ih
theorem TableShares : waymasterlaw08_TableShares.Pure := by
  intro n m _ _
  obtain ⟨K, hK⟩ : ∃ K, K = 400 := ⟨_, rfl⟩
  refine ⟨K, ?_⟩
  unfold waymasterlaw08_TableShares.f
  rw [shown_true (by omega), Option.bind_some]
  by_cases h : 1 ≤ n ∧ n ≤ 64 ∧ 1 ≤ m ∧ m ≤ 16 ∧ m ≤ n
  · obtain ⟨h1, h2, h3, h4, h5⟩ := h
    obtain ⟨c, s, hE⟩ := even_yes h1 h2 h3 h4 h5
    have hs := hE.cnt
    rw [hE.f K (by omega), Option.bind_some, if_pos rfl]
    exact shares_l0 h1 h2 h3 h4 hE s.length K 0 0 1000 (by omega) (by omega) (by omega) (by omega) (.inl rfl) hE.follow hE.shares
  · obtain ⟨h1, h2⟩ := even_no h (k := K) (by omega)
    rw [h1, Option.bind_some, if_neg (by dsimp only; omega), if_pos rfl, if_pos rfl]
    rfl
end Go.Proofs.Ytafmgnojlnkmjaa.Pure
