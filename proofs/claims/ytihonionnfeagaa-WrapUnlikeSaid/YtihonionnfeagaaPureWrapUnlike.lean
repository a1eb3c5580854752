/- The law WrapUnlike, over numbers alone: a range's slots are as many as it is far, unlike each other, and each follows the one before it. -/
import Derived.Test.YtihonionnfeagaaQLx9
import Derived.Test.YtihonionnfeagaaPB
namespace Go.Proofs.Ytihonionnfeagaa.Pure
open Go.RowKit Go.Proofs.Ytihonionnfeagaa.H Go.Proofs.Ytihonionnfeagaa.QB Go.Proofs.Ytihonionnfeagaa.QL Go.Proofs.Ytihonionnfeagaa.PB Go.Proofs.YtihonionnfeagaaW.PrintWords Go.Proofs.YtihonionnfeagaaW.PrintLast
set_option linter.unusedSimpArgs false
set_option linter.unusedVariables false
theorem pow_dvd {s : Int} (hs : isPow s = true) : s ∣ 4294967296 := by
  rcases isPow_cases hs with rfl | rfl | rfl | rfl | rfl | rfl | rfl | rfl | rfl | rfl | rfl | rfl | rfl <;> decide
theorem slots_get (a s : Int) (n i : Nat) (hi : i < n) (hs : isPow s = true) : rd (slots a s n) (i : Int) = (a + i) % s := by
  have h1 : rd (slots a s n) (i : Int) = slotV (idx a i) s := by
    unfold rd slots
    rw [Int.toNat_natCast, List.getD_eq_getElem?_getD, List.getElem?_map, List.getElem?_range hi]
    rw [Option.map_some, Option.getD_some]
  have h2 : 0 ≤ idx a i ∧ idx a i < 4294967296 := by unfold idx; omega
  rw [h1, slot_mod (idx a i) s h2 hs]
  exact Int.emod_emod_of_dvd (a + i) (pow_dvd hs)
theorem apart (a s : Int) (i j : Nat) (hij : i ≠ j) (hi : (i : Int) < s) (hj : (j : Int) < s) : (a + i) % s ≠ (a + j) % s := by
  intro h
  have h1 := Int.emod_emod_of_dvd (a + i) (Int.dvd_refl s)
  have h2 : ((a + i) - (a + j)) % s = 0 := by rw [Int.sub_emod, h, Int.sub_self, Int.zero_emod]
  have h3 : s ∣ ((a + i) - (a + j)) := Int.dvd_of_emod_eq_zero h2
  have h4 := Int.eq_zero_of_dvd_of_natAbs_lt_natAbs h3 (by omega)
  omega
theorem w_up (i : Nat) (h : i < 5000) : wrap64 ((i : Int) + 1) = ((i + 1 : Nat) : Int) := by unfold wrap64; omega
theorem w_down (i : Nat) (h0 : 0 < i) (h : i < 5000) : wrap64 ((i : Int) - 1) = ((i - 1 : Nat) : Int) := by unfold wrap64; omega
theorem next_slot (a s : Int) (i : Nat) (h0 : 0 < i) (hs1 : 1 ≤ s) (hs2 : s ≤ 4096) : (a + i) % s = Int.tmod (wrap64 ((a + ((i - 1 : Nat) : Int)) % s + 1)) s := by
  obtain ⟨y, hy⟩ : ∃ y, (a + ((i - 1 : Nat) : Int)) % s = y := ⟨_, rfl⟩
  have y0 : 0 ≤ y := by rw [← hy]; exact Int.emod_nonneg _ (by omega)
  have y1 : y < s := by rw [← hy]; exact Int.emod_lt_of_pos _ (by omega)
  have e1 : wrap64 (y + 1) = y + 1 := by clear hy; unfold wrap64; omega
  rw [hy, e1, Int.tmod_eq_emod_of_nonneg (by omega), ← hy, Int.emod_add_emod]
  have e2 : a + ((i - 1 : Nat) : Int) + 1 = a + i := by clear hy; omega
  rw [e2]
/-- what has been met after i slots. -/
def Met (a s : Int) (i : Nat) (m : List Bool) : Prop := m.length = s.toNat ∧ ∀ x : Nat, x < s.toNat → (m.getD x false = true ↔ ∃ j, j < i ∧ (a + (j : Nat)) % s = x)
theorem loop (a s : Int) (n : Nat) (hn : (n : Int) ≤ s) (hs : isPow s = true) (d : Nat) : ∀ (i k : Nat) (m : List Bool), i + d = n → d + 1 ≤ k → Met a s i m →
    waymasterlaw01_WrapUnlike.l0 k s true (slots a s n) m (i : Int) = some true := by
  obtain ⟨hs1, hs2⟩ := pow_range hs
  induction d with
  | zero =>
    intro i k m hi hk hm
    obtain ⟨k, rfl⟩ : ∃ q, k = q + 1 := ⟨k - 1, by omega⟩
    simp only [waymasterlaw01_WrapUnlike.l0]
    rw [if_neg (by rw [slots_length]; omega)]
  | succ d ih =>
    intro i k m hi hk hm
    obtain ⟨k, rfl⟩ : ∃ q, k = q + 1 := ⟨k - 1, by omega⟩
    obtain ⟨x, hx⟩ : ∃ x, rd (slots a s n) (i : Int) = x := ⟨_, rfl⟩
    have hx' : (a + i) % s = x := by rw [← hx, slots_get a s n i (by omega) hs]
    have x0 : 0 ≤ x := by rw [← hx']; exact Int.emod_nonneg _ (by omega)
    have x1 : x < s := by rw [← hx']; exact Int.emod_lt_of_pos _ (by omega)
    obtain ⟨hl, hmet⟩ := hm
    have hnot : ¬ rdOf false m x = true := by
      unfold rdOf
      rw [hmet x.toNat (by omega)]
      rintro ⟨j, hj, he⟩
      exact apart a s i j (by omega) (by omega) (by omega) (by rw [he, hx']; omega)
    have hstep : Met a s (i + 1) (m.set x.toNat true) := by
      refine ⟨by rw [List.length_set, hl], fun y hy => ?_⟩
      by_cases e : x.toNat = y
      · subst e
        simp only [List.getD_eq_getElem?_getD, List.getElem?_set, if_pos, hl, hy, Option.getD_some, true_iff]
        exact ⟨i, by omega, by rw [hx']; omega⟩
      · have e1 : (m.set x.toNat true).getD y false = m.getD y false := by simp [List.getD_eq_getElem?_getD, List.getElem?_set, e]
        rw [e1, hmet y hy]
        constructor
        · rintro ⟨j, hj, he⟩; exact ⟨j, by omega, he⟩
        · rintro ⟨j, hj, he⟩
          refine ⟨j, ?_, he⟩
          rcases Nat.lt_or_ge j i with h | h
          · exact h
          · obtain rfl : j = i := by omega
            omega
    have hw := w_up i (by clear hx'; omega)
    have hrec := ih (i + 1) k (m.set x.toNat true) (by omega) (by omega) hstep
    simp only [waymasterlaw01_WrapUnlike.l0, hx]
    have c1 : (i : Int) < ((slots a s n).length : Int) := by rw [slots_length]; omega
    have c2 : (0 : Int) ≤ (i : Int) := Int.natCast_nonneg i
    have c3 : ¬ x < 0 := by omega
    have c4 : ¬ x ≥ s := by omega
    have c5 : x < (m.length : Int) := by rw [hl]; omega
    rw [if_pos c1, if_pos c2, if_neg c3, if_neg c4, if_pos x0, if_pos c5, if_neg hnot, hw]
    by_cases hi0 : (i : Int) > 0
    · rw [if_pos hi0]
      have h0 : 0 < i := Int.natCast_pos.mp hi0
      have c6 : (0 : Int) ≤ ((i - 1 : Nat) : Int) := Int.natCast_nonneg _
      have c7 : ((i - 1 : Nat) : Int) < ((slots a s n).length : Int) := by rw [slots_length]; clear hx'; omega
      have c8 : ¬ s = 0 := by clear hx'; omega
      have hn1 := next_slot a s i h0 hs1 hs2
      rw [w_down i h0 (by clear hx' hn1; omega), if_pos c6, if_pos c7, if_neg c8, slots_get a s n (i - 1) (by clear hx' hn1; omega) hs, ← hn1, if_pos hx'.symm]
      exact hrec
    · rw [if_neg hi0]
      exact hrec
theorem WrapUnlike : waymasterlaw01_WrapUnlike.Pure := by
  intro a n s ha hn hs
  obtain ⟨ha0, ha1⟩ := u32_of ha
  obtain ⟨K, hK⟩ : ∃ K, K = 4300 := ⟨_, rfl⟩
  refine ⟨K + 1 + 1, ?_⟩
  unfold waymasterlaw01_WrapUnlike.f
  rw [shown_true]
  simp only [Option.bind_some]
  by_cases h0 : n < 0
  · rw [if_pos h0]; simp only [waymasterlaw01_WrapUnlike.j0]; rfl
  rw [if_neg h0]
  by_cases h1 : n > 4200
  · rw [decide_eq_true h1]; simp only [waymasterlaw01_WrapUnlike.j0]; rfl
  rw [decide_eq_false h1]
  have hfar : far a ((a + n % 4294967296) % 4294967296) = n.toNat := by unfold far; omega
  have hfar' : ((a + n % 4294967296) % 4294967296 - a) % 4294967296 = n := by omega
  have hidx : idx a 0 = a := by unfold idx; omega
  have hR : wrap_Range.f a ((a + n % 4294967296) % 4294967296) s = if isPow s = true then (if n > s then some ([], 10) else some (slots a s n.toNat, 0)) else some ([], 2) := by
    unfold wrap_Range.f
    rw [room_f, hfar', hfar]
    by_cases hp : isPow s = true
    · rw [if_pos hp, if_pos hp]
      by_cases hf : n > s
      · rw [if_pos hf, if_pos hf]; simp
      · rw [if_neg hf, if_neg hf]
        simp only [Option.bind_some, if_true]
        rw [if_pos ⟨hidx, by omega, by omega, hp⟩]
    · rw [if_neg hp, if_neg hp]; simp
  simp only [waymasterlaw01_WrapUnlike.j0, hR, wrap_IsSize.f, Option.bind_some, ite_f]
  by_cases hp : isPow s = true
  · obtain ⟨h2, h3⟩ := pow_range hp
    rw [if_pos hp]
    by_cases hf : n > s
    · rw [if_pos hf]; simp [hp, hf]
    · rw [if_neg hf]
      simp only [Option.bind_some, if_true, slots_length]
      rw [if_pos hp, if_neg hf, show (((n.toNat : Int)) != n) = false by rw [bne_eq_false_iff_eq]; omega]
      simp only [waymasterlaw01_WrapUnlike.j1, ite_f]
      rw [if_pos (by omega), if_pos (by omega)]
      refine loop a s n.toNat (by omega) hp n.toNat 0 _ _ (by omega) (by omega) ⟨by simp, fun x hx => ?_⟩
      have hr : (List.replicate s.toNat false).getD x false = false := by simp [List.getD_eq_getElem?_getD, List.getElem?_replicate, hx]
      rw [hr]
      constructor
      · intro h; cases h
      · rintro ⟨j, hj, _⟩; omega
  · rw [if_neg hp]; simp [hp]

end Go.Proofs.Ytihonionnfeagaa.Pure
