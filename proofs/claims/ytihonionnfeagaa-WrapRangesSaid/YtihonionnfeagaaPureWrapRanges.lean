/- The law WrapRanges, over numbers alone: the program's slots of a range are the document's, for any two indexes and any size. -/
import Derived.Test.YtihonionnfeagaaQLx8
import Derived.Test.YtihonionnfeagaaPB
namespace Go.Proofs.Ytihonionnfeagaa.Pure
open Go.RowKit Go.Proofs.Ytihonionnfeagaa.H Go.Proofs.Ytihonionnfeagaa.QB Go.Proofs.Ytihonionnfeagaa.QL Go.Proofs.Ytihonionnfeagaa.PB Go.Proofs.YtihonionnfeagaaW.PrintWords Go.Proofs.YtihonionnfeagaaW.PrintLast
set_option linter.unusedSimpArgs false
set_option linter.unusedVariables false
theorem refSlot_at {k : Nat} (hk : 20 ≤ k) (i s : Int) (hi : 0 ≤ i ∧ i < 4294967296) (h : isPow s = true) : waymasterref01_Slot.f k i s = some (slotV i s, 0) := by
  have := slot_at i s h
  rw [← refSlot i s hi] at this
  exact at_rounds (g := fun k => waymasterref01_Slot.f k i s) (fun k => waymasterref01_Slot.mono i s k) hk this
theorem refRoom_at {k : Nat} (hk : 20 ≤ k) (p c s : Int) : waymasterref01_Room.f k p c s = wrap_Room.f p c s := by
  obtain ⟨x, y, h⟩ := room_some p c s
  rw [h]
  refine at_rounds (g := fun k => waymasterref01_Room.f k p c s) (fun k => waymasterref01_Room.mono p c s k) hk ?_
  rw [← h]
  exact refRoom p c s
theorem idx_range (a : Int) (j : Nat) : 0 ≤ idx a j ∧ idx a j < 4294967296 := by unfold idx; omega
theorem ref_loop (a b s : Int) (hb : 0 ≤ b ∧ b < 4294967296) (h : isPow s = true) (d : Nat) : ∀ (j k : Nat), j + d = far a b → d + 21 ≤ k → waymasterref01_Range.l0 k b s (slots a s j) (idx a j) = some (slots a s (far a b), 0) := by
  induction d with
  | zero =>
    intro j k hj hk
    obtain ⟨k, rfl⟩ : ∃ m, k = m + 1 := ⟨k - 1, by omega⟩
    obtain rfl : j = far a b := by omega
    simp only [waymasterref01_Range.l0]
    rw [if_pos (by have := idx_eq a b hb; simpa using this)]
  | succ d ih =>
    intro j k hj hk
    obtain ⟨k, rfl⟩ : ∃ m, k = m + 1 := ⟨k - 1, by omega⟩
    simp only [waymasterref01_Range.l0]
    have hfar : far a b < 4294967296 := by unfold far; omega
    rw [if_neg (by have := idx_ne a b hb j (by omega); simpa using this), refSlot_at (by omega) _ _ (idx_range a j) h]
    simp only [Option.bind_some]
    rw [if_pos (by rw [slots_length]; omega), idx_succ, ← slots_succ]
    exact ih (j + 1) k (by omega) (by omega)
theorem same_refl (l : List Int) (hl : l.length ≤ 4294967296) (d : Nat) : ∀ (i k : Nat), i + d = l.length → d + 1 ≤ k → waymasterref01_Same.l0 k l l (i : Int) = some true := by
  induction d with
  | zero =>
    intro i k hi hk
    obtain ⟨k, rfl⟩ : ∃ m, k = m + 1 := ⟨k - 1, by omega⟩
    simp only [waymasterref01_Same.l0]
    rw [if_neg (by omega)]
  | succ d ih =>
    intro i k hi hk
    obtain ⟨k, rfl⟩ : ∃ m, k = m + 1 := ⟨k - 1, by omega⟩
    simp only [waymasterref01_Same.l0]
    rw [if_pos (by omega), if_pos (by omega), if_pos (by omega), if_pos trivial, show wrap64 ((i : Int) + 1) = ((i + 1 : Nat) : Int) by unfold wrap64; omega]
    exact ih (i + 1) k (by omega) (by omega)
theorem same_self (l : List Int) (hl : l.length ≤ 4294967296) {k : Nat} (hk : l.length + 1 ≤ k) : waymasterref01_Same.f k l l = some true := by
  unfold waymasterref01_Same.f
  rw [if_pos rfl]
  exact same_refl l hl l.length 0 k (by omega) (by omega)
theorem WrapRanges : waymasterlaw01_WrapRanges.Pure := by
  intro a b s ha hb hs
  obtain ⟨ha0, ha1⟩ := u32_of ha
  obtain ⟨hb0, hb1⟩ := u32_of hb
  have hfar : far a b < 4294967296 := by unfold far; omega
  refine ⟨far a b + 22, ?_⟩
  have h0 : idx a 0 = a := by unfold idx; omega
  unfold waymasterlaw01_WrapRanges.f waymasterref01_Range.f wrap_Range.f
  rw [shown_true, refRoom_at (by omega), room_f]
  simp only [Option.bind_some, ite_t]
  by_cases hp : isPow s = true
  · rw [if_pos hp]
    by_cases hf : (b - a) % 4294967296 > s
    · rw [if_pos hf]
      have := same_self [] (by simp) (k := far a b + 22) (by simp)
      simp [this]
    · rw [if_neg hf]
      simp only [Option.bind_some, if_true]
      have hl := ref_loop a b s ⟨hb0, hb1⟩ hp (far a b) 0 (far a b + 22) (by omega) (by omega)
      rw [h0] at hl
      have hl' : waymasterref01_Range.l0 (far a b + 22) b s [] a = some (slots a s (far a b), 0) := hl
      rw [if_pos ⟨h0, hb0, hb1, hp⟩, hl']
      simp only [Option.bind_some]
      rw [same_self _ (by rw [slots_length]; omega) (by rw [slots_length]; omega)]
      simp
  · rw [if_neg hp]
    have := same_self [] (by simp) (k := far a b + 22) (by simp)
    simp [this]

end Go.Proofs.Ytihonionnfeagaa.Pure
