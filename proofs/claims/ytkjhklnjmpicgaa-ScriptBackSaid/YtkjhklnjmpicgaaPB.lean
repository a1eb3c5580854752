/- Plain facts about a script's entries, for the laws of layer 18: the document's Decode comes to the same entries as the program's. -/
import Derived.Test.YtkjhklnjmpicgaaQLx7
import Derived.Test.YtkjhklnjmpicgaaQLx8
import Derived.Test.YtkjhklnjmpicgaaQLx9
import Derived.Test.YtkjhklnjmpicgaaH2
namespace Go.Proofs.Ytkjhklnjmpicgaa.PB
open Go.RowKit Go.Proofs.Ytkjhklnjmpicgaa.H Go.Proofs.Ytkjhklnjmpicgaa.QL Go.Proofs.YtkjhklnjmpicgaaW.PrintWords Go.Proofs.YtkjhklnjmpicgaaW.PrintLast
set_option linter.unusedSimpArgs false
set_option linter.unusedVariables false

theorem bt_range' (s : ByteArray) (i : Int) : 0 ≤ bt s i ∧ bt s i ≤ 255 := bt_range s i
theorem wraps_i64 (n : Int) (h₀ : 0 ≤ n) (h₁ : n < 2 ^ 16) : IntKind.i64.wrap n = n := by rw [i64_w]; unfold wrap64; omega
theorem or_bytes (a b : Int) (ha : 0 ≤ a ∧ a ≤ 255) (hb : 0 ≤ b ∧ b ≤ 255) : Go.bits .or .i64 a (wrap64 (b * 256)) = a + 256 * b := by
  have e : wrap64 (b * 256) = b * 256 := by unfold wrap64; omega
  rw [e]
  obtain ⟨x, rfl⟩ := Int.eq_ofNat_of_zero_le ha.1
  obtain ⟨y, rfl⟩ := Int.eq_ofNat_of_zero_le hb.1
  have hx : x < 2 ^ 8 := by omega
  have h := (bits_nat .i64 16 (by decide) wraps_i64 x (y * 256) (by omega) (by omega)).2
  have e2 : ((y * 256 : Nat) : Int) = (y : Int) * 256 := by omega
  rw [e2] at h
  rw [h, Nat.or_comm]
  have h2 := Nat.two_pow_add_eq_or_of_lt hx y
  rw [show y * 256 = 2 ^ 8 * y by omega, ← h2]
  omega
theorem bt_rest (s : ByteArray) (j i : Nat) (h : 6 * j + i < s.size) : bt (rest s j) (i : Int) = bt s ((6 * j + i : Nat) : Int) := by
  have h1 : i < (rest s j).size := by rw [rest_size]; omega
  have e1 : bt (rest s j) (i : Int) = (((rest s j)[i]'h1).toNat : Int) := by simp [bt, h1]
  have e2 : bt s ((6 * j + i : Nat) : Int) = ((s[6 * j + i]'h).toNat : Int) := by simp only [bt, Int.toNat_natCast]; rw [dif_pos h]
  have h2 : ((rest s j)[i]'h1) = s[6 * j + i]'h := ByteArray.getElem_extract h1
  rw [e1, e2, h2]

theorem refRight (x : S29) : waymasterref18_Right.f x.f0 x.f1 x.f2 x.f3 x.f4 = some (rightB x) := by
  unfold waymasterref18_Right.f rightB
  by_cases h0 : x.f0 ≥ 1
  · by_cases h1 : x.f0 ≤ 11
    · by_cases h2 : x.f1 ≥ 0
      · by_cases h3 : x.f1 ≤ 255
        · by_cases h4 : x.f2 ≥ 0
          · by_cases h5 : x.f2 ≤ 65535
            · by_cases h6 : x.f3 ≥ 0
              · by_cases h7 : x.f3 ≤ 255
                · by_cases h8 : x.f4 ≥ 0
                  · rw [if_pos h0, if_pos h1, if_pos h2, if_pos h3, if_pos h4, if_pos h5, if_pos h6, if_pos h7, if_pos h8]; congr 1; rw [decide_eq_decide]; omega
                  · rw [if_pos h0, if_pos h1, if_pos h2, if_pos h3, if_pos h4, if_pos h5, if_pos h6, if_pos h7, if_neg h8]; congr 1; rw [eq_comm, decide_eq_false_iff_not]; omega
                · rw [if_pos h0, if_pos h1, if_pos h2, if_pos h3, if_pos h4, if_pos h5, if_pos h6, if_neg h7]; congr 1; rw [eq_comm, decide_eq_false_iff_not]; omega
              · rw [if_pos h0, if_pos h1, if_pos h2, if_pos h3, if_pos h4, if_pos h5, if_neg h6]; congr 1; rw [eq_comm, decide_eq_false_iff_not]; omega
            · rw [if_pos h0, if_pos h1, if_pos h2, if_pos h3, if_pos h4, if_neg h5]; congr 1; rw [eq_comm, decide_eq_false_iff_not]; omega
          · rw [if_pos h0, if_pos h1, if_pos h2, if_pos h3, if_neg h4]; congr 1; rw [eq_comm, decide_eq_false_iff_not]; omega
        · rw [if_pos h0, if_pos h1, if_pos h2, if_neg h3]; congr 1; rw [eq_comm, decide_eq_false_iff_not]; omega
      · rw [if_pos h0, if_pos h1, if_neg h2]; congr 1; rw [eq_comm, decide_eq_false_iff_not]; omega
    · rw [if_pos h0, if_neg h1]; congr 1; rw [eq_comm, decide_eq_false_iff_not]; omega
  · rw [if_neg h0]; congr 1; rw [eq_comm, decide_eq_false_iff_not]; omega
theorem w_bt (s : ByteArray) (i : Int) : wrap64 (bt s i) = bt s i := by have := bt_range s i; unfold wrap64; omega
/-- An entry of the document is the program's. -/
theorem raw_ref (s : ByteArray) (j : Nat) (h : 6 * j + 6 ≤ s.size) :
    (⟨wrap64 (bt s ((6 * j : Nat) : Int)), wrap64 (bt s ((6 * j + 1 : Nat) : Int)), wrap64 ((wrap64 (bt s ((6 * j + 2 : Nat) : Int))) + (wrap64 (256 * (wrap64 (bt s ((6 * j + 3 : Nat) : Int)))))), wrap64 (bt s ((6 * j + 4 : Nat) : Int)), wrap64 (bt s ((6 * j + 5 : Nat) : Int))⟩ : S29) = raw s j := by
  have r2 := bt_range s ((6 * j + 2 : Nat) : Int)
  have r3 := bt_range s ((6 * j + 3 : Nat) : Int)
  have e0 : bt (rest s j) 0 = bt s ((6 * j : Nat) : Int) := bt_rest s j 0 (by omega)
  have e1 : bt (rest s j) 1 = bt s ((6 * j + 1 : Nat) : Int) := bt_rest s j 1 (by omega)
  have e2 : bt (rest s j) 2 = bt s ((6 * j + 2 : Nat) : Int) := bt_rest s j 2 (by omega)
  have e3 : bt (rest s j) 3 = bt s ((6 * j + 3 : Nat) : Int) := bt_rest s j 3 (by omega)
  have e4 : bt (rest s j) 4 = bt s ((6 * j + 4 : Nat) : Int) := bt_rest s j 4 (by omega)
  have e5 : bt (rest s j) 5 = bt s ((6 * j + 5 : Nat) : Int) := bt_rest s j 5 (by omega)
  unfold raw raw0
  rw [or_bytes _ _ (bt_range _ _) (bt_range _ _), e0, e1, e2, e3, e4, e5, w_bt, w_bt, w_bt, w_bt, w_bt, w_bt]
  have e6 : wrap64 (bt s ((6 * j + 2 : Nat) : Int) + wrap64 (256 * bt s ((6 * j + 3 : Nat) : Int))) = bt s ((6 * j + 2 : Nat) : Int) + 256 * bt s ((6 * j + 3 : Nat) : Int) := by
    generalize bt s ((6 * j + 2 : Nat) : Int) = a at r2 ⊢
    generalize bt s ((6 * j + 3 : Nat) : Int) = b at r3 ⊢
    unfold wrap64; omega
  rw [e6]
theorem w_at (j i : Nat) (h : 6 * j + i ≤ 140737488351240) : wrap64 (((6 * j : Nat) : Int) + (i : Int)) = ((6 * j + i : Nat) : Int) := by unfold wrap64; omega
theorem refDec (s : ByteArray) (hs : s.size ≤ 140737488351232) (d : Nat) : ∀ (j k : Nat), j + d = cnt s → 2 * d + 2 ≤ k →
    waymasterref18_Decode.l0 k s (ents s j) ((6 * j : Nat) : Int) = some (ents s (cnt s)) := by
  have hc : cnt s ≤ 10000 ∧ 6 * cnt s ≤ s.size ∧ (cnt s = 10000 ∨ s.size < 6 * cnt s + 6) := by unfold cnt; omega
  induction d with
  | zero =>
    intro j k hj hk
    obtain ⟨k, rfl⟩ : ∃ m, k = m + 1 + 1 := ⟨k - 2, by omega⟩
    obtain rfl : j = cnt s := by omega
    have w6 := w_at (cnt s) 6 (by omega)
    simp only [waymasterref18_Decode.l0]
    rw [show (((6 * cnt s : Nat) : Int) + 6) = (((6 * cnt s : Nat) : Int) + ((6 : Nat) : Int)) from rfl, w6]
    by_cases h : 6 * cnt s + 6 ≤ s.size
    · rw [if_pos (by omega), decide_eq_false (by rw [ents_length]; omega)]
      simp only [waymasterref18_Decode.j1]
      rfl
    · rw [if_neg (by omega)]
      simp only [waymasterref18_Decode.j1]
      rfl
  | succ d ih =>
    intro j k hj hk
    obtain ⟨k, rfl⟩ : ∃ m, k = m + 1 + 1 := ⟨k - 2, by omega⟩
    have w6 : wrap64 (((6 * j : Nat) : Int) + 6) = ((6 * j + 6 : Nat) : Int) := w_at j 6 (by omega)
    have w1 : wrap64 (((6 * j : Nat) : Int) + 1) = ((6 * j + 1 : Nat) : Int) := w_at j 1 (by omega)
    have w2 : wrap64 (((6 * j : Nat) : Int) + 2) = ((6 * j + 2 : Nat) : Int) := w_at j 2 (by omega)
    have w3 : wrap64 (((6 * j : Nat) : Int) + 3) = ((6 * j + 3 : Nat) : Int) := w_at j 3 (by omega)
    have w4 : wrap64 (((6 * j : Nat) : Int) + 4) = ((6 * j + 4 : Nat) : Int) := w_at j 4 (by omega)
    have w5 : wrap64 (((6 * j : Nat) : Int) + 5) = ((6 * j + 5 : Nat) : Int) := w_at j 5 (by omega)
    have hr := raw_ref s j (by omega)
    have hrec := ih (j + 1) k (by omega) (by omega)
    have hrt := refRight (raw s j)
    rw [← hr] at hrt
    simp only [waymasterref18_Decode.l0, w6]
    rw [if_pos (by omega), decide_eq_true (by rw [ents_length]; omega)]
    simp only [waymasterref18_Decode.j1, w1, w2, w3, w4, w5, if_true]
    rw [if_pos (by omega), if_pos (by omega), if_pos (by omega), if_pos (by omega), if_pos (by omega), if_pos (by omega), if_pos (by omega), if_pos (by omega), if_pos (by omega), if_pos (by omega), if_pos (by omega), if_pos (by omega), hrt]
    simp only [Option.bind_some]
    rw [hr]
    have hlen : (ents s j).length < 3518437208883 := by rw [ents_length]; omega
    have e6 : ((6 * j + 6 : Nat) : Int) = ((6 * (j + 1) : Nat) : Int) := by omega
    rw [if_pos hlen, if_pos hlen, w6, e6]
    rw [ents_succ] at hrec
    unfold ent at hrec
    cases hb : rightB (raw s j) with
    | true => rw [hb] at hrec; rw [if_pos rfl]; exact hrec
    | false => rw [hb] at hrec; rw [if_neg (by decide)]; exact hrec
theorem refDecode (s : ByteArray) (hs : s.size ≤ 140737488351232) {k : Nat} (hk : 2 * cnt s + 2 ≤ k) : waymasterref18_Decode.f k s = some (ents s (cnt s)) := by
  unfold waymasterref18_Decode.f
  exact refDec s hs (cnt s) 0 k (by omega) hk
theorem same_refl (l : List S29) (hl : l.length ≤ 4294967296) (d : Nat) : ∀ (i k : Nat), i + d = l.length → d + 1 ≤ k → waymasterref18_Same.l0 k l l (i : Int) = some true := by
  induction d with
  | zero =>
    intro i k hi hk
    obtain ⟨k, rfl⟩ : ∃ m, k = m + 1 := ⟨k - 1, by omega⟩
    simp only [waymasterref18_Same.l0]
    rw [if_neg (by omega)]
  | succ d ih =>
    intro i k hi hk
    obtain ⟨k, rfl⟩ : ∃ m, k = m + 1 := ⟨k - 1, by omega⟩
    simp only [waymasterref18_Same.l0, beq_self_eq_true, Bool.not_true, Bool.or_self]
    rw [if_pos (by omega), if_pos (by omega), if_pos (by omega), if_neg (by decide), show wrap64 ((i : Int) + 1) = ((i + 1 : Nat) : Int) by unfold wrap64; omega]
    exact ih (i + 1) k (by omega) (by omega)
theorem same_self (l : List S29) (hl : l.length ≤ 4294967296) {k : Nat} (hk : l.length + 1 ≤ k) : waymasterref18_Same.f k l l = some true := by
  unfold waymasterref18_Same.f
  rw [if_pos rfl]
  exact same_refl l hl l.length 0 k (by omega) (by omega)
end Go.Proofs.Ytkjhklnjmpicgaa.PB
