/- Plain facts about entries' bytes, for the laws of layer 18: the program's Encode and the document's come to the same bytes; what was encoded is decoded to the same. -/
import Derived.Test.YtkjhklnjmpicgaaQLx14
import Derived.Test.YtkjhklnjmpicgaaQLx15
import Derived.Test.YtkjhklnjmpicgaaPS
namespace Go.Proofs.Ytkjhklnjmpicgaa.PB
open Go.RowKit Go.Proofs.Ytkjhklnjmpicgaa.H Go.Proofs.Ytkjhklnjmpicgaa.QL Go.Proofs.YtkjhklnjmpicgaaW.PrintWords Go.Proofs.YtkjhklnjmpicgaaW.PrintLast
set_option linter.unusedSimpArgs false
set_option linter.unusedVariables false

def isZero (x : S29) : Bool := decide (x.f0 = 0 ∧ x.f1 = 0 ∧ x.f2 = 0 ∧ x.f3 = 0 ∧ x.f4 = 0)
def bytes6 (x : S29) : List Int := [x.f0 % 256, x.f1 % 256, x.f2 % 256, (x.f2 / 256) % 256, x.f3 % 256, x.f4 % 256]
/-- Entries' bytes behind what has been written; or the error. -/
def encFrom : List S29 → List Int → ByteArray × Int
  | [], out => (strOfNums out, 0)
  | x :: xs, out => if isZero x || rightB x then encFrom xs (out ++ bytes6 x) else (⟨#[]⟩, 2)
theorem noZero (x : S29) : ((!((x.f0) == 0)) || (!((x.f1) == 0) || (!((x.f2) == 0) || (!((x.f3) == 0) || (!((x.f4) == 0)))))) = !isZero x := by
  unfold isZero
  by_cases h0 : x.f0 = 0 <;> by_cases h1 : x.f1 = 0 <;> by_cases h2 : x.f2 = 0 <;> by_cases h3 : x.f3 = 0 <;> by_cases h4 : x.f4 = 0 <;> simp [h0, h1, h2, h3, h4]
theorem isRight_at (x : S29) {k : Nat} (hk : 10 ≤ k) : script_isRight.f k x.f0 x.f1 x.f2 x.f3 x.f4 = some (rightB x) :=
  at_rounds (g := fun k => script_isRight.f k x.f0 x.f1 x.f2 x.f3 x.f4) (fun k => script_isRight.mono _ _ _ _ _ k) hk (isRight_f x)
theorem rd_at (l : List S29) (i : Nat) (h : i < l.length) : rd_T29 l (i : Int) = l[i] := by
  unfold rd_T29
  rw [Int.toNat_natCast, List.getD_eq_getElem?_getD, List.getElem?_eq_getElem h]
  rfl
theorem enc_loop (l : List S29) (hl : l.length ≤ 10000) (d : Nat) : ∀ (i k : Nat) (out : List Int), i + d = l.length → out.length = 6 * i → d + 12 ≤ k →
    script_Encode.l0 k out l (l.length : Int) (i : Int) = some (encFrom (l.drop i) out) := by
  induction d with
  | zero =>
    intro i k out hi ho hk
    obtain ⟨k, rfl⟩ : ∃ m, k = m + 1 := ⟨k - 1, by omega⟩
    simp only [script_Encode.l0]
    rw [if_neg (by omega), List.drop_of_length_le (by omega)]
    rfl
  | succ d ih =>
    intro i k out hi ho hk
    obtain ⟨k, rfl⟩ : ∃ m, k = m + 1 := ⟨k - 1, by omega⟩
    have hi2 : i < l.length := by omega
    have hw : wrap64 ((i : Int) + 1) = ((i + 1 : Nat) : Int) := by unfold wrap64; omega
    have hd : l.drop i = l[i] :: l.drop (i + 1) := List.drop_eq_getElem_cons hi2
    have hrec := ih (i + 1) k (out ++ bytes6 l[i]) (by omega) (by simp [bytes6]; omega) (by omega)
    have hr := isRight_at l[i] (k := k) (by omega)
    have hlim : out.length + (bytes6 l[i]).length < 140737488355328 := by simp [bytes6]; omega
    simp only [script_Encode.l0, rd_at l i hi2, noZero]
    rw [if_pos (by omega), if_pos (by omega), if_pos (by omega), hd, hr]
    unfold encFrom
    simp only [Option.bind_some]
    cases hz : isZero l[i] with
    | true =>
      simp only [Bool.not_true, Bool.true_or, if_true]
      rw [if_neg (by decide)]
      have := hlim
      unfold bytes6 at this hrec
      rw [if_pos this, hw]
      exact hrec
    | false =>
      simp only [Bool.not_false, Bool.false_or, if_true]
      cases hb : rightB l[i] with
      | true =>
        simp only [if_true]
        have := hlim
        unfold bytes6 at this hrec
        rw [if_pos this, hw]
        exact hrec
      | false => rfl
theorem tm_eq (n : Int) (h : 0 ≤ n ∧ n ≤ 65535) : Int.tmod n 256 % 256 = n % 256 ∧ wrap64 (Int.tdiv n 256) % 256 = (n / 256) % 256 := by
  rw [Int.tmod_eq_emod_of_nonneg h.1, Int.tdiv_eq_ediv_of_nonneg h.1]
  unfold wrap64
  omega
theorem range_of (x : S29) (h : (isZero x || rightB x) = true) : 0 ≤ x.f2 ∧ x.f2 ≤ 65535 := by
  rw [Bool.or_eq_true] at h
  unfold isZero rightB at h
  rcases h with h | h
  · have := of_decide_eq_true h; omega
  · have := of_decide_eq_true h; omega
theorem refEnc_loop (l : List S29) (hl : l.length ≤ 10000) (d : Nat) : ∀ (i k : Nat) (out : List Int), i + d = l.length → out.length = 6 * i → d + 12 ≤ k →
    waymasterref18_Encode.l0 k l out (i : Int) = some (encFrom (l.drop i) out) := by
  induction d with
  | zero =>
    intro i k out hi ho hk
    obtain ⟨k, rfl⟩ : ∃ m, k = m + 1 := ⟨k - 1, by omega⟩
    simp only [waymasterref18_Encode.l0]
    rw [if_neg (by omega), List.drop_of_length_le (by omega)]
    rfl
  | succ d ih =>
    intro i k out hi ho hk
    obtain ⟨k, rfl⟩ : ∃ m, k = m + 1 := ⟨k - 1, by omega⟩
    have hi2 : i < l.length := by omega
    have hw : wrap64 ((i : Int) + 1) = ((i + 1 : Nat) : Int) := by unfold wrap64; omega
    have hd : l.drop i = l[i] :: l.drop (i + 1) := List.drop_eq_getElem_cons hi2
    have hrec := ih (i + 1) k (out ++ bytes6 l[i]) (by omega) (by simp [bytes6]; omega) (by omega)
    have hr := refRight l[i]
    have hlim : out.length + (bytes6 l[i]).length < 140737488355328 := by simp [bytes6]; omega
    simp only [waymasterref18_Encode.l0, rd_at l i hi2, noZero]
    rw [if_pos (by omega), if_pos (by omega), hd, hr]
    unfold encFrom
    simp only [Option.bind_some]
    by_cases hok : (isZero l[i] || rightB l[i]) = true
    · obtain ⟨e1, e2⟩ := tm_eq _ (range_of _ hok)
      rw [if_pos hok]
      have h2 := hlim
      unfold bytes6 at h2 hrec
      rw [e1, e2]
      cases hb : rightB l[i] with
      | true =>
        simp only [if_true]
        rw [if_pos h2, hw]
        exact hrec
      | false =>
        have hz : isZero l[i] = true := by rw [hb, Bool.or_false] at hok; exact hok
        rw [hz]
        simp only [Bool.not_true, if_neg (show ¬ (false = true) by decide)]
        rw [if_pos h2, hw]
        exact hrec
    · rw [if_neg hok]
      have hz : isZero l[i] = false := by cases h : isZero l[i] with | true => exact absurd (by rw [h]; rfl) hok | false => rfl
      have hb : rightB l[i] = false := by cases h : rightB l[i] with | true => exact absurd (by rw [h, Bool.or_true]) hok | false => rfl
      rw [hz, hb]
      rfl
theorem encode_f (l : List S29) (hl : l.length ≤ 10000) {k : Nat} (hk : l.length + 12 ≤ k) : script_Encode.f k l = some (encFrom l []) := by
  unfold script_Encode.f
  rw [if_neg (by omega)]
  have := enc_loop l hl l.length 0 k [] (by omega) rfl hk
  rwa [List.drop_zero] at this
theorem refEncode_f (l : List S29) (hl : l.length ≤ 10000) {k : Nat} (hk : l.length + 12 ≤ k) : waymasterref18_Encode.f k l = some (encFrom l []) := by
  unfold waymasterref18_Encode.f
  rw [if_neg (by omega)]
  have := refEnc_loop l hl l.length 0 k [] (by omega) rfl hk
  rwa [List.drop_zero] at this
end Go.Proofs.Ytkjhklnjmpicgaa.PB
