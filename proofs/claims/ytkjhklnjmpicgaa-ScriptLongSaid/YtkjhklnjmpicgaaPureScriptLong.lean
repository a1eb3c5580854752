/- The law ScriptLong, over numbers alone: of too many entries the first ten thousand count, and so many are not encoded. -/
import Derived.Test.YtkjhklnjmpicgaaQLx17
import Derived.Test.YtkjhklnjmpicgaaPS
namespace Go.Proofs.Ytkjhklnjmpicgaa.Pure
open Go.RowKit Go.Proofs.Ytkjhklnjmpicgaa.H Go.Proofs.Ytkjhklnjmpicgaa.QL Go.Proofs.Ytkjhklnjmpicgaa.PB Go.Proofs.YtkjhklnjmpicgaaW.PrintWords Go.Proofs.YtkjhklnjmpicgaaW.PrintLast
set_option linter.unusedSimpArgs false
set_option linter.unusedVariables false
theorem enc_zero (n : Nat) (hn : n ≤ 10000) (d : Nat) : ∀ (i k : Nat) (out : List Int), i + d = n → out.length = 6 * i → d + 1 ≤ k →
    ∃ s, script_Encode.l0 k out (List.replicate n z29) (n : Int) (i : Int) = some (s, 0) := by
  induction d with
  | zero =>
    intro i k out hi ho hk
    obtain ⟨k, rfl⟩ : ∃ m, k = m + 1 := ⟨k - 1, by omega⟩
    simp only [script_Encode.l0]
    rw [if_neg (by omega)]
    exact ⟨_, rfl⟩
  | succ d ih =>
    intro i k out hi ho hk
    obtain ⟨k, rfl⟩ : ∃ m, k = m + 1 := ⟨k - 1, by omega⟩
    have hz : rd_T29 (List.replicate n z29) (i : Int) = z29 := by
      unfold rd_T29
      rw [Int.toNat_natCast, List.getD_eq_getElem?_getD, List.getElem?_replicate]
      rw [if_pos (by omega)]
      rfl
    have hw : wrap64 ((i : Int) + 1) = ((i + 1 : Nat) : Int) := by unfold wrap64; omega
    have hno : ((!((z29.f0) == 0)) || (!((z29.f1) == 0) || (!((z29.f2) == 0) || (!((z29.f3) == 0) || (!((z29.f4) == 0)))))) = false := rfl
    simp only [script_Encode.l0, hz, hno]
    rw [if_pos (by omega), if_pos (by omega), if_pos (by rw [List.length_replicate]; omega), if_neg (by decide)]
    simp only [Option.bind_some]
    rw [if_pos (by simp; omega), hw]
    exact ih (i + 1) k _ (by omega) (by simp; omega) (by omega)
theorem ScriptLong : waymasterlaw18_ScriptLong.Pure := by
  intro n hn
  obtain ⟨K, hK⟩ : ∃ K, K = 10020 := ⟨_, rfl⟩
  refine ⟨K + 1, ?_⟩
  unfold waymasterlaw18_ScriptLong.f
  rw [shown_true]
  simp only [Option.bind_some]
  by_cases h0 : n < 9990
  · rw [if_pos h0]; simp only [waymasterlaw18_ScriptLong.j0]; rfl
  rw [if_neg h0]
  by_cases h1 : n > 10010
  · rw [decide_eq_true h1]; simp only [waymasterlaw18_ScriptLong.j0]; rfl
  rw [decide_eq_false h1]
  obtain ⟨m, rfl⟩ := Int.eq_ofNat_of_zero_le (show 0 ≤ n by omega)
  have hw : wrap64 (6 * (m : Int)) = ((6 * m : Nat) : Int) := by unfold wrap64; omega
  simp only [waymasterlaw18_ScriptLong.j0, hw, Int.toNat_natCast]
  rw [if_neg (by decide), if_pos (by omega), if_pos (by omega)]
  have hsz : (strOfNums (List.replicate (6 * m) 0)).size = 6 * m := by simp [strOfNums]; exact Array.size_replicate
  have hd : script_Decode.f (strOfNums (List.replicate (6 * m) 0)) = some (ents (strOfNums (List.replicate (6 * m) 0)) (cnt (strOfNums (List.replicate (6 * m) 0)))) := by
    unfold script_Decode.f; rw [if_pos (by omega)]
  have hcnt : cnt (strOfNums (List.replicate (6 * m) 0)) = min m 10000 := by unfold cnt; rw [hsz]; omega
  rw [hd]
  simp only [Option.bind_some, ents_length, hcnt]
  rw [if_pos (by omega), if_pos (by omega)]
  have hmn : ((min m 10000 : Nat) : Int) = mn (m : Int) 10000 := by unfold mn; omega
  by_cases hm : m ≤ 10000
  · obtain ⟨s, hs⟩ := enc_zero m hm m 0 (K + 1) [] (by omega) rfl (by omega)
    have he : script_Encode.f K (List.replicate m z29) = some (s, 0) := by
      unfold script_Encode.f
      rw [List.length_replicate, if_neg (by omega)]
      obtain ⟨s2, hs2⟩ := enc_zero m hm m 0 K [] (by omega) rfl (by omega)
      have h3 := script_Encode.mono_l K
      have : s = s2 := by
        have h4 := h3 _ _ _ _ _ hs2
        rw [hs] at h4
        exact (Prod.mk.inj (Option.some.inj h4)).1
      rw [this]
      exact hs2
    rw [he]
    simp only [Option.bind_some, if_true]
    rw [if_pos hmn, decide_eq_true (by omega)]
    rfl
  · have he : script_Encode.f K (List.replicate m z29) = some (⟨#[]⟩, 2) := by
      unfold script_Encode.f
      rw [List.length_replicate, if_pos (by omega)]
    rw [he]
    simp only [Option.bind_some, if_true]
    rw [if_pos hmn, decide_eq_false (by omega)]
    rfl

end Go.Proofs.Ytkjhklnjmpicgaa.Pure
