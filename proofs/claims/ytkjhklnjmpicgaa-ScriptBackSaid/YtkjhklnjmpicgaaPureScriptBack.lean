/- The law ScriptBack, over lists alone: what is encoded is decoded to the same entries. -/
import Derived.Test.YtkjhklnjmpicgaaQLx16
import Derived.Test.YtkjhklnjmpicgaaPF
namespace Go.Proofs.Ytkjhklnjmpicgaa.Pure
open Go.RowKit Go.Proofs.Ytkjhklnjmpicgaa.H Go.Proofs.Ytkjhklnjmpicgaa.QL Go.Proofs.Ytkjhklnjmpicgaa.PB Go.Proofs.YtkjhklnjmpicgaaW.PrintWords Go.Proofs.YtkjhklnjmpicgaaW.PrintLast
set_option linter.unusedSimpArgs false
set_option linter.unusedVariables false
/-- An entry's numbers are such. -/
abbrev Wf29 (x : S29) : Prop := (Lit.int .i64 x.f0).wf = true ∧ (Lit.int .i64 x.f1).wf = true ∧ (Lit.int .i64 x.f2).wf = true ∧ (Lit.int .i64 x.f3).wf = true ∧ (Lit.int .i64 x.f4).wf = true
theorem cut_min (l : List S29) : 0 ≤ mn (l.length : Int) 200 ∧ mn (l.length : Int) 200 ≤ (l.length : Int) ∧ (mn (l.length : Int) 200).toNat ≤ 200 := by unfold mn; omega
theorem ScriptBack (l : List S29) (_hl : l.length ≤ maxLen) (_hw : ∀ x ∈ l, Wf29 x) : ∃ k, waymasterlaw18_ScriptBack.f k l = some true := by
  obtain ⟨K, hK⟩ : ∃ K, K = 300 := ⟨_, rfl⟩
  refine ⟨K, ?_⟩
  obtain ⟨h0, h1, h2⟩ := cut_min l
  unfold waymasterlaw18_ScriptBack.f
  rw [shown_true]
  simp only [Option.bind_some]
  rw [if_pos h0, if_pos h1]
  generalize hn : (mn (l.length : Int) 200).toNat = n at h2
  have hlen : (l.take n).length ≤ 200 := by rw [List.length_take]; omega
  generalize l.take n = y at hlen ⊢
  rw [encode_f y (by omega) (k := K) (by omega)]
  simp only [Option.bind_some]
  by_cases hok : ∀ x ∈ y, okE x = true
  · rw [encFrom_ok y hok]
    simp only [List.nil_append, if_true]
    have hsz : ((strOfNums (y.flatMap bytes6)).size : Int) = wrap64 (6 * (y.length : Int)) := by
      rw [strOfNums_size, flat_length]; unfold wrap64; omega
    rw [if_pos hsz, decode_enc y (by omega) hok]
    simp only [Option.bind_some]
    rw [same_self y (by omega) (k := K) (by omega)]
    rfl
  · rw [encFrom_no y hok]
    have e : (⟨#[]⟩ : ByteArray).toList = [] := by simp [ByteArray.toList, ByteArray.toList.loop, ByteArray.size]
    rw [if_neg (by decide), if_pos trivial, e]
    rfl

end Go.Proofs.Ytkjhklnjmpicgaa.Pure
