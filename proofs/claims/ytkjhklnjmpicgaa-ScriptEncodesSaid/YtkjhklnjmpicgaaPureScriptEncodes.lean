/- The law ScriptEncodes, over lists alone: the program's bytes of entries are the document's. -/
import Derived.Test.YtkjhklnjmpicgaaQLx16
import Derived.Test.YtkjhklnjmpicgaaPF
namespace Go.Proofs.Ytkjhklnjmpicgaa.Pure
open Go.RowKit Go.Proofs.Ytkjhklnjmpicgaa.H Go.Proofs.Ytkjhklnjmpicgaa.QL Go.Proofs.Ytkjhklnjmpicgaa.PB Go.Proofs.YtkjhklnjmpicgaaW.PrintWords Go.Proofs.YtkjhklnjmpicgaaW.PrintLast
set_option linter.unusedSimpArgs false
set_option linter.unusedVariables false
/-- An entry's numbers are such. -/
abbrev Wf29 (x : S29) : Prop := (Lit.int .i64 x.f0).wf = true ∧ (Lit.int .i64 x.f1).wf = true ∧ (Lit.int .i64 x.f2).wf = true ∧ (Lit.int .i64 x.f3).wf = true ∧ (Lit.int .i64 x.f4).wf = true
theorem cut_min (l : List S29) : 0 ≤ mn (l.length : Int) 200 ∧ mn (l.length : Int) 200 ≤ (l.length : Int) ∧ (mn (l.length : Int) 200).toNat ≤ 200 := by unfold mn; omega
theorem ScriptEncodes (l : List S29) (_hl : l.length ≤ maxLen) (_hw : ∀ x ∈ l, Wf29 x) : ∃ k, waymasterlaw18_ScriptEncodes.f k l = some true := by
  obtain ⟨K, hK⟩ : ∃ K, K = 300 := ⟨_, rfl⟩
  refine ⟨K, ?_⟩
  obtain ⟨h0, h1, h2⟩ := cut_min l
  unfold waymasterlaw18_ScriptEncodes.f
  rw [shown_true]
  simp only [Option.bind_some]
  rw [if_pos h0, if_pos h1]
  generalize hn : (mn (l.length : Int) 200).toNat = n at h2
  have hlen : (l.take n).length ≤ 200 := by rw [List.length_take]; omega
  rw [encode_f (l.take n) (by omega) (k := K) (by omega)]
  simp only [Option.bind_some]
  rw [refEncode_f (l.take n) (by omega) (k := K) (by omega)]
  simp

end Go.Proofs.Ytkjhklnjmpicgaa.Pure
