/- The law ScriptDecodes, over bytes alone: the program's entries of a text are the document's. -/
import Derived.Test.YtkjhklnjmpicgaaQLx10
import Derived.Test.YtkjhklnjmpicgaaPS
namespace Go.Proofs.Ytkjhklnjmpicgaa.Pure
open Go.RowKit Go.Proofs.Ytkjhklnjmpicgaa.H Go.Proofs.Ytkjhklnjmpicgaa.QL Go.Proofs.Ytkjhklnjmpicgaa.PB Go.Proofs.YtkjhklnjmpicgaaW.PrintWords Go.Proofs.YtkjhklnjmpicgaaW.PrintLast
set_option linter.unusedSimpArgs false
set_option linter.unusedVariables false
theorem ScriptDecodes : waymasterlaw18_ScriptDecodes.Pure := by
  intro a ha
  obtain ⟨K, hK⟩ : ∃ K, K = 20010 := ⟨_, rfl⟩
  refine ⟨K, ?_⟩
  unfold waymasterlaw18_ScriptDecodes.f
  have hcut : ∃ b, waymasterlaw18_cut.f a = some b ∧ b.size ≤ 6000 := by
    unfold waymasterlaw18_cut.f
    have h0 : mn (a.size : Int) 6000 = ((min a.size 6000 : Nat) : Int) := by unfold mn; omega
    rw [h0, if_pos (by omega), if_pos (by omega)]
    refine ⟨_, rfl, ?_⟩
    simp
    omega
  obtain ⟨b, hb, hsz⟩ := hcut
  have hc : cnt b ≤ 10000 := by unfold cnt; omega
  rw [shown_true, hb]
  simp only [Option.bind_some, if_true]
  have h1 : script_Decode.f b = some (ents b (cnt b)) := by unfold script_Decode.f; rw [if_pos (by omega)]
  have h2 := refDecode b (by omega) (k := K) (by omega)
  have h3 := same_self (ents b (cnt b)) (by rw [ents_length]; omega) (k := K) (by rw [ents_length]; omega)
  rw [h1]
  simp only [Option.bind_some]
  rw [h2]
  simp only [Option.bind_some]
  rw [h3]
  rfl

end Go.Proofs.Ytkjhklnjmpicgaa.Pure
