/- The law HashWords, over numbers and lists alone: the number of some words is the document's. -/
import Derived.Test.YtgemicgpaklmlaaQLx11
import Derived.Test.YtgemicgpaklmlaaPF
namespace Go.Proofs.Ytgemicgpaklmlaa.Pure
open Go.RowKit Go.Proofs.Ytgemicgpaklmlaa.QL Go.Proofs.YtgemicgpaklmlaaW.PrintWords Go.Proofs.YtgemicgpaklmlaaW.PrintLast
open Go.Proofs.Ytgemicgpaklmlaa.PB

theorem cut_min (l : List Int) : 0 ≤ mn (l.length : Int) 100 ∧ mn (l.length : Int) 100 ≤ (l.length : Int) ∧ (mn (l.length : Int) 100).toNat ≤ 100 := by unfold mn; omega
theorem HashWords (a0 : Int) (l : List Int) (h0 : (Lit.int .u32 a0).wf = true) (_ : l.length ≤ maxLen) (hw : ∀ x ∈ l, (Lit.int .u32 x).wf = true) : ∃ k, waymasterlaw07_HashWords.f k a0 l = some true := by
  obtain ⟨s, rfl⟩ := of_wf h0
  obtain ⟨h1, h2, h3⟩ := cut_min l
  refine ⟨200, ?_⟩
  unfold waymasterlaw07_HashWords.f
  rw [shown, Option.bind_some, if_pos h1, if_pos h2, if_pos rfl]
  generalize (mn (l.length : Int) 100).toNat = n at h3 ⊢
  have hlen : (l.take n).length ≤ 100 := by rw [List.length_take]; omega
  have hall : AllB (l.take n) := fun x hx => hw x (List.mem_of_mem_take hx)
  generalize l.take n = y at hlen hall
  obtain ⟨r, e1, e2⟩ := words_same s y hall (by omega) 200 (by omega)
  rw [e1, Option.bind_some, e2, Option.bind_some, beq_self_eq_true]

end Go.Proofs.Ytgemicgpaklmlaa.Pure
