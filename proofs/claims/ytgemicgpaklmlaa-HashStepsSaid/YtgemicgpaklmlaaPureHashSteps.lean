import Derived.Test.YtgemicgpaklmlaaPB
namespace Go.Proofs.Ytgemicgpaklmlaa.Pure
open Go.RowKit Go.Proofs.Ytgemicgpaklmlaa.QL Go.Proofs.YtgemicgpaklmlaaW.PrintWords Go.Proofs.YtgemicgpaklmlaaW.PrintLast
open Go.Proofs.Ytgemicgpaklmlaa.PB

theorem HashSteps : waymasterlaw07_HashSteps.Pure := by
  intro a0 a1 a2 h0 h1 _
  obtain ⟨a, rfl⟩ := of_wf h0
  obtain ⟨b, rfl⟩ := of_wf h1
  unfold waymasterlaw07_HashSteps.f
  rw [shown, Option.bind_some, if_pos rfl, PB.mix_I, Option.bind_some, rmix_I, Option.bind_some, if_pos rfl, end_I, Option.bind_some, rend_I, Option.bind_some, if_pos rfl, turn_I, Option.bind_some, rturn_I, Option.bind_some, beq_self_eq_true]

end Go.Proofs.Ytgemicgpaklmlaa.Pure
