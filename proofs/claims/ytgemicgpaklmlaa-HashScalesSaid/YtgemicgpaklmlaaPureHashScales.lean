import Derived.Test.YtgemicgpaklmlaaPS
namespace Go.Proofs.Ytgemicgpaklmlaa.Pure
open Go.RowKit Go.Proofs.Ytgemicgpaklmlaa.QL Go.Proofs.YtgemicgpaklmlaaW.PrintWords Go.Proofs.YtgemicgpaklmlaaW.PrintLast
open Go.Proofs.Ytgemicgpaklmlaa.PB

theorem HashScales : waymasterlaw07_HashScales.Pure := by
  intro a n h0 _
  have ha := u32_of h0
  unfold waymasterlaw07_HashScales.f
  by_cases hn : 1 ≤ n ∧ n ≤ 65536
  · rw [shown, Option.bind_some, scale_ok ha hn, Option.bind_some, rscale_ok ha hn, Option.bind_some, if_pos rfl, if_pos rfl, beq_self_eq_true]
  · rw [shown, Option.bind_some, scale_bad hn, Option.bind_some, rscale_bad hn, Option.bind_some, if_pos rfl, if_pos rfl, beq_self_eq_true]

end Go.Proofs.Ytgemicgpaklmlaa.Pure
