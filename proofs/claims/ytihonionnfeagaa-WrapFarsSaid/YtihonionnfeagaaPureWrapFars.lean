/- The law WrapFars, overV numbers alone: the program's distance, order and overlap are the document's, for any two indexes. -/
import Derived.Test.YtihonionnfeagaaQLx4
import Derived.Test.YtihonionnfeagaaPB
namespace Go.Proofs.Ytihonionnfeagaa.Pure
open Go.RowKit Go.Proofs.Ytihonionnfeagaa.H Go.Proofs.Ytihonionnfeagaa.QB Go.Proofs.Ytihonionnfeagaa.QL Go.Proofs.Ytihonionnfeagaa.PB Go.Proofs.YtihonionnfeagaaW.PrintWords Go.Proofs.YtihonionnfeagaaW.PrintLast
set_option linter.unusedSimpArgs false
set_option linter.unusedVariables false
theorem WrapFars : waymasterlaw01_WrapFars.Pure := by
  intro a b ha hb
  unfold waymasterlaw01_WrapFars.f
  simp [shown_true, ahead_f, refAhead, over_f, refOver, far_f, refFar]

end Go.Proofs.Ytihonionnfeagaa.Pure
