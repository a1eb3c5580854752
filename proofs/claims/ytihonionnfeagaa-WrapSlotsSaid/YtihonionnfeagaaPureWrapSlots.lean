/- The law WrapSlots, overV numbers alone: the program's slot and room are the document's, for any two indexes and any size. -/
import Derived.Test.YtihonionnfeagaaQLx2
import Derived.Test.YtihonionnfeagaaPB
namespace Go.Proofs.Ytihonionnfeagaa.Pure
open Go.RowKit Go.Proofs.Ytihonionnfeagaa.H Go.Proofs.Ytihonionnfeagaa.QB Go.Proofs.Ytihonionnfeagaa.QL Go.Proofs.Ytihonionnfeagaa.PB Go.Proofs.YtihonionnfeagaaW.PrintWords Go.Proofs.YtihonionnfeagaaW.PrintLast
set_option linter.unusedSimpArgs false
set_option linter.unusedVariables false
theorem WrapSlots : waymasterlaw01_WrapSlots.Pure := by
  intro a b s ha hb hs
  refine ⟨20, ?_⟩
  unfold waymasterlaw01_WrapSlots.f
  obtain ⟨x, y, hx⟩ := slot_some a s
  obtain ⟨z, w, hz⟩ := room_some a b s
  rw [shown_true, refSlot a s (u32_of ha), refRoom, hx, hz]
  simp [wrap_IsSize.f, refIs]

end Go.Proofs.Ytihonionnfeagaa.Pure
