/- The law WrapMoves, overV numbers alone: what is added to both ends makes no difference to distance, order, overlap and room. -/
import Derived.Test.YtihonionnfeagaaQLx5
import Derived.Test.YtihonionnfeagaaPB
namespace Go.Proofs.Ytihonionnfeagaa.Pure
open Go.RowKit Go.Proofs.Ytihonionnfeagaa.H Go.Proofs.Ytihonionnfeagaa.QB Go.Proofs.Ytihonionnfeagaa.QL Go.Proofs.Ytihonionnfeagaa.PB Go.Proofs.YtihonionnfeagaaW.PrintWords Go.Proofs.YtihonionnfeagaaW.PrintLast
set_option linter.unusedSimpArgs false
set_option linter.unusedVariables false
theorem WrapMoves : waymasterlaw01_WrapMoves.Pure := by
  intro a b n s ha hb hn hs
  obtain ⟨hn0, hn1⟩ := u32_of hn
  unfold waymasterlaw01_WrapMoves.f
  have e1 : ((b + n) % 4294967296 - (a + n) % 4294967296) % 4294967296 = (b - a) % 4294967296 := by omega
  have e2 : ((a + n) % 4294967296 - (b + n) % 4294967296) % 4294967296 = (a - b) % 4294967296 := by omega
  have e3 : aheadB ((a + n) % 4294967296) ((b + n) % 4294967296) = aheadB a b := by unfold aheadB; rw [e1]
  have e4 : aheadB ((b + n) % 4294967296) ((a + n) % 4294967296) = aheadB b a := by unfold aheadB; rw [e2]
  have e5 : overV ((a + n) % 4294967296) ((b + n) % 4294967296) = overV a b := by unfold overV; rw [e4, e2]
  have e6 : wrap_Room.f ((a + n) % 4294967296) ((b + n) % 4294967296) s = wrap_Room.f a b s := by rw [room_f, room_f, e2]
  have e7 : ((a + n) % 4294967296 - a) % 4294967296 = n := by omega
  obtain ⟨x, y, hx⟩ := room_some a b s
  rw [shown_true, e6, hx]
  simp only [Option.bind_some, ite_t, far_f, ahead_f, over_f, e1, e3, e5, e7, beq_self_eq_true, if_true]

end Go.Proofs.Ytihonionnfeagaa.Pure
