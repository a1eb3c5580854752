/- The law WrapRooms, overV numbers alone: a ring of any size holding n has room for size - n, and none where n is more. -/
import Derived.Test.YtihonionnfeagaaQLx3
import Derived.Test.YtihonionnfeagaaPB
namespace Go.Proofs.Ytihonionnfeagaa.Pure
open Go.RowKit Go.Proofs.Ytihonionnfeagaa.H Go.Proofs.Ytihonionnfeagaa.QB Go.Proofs.Ytihonionnfeagaa.QL Go.Proofs.Ytihonionnfeagaa.PB Go.Proofs.YtihonionnfeagaaW.PrintWords Go.Proofs.YtihonionnfeagaaW.PrintLast
set_option linter.unusedSimpArgs false
set_option linter.unusedVariables false
theorem WrapRooms : waymasterlaw01_WrapRooms.Pure := by
  intro a n s ha hn hs
  refine ⟨1, ?_⟩
  unfold waymasterlaw01_WrapRooms.f
  rw [shown_true]
  simp only [Option.bind_some, wrap_IsSize.f]
  by_cases h0 : n < 0
  · rw [if_pos h0]; rfl
  rw [if_neg h0]
  by_cases h1 : n > 5000
  · rw [if_pos h1]; rfl
  rw [if_neg h1]
  cases h : isPow s with
  | false => rfl
  | true =>
    simp only [waymasterlaw01_WrapRooms.j0, room_f, h, Bool.not_true, ite_t, ite_f]
    rw [show ((a + n % 4294967296) % 4294967296 - a) % 4294967296 = n by omega]
    obtain ⟨h2, h3⟩ := pow_range h
    by_cases h4 : n > s
    · simp [h4]
    · simp [h4, show wrap64 (s - n) = s - n by unfold wrap64; omega]

end Go.Proofs.Ytihonionnfeagaa.Pure
