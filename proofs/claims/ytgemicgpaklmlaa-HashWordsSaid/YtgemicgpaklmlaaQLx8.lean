/- Functions of the program as Lean functions, and the walks that show it, written by a program of this session on the base of the kit printer; Lean checks all of it. -/
import Derived.Test.YtgemicgpaklmlaaQLx0
namespace Go.Proofs.Ytgemicgpaklmlaa.QL
open Go.RowKit Go.Proofs.YtgemicgpaklmlaaW.PrintWords Go.Proofs.YtgemicgpaklmlaaW.PrintLast Go.Proofs.YtgemicgpaklmlaaW.PrintMore
attribute [local go_sem] max2_int min2_int max_two min_two max_three min_three max_four min_four   -- for this text's walks alone
set_option linter.unusedVariables false
set_option linter.unusedSimpArgs false

/-! ### waymasterref07_End: function 15 -/
def waymasterref07_End.f (a0 : Int) (a1 : Int) : Option (Int) := some (Go.bits .xor .u32 (((Go.bits .xor .u32 (((Go.bits .xor .u32 (Go.bits .xor .u32 a0 a1) ((Go.bits .xor .u32 a0 a1) / 65536)) * 2246822507) % 4294967296) ((((Go.bits .xor .u32 (Go.bits .xor .u32 a0 a1) ((Go.bits .xor .u32 a0 a1) / 65536)) * 2246822507) % 4294967296) / 8192)) * 3266489909) % 4294967296) ((((Go.bits .xor .u32 (((Go.bits .xor .u32 (Go.bits .xor .u32 a0 a1) ((Go.bits .xor .u32 a0 a1) / 65536)) * 2246822507) % 4294967296) ((((Go.bits .xor .u32 (Go.bits .xor .u32 a0 a1) ((Go.bits .xor .u32 a0 a1) / 65536)) * 2246822507) % 4294967296) / 8192)) * 3266489909) % 4294967296) / 65536))
set_option maxHeartbeats 8000000 in
set_option maxRecDepth 100000 in
theorem waymasterref07_End.calls (a0 : Int) (a1 : Int) (r : Int) (w : World) (h : waymasterref07_End.f a0 a1 = some r) :
    Calls Try.prog 15 #[.int .u32 a0, .int .u32 a1] w fun e w' => e = .returned (.int .u32 r) ∧ Drawn0 w w' := by
  have H : (some (Go.bits .xor .u32 (((Go.bits .xor .u32 (((Go.bits .xor .u32 (Go.bits .xor .u32 a0 a1) ((Go.bits .xor .u32 a0 a1) / 65536)) * 2246822507) % 4294967296) ((((Go.bits .xor .u32 (Go.bits .xor .u32 a0 a1) ((Go.bits .xor .u32 a0 a1) / 65536)) * 2246822507) % 4294967296) / 8192)) * 3266489909) % 4294967296) ((((Go.bits .xor .u32 (((Go.bits .xor .u32 (Go.bits .xor .u32 a0 a1) ((Go.bits .xor .u32 a0 a1) / 65536)) * 2246822507) % 4294967296) ((((Go.bits .xor .u32 (Go.bits .xor .u32 a0 a1) ((Go.bits .xor .u32 a0 a1) / 65536)) * 2246822507) % 4294967296) / 8192)) * 3266489909) % 4294967296) / 65536))) = some r := h
  clear h
  obtain rfl := Option.some.inj H
  go_enter Try.func15, Try.ntmps15
  go_wp2
  go_ret
  exact ⟨by first | rfl | (simp; done) | (simp [*]; done), by repeat (first | exact Drawn0.refl _ | apply Drawn0.step)⟩

end Go.Proofs.Ytgemicgpaklmlaa.QL
