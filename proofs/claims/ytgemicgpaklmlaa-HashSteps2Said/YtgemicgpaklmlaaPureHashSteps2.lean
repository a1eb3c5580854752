import Derived.Test.YtgemicgpaklmlaaQLx17
import Derived.Test.YtgemicgpaklmlaaPB
namespace Go.Proofs.Ytgemicgpaklmlaa.Pure
open Go.RowKit Go.Proofs.Ytgemicgpaklmlaa.QL Go.Proofs.YtgemicgpaklmlaaW.PrintWords Go.Proofs.YtgemicgpaklmlaaW.PrintLast
open Go.Proofs.Ytgemicgpaklmlaa.PB Go.Proofs.Ytgemicgpaklmlaa.H

theorem HashSteps2 : waymasterlaw07_HashSteps2.Pure := by
  intro a0 a1 a2 _ _ _
  have w2 : hash_Words.f a0 [a1, a2] = hash_End.f (mixI (mixI a0 a1) a2) 8 := rfl
  have w1 : hash_Words.f a0 [a1] = hash_End.f (mixI a0 a1) 4 := rfl
  have w0 : hash_Words.f a0 [] = hash_End.f a0 0 := rfl
  have ee : ∀ x y, hash_End.f x y = some (e5 (Go.bits .xor .u32 x y)) := fun _ _ => rfl
  unfold waymasterlaw07_HashSteps2.f
  rw [shown, Option.bind_some, if_pos rfl, w2, ee, Option.bind_some, H.mix_I, Option.bind_some, H.mix_I, Option.bind_some, ee, Option.bind_some, if_pos rfl, w0, ee, Option.bind_some, Option.bind_some, if_pos rfl, w1, ee, Option.bind_some, Option.bind_some, ee, Option.bind_some, beq_self_eq_true]

end Go.Proofs.Ytgemicgpaklmlaa.Pure
