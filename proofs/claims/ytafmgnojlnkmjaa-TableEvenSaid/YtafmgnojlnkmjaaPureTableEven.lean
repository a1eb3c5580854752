/- The law TableEven, over numbers and lists alone. -/
import Derived.Test.YtafmgnojlnkmjaaQLx11
import Derived.Test.YtafmgnojlnkmjaaPE
namespace Go.Proofs.Ytafmgnojlnkmjaa.Pure
open Go.RowKit Go.Proofs.Ytafmgnojlnkmjaa.QL Go.Proofs.Ytafmgnojlnkmjaa.H Go.Proofs.Ytafmgnojlnkmjaa.PB Go.Proofs.YtafmgnojlnkmjaaW.PrintWords Go.Proofs.YtafmgnojlnkmjaaW.PrintLast
set_option linter.unusedVariables false

theorem TableEven : waymasterlaw08_TableEven.Pure := by
  intro n m _ _
  obtain ⟨K, hK⟩ : ∃ K, K = 400 := ⟨_, rfl⟩
  refine ⟨K, ?_⟩
  unfold waymasterlaw08_TableEven.f
  rw [shown_true (by omega), Option.bind_some]
  by_cases h : 1 ≤ n ∧ n ≤ 64 ∧ 1 ≤ m ∧ m ≤ 16 ∧ m ≤ n
  · obtain ⟨h1, h2, h3, h4, h5⟩ := h
    obtain ⟨c, s, hE⟩ := even_yes h1 h2 h3 h4 h5
    have hl := hE.len
    have hs := hE.cnt
    rw [hE.f K (by omega), Option.bind_some, hE.r K (by omega), Option.bind_some, if_pos rfl]
    dsimp only
    rw [sameT_self n c s (by omega) (by omega) (by omega), Option.bind_some, if_pos rfl, if_pos rfl, if_pos rfl]
    show (some (rightB n c s)).bind _ = _
    rw [even_right h1 h2 h3 h4 hE]
    rfl
  · obtain ⟨h1, h2⟩ := even_no h (k := K) (by omega)
    rw [h1, Option.bind_some, h2, Option.bind_some, if_pos rfl]
    dsimp only
    rw [sameT_self 0 [] [] (by simp) (by simp) (by omega), Option.bind_some, if_pos rfl, if_pos rfl, if_neg (by omega)]
end Go.Proofs.Ytafmgnojlnkmjaa.Pure
