/- The law HashTurns, over numbers alone: what is turned to and fro is as it was, and turns add up. -/
import Derived.Test.YtgemicgpaklmlaaQLx16
import Derived.Test.YtgemicgpaklmlaaPB
namespace Go.Proofs.Ytgemicgpaklmlaa.Pure
open Go.RowKit Go.Proofs.Ytgemicgpaklmlaa.QL Go.Proofs.YtgemicgpaklmlaaW.PrintWords Go.Proofs.YtgemicgpaklmlaaW.PrintLast
open Go.Proofs.Ytgemicgpaklmlaa.PB

theorem rot_bit (z : BitVec 32) (k i : Nat) (hk : k < 32) (hi : i < 32) : (rot z k).getLsbD i = z.getLsbD ((i + 32 - k) % 32) := by
  unfold rot
  rw [BitVec.getLsbD_or, BitVec.getLsbD_shiftLeft, BitVec.getLsbD_ushiftRight]
  by_cases hc : k ≤ i
  · have e : (i + 32 - k) % 32 = i - k := by omega
    rw [e, BitVec.getLsbD_of_ge z (32 - k + i) (by omega)]
    have h1 : decide (i < 32) = true := decide_eq_true hi
    have h2 : decide (i < k) = false := decide_eq_false (by omega)
    rw [h1, h2]
    simp
  · have e : (i + 32 - k) % 32 = 32 - k + i := by omega
    rw [e]
    have h2 : decide (i < k) = true := decide_eq_true (by omega)
    rw [h2]
    simp
theorem rot_rot (z : BitVec 32) (j k m : Nat) (hj : j < 32) (hk : k < 32) (hm : m < 32) (h : (j + k) % 32 = m) : rot (rot z j) k = rot z m := by
  apply BitVec.eq_of_getLsbD_eq
  intro i hi
  rw [rot_bit _ k i hk hi, rot_bit _ j _ hj (by omega), rot_bit _ m i hm hi]
  congr 1
  omega
theorem rot_amt (z : BitVec 32) (a b c : Int) (h : c = a + b) : rot (rot z (amt a)) (amt b) = rot z (amt c) := by
  refine rot_rot z _ _ _ (amt_lt a) (amt_lt b) (amt_lt c) ?_
  subst h
  unfold amt
  omega
theorem HashTurns : waymasterlaw07_HashTurns.Pure := by
  intro h a b h0 _ _
  obtain ⟨z, rfl⟩ := of_wf h0
  refine ⟨0 + 1, ?_⟩
  unfold waymasterlaw07_HashTurns.f
  rw [shown, Option.bind_some]
  have yes : waymasterlaw07_HashTurns.j0 (0 + 1) (I z) a b true true = some true := by
    rw [waymasterlaw07_HashTurns.j0]
    rw [if_pos rfl]
  by_cases h1 : a < -1000
  · rw [if_pos h1]; exact yes
  by_cases h2 : a > 1000
  · rw [if_neg h1, if_pos h2]; exact yes
  by_cases h3 : b < -1000
  · rw [if_neg h1, if_neg h2, if_pos h3]; exact yes
  by_cases h4 : b > 1000
  · rw [if_neg h1, if_neg h2, if_neg h3, decide_eq_true h4]; exact yes
  rw [if_neg h1, if_neg h2, if_neg h3, decide_eq_false h4]
  rw [waymasterlaw07_HashTurns.j0]
  have w1 : wrap64 (-a) = -a := by unfold wrap64; omega
  have w2 : wrap64 (a + b) = a + b := by unfold wrap64; omega
  have a0 : amt 0 = 0 := by decide
  have a32 : amt 32 = 0 := by decide
  rw [if_neg (by decide), if_pos rfl, turn_I, Option.bind_some, w1, turn_I, Option.bind_some, rot_amt z a (-a) 0 (by omega), a0, rot_zero, if_pos rfl, turn_I, Option.bind_some, turn_I, Option.bind_some, w2, turn_I, Option.bind_some, rot_amt z a b (a + b) rfl, if_pos rfl, Option.bind_some, a32, rot_zero, beq_self_eq_true]

end Go.Proofs.Ytgemicgpaklmlaa.Pure
