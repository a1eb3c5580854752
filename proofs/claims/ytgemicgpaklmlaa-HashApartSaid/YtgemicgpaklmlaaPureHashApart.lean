import Derived.Test.YtgemicgpaklmlaaQLx14
import Derived.Test.YtgemicgpaklmlaaPB
namespace Go.Proofs.Ytgemicgpaklmlaa.Pure
open Go.RowKit Go.Proofs.Ytgemicgpaklmlaa.QL Go.Proofs.YtgemicgpaklmlaaW.PrintWords Go.Proofs.YtgemicgpaklmlaaW.PrintLast
open Go.Proofs.Ytgemicgpaklmlaa.PB

theorem fold_inj (k : Nat) (hk : 0 < k) {x y : BitVec 32} (h : fold x k = fold y k) : x = y := by
  have hb : ∀ i, (x.getLsbD i ^^ x.getLsbD (k + i)) = (y.getLsbD i ^^ y.getLsbD (k + i)) := by
    intro i
    have := congrArg (fun b => b.getLsbD i) h
    simpa [fold] using this
  have hi : ∀ d i, 32 ≤ i + d → x.getLsbD i = y.getLsbD i := by
    intro d
    induction d with
    | zero => intro i hi; rw [BitVec.getLsbD_of_ge x i (by omega), BitVec.getLsbD_of_ge y i (by omega)]
    | succ d ih =>
      intro i hi
      have h1 := ih (k + i) (by omega)
      have h2 := hb i
      rw [h1] at h2
      revert h2
      cases x.getLsbD i <;> cases y.getLsbD i <;> cases y.getLsbD (k + i) <;> simp
  apply BitVec.eq_of_getLsbD_eq
  intro i _
  exact hi 32 i (by omega)
theorem mul_inj (c d : BitVec 32) (hcd : c * d = 1#32) {x y : BitVec 32} (h : x * c = y * c) : x = y := by
  have := congrArg (· * d) h
  simp only [BitVec.mul_assoc, hcd, BitVec.mul_one] at this
  exact this
theorem xor_inj {x y k : BitVec 32} (h : x ^^^ k = y ^^^ k) : x = y := by
  have := congrArg (· ^^^ k) h
  simpa [BitVec.xor_assoc] using this
theorem rot_inj (k : Nat) (hk : k < 32) {x y : BitVec 32} (h : rot x k = rot y k) : x = y := by
  apply BitVec.eq_of_getLsbD_eq
  intro i hi
  have hr : ∀ z : BitVec 32, (rot z k).getLsbD ((i + k) % 32) = z.getLsbD i := by
    intro z
    unfold rot
    rw [BitVec.getLsbD_or, BitVec.getLsbD_shiftLeft, BitVec.getLsbD_ushiftRight]
    by_cases hc : i + k < 32
    · have e : (i + k) % 32 = i + k := by omega
      rw [e, BitVec.getLsbD_of_ge z (32 - k + (i + k)) (by omega)]
      have e2 : i + k - k = i := by omega
      rw [e2]
      have h1 : decide (i + k < 32) = true := decide_eq_true hc
      have h2 : decide (i + k < k) = false := decide_eq_false (by omega)
      rw [h1, h2]
      simp
    · have e : (i + k) % 32 = i + k - 32 := by omega
      rw [e]
      have e2 : 32 - k + (i + k - 32) = i := by omega
      have h2 : decide (i + k - 32 < k) = true := decide_eq_true (by omega)
      rw [e2, h2]
      simp
  rw [← hr x, ← hr y, h]
theorem endB_inj {x y n : BitVec 32} (h : endB x n = endB y n) : x = y := by
  unfold endB at h
  have i1 : (2246822507#32 * 0xa5cb9243#32 : BitVec 32) = 1#32 := by decide +kernel
  have i2 : (3266489909#32 * 0x7ed1b41d#32 : BitVec 32) = 1#32 := by decide +kernel
  generalize 2246822507#32 = c1 at h i1
  generalize 3266489909#32 = c2 at h i2
  exact xor_inj (fold_inj 16 (by decide) (mul_inj c1 _ i1 (fold_inj 13 (by decide) (mul_inj c2 _ i2 (fold_inj 16 (by decide) h)))))
theorem xor_inj' {x y k : BitVec 32} (h : k ^^^ x = k ^^^ y) : x = y := by
  rw [BitVec.xor_comm k x, BitVec.xor_comm k y] at h
  exact xor_inj h
theorem add_inj {x y k : BitVec 32} (h : x + k = y + k) : x = y := by
  have := congrArg (· - k) h
  simpa using this
theorem mixB_inj {x y k : BitVec 32} (h : mixB x k = mixB y k) : x = y := by
  unfold mixB at h
  have i1 : (5#32 * 0xcccccccd#32 : BitVec 32) = 1#32 := by decide +kernel
  have h1 := rot_inj 13 (by decide) (mul_inj 5#32 _ i1 (add_inj h))
  exact xor_inj h1
theorem mixB_inj' {x y k : BitVec 32} (h : mixB k x = mixB k y) : x = y := by
  unfold mixB at h
  have i1 : (5#32 * 0xcccccccd#32 : BitVec 32) = 1#32 := by decide +kernel
  have i2 : (461845907#32 * 0x56ed309b#32 : BitVec 32) = 1#32 := by decide +kernel
  have i3 : (3432918353#32 * 0xdee13bb1#32 : BitVec 32) = 1#32 := by decide +kernel
  generalize 3432918353#32 = c1 at h i3
  generalize 461845907#32 = c2 at h i2
  have h1 := rot_inj 13 (by decide) (mul_inj 5#32 _ i1 (add_inj h))
  exact mul_inj c1 _ i3 (rot_inj 15 (by decide) (mul_inj c2 _ i2 (xor_inj' h1)))
theorem same {x y a b : BitVec 32} (h : x = y ↔ a = b) : ((I x == I y) == (I a == I b)) = true := by
  rw [I_beq, I_beq]
  by_cases e : a = b
  · rw [e, h.2 e, beq_self_eq_true, beq_self_eq_true]
    rfl
  · rw [beq_eq_false_iff_ne.2 e, beq_eq_false_iff_ne.2 (fun e' => e (h.1 e'))]
    rfl

theorem HashApart : waymasterlaw07_HashApart.Pure := by
  intro a0 a1 a2 h0 h1 h2
  obtain ⟨a, rfl⟩ := of_wf h0
  obtain ⟨b, rfl⟩ := of_wf h1
  obtain ⟨k, rfl⟩ := of_wf h2
  have m1 := PB.mix_I a k
  have m2 := PB.mix_I b k
  have m3 := PB.mix_I k a
  have m4 := PB.mix_I k b
  have m5 := end_I a k
  have m6 := end_I b k
  have s1 := same (x := mixB a k) (y := mixB b k) (a := a) (b := b) ⟨mixB_inj, fun e => by rw [e]⟩
  have s2 := same (x := mixB k a) (y := mixB k b) (a := a) (b := b) ⟨mixB_inj', fun e => by rw [e]⟩
  have s3 := same (x := endB a k) (y := endB b k) (a := a) (b := b) ⟨endB_inj, fun e => by rw [e]⟩
  generalize mixB a k = x1 at m1 s1
  generalize mixB b k = x2 at m2 s1
  generalize mixB k a = x3 at m3 s2
  generalize mixB k b = x4 at m4 s2
  generalize endB a k = x5 at m5 s3
  generalize endB b k = x6 at m6 s3
  unfold waymasterlaw07_HashApart.f
  rw [shown, Option.bind_some, if_pos rfl, m1, Option.bind_some, m2, Option.bind_some, if_pos s1, m3, Option.bind_some, m4, Option.bind_some, if_pos s2, m5, Option.bind_some, m6, Option.bind_some, s3]

end Go.Proofs.Ytgemicgpaklmlaa.Pure
