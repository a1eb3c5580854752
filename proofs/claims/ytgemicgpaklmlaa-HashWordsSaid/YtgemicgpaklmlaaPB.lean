/- Turning, mixing, ending: plain facts over words of 32 bits. -/
import Derived.Test.YtgemicgpaklmlaaQLx9
namespace Go.Proofs.Ytgemicgpaklmlaa.PB
open Go.RowKit Go.Proofs.Ytgemicgpaklmlaa.QL Go.Proofs.Ytgemicgpaklmlaa.QB Go.Proofs.Ytgemicgpaklmlaa.H Go.Proofs.YtgemicgpaklmlaaW.PrintWords Go.Proofs.YtgemicgpaklmlaaW.PrintLast Go.Proofs.YtgemicgpaklmlaaW.PrintMore

def I (b : BitVec 32) : Int := (b.toNat : Int)
theorem I_inj {a b : BitVec 32} (h : I a = I b) : a = b := BitVec.eq_of_toNat_eq (by unfold I at h; omega)
theorem I_beq (a b : BitVec 32) : (I a == I b) = (a == b) := by
  by_cases h : a = b
  · subst h
    rw [beq_self_eq_true, beq_self_eq_true]
  · have : I a ≠ I b := fun e => h (I_inj e)
    rw [beq_eq_false_iff_ne.2 this, beq_eq_false_iff_ne.2 h]
theorem of_wf {n : Int} (h : (Lit.int .u32 n).wf = true) : ∃ b : BitVec 32, n = I b := by
  have hr : 0 ≤ n ∧ n < 4294967296 := by
    simp [Lit.wf, IntKind.min, IntKind.max, IntKind.bits, IntKind.signed] at h
    omega
  refine ⟨BitVec.ofInt 32 n, ?_⟩
  unfold I
  rw [BitVec.toNat_ofInt]
  omega
theorem ofInt_I (a : BitVec 32) : BitVec.ofInt 32 (I a) = a := by
  apply BitVec.eq_of_toNat_eq
  unfold I
  rw [BitVec.toNat_ofInt]
  have := a.isLt
  omega
theorem wrap_u32 (n : Int) : IntKind.u32.wrap n = n % 4294967296 := by simp [IntKind.wrap, IntKind.bits, IntKind.signed]
theorem wrapI (a : BitVec 32) : IntKind.u32.wrap (a.toNat : Int) = I a := by
  rw [wrap_u32]
  have := a.isLt
  unfold I
  omega
theorem xorI (a b : BitVec 32) : Go.bits .xor .u32 (I a) (I b) = I (a ^^^ b) := by
  show IntKind.u32.wrap ((BitVec.ofInt 32 (I a) ^^^ BitVec.ofInt 32 (I b)).toNat : Int) = _
  rw [ofInt_I, ofInt_I, wrapI]
theorem orI (a b : BitVec 32) : Go.bits .or .u32 (I a) (I b) = I (a ||| b) := by
  show IntKind.u32.wrap ((BitVec.ofInt 32 (I a) ||| BitVec.ofInt 32 (I b)).toNat : Int) = _
  rw [ofInt_I, ofInt_I, wrapI]
theorem shlI (a : BitVec 32) (k : Nat) (hk : k ≤ 32) : shl .u32 (I a) (k : Int) = I (a <<< k) := by
  unfold shl I
  have e : min ((k : Int)).toNat IntKind.u32.bits = k := by simp [IntKind.bits]; omega
  rw [e, wrap_u32, BitVec.toNat_shiftLeft, Nat.shiftLeft_eq]
  simp
theorem shrI (a : BitVec 32) (k : Nat) (hk : k ≤ 32) : shr .u32 (I a) (k : Int) = I (a >>> k) := by
  unfold shr I
  have e : min ((k : Int)).toNat IntKind.u32.bits = k := by simp [IntKind.bits]; omega
  rw [e, BitVec.toNat_ushiftRight, Nat.shiftRight_eq_div_pow]
  simp
theorem mulI (a b : BitVec 32) : (I a * I b) % 4294967296 = I (a * b) := by
  unfold I
  rw [BitVec.toNat_mul]
  simp
theorem addI (a b : BitVec 32) : (I a + I b) % 4294967296 = I (a + b) := by
  unfold I
  rw [BitVec.toNat_add]
  simp

/-- A number turned left. -/
def rot (a : BitVec 32) (k : Nat) : BitVec 32 := (a <<< k) ||| (a >>> (32 - k))
def amt (n : Int) : Nat := (n % 32).toNat
theorem amt_lt (n : Int) : amt n < 32 := by unfold amt; omega
theorem and31 (n : Int) (h : 0 ≤ n) : Go.bits .and .u64 n 31 = n % 32 := by
  obtain ⟨m, rfl⟩ : ∃ m : Nat, n = m := ⟨n.toNat, by omega⟩
  show IntKind.u64.wrap ((BitVec.ofInt 64 (m : Int) &&& BitVec.ofInt 64 31).toNat : Int) = _
  have e : IntKind.u64.wrap = fun n => n % 18446744073709551616 := by funext n; simp [IntKind.wrap, IntKind.bits, IntKind.signed]
  rw [e, BitVec.toNat_and, BitVec.toNat_ofInt]
  have e1 : (BitVec.ofInt 64 31).toNat = 2 ^ 5 - 1 := by decide
  rw [e1, Nat.and_two_pow_sub_one_eq_mod]
  have e2 : (((m : Int)) % ((2 ^ 64 : Nat) : Int)).toNat = m % 2 ^ 64 := by omega
  rw [e2]
  show ((m % 2 ^ 64 % 2 ^ 5 : Nat) : Int) % 18446744073709551616 = _
  omega
theorem wrap_u64 (n : Int) : IntKind.u64.wrap n = n % 18446744073709551616 := by simp [IntKind.wrap, IntKind.bits, IntKind.signed]
theorem turn_I (a : BitVec 32) (n : Int) : hash_Turn.f (I a) n = some (I (rot a (amt n))) := by
  unfold hash_Turn.f QA.bits_RotateLeft32.f
  have e : Go.bits .and .u64 (IntKind.u64.wrap (n.tmod 32)) 31 = (amt n : Int) := by
    rw [and31 _ (by rw [wrap_u64]; omega), wrap_u64]
    unfold amt
    have := Int.tmod_def n 32
    have := Int.emod_def n 32
    by_cases hn : 0 ≤ n
    · rw [Int.tmod_eq_emod_of_nonneg hn]; omega
    · have h2 : n.tmod 32 = -((-n) % 32) := by
        have : n = -(-n) := by omega
        rw [this, Int.neg_tmod, Int.tmod_eq_emod_of_nonneg (by omega), Int.neg_neg]
      rw [h2]
      omega
  have hlt := amt_lt n
  have e2 : IntKind.u64.wrap (32 - (amt n : Int)) = ((32 - amt n : Nat) : Int) := by rw [wrap_u64]; omega
  rw [e, e2, if_pos (by omega), if_pos (by omega), shlI _ _ (by omega), shrI _ _ (by omega), orI]
  rfl

theorem rot_zero (a : BitVec 32) : rot a 0 = a := by
  unfold rot
  ext i hi
  simp
theorem tmod_cases (n : Int) : n.tmod 32 = if n.tmod 32 < 0 then (amt n : Int) - 32 else (amt n : Int) := by
  unfold amt
  by_cases hn : 0 ≤ n
  · have h := Int.tmod_eq_emod_of_nonneg (b := 32) hn
    rw [if_neg (by omega), h]
    omega
  · have h2 : n.tmod 32 = -((-n) % 32) := by
      have : n = -(-n) := by omega
      rw [this, Int.neg_tmod, Int.tmod_eq_emod_of_nonneg (by omega), Int.neg_neg]
    by_cases hz : n.tmod 32 < 0
    · rw [if_pos hz]; omega
    · rw [if_neg hz]; omega
theorem tmod_neg (n : Int) (h : n.tmod 32 < 0) : amt n ≠ 0 := by
  unfold amt
  by_cases hn : 0 ≤ n
  · have h' := Int.tmod_eq_emod_of_nonneg (b := 32) hn
    omega
  · have h2 : n.tmod 32 = -((-n) % 32) := by
      have : n = -(-n) := by omega
      rw [this, Int.neg_tmod, Int.tmod_eq_emod_of_nonneg (by omega), Int.neg_neg]
    omega
theorem rturn_I (a : BitVec 32) (n : Int) : waymasterref07_Turn.f (I a) n = some (I (rot a (amt n))) := by
  have hc := tmod_cases n
  have hlt := amt_lt n
  have hng := tmod_neg n
  unfold waymasterref07_Turn.f
  generalize n.tmod 32 = q at hc hng ⊢
  generalize amt n = m at hc hlt hng ⊢
  have w64 : ∀ x : Int, 0 ≤ x → x ≤ 32 → wrap64 x = x := fun x h1 h2 => by unfold wrap64; omega
  have wu : ∀ x : Int, 0 ≤ x → x ≤ 32 → IntKind.u64.wrap x = x := fun x h1 h2 => by rw [wrap_u64]; omega
  by_cases hq : q < 0
  · rw [if_pos hq] at hc
    have e : q + 32 = (m : Int) := by omega
    have hz := hng hq
    rw [if_pos hq, e, w64 (m : Int) (by omega) (by omega)]
    have e3 : (32 : Int) - (m : Int) = ((32 - m : Nat) : Int) := by omega
    rw [if_neg (show ¬ (m : Int) = 0 by omega), e3, w64 ((32 - m : Nat) : Int) (by omega) (by omega), wu (m : Int) (by omega) (by omega), wu ((32 - m : Nat) : Int) (by omega) (by omega), if_pos (show (0 : Int) ≤ (m : Int) by omega), if_pos (show (0 : Int) ≤ ((32 - m : Nat) : Int) by omega), shlI a m (by omega), shrI a (32 - m) (by omega), orI]
    rfl
  · rw [if_neg hq] at hc
    rw [if_neg hq, hc]
    by_cases hz : m = 0
    · subst hz
      rw [if_pos (show ((0 : Nat) : Int) = 0 from rfl), rot_zero]
    · have e3 : (32 : Int) - (m : Int) = ((32 - m : Nat) : Int) := by omega
      rw [if_neg (show ¬ (m : Int) = 0 by omega), e3, w64 ((32 - m : Nat) : Int) (by omega) (by omega), wu (m : Int) (by omega) (by omega), wu ((32 - m : Nat) : Int) (by omega) (by omega), if_pos (show (0 : Int) ≤ (m : Int) by omega), if_pos (show (0 : Int) ≤ ((32 - m : Nat) : Int) by omega), shlI a m (by omega), shrI a (32 - m) (by omega), orI]
      rfl

def mixB (h k : BitVec 32) : BitVec 32 := rot (h ^^^ rot (k * 3432918353#32) 15 * 461845907#32) 13 * 5#32 + 3864292196#32
theorem mix_I (a b : BitVec 32) : hash_Mix.f (I a) (I b) = some (I (mixB a b)) := by
  unfold hash_Mix.f
  have e1 : (3432918353 : Int) = I 3432918353#32 := by decide
  have e2 : (461845907 : Int) = I 461845907#32 := by decide
  have e3 : (5 : Int) = I 5#32 := by decide
  have e4 : (3864292196 : Int) = I 3864292196#32 := by decide
  rw [e1, e2, e3, e4, mulI, turn_I, Option.bind_some, mulI, xorI, turn_I, Option.bind_some, mulI, addI]
  rfl
theorem rmix_I (a b : BitVec 32) : waymasterref07_Mix.f (I a) (I b) = some (I (mixB a b)) := by
  unfold waymasterref07_Mix.f
  have e1 : (3432918353 : Int) = I 3432918353#32 := by decide
  have e2 : (461845907 : Int) = I 461845907#32 := by decide
  have e3 : (5 : Int) = I 5#32 := by decide
  have e4 : (3864292196 : Int) = I 3864292196#32 := by decide
  rw [e1, e2, e3, e4, mulI, rturn_I, Option.bind_some, mulI, xorI, rturn_I, Option.bind_some, mulI, addI]
  rfl
def fold (h : BitVec 32) (k : Nat) : BitVec 32 := h ^^^ (h >>> k)
def endB (h n : BitVec 32) : BitVec 32 := fold (fold (fold (h ^^^ n) 16 * 2246822507#32) 13 * 3266489909#32) 16
theorem foldI (a : BitVec 32) (k : Nat) (hk : k ≤ 32) : foldV (I a) (k : Int) = I (fold a k) := by
  unfold foldV fold
  rw [shrI _ _ hk, xorI]
theorem end_I (a b : BitVec 32) : hash_End.f (I a) (I b) = some (I (endB a b)) := by
  unfold hash_End.f e5 e4 e3 e2 e1
  have c1 : (16 : Int) = ((16 : Nat) : Int) := rfl
  have c2 : (13 : Int) = ((13 : Nat) : Int) := rfl
  have m1 : (2246822507 : Int) = I 2246822507#32 := by decide
  have m2 : (3266489909 : Int) = I 3266489909#32 := by decide
  rw [c1, c2, xorI, foldI _ _ (by decide), m1, m2, mulI, foldI _ _ (by decide), mulI, foldI _ _ (by decide)]
  rfl
theorem divI (a : BitVec 32) (k : Nat) (m : Int) (hm : m = ((2 ^ k : Nat) : Int)) : I a / m = I (a >>> k) := by
  subst hm
  unfold I
  rw [BitVec.toNat_ushiftRight, Nat.shiftRight_eq_div_pow]
  omega
theorem rend_I (a b : BitVec 32) : waymasterref07_End.f (I a) (I b) = some (I (endB a b)) := by
  unfold waymasterref07_End.f
  have m1 : (2246822507 : Int) = I 2246822507#32 := by decide
  have m2 : (3266489909 : Int) = I 3266489909#32 := by decide
  rw [m1, m2]
  simp only [xorI, mulI, divI _ 16 65536 (by decide), divI _ 13 8192 (by decide)]
  rfl
theorem shown : waymasterlaw07_shown.f = some true := by decide +kernel
end Go.Proofs.Ytgemicgpaklmlaa.PB
