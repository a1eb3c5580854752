/- The law ScriptTimes, over numbers alone: twice as much time passes with one more D, and none of another kind. -/
import Derived.Test.YtkjhklnjmpicgaaQLx12
import Derived.Test.YtkjhklnjmpicgaaPS
namespace Go.Proofs.Ytkjhklnjmpicgaa.Pure
open Go.RowKit Go.Proofs.Ytkjhklnjmpicgaa.H Go.Proofs.Ytkjhklnjmpicgaa.QL Go.Proofs.Ytkjhklnjmpicgaa.PB Go.Proofs.YtkjhklnjmpicgaaW.PrintWords Go.Proofs.YtkjhklnjmpicgaaW.PrintLast
set_option linter.unusedSimpArgs false
set_option linter.unusedVariables false
/-- An entry's numbers are such. -/
abbrev Wf29 (x : S29) : Prop := (Lit.int .i64 x.f0).wf = true ∧ (Lit.int .i64 x.f1).wf = true ∧ (Lit.int .i64 x.f2).wf = true ∧ (Lit.int .i64 x.f3).wf = true ∧ (Lit.int .i64 x.f4).wf = true
theorem and_le (x : Int) (m : Nat) (hm : m < 4294967296) : 0 ≤ Go.bits .and .i64 x (m : Int) ∧ Go.bits .and .i64 x (m : Int) ≤ m := by
  have h : Go.bits .and .i64 x (m : Int) = IntKind.i64.wrap (((BitVec.ofInt 64 x).toNat &&& m : Nat) : Int) := by
    have hb : (m : Nat) % 2 ^ 64 = m := Nat.mod_eq_of_lt (by omega)
    show IntKind.i64.wrap (((BitVec.ofInt 64 x &&& BitVec.ofInt 64 (m : Int)).toNat : Nat) : Int) = _
    rw [BitVec.ofInt_natCast, BitVec.toNat_and, BitVec.toNat_ofNat, hb]
  rw [h, i64_w]
  have := @Nat.and_le_right (BitVec.ofInt 64 x).toNat m
  unfold wrap64; omega
theorem and_le' (x : Int) (m : Int) (h0 : 0 ≤ m) (hm : m < 4294967296) : 0 ≤ Go.bits .and .i64 x m ∧ Go.bits .and .i64 x m ≤ m := by
  obtain ⟨n, rfl⟩ := Int.eq_ofNat_of_zero_le h0
  exact and_le x n (by omega)
theorem u64_id (n : Int) (h : 0 ≤ n ∧ n < 18446744073709551616) : IntKind.u64.wrap n = n := by
  have e : IntKind.u64.wrap n = n % 18446744073709551616 := by simp [IntKind.wrap, IntKind.bits, IntKind.signed]
  omega
theorem pow_b (d : Nat) (hd : d ≤ 40) : 0 < (2 : Int) ^ d ∧ (2 : Int) ^ d ≤ 1099511627776 := by
  have h1 : (2 : Nat) ^ d ≤ 2 ^ 40 := Nat.pow_le_pow_right (by decide) hd
  have h2 : (2 : Nat) ^ 40 = 1099511627776 := by decide +kernel
  have h3 : 0 < (2 : Nat) ^ d := Nat.two_pow_pos d
  have h4 : (2 : Int) ^ d = (((2 : Nat) ^ d : Nat) : Int) := by rw [Int.natCast_pow]; rfl
  rw [h4]
  rw [h2] at h1
  generalize (2 : Nat) ^ d = p at h1 h3
  omega
theorem mul_b (b p : Int) (hb : 0 ≤ b ∧ b ≤ 65535) (hp : 0 < p ∧ p ≤ 1099511627776) : 0 ≤ b * p ∧ b * p ≤ 72056494526300160 := by
  have h4 : b * p ≤ 65535 * 1099511627776 := Int.mul_le_mul hb.2 hp.2 (Int.le_of_lt hp.1) (by decide)
  exact ⟨Int.mul_nonneg hb.1 (Int.le_of_lt hp.1), h4⟩
theorem dbl (t : Int) (h : 0 ≤ t ∧ t ≤ 72056494526300160) : IntKind.u64.wrap (2 * t) = 2 * t := u64_id _ ⟨by omega, by omega⟩
theorem pos_iff (b p : Int) (hb : 0 ≤ b) (hp : 0 < p) : decide (b > 0) = decide (b * p > 0) := by
  rw [decide_eq_decide]
  constructor
  · intro h; exact Int.mul_pos h hp
  · intro h
    rcases Int.lt_or_le 0 b with h1 | h1
    · exact h1
    · obtain rfl : b = 0 := Int.le_antisymm h1 hb
      rw [Int.zero_mul] at h
      exact absurd h (by decide)
/-- The time of an entry of the kind 4. -/
theorem time_at (a b c : Int) (d : Nat) (hb : 0 ≤ b ∧ b ≤ 65535) (hd : d ≤ 40) : script_Time.f 4 a b c (d : Int) = some (b * 2 ^ d) := by
  unfold script_Time.f
  have e : Int.tmod (d : Int) 41 = (d : Int) := Int.tmod_eq_of_lt (by omega) (by omega)
  rw [if_pos rfl, u64_id (d : Int) (by omega), u64_id b (by omega), e, if_pos (Int.natCast_nonneg d)]
  unfold shl
  have hm : min d IntKind.u64.bits = d := Nat.min_eq_left (by show d ≤ 64; omega)
  rw [Int.toNat_natCast, hm]
  have h := mul_b b _ hb (pow_b d hd)
  generalize b * 2 ^ d = t at h ⊢
  rw [u64_id t (by omega)]
theorem ScriptTimes (x : S29) (_hw : Wf29 x) : ∃ k, waymasterlaw18_ScriptTimes.f k x.f0 x.f1 x.f2 x.f3 x.f4 = some true := by
  refine ⟨1, ?_⟩
  obtain ⟨A, hA⟩ : ∃ A, Go.bits .and .i64 x.f1 255 = A := ⟨_, rfl⟩
  obtain ⟨C, hC⟩ : ∃ C, Go.bits .and .i64 x.f3 255 = C := ⟨_, rfl⟩
  obtain ⟨B, hB⟩ : ∃ B, Go.bits .and .i64 x.f2 65535 = B := ⟨_, rfl⟩
  obtain ⟨D, hD⟩ : ∃ D, Go.bits .and .i64 x.f4 255 = D := ⟨_, rfl⟩
  obtain ⟨K, hK⟩ : ∃ K, wrap64 (1 + (wrap64 (Int.tmod (IntKind.u64.wrap (x.f0)) 11))) = K := ⟨_, rfl⟩
  have rB : 0 ≤ B ∧ B ≤ 65535 := by rw [← hB]; exact and_le' x.f2 65535 (by decide) (by decide)
  have rD : 0 ≤ D ∧ D ≤ 255 := by rw [← hD]; exact and_le' x.f4 255 (by decide) (by decide)
  have hB' := hB
  have hD' := hD
  clear hB hD
  obtain ⟨d, hd⟩ : ∃ d : Nat, Int.tmod D 40 = (d : Int) ∧ d ≤ 39 := by
    have h1 : Int.tmod D 40 = D % 40 := Int.tmod_eq_emod_of_nonneg rD.1
    exact ⟨(D % 40).toNat, by rw [h1]; omega, by omega⟩
  obtain ⟨hd, hd2⟩ := hd
  have hw1 : wrap64 ((d : Int) + 1) = ((d + 1 : Nat) : Int) := by unfold wrap64; omega
  have key : waymasterlaw18_ScriptTimes.j0 1 true false 4 A B C (d : Int) 4 A B C ((d + 1 : Nat) : Int) = some true := by
    have hd40 : d ≤ 40 := Nat.le_trans hd2 (by decide)
    have hd41 : d + 1 ≤ 40 := Nat.succ_le_succ hd2
    have t1 := time_at A B C d rB hd40
    have t2 := time_at A B C (d + 1) rB hd41
    have hp := pow_b d hd40
    have h6 : B * 2 ^ (d + 1) = 2 * (B * 2 ^ d) := by rw [Int.pow_succ, ← Int.mul_assoc, Int.mul_comm]
    have hb := mul_b B _ rB hp
    have h8 := pos_iff B _ rB.1 hp.1
    have h7 := dbl _ hb
    simp only [waymasterlaw18_ScriptTimes.j0]
    rw [if_neg (by decide), t1, t2]
    simp only [Option.bind_some, if_true]
    rw [h7, if_pos h6]
    rw [h8]
    simp
  unfold waymasterlaw18_ScriptTimes.f waymasterlaw18_right.f
  rw [shown_true]
  simp only [Option.bind_some, hA, hC, hB', hD', hK, hd, hw1]
  by_cases h4 : K = 4
  · rw [if_pos h4]; exact key
  · rw [if_neg h4]
    have ht : script_Time.f K A B C D = some 0 := by unfold script_Time.f; rw [if_neg h4]
    rw [ht]
    exact key

end Go.Proofs.Ytkjhklnjmpicgaa.Pure
