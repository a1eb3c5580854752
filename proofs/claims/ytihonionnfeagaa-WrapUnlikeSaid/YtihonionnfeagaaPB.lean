/- Plain facts about numbers that go round, for the laws of layer 1. -/
import Derived.Test.YtihonionnfeagaaQLx1
import Derived.Test.YtihonionnfeagaaQLx2
import Derived.Test.YtihonionnfeagaaQLx4
import Derived.Test.YtihonionnfeagaaH2
namespace Go.Proofs.Ytihonionnfeagaa.PB
open Go.RowKit Go.Proofs.Ytihonionnfeagaa.H Go.Proofs.Ytihonionnfeagaa.QB Go.Proofs.Ytihonionnfeagaa.QL Go.Proofs.YtihonionnfeagaaW.PrintWords Go.Proofs.YtihonionnfeagaaW.PrintLast
set_option linter.unusedSimpArgs false

theorem shown_true : waymasterlaw01_shown.f = some true := by decide +kernel
theorem u32_of {a : Int} (h : (Lit.int .u32 a).wf = true) : 0 ≤ a ∧ a < 4294967296 := by
  have h0 : IntKind.u32.min = 0 := rfl
  have h1 : IntKind.u32.max = 4294967295 := rfl
  simp only [Lit.wf, Bool.and_eq_true, decide_eq_true_eq] at h
  omega
theorem i64_of {a : Int} (h : (Lit.int .i64 a).wf = true) : -9223372036854775808 ≤ a ∧ a ≤ 9223372036854775807 := by
  have h0 : IntKind.i64.min = -9223372036854775808 := rfl
  have h1 : IntKind.i64.max = 9223372036854775807 := rfl
  simp only [Lit.wf, Bool.and_eq_true, decide_eq_true_eq] at h
  omega
theorem u64w (n : Int) (h : 0 ≤ n ∧ n < 18446744073709551616) : IntKind.u64.wrap n = n := by
  have e : IntKind.u64.wrap n = n % 18446744073709551616 := by simp [IntKind.wrap, IntKind.bits, IntKind.signed]
  omega
theorem isPow_cases {n : Int} (h : isPow n = true) : n = 1 ∨ n = 2 ∨ n = 4 ∨ n = 8 ∨ n = 16 ∨ n = 32 ∨ n = 64 ∨ n = 128 ∨ n = 256 ∨ n = 512 ∨ n = 1024 ∨ n = 2048 ∨ n = 4096 := by
  simpa [isPow, pows] using h
theorem not_isPow {n : Int} (h : isPow n = false) : ¬ n = 1 ∧ ¬ n = 2 ∧ ¬ n = 4 ∧ ¬ n = 8 ∧ ¬ n = 16 ∧ ¬ n = 32 ∧ ¬ n = 64 ∧ ¬ n = 128 ∧ ¬ n = 256 ∧ ¬ n = 512 ∧ ¬ n = 1024 ∧ ¬ n = 2048 ∧ ¬ n = 4096 := by
  simpa [isPow, pows] using h
theorem refIs (n : Int) : waymasterref01_IsSize.f 20 n = some (isPow n) := by
  cases h : isPow n with
  | true => rcases isPow_cases h with rfl | rfl | rfl | rfl | rfl | rfl | rfl | rfl | rfl | rfl | rfl | rfl | rfl <;> decide +kernel
  | false =>
    obtain ⟨h0, h1, h2, h3, h4, h5, h6, h7, h8, h9, h10, h11, h12⟩ := not_isPow h
    simp [waymasterref01_IsSize.f, waymasterref01_IsSize.l0, wrap64, h0, h1, h2, h3, h4, h5, h6, h7, h8, h9, h10, h11, h12]
theorem wraps_u32 (n : Int) (h₀ : 0 ≤ n) (h₁ : n < 2 ^ 32) : IntKind.u32.wrap n = n := by rw [IntKind.wrap_u32]; omega
theorem slot_k (i : Int) (hi : 0 ≤ i ∧ i < 4294967296) (k : Nat) (s : Int) (hk : k ≤ 32) (hs : s = 2 ^ k) (hm : (wrap64 (s - 1)) % 4294967296 = 2 ^ k - 1) (h0 : 0 < s) : slotV i s = i % s := by
  unfold slotV
  rw [hm, bits_mask .u32 32 (by decide) wraps_u32 k hk i hi.1 (by omega), ← hs]
  have := Int.emod_nonneg i (show s ≠ 0 by omega)
  have := Int.emod_lt_of_pos i h0
  have h2 : i % s ≤ i := by
    have := Int.mul_ediv_add_emod i s
    have h3 : 0 ≤ s * (i / s) := Int.mul_nonneg (by omega) (Int.ediv_nonneg hi.1 (by omega))
    omega
  unfold wrap64
  omega
theorem slot_mod (i s : Int) (hi : 0 ≤ i ∧ i < 4294967296) (h : isPow s = true) : slotV i s = i % s := by
  rcases isPow_cases h with rfl | rfl | rfl | rfl | rfl | rfl | rfl | rfl | rfl | rfl | rfl | rfl | rfl
  · exact slot_k i hi 0 _ (by decide) (by decide) (by decide +kernel) (by decide)
  · exact slot_k i hi 1 _ (by decide) (by decide) (by decide +kernel) (by decide)
  · exact slot_k i hi 2 _ (by decide) (by decide) (by decide +kernel) (by decide)
  · exact slot_k i hi 3 _ (by decide) (by decide) (by decide +kernel) (by decide)
  · exact slot_k i hi 4 _ (by decide) (by decide) (by decide +kernel) (by decide)
  · exact slot_k i hi 5 _ (by decide) (by decide) (by decide +kernel) (by decide)
  · exact slot_k i hi 6 _ (by decide) (by decide) (by decide +kernel) (by decide)
  · exact slot_k i hi 7 _ (by decide) (by decide) (by decide +kernel) (by decide)
  · exact slot_k i hi 8 _ (by decide) (by decide) (by decide +kernel) (by decide)
  · exact slot_k i hi 9 _ (by decide) (by decide) (by decide +kernel) (by decide)
  · exact slot_k i hi 10 _ (by decide) (by decide) (by decide +kernel) (by decide)
  · exact slot_k i hi 11 _ (by decide) (by decide) (by decide +kernel) (by decide)
  · exact slot_k i hi 12 _ (by decide) (by decide) (by decide +kernel) (by decide)
theorem pow_range {s : Int} (h : isPow s = true) : 1 ≤ s ∧ s ≤ 4096 := by
  rcases isPow_cases h with rfl | rfl | rfl | rfl | rfl | rfl | rfl | rfl | rfl | rfl | rfl | rfl | rfl <;> omega
theorem refSlot (i s : Int) (hi : 0 ≤ i ∧ i < 4294967296) : waymasterref01_Slot.f 20 i s = wrap_Slot.f i s := by
  unfold waymasterref01_Slot.f wrap_Slot.f wrap_IsSize.f
  rw [refIs]
  simp only [Option.bind_some]
  cases h : isPow s with
  | false => rfl
  | true =>
    obtain ⟨h1, h2⟩ := pow_range h
    have e1 : IntKind.u64.wrap s = s := u64w _ (by omega)
    have e2 : IntKind.u64.wrap i = i := u64w _ (by omega)
    have hs := slot_mod i s hi h
    unfold slotV at hs
    rw [if_pos rfl, if_pos rfl, if_neg (by omega), hs, e1, e2, Int.tmod_eq_emod_of_nonneg hi.1]
    have := Int.emod_nonneg i (show s ≠ 0 by omega)
    have := Int.emod_lt_of_pos i (show 0 < s by omega)
    rw [show wrap64 (i % s) = i % s by unfold wrap64; omega]
theorem refRoom (p c s : Int) : waymasterref01_Room.f 20 p c s = wrap_Room.f p c s := by
  unfold waymasterref01_Room.f wrap_Room.f wrap_IsSize.f waymasterref01_Far.f wrap_Far.f
  rw [refIs]
  simp only [Option.bind_some]
  cases h : isPow s with
  | false => rfl
  | true =>
    obtain ⟨h1, h2⟩ := pow_range h
    have e1 : IntKind.u64.wrap s = s := u64w _ (by omega)
    obtain ⟨n, hn⟩ : ∃ n, (p - c) % 4294967296 = n := ⟨_, rfl⟩
    have hn0 : 0 ≤ n ∧ n < 4294967296 := by omega
    rw [if_pos rfl, if_pos rfl, e1]
    simp only [hn]
    have e2 : IntKind.u64.wrap n = n := u64w _ (by omega)
    have e3 : wrap64 n = n := by unfold wrap64; omega
    rw [e2, e3]

def aheadB (x y : Int) : Bool := decide (1 ≤ (y - x) % 4294967296 ∧ (y - x) % 4294967296 ≤ 2147483647)
def overV (x y : Int) : Int := if aheadB y x then (x - y) % 4294967296 else 0
theorem ahead_f (x y : Int) : wrap_Ahead.f x y = some (aheadB x y) := by
  unfold wrap_Ahead.f aheadB wrap32
  congr 1; rw [decide_eq_decide]; omega
theorem refAhead (x y : Int) : waymasterref01_Ahead.f x y = some (aheadB x y) := by
  unfold waymasterref01_Ahead.f waymasterref01_Far.f aheadB
  simp only [Option.bind_some]
  split
  · congr 1; rw [decide_eq_decide]; omega
  · congr 1; rw [eq_comm, decide_eq_false_iff_not]; omega
theorem over_f (x y : Int) : wrap_Over.f x y = some (overV x y) := by
  unfold wrap_Over.f overV
  rw [ahead_f]
  simp only [Option.bind_some]
  split <;> rfl
theorem refOver (x y : Int) : waymasterref01_Over.f x y = some (overV x y) := by
  unfold waymasterref01_Over.f overV
  rw [refAhead]
  simp only [Option.bind_some, waymasterref01_Far.f]
  split <;> rfl
theorem far_f (x y : Int) : wrap_Far.f x y = some ((y - x) % 4294967296) := rfl
theorem refFar (x y : Int) : waymasterref01_Far.f x y = some ((y - x) % 4294967296) := rfl
theorem ite_t {α : Type} (a b : α) : (if true = true then a else b) = a := if_pos rfl
theorem ite_f {α : Type} (a b : α) : (if false = true then a else b) = b := if_neg (by decide)
theorem room_f (p c s : Int) : wrap_Room.f p c s = if isPow s = true then (if (p - c) % 4294967296 > s then some (0, 10) else some (s - (p - c) % 4294967296, 0)) else some (0, 2) := by
  unfold wrap_Room.f wrap_Far.f wrap_IsSize.f
  simp only [Option.bind_some]
  cases h : isPow s with
  | false => rfl
  | true =>
    obtain ⟨h1, h2⟩ := pow_range h
    rw [show wrap64 ((p - c) % 4294967296) = (p - c) % 4294967296 by unfold wrap64; omega, if_pos rfl, if_pos rfl]
    split
    · rfl
    · rw [show wrap64 (s - (p - c) % 4294967296) = s - (p - c) % 4294967296 by unfold wrap64; omega]
theorem room_some (p c s : Int) : ∃ x y, wrap_Room.f p c s = some (x, y) := by
  rw [room_f]; split
  · split <;> exact ⟨_, _, rfl⟩
  · exact ⟨_, _, rfl⟩
theorem slot_some (p s : Int) : ∃ x y, wrap_Slot.f p s = some (x, y) := by
  unfold wrap_Slot.f wrap_IsSize.f
  simp only [Option.bind_some]
  split <;> exact ⟨_, _, rfl⟩
end Go.Proofs.Ytihonionnfeagaa.PB
