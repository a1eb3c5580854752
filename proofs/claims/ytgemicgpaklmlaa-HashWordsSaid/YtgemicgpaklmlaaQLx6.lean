/- Functions of the program as Lean functions, and the walks that show it, written by a program of this session on the base of the kit printer; Lean checks all of it. -/
import Derived.Test.YtgemicgpaklmlaaQLx0
namespace Go.Proofs.Ytgemicgpaklmlaa.QL
open Go.RowKit Go.Proofs.YtgemicgpaklmlaaW.PrintWords Go.Proofs.YtgemicgpaklmlaaW.PrintLast Go.Proofs.YtgemicgpaklmlaaW.PrintMore
attribute [local go_sem] max2_int min2_int max_two min_two max_three min_three max_four min_four   -- for this text's walks alone
set_option linter.unusedVariables false
set_option linter.unusedSimpArgs false

/-! ### waymasterref07_Turn: function 17 -/
def waymasterref07_Turn.f (a0 : Int) (a1 : Int) : Option (Int) := if (Int.tmod a1 32) < 0 then (if (wrap64 ((Int.tmod a1 32) + 32)) = 0 then (some a0) else (if 0 ≤ (IntKind.u64.wrap (wrap64 ((Int.tmod a1 32) + 32))) then (if 0 ≤ (IntKind.u64.wrap (wrap64 (32 - (wrap64 ((Int.tmod a1 32) + 32))))) then (some (Go.bits .or .u32 (shl .u32 a0 (IntKind.u64.wrap (wrap64 ((Int.tmod a1 32) + 32)))) (shr .u32 a0 (IntKind.u64.wrap (wrap64 (32 - (wrap64 ((Int.tmod a1 32) + 32)))))))) else (none)) else (none))) else (if (Int.tmod a1 32) = 0 then (some a0) else (if 0 ≤ (IntKind.u64.wrap (Int.tmod a1 32)) then (if 0 ≤ (IntKind.u64.wrap (wrap64 (32 - (Int.tmod a1 32)))) then (some (Go.bits .or .u32 (shl .u32 a0 (IntKind.u64.wrap (Int.tmod a1 32))) (shr .u32 a0 (IntKind.u64.wrap (wrap64 (32 - (Int.tmod a1 32))))))) else (none)) else (none)))
set_option maxHeartbeats 8000000 in
set_option maxRecDepth 100000 in
theorem waymasterref07_Turn.calls (a0 : Int) (a1 : Int) (r : Int) (w : World) (h : waymasterref07_Turn.f a0 a1 = some r) :
    Calls Try.prog 17 #[.int .u32 a0, .int .i64 a1] w fun e w' => e = .returned (.int .u32 r) ∧ Drawn0 w w' := by
  have H : (if (Int.tmod a1 32) < 0 then (if (wrap64 ((Int.tmod a1 32) + 32)) = 0 then (some a0) else (if 0 ≤ (IntKind.u64.wrap (wrap64 ((Int.tmod a1 32) + 32))) then (if 0 ≤ (IntKind.u64.wrap (wrap64 (32 - (wrap64 ((Int.tmod a1 32) + 32))))) then (some (Go.bits .or .u32 (shl .u32 a0 (IntKind.u64.wrap (wrap64 ((Int.tmod a1 32) + 32)))) (shr .u32 a0 (IntKind.u64.wrap (wrap64 (32 - (wrap64 ((Int.tmod a1 32) + 32)))))))) else (none)) else (none))) else (if (Int.tmod a1 32) = 0 then (some a0) else (if 0 ≤ (IntKind.u64.wrap (Int.tmod a1 32)) then (if 0 ≤ (IntKind.u64.wrap (wrap64 (32 - (Int.tmod a1 32)))) then (some (Go.bits .or .u32 (shl .u32 a0 (IntKind.u64.wrap (Int.tmod a1 32))) (shr .u32 a0 (IntKind.u64.wrap (wrap64 (32 - (Int.tmod a1 32))))))) else (none)) else (none)))) = some r := h
  clear h
  by_cases c3 : (Int.tmod a1 32) < 0
  · rw [if_pos c3] at H
    have c3b0 : decide ((Int.tmod a1 32) < 0) = true := decide_eq_true c3
    clear c3
    by_cases c4 : (wrap64 ((Int.tmod a1 32) + 32)) = 0
    · rw [if_pos c4] at H
      have c4b0 : ((wrap64 ((Int.tmod a1 32) + 32)) == 0) = true := beq_iff_eq.mpr c4
      have c4b1 : ((wrap64 ((Int.tmod a1 32) + 32)) != 0) = false := bne_eq_false_iff_eq.mpr c4
      clear c4
      obtain rfl := Option.some.inj H
      go_enter Try.func17, Try.ntmps17
      go_wp2
      go_ret
      exact ⟨by first | rfl | (simp; done) | (simp [*]; done), by repeat (first | exact Drawn0.refl _ | apply Drawn0.step)⟩
    · rw [if_neg c4] at H
      have c4b0 : ((wrap64 ((Int.tmod a1 32) + 32)) == 0) = false := beq_eq_false_iff_ne.mpr c4
      have c4b1 : ((wrap64 ((Int.tmod a1 32) + 32)) != 0) = true := bne_iff_ne.mpr c4
      obtain ⟨ji5, hji5⟩ : ∃ j_ : Int, (IntKind.u64.wrap (wrap64 ((Int.tmod a1 32) + 32))) = j_ := ⟨_, rfl⟩
      replace H : (if 0 ≤ (ji5) then (if 0 ≤ (IntKind.u64.wrap (wrap64 (32 - (wrap64 ((Int.tmod a1 32) + 32))))) then (some (Go.bits .or .u32 (shl .u32 a0 (ji5)) (shr .u32 a0 (IntKind.u64.wrap (wrap64 (32 - (wrap64 ((Int.tmod a1 32) + 32)))))))) else (none)) else (none)) = some r := by first | (rw [hji5] at H; exact H) | (simp only [hji5] at H ⊢; exact H)
      by_cases c6 : 0 ≤ (ji5)
      · rw [if_pos c6] at H
        have c6b0 := eq_true c6
        have c6b1 : decide (0 ≤ (ji5)) = true := decide_eq_true c6
        clear c6
        obtain ⟨ji7, hji7⟩ : ∃ j_ : Int, (shl .u32 a0 (ji5)) = j_ := ⟨_, rfl⟩
        replace H : (if 0 ≤ (IntKind.u64.wrap (wrap64 (32 - (wrap64 ((Int.tmod a1 32) + 32))))) then (some (Go.bits .or .u32 (ji7) (shr .u32 a0 (IntKind.u64.wrap (wrap64 (32 - (wrap64 ((Int.tmod a1 32) + 32)))))))) else (none)) = some r := by first | (rw [hji7] at H; exact H) | (simp only [hji7] at H ⊢; exact H)
        have hji7_ : (IntKind.u32.wrap (a0 * 2 ^ min (ji5).toNat 32)) = ji7 := hji7
        have hji7z : (ji5) ≤ 32 → (IntKind.u32.wrap (a0 * 2 ^ (ji5).toNat)) = ji7 := shl_small hji7
        obtain ⟨ji8, hji8⟩ : ∃ j_ : Int, (IntKind.u64.wrap (wrap64 (32 - (wrap64 ((Int.tmod a1 32) + 32))))) = j_ := ⟨_, rfl⟩
        replace H : (if 0 ≤ (ji8) then (some (Go.bits .or .u32 (ji7) (shr .u32 a0 (ji8)))) else (none)) = some r := by first | (rw [hji8] at H; exact H) | (simp only [hji8] at H ⊢; exact H)
        by_cases c9 : 0 ≤ (ji8)
        · rw [if_pos c9] at H
          have c9b0 := eq_true c9
          have c9b1 : decide (0 ≤ (ji8)) = true := decide_eq_true c9
          clear c9
          obtain ⟨ji10, hji10⟩ : ∃ j_ : Int, (shr .u32 a0 (ji8)) = j_ := ⟨_, rfl⟩
          replace H : (some (Go.bits .or .u32 (ji7) (ji10))) = some r := by first | (rw [hji10] at H; exact H) | (simp only [hji10] at H ⊢; exact H)
          have hji10_ : (a0 / 2 ^ min (ji8).toNat 32) = ji10 := hji10
          have hji10z : (ji8) ≤ 32 → (a0 / 2 ^ (ji8).toNat) = ji10 := shr_small hji10
          obtain rfl := Option.some.inj H
          go_enter Try.func17, Try.ntmps17
          go_wp2
          go_ret
          exact ⟨by first | rfl | (simp; done) | (simp only [← hji5, ← hji7, ← hji8, ← hji10] <;> (first | rfl | simp)) | (simp [*]; done), by repeat (first | exact Drawn0.refl _ | apply Drawn0.step)⟩
        · rw [if_neg c9] at H
          exact absurd H (by simp)
      · rw [if_neg c6] at H
        exact absurd H (by simp)
  · rw [if_neg c3] at H
    have c3b0 : decide ((Int.tmod a1 32) < 0) = false := decide_eq_false c3
    clear c3
    by_cases c11 : (Int.tmod a1 32) = 0
    · rw [if_pos c11] at H
      have c11b0 : ((Int.tmod a1 32) == 0) = true := beq_iff_eq.mpr c11
      have c11b1 : ((Int.tmod a1 32) != 0) = false := bne_eq_false_iff_eq.mpr c11
      clear c11
      obtain rfl := Option.some.inj H
      go_enter Try.func17, Try.ntmps17
      go_wp2
      go_ret
      exact ⟨by first | rfl | (simp; done) | (simp [*]; done), by repeat (first | exact Drawn0.refl _ | apply Drawn0.step)⟩
    · rw [if_neg c11] at H
      have c11b0 : ((Int.tmod a1 32) == 0) = false := beq_eq_false_iff_ne.mpr c11
      have c11b1 : ((Int.tmod a1 32) != 0) = true := bne_iff_ne.mpr c11
      obtain ⟨ji12, hji12⟩ : ∃ j_ : Int, (IntKind.u64.wrap (Int.tmod a1 32)) = j_ := ⟨_, rfl⟩
      replace H : (if 0 ≤ (ji12) then (if 0 ≤ (IntKind.u64.wrap (wrap64 (32 - (Int.tmod a1 32)))) then (some (Go.bits .or .u32 (shl .u32 a0 (ji12)) (shr .u32 a0 (IntKind.u64.wrap (wrap64 (32 - (Int.tmod a1 32))))))) else (none)) else (none)) = some r := by first | (rw [hji12] at H; exact H) | (simp only [hji12] at H ⊢; exact H)
      by_cases c13 : 0 ≤ (ji12)
      · rw [if_pos c13] at H
        have c13b0 := eq_true c13
        have c13b1 : decide (0 ≤ (ji12)) = true := decide_eq_true c13
        clear c13
        obtain ⟨ji14, hji14⟩ : ∃ j_ : Int, (shl .u32 a0 (ji12)) = j_ := ⟨_, rfl⟩
        replace H : (if 0 ≤ (IntKind.u64.wrap (wrap64 (32 - (Int.tmod a1 32)))) then (some (Go.bits .or .u32 (ji14) (shr .u32 a0 (IntKind.u64.wrap (wrap64 (32 - (Int.tmod a1 32))))))) else (none)) = some r := by first | (rw [hji14] at H; exact H) | (simp only [hji14] at H ⊢; exact H)
        have hji14_ : (IntKind.u32.wrap (a0 * 2 ^ min (ji12).toNat 32)) = ji14 := hji14
        have hji14z : (ji12) ≤ 32 → (IntKind.u32.wrap (a0 * 2 ^ (ji12).toNat)) = ji14 := shl_small hji14
        obtain ⟨ji15, hji15⟩ : ∃ j_ : Int, (IntKind.u64.wrap (wrap64 (32 - (Int.tmod a1 32)))) = j_ := ⟨_, rfl⟩
        replace H : (if 0 ≤ (ji15) then (some (Go.bits .or .u32 (ji14) (shr .u32 a0 (ji15)))) else (none)) = some r := by first | (rw [hji15] at H; exact H) | (simp only [hji15] at H ⊢; exact H)
        by_cases c16 : 0 ≤ (ji15)
        · rw [if_pos c16] at H
          have c16b0 := eq_true c16
          have c16b1 : decide (0 ≤ (ji15)) = true := decide_eq_true c16
          clear c16
          obtain ⟨ji17, hji17⟩ : ∃ j_ : Int, (shr .u32 a0 (ji15)) = j_ := ⟨_, rfl⟩
          replace H : (some (Go.bits .or .u32 (ji14) (ji17))) = some r := by first | (rw [hji17] at H; exact H) | (simp only [hji17] at H ⊢; exact H)
          have hji17_ : (a0 / 2 ^ min (ji15).toNat 32) = ji17 := hji17
          have hji17z : (ji15) ≤ 32 → (a0 / 2 ^ (ji15).toNat) = ji17 := shr_small hji17
          obtain rfl := Option.some.inj H
          go_enter Try.func17, Try.ntmps17
          go_wp2
          go_ret
          exact ⟨by first | rfl | (simp; done) | (simp only [← hji12, ← hji14, ← hji15, ← hji17] <;> (first | rfl | simp)) | (simp [*]; done), by repeat (first | exact Drawn0.refl _ | apply Drawn0.step)⟩
        · rw [if_neg c16] at H
          exact absurd H (by simp)
      · rw [if_neg c13] at H
        exact absurd H (by simp)

/-! ### waymasterref07_Mix: function 13 -/
def waymasterref07_Mix.f (a0 : Int) (a1 : Int) : Option (Int) := (waymasterref07_Turn.f ((a1 * 3432918353) % 4294967296) 15).bind fun t110 => ((waymasterref07_Turn.f (Go.bits .xor .u32 a0 ((t110 * 461845907) % 4294967296)) 13).bind fun t111 => (some ((((t111 * 5) % 4294967296) + 3864292196) % 4294967296)))
set_option maxHeartbeats 8000000 in
set_option maxRecDepth 100000 in
theorem waymasterref07_Mix.calls (a0 : Int) (a1 : Int) (r : Int) (w : World) (h : waymasterref07_Mix.f a0 a1 = some r) :
    Calls Try.prog 13 #[.int .u32 a0, .int .u32 a1] w fun e w' => e = .returned (.int .u32 r) ∧ Drawn0 w w' := by
  have H : ((waymasterref07_Turn.f ((a1 * 3432918353) % 4294967296) 15).bind fun t110 => ((waymasterref07_Turn.f (Go.bits .xor .u32 a0 ((t110 * 461845907) % 4294967296)) 13).bind fun t111 => (some ((((t111 * 5) % 4294967296) + 3864292196) % 4294967296)))) = some r := h
  clear h
  replace H := Option.bind_eq_some_iff.mp H
  obtain ⟨t110, A30, H⟩ := H
  replace H : ((waymasterref07_Turn.f (Go.bits .xor .u32 a0 ((t110 * 461845907) % 4294967296)) 13).bind fun t111 => (some ((((t111 * 5) % 4294967296) + 3864292196) % 4294967296))) = some r := H
  have A3 := Aside0.mk A30
  clear A30
  replace H := Option.bind_eq_some_iff.mp H
  obtain ⟨t111, A40, H⟩ := H
  replace H : (some ((((t111 * 5) % 4294967296) + 3864292196) % 4294967296)) = some r := H
  have A4 := Aside0.mk A40
  clear A40
  obtain rfl := Option.some.inj H
  go_enter Try.func13, Try.ntmps13
  go_wp2_with (first | ((with_reducible refine gate_callee (f := 17) rfl ?_); refine goesL_ (some 8) rfl rfl Try.func17 (by kernel_rfl) rfl #[.int .u32 ((a1 * 3432918353) % 4294967296), .int .i64 15] rfl (by (try simp only [List.map_toArray, List.map_cons, List.map_nil]); first | done | rfl | (simp only [List.length_drop, List.length_take]; rfl)) ?_; (with_reducible refine (waymasterref07_Turn.calls ((a1 * 3432918353) % 4294967296) 15 t110 _ A3.out).mono ?_); rintro e w' ⟨rfl, ⟨nd, rfl⟩⟩; refine ⟨_, rfl, ?_⟩) | ((with_reducible refine gate_callee (f := 17) rfl ?_); refine goesL_ (some 15) rfl rfl Try.func17 (by kernel_rfl) rfl #[.int .u32 (Go.bits .xor .u32 a0 ((t110 * 461845907) % 4294967296)), .int .i64 13] rfl (by (try simp only [List.map_toArray, List.map_cons, List.map_nil]); first | done | rfl | (simp only [List.length_drop, List.length_take]; rfl)) ?_; (with_reducible refine (waymasterref07_Turn.calls (Go.bits .xor .u32 a0 ((t110 * 461845907) % 4294967296)) 13 t111 _ A4.out).mono ?_); rintro e w' ⟨rfl, ⟨nd, rfl⟩⟩; refine ⟨_, rfl, ?_⟩))
  go_ret
  exact ⟨by first | rfl | (simp; done) | (simp [*]; done), by repeat (first | exact Drawn0.refl _ | apply Drawn0.step)⟩

end Go.Proofs.Ytgemicgpaklmlaa.QL
