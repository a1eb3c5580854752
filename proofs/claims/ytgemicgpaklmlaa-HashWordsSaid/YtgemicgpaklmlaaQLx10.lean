/- Functions of the program as Lean functions, and the walks that show it, written by a program of this session on the base of the kit printer; Lean checks all of it. -/
import Derived.Test.YtgemicgpaklmlaaQLx0
import Derived.Test.YtgemicgpaklmlaaQLx6
import Derived.Test.YtgemicgpaklmlaaQLx8
namespace Go.Proofs.Ytgemicgpaklmlaa.QL
open Go.RowKit Go.Proofs.YtgemicgpaklmlaaW.PrintWords Go.Proofs.YtgemicgpaklmlaaW.PrintLast Go.Proofs.YtgemicgpaklmlaaW.PrintMore
attribute [local go_sem] max2_int min2_int max_two min_two max_three min_three max_four min_four   -- for this text's walks alone
set_option linter.unusedVariables false
set_option linter.unusedSimpArgs false

/-! ### waymasterref07_Words: function 19 -/
def waymasterref07_Words.l0 : Nat → List Int → Int → Int → Option (Int)
  | 0, _, _, _ => none
  | k + 1, x1, x5, x6 => if x6 < (x1.length : Int) then (if 0 ≤ x6 then ((waymasterref07_Mix.f x5 (rd x1 x6)).bind fun t120 => (waymasterref07_Words.l0 k x1 t120 (wrap64 (x6 + 1)))) else (none)) else ((waymasterref07_End.f x5 ((wrap64 (4 * (x1.length : Int))) % 4294967296)).bind fun t121 => (some t121))
def waymasterref07_Words.f (k : Nat) (a0 : Int) (l1 : List Int) : Option (Int) := waymasterref07_Words.l0 k l1 a0 0
theorem waymasterref07_Words.mono_l : ∀ k, (∀ y0 y1 y2, LeO (waymasterref07_Words.l0 k y0 y1 y2) (waymasterref07_Words.l0 (k + 1) y0 y1 y2))
  | 0 => fun _ _ _ r h => by simp [waymasterref07_Words.l0] at h
  | k + 1 => by
    have ih0 := waymasterref07_Words.mono_l k
    · intro y0 y1 y2
      unfold waymasterref07_Words.l0
      repeat' first
      | (with_reducible exact ih0 _ _ _)
      | (with_reducible exact LeO.refl _)
      | (with_reducible exact LeO.none _)
      | (with_reducible refine LeO.ite ?_ ?_)
      | (with_reducible refine LeO.bind ?_ (fun _ => ?_))
      | exact ih0 _ _ _
      | exact LeO.none _
      | refine LeO.ite ?_ ?_
      | refine LeO.bind ?_ (fun _ => ?_)
theorem waymasterref07_Words.mono : ∀ a0 a1 k, LeO (waymasterref07_Words.f k a0 a1) (waymasterref07_Words.f (k + 1) a0 a1) := by
  intro a0 a1 k
  have ih0 := waymasterref07_Words.mono_l k
  unfold waymasterref07_Words.f
  repeat' first
      | (with_reducible exact ih0 _ _ _)
      | (with_reducible exact LeO.refl _)
      | (with_reducible exact LeO.none _)
      | (with_reducible refine LeO.ite ?_ ?_)
      | (with_reducible refine LeO.bind ?_ (fun _ => ?_))
      | exact ih0 _ _ _
      | exact LeO.none _
      | refine LeO.ite ?_ ?_
      | refine LeO.bind ?_ (fun _ => ?_)
set_option maxHeartbeats 8000000 in
set_option maxRecDepth 100000 in
theorem waymasterref07_Words.calls (k : Nat) (a0 : Int) (A1 : Option Addr) (c1 : Nat) (l1 : List Int) (r : Int) (w : World) (hr1 : Kd.C (Kd.int .u32) w A1 l1.length l1) (hc1 : l1.length ≤ c1) (h : waymasterref07_Words.f k a0 l1 = some r) :
    Calls Try.prog 19 #[.int .u32 a0, .slice A1 l1.length c1] w fun e w' => e = .returned (.int .u32 r) ∧ Drawn0 w w' := by
  have HR1 := Aside0.mk hr1
  have HC1 := Aside0.mk hc1
  clear hr1 hc1
  have H : (waymasterref07_Words.l0 k l1 a0 0) = some r := h
  clear h
  have H' := Aside0.mk H
  clear H
  go_enter Try.func19, Try.ntmps19
  go_wp2
  go_loopg [5, 6] k (fun kq v5 v6 w' => ∃ (x5_1 : Int) (x6_1 : Int), v5 = .int .u32 x5_1 ∧ v6 = .int .i64 x6_1 ∧ Aside0 (waymasterref07_Words.l0 kq l1 x5_1 x6_1 = some r) ∧ Aside0 (kq ≤ k) ∧ Drawn0 w w')
  case atStart => exact ⟨(a0), (0), (by first | rfl | (simp; done) | (simp [*]; done)), (by first | rfl | (simp; done) | (simp [*]; done)), H', ⟨Nat.le_refl _⟩, by repeat (first | exact Drawn0.refl _ | apply Drawn0.step)⟩
  case round =>
    clear H'
    try clear c1
    try clear p2
    obtain ⟨x5_1, x6_1, rfl, rfl, HA, HK1, ⟨m1, rfl⟩⟩ := hrel
    cases gk with
    | zero => exact absurd HA.out (by simp [waymasterref07_Words.l0])
    | succ k1 =>
      have H := HA.out
      clear HA
      simp only [waymasterref07_Words.l0] at H
      by_cases c3 : x6_1 < (l1.length : Int)
      · rw [if_pos c3] at H
        have c3b0 : decide (x6_1 < (l1.length : Int)) = true := decide_eq_true c3
        clear c3
        by_cases c4 : 0 ≤ x6_1
        · rw [if_pos c4] at H
          have c4b0 : decide (0 ≤ x6_1) = true := decide_eq_true c4
          clear c4
          replace H := Option.bind_eq_some_iff.mp H
          obtain ⟨t120, A50, H⟩ := H
          replace H : (waymasterref07_Words.l0 k1 l1 t120 (wrap64 (x6_1 + 1))) = some r := H
          have A5 := Aside0.mk A50
          clear A50
          have H' := Aside0.mk H
          clear H
          have p119 : 0 ≤ (x6_1 : Int) := of_decide_eq_true (by first | (with_reducible assumption) | assumption)
          have q119 : x6_1 < (l1.length : Int) := of_decide_eq_true (by first | (with_reducible assumption) | assumption)
          obtain ⟨ad119, e119, hx119_0⟩ := Kd.at_int HR1.out x6_1 p119 q119
          cases e119
          replace p119 := eq_true p119
          replace q119 := eq_true q119
          go_wp2_with (first | ((with_reducible refine gate_callee (f := 13) rfl ?_); refine goesL_ (some 19) rfl rfl Try.func13 (by kernel_rfl) rfl #[.int .u32 x5_1, .int .u32 (rd l1 x6_1)] rfl (by (try simp only [List.map_toArray, List.map_cons, List.map_nil]); first | done | rfl | (simp only [List.length_drop, List.length_take]; rfl)) ?_; (with_reducible refine (waymasterref07_Mix.calls x5_1 (rd l1 x6_1) t120 _ A5.out).mono ?_); rintro e w' ⟨rfl, ⟨nd, rfl⟩⟩; refine ⟨_, rfl, ?_⟩))
          go_roundg k1
          case measure => have := HK1.out; omega
          case rel => exact ⟨(t120), (wrap64 (x6_1 + 1)), (by first | rfl | (simp; done) | (simp [*]; done)), (by first | rfl | (simp; done) | (simp [*]; done)), H', ⟨by have := HK1.out; omega⟩, by repeat (first | exact Drawn0.refl _ | apply Drawn0.step)⟩
        · rw [if_neg c4] at H
          exact absurd H (by simp)
      · rw [if_neg c3] at H
        have c3b0 : decide (x6_1 < (l1.length : Int)) = false := decide_eq_false c3
        clear c3
        replace H := Option.bind_eq_some_iff.mp H
        obtain ⟨t121, A60, H⟩ := H
        replace H : (some t121) = some r := H
        have A6 := Aside0.mk A60
        clear A60
        obtain rfl := Option.some.inj H
        go_wp2_with (first | ((with_reducible refine gate_callee (f := 15) rfl ?_); refine goesL_ (some 25) rfl rfl Try.func15 (by kernel_rfl) rfl #[.int .u32 x5_1, .int .u32 ((wrap64 (4 * (l1.length : Int))) % 4294967296)] rfl (by (try simp only [List.map_toArray, List.map_cons, List.map_nil]); first | done | rfl | (simp only [List.length_drop, List.length_take]; rfl)) ?_; (with_reducible refine (waymasterref07_End.calls x5_1 ((wrap64 (4 * (l1.length : Int))) % 4294967296) t121 _ A6.out).mono ?_); rintro e w' ⟨rfl, ⟨nd, rfl⟩⟩; refine ⟨_, rfl, ?_⟩))
        go_ret
        exact ⟨by first | rfl | (simp; done) | (simp [*]; done), by repeat (first | exact Drawn0.refl _ | apply Drawn0.step)⟩

end Go.Proofs.Ytgemicgpaklmlaa.QL
