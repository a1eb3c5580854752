/- Functions of the program as Lean functions, and the walks that show it, written by a program of this session on the base of the kit printer; Lean checks all of it. -/
import Derived.Test.YtkjhklnjmpicgaaQLx0
import Derived.Test.YtkjhklnjmpicgaaQLx8
namespace Go.Proofs.Ytkjhklnjmpicgaa.QL
open Go.RowKit Go.Proofs.YtkjhklnjmpicgaaW.PrintWords Go.Proofs.YtkjhklnjmpicgaaW.PrintLast Go.Proofs.YtkjhklnjmpicgaaW.PrintMore
attribute [local go_sem] max2_int min2_int max_two min_two max_three min_three max_four min_four   -- for this text's walks alone
set_option linter.unusedVariables false
set_option linter.unusedSimpArgs false

/-! ### waymasterref18_Decode: function 15 -/
mutual
def waymasterref18_Decode.l0 : Nat → ByteArray → List (S29) → Int → Option ((List (S29)))
  | 0, _, _, _ => none
  | k + 1, x0, x3, x4 => if (wrap64 (x4 + 6)) ≤ (x0.size : Int) then (waymasterref18_Decode.j1 k x0 x3 x4 (decide ((x3.length : Int) < 10000))) else (waymasterref18_Decode.j1 k x0 x3 x4 false)
def waymasterref18_Decode.j1 : Nat → ByteArray → List (S29) → Int → Bool → Option ((List (S29)))
  | 0, _, _, _, _ => none
  | k + 1, x0, x3, x4, x16 => if x16 = true then (if 0 ≤ x4 then (if x4 < (x0.size : Int) then (if 0 ≤ (wrap64 (x4 + 1)) then (if (wrap64 (x4 + 1)) < (x0.size : Int) then (if 0 ≤ (wrap64 (x4 + 2)) then (if (wrap64 (x4 + 2)) < (x0.size : Int) then (if 0 ≤ (wrap64 (x4 + 3)) then (if (wrap64 (x4 + 3)) < (x0.size : Int) then (if 0 ≤ (wrap64 (x4 + 4)) then (if (wrap64 (x4 + 4)) < (x0.size : Int) then (if 0 ≤ (wrap64 (x4 + 5)) then (if (wrap64 (x4 + 5)) < (x0.size : Int) then ((waymasterref18_Right.f (wrap64 (bt x0 x4)) (wrap64 (bt x0 (wrap64 (x4 + 1)))) (wrap64 ((wrap64 (bt x0 (wrap64 (x4 + 2)))) + (wrap64 (256 * (wrap64 (bt x0 (wrap64 (x4 + 3)))))))) (wrap64 (bt x0 (wrap64 (x4 + 4)))) (wrap64 (bt x0 (wrap64 (x4 + 5))))).bind fun t112 => (if t112 = true then (if x3.length < 3518437208883 then (waymasterref18_Decode.l0 k x0 (x3 ++ [(⟨wrap64 (bt x0 x4), wrap64 (bt x0 (wrap64 (x4 + 1))), wrap64 ((wrap64 (bt x0 (wrap64 (x4 + 2)))) + (wrap64 (256 * (wrap64 (bt x0 (wrap64 (x4 + 3))))))), wrap64 (bt x0 (wrap64 (x4 + 4))), wrap64 (bt x0 (wrap64 (x4 + 5)))⟩ : S29)]) (wrap64 (x4 + 6))) else (none)) else (if x3.length < 3518437208883 then (waymasterref18_Decode.l0 k x0 (x3 ++ [(⟨0, 0, 0, 0, 0⟩ : S29)]) (wrap64 (x4 + 6))) else (none)))) else (none)) else (none)) else (none)) else (none)) else (none)) else (none)) else (none)) else (none)) else (none)) else (none)) else (none)) else (none)) else (some x3)
end
def waymasterref18_Decode.f (k : Nat) (a0 : ByteArray) : Option ((List (S29))) := waymasterref18_Decode.l0 k a0 ([] : List (S29)) 0
theorem waymasterref18_Decode.mono_l : ∀ k, (∀ y0 y1 y2, LeO (waymasterref18_Decode.l0 k y0 y1 y2) (waymasterref18_Decode.l0 (k + 1) y0 y1 y2)) ∧ (∀ y0 y1 y2 y3, LeO (waymasterref18_Decode.j1 k y0 y1 y2 y3) (waymasterref18_Decode.j1 (k + 1) y0 y1 y2 y3))
  | 0 => ⟨fun _ _ _ r h => by simp [waymasterref18_Decode.l0] at h, fun _ _ _ _ r h => by simp [waymasterref18_Decode.j1] at h⟩
  | k + 1 => by
    obtain ⟨ih0, ih1⟩ := waymasterref18_Decode.mono_l k
    refine ⟨?_, ?_⟩
    · intro y0 y1 y2
      unfold waymasterref18_Decode.l0
      repeat' first
      | (with_reducible exact ih0 _ _ _)
      | (with_reducible exact ih1 _ _ _ _)
      | (with_reducible exact LeO.refl _)
      | (with_reducible exact LeO.none _)
      | (with_reducible refine LeO.ite ?_ ?_)
      | (with_reducible refine LeO.bind ?_ (fun _ => ?_))
      | exact ih0 _ _ _
      | exact ih1 _ _ _ _
      | exact LeO.none _
      | refine LeO.ite ?_ ?_
      | refine LeO.bind ?_ (fun _ => ?_)
    · intro y0 y1 y2 y3
      unfold waymasterref18_Decode.j1
      repeat' first
      | (with_reducible exact ih0 _ _ _)
      | (with_reducible exact ih1 _ _ _ _)
      | (with_reducible exact LeO.refl _)
      | (with_reducible exact LeO.none _)
      | (with_reducible refine LeO.ite ?_ ?_)
      | (with_reducible refine LeO.bind ?_ (fun _ => ?_))
      | exact ih0 _ _ _
      | exact ih1 _ _ _ _
      | exact LeO.none _
      | refine LeO.ite ?_ ?_
      | refine LeO.bind ?_ (fun _ => ?_)
theorem waymasterref18_Decode.mono : ∀ a0 k, LeO (waymasterref18_Decode.f k a0) (waymasterref18_Decode.f (k + 1) a0) := by
  intro a0 k
  obtain ⟨ih0, ih1⟩ := waymasterref18_Decode.mono_l k
  unfold waymasterref18_Decode.f
  repeat' first
      | (with_reducible exact ih0 _ _ _)
      | (with_reducible exact ih1 _ _ _ _)
      | (with_reducible exact LeO.refl _)
      | (with_reducible exact LeO.none _)
      | (with_reducible refine LeO.ite ?_ ?_)
      | (with_reducible refine LeO.bind ?_ (fun _ => ?_))
      | exact ih0 _ _ _
      | exact ih1 _ _ _ _
      | exact LeO.none _
      | refine LeO.ite ?_ ?_
      | refine LeO.bind ?_ (fun _ => ?_)
def waymasterref18_Decode.T5 : Bool × List (List Nat × List Nat) := (true, [([], []), ([], []), ([0, 1], [0, 1]), ([2], [2]), ([], []), ([], []), ([5], [5]), ([4, 6], [4, 6]), ([7], [7]), ([], []), ([], []), ([10], [10]), ([9, 11], [9, 11]), ([12], [12]), ([], []), ([], []), ([15], [15]), ([14, 16], [14, 16]), ([17], [17]), ([18], [18]), ([13, 19], [13, 19]), ([], []), ([], []), ([22], [22]), ([21, 23], [21, 23]), ([24], [24]), ([], []), ([], []), ([27], [27]), ([26, 28], [26, 28]), ([29], [29]), ([3, 8, 20, 25, 30], [3, 8, 20, 25, 30]), ([], []), ([32, 31, 0, 1, 2, 3, 4, 5, 6, 7, 8, 9, 10, 11, 12, 13, 14, 15, 16, 17, 18, 19, 20, 21, 22, 23, 24, 25, 26, 27, 28, 29, 30, 31, 32], [31, 32])])
def waymasterref18_Decode.B5 : List Nat := [0, 0, 3, 7, 0, 0, 32, 112, 240, 0, 0, 1024, 3584, 7680, 0, 0, 32768, 114688, 245760, 507904, 1048064, 0, 0, 4194304, 14680064, 31457280, 0, 0, 134217728, 469762048, 1006632960, 2147483647, 0, 8589934591]
theorem waymasterref18_Decode.tab5 : rtab .any (opsOf Try.f15 5) = waymasterref18_Decode.T5 := by kernel_rfl
theorem waymasterref18_Decode.bits5 : waitsOk waymasterref18_Decode.T5.2 waymasterref18_Decode.B5 = true := by kernel_rfl
set_option maxHeartbeats 8000000 in
set_option maxRecDepth 100000 in
theorem waymasterref18_Decode.calls (k : Nat) (a0 : ByteArray) (r : List (S29)) (w : World) (h : waymasterref18_Decode.f k a0 = some r) :
    Calls Try.prog 15 #[.string a0] w fun e w' => ∃ v0_ : Value, e = .returned (v0_) ∧ Kd.R k29 29 w' w.heap.size (fun _ => True) v0_ r ∧ Below w.heap.size w w' := by
  have hu29 := Try.underlying29
  have HB := Aside0.mk (Below.refl w.heap.size w)
  have H : (waymasterref18_Decode.l0 k a0 ([] : List (S29)) 0) = some r := h
  clear h
  have H' := Aside0.mk H
  clear H
  go_enter Try.func15, Try.ntmps15
  go_wp2
  go_loopg [3, 4] k (fun kq v3 v4 w' => ∃ (x3_1 : List (S29)) (x4_1 : Int), v4 = .int .i64 x4_1 ∧ Aside0 (waymasterref18_Decode.l0 kq a0 x3_1 x4_1 = some r) ∧ Aside0 (kq ≤ k) ∧ Aside0 (Kd.R k29 29 w' w.heap.size (fun _ => True) v3 x3_1) ∧ Aside0 (Below w.heap.size w w'))
  case atStart => exact ⟨(([] : List (S29))), (0), (by first | rfl | (simp; done) | (simp [*]; done)), H', ⟨Nat.le_refl _⟩, ⟨by first | exact Kd.R_nil _ _ _ _ _ | exact Kd.N_nil _ _ _ _ _ | exact Kd.V_nil _ _ _ _ _ | exact Kd.Q_nil _ _ _ _ _ | exact Kd.S_nil _ _ _ _ _⟩, ⟨by repeat (first | (with_reducible first | exact HB.out | apply below_alloc | apply pw_below_drewN | apply below_drew1) | exact HB.out)⟩⟩
  case round =>
    clear H'
    try clear c1
    obtain ⟨x3_1, x4_1, rfl, HA, HK1, HO_3, HB⟩ := hrel
    cases gk with
    | zero => exact absurd HA.out (by simp [waymasterref18_Decode.l0])
    | succ k1 =>
      have H := HA.out
      clear HA
      simp only [waymasterref18_Decode.l0] at H
      have HC2 := Aside0.mk H
      clear H
      go_upto_region 3 with (fail)
      go_cut [16] (fun v16 wc => ∃ (kq : Nat) (x16_1 : Bool), v16 = .bool x16_1 ∧ Aside0 (waymasterref18_Decode.j1 kq a0 x3_1 x4_1 x16_1 = some r) ∧ Aside0 (kq ≤ k1) ∧ Aside0 (Kd.R k29 29 wc w.heap.size (fun _ => True) u3 x3_1) ∧ Aside0 (Below w.heap.size w wc))
      case first =>
        have H := HC2.out
        clear HC2
        by_cases c3 : (wrap64 (x4_1 + 6)) ≤ (a0.size : Int)
        · rw [if_pos c3] at H
          have c3b0 : decide ((wrap64 (x4_1 + 6)) ≤ (a0.size : Int)) = true := decide_eq_true c3
          clear c3
          (first | rw [c3b0] | (simp only [i64_w, i32_w]; rw [c3b0]) | skip)
          have H' := Aside0.mk H
          clear H
          obtain ⟨Ao4, co4, eo4⟩ := Kd.R_slice HO_3.out
          subst eo4
          go_wp2
          go_meet
          case rel => exact ⟨_, (decide ((x3_1.length : Int) < 10000)), (by first | rfl | (simp; done) | (simp [*]; done)), H', ⟨by have := HK1.out; first | omega | exact Nat.le_refl _⟩, ⟨by (with_reducible repeat (first | apply Kd.R_alloc | apply Kd.R_drewN | apply Kd.R_drew)); exact HO_3.out⟩, ⟨by repeat (first | (with_reducible first | exact HB.out | apply below_alloc | apply pw_below_drewN | apply below_drew1) | exact HB.out)⟩⟩
        · rw [if_neg c3] at H
          have c3b0 : decide ((wrap64 (x4_1 + 6)) ≤ (a0.size : Int)) = false := decide_eq_false c3
          clear c3
          (first | rw [c3b0] | (simp only [i64_w, i32_w]; rw [c3b0]) | skip)
          have H' := Aside0.mk H
          clear H
          go_wp2
          go_meet
          case rel => exact ⟨_, (false), (by first | rfl | (simp; done) | (simp [*]; done)), H', ⟨by have := HK1.out; first | omega | exact Nat.le_refl _⟩, ⟨by (with_reducible repeat (first | apply Kd.R_alloc | apply Kd.R_drewN | apply Kd.R_drew)); exact HO_3.out⟩, ⟨by repeat (first | (with_reducible first | exact HB.out | apply below_alloc | apply pw_below_drewN | apply below_drew1) | exact HB.out)⟩⟩
      case rest =>
        clear HC2
        try clear c1
        try clear p2
        try clear c3
        try clear c3b0
        obtain ⟨kq, x16_1, rfl, HA, HJ1, HO_3, HB⟩ := hcut
        cases kq with
        | zero => exact absurd HA.out (by simp [waymasterref18_Decode.j1])
        | succ kj1 =>
          have H := HA.out
          clear HA
          simp only [waymasterref18_Decode.j1] at H
          by_cases c5 : x16_1 = true
          · subst c5
            have H1 : (if 0 ≤ x4_1 then (if x4_1 < (a0.size : Int) then (if 0 ≤ (wrap64 (x4_1 + 1)) then (if (wrap64 (x4_1 + 1)) < (a0.size : Int) then (if 0 ≤ (wrap64 (x4_1 + 2)) then (if (wrap64 (x4_1 + 2)) < (a0.size : Int) then (if 0 ≤ (wrap64 (x4_1 + 3)) then (if (wrap64 (x4_1 + 3)) < (a0.size : Int) then (if 0 ≤ (wrap64 (x4_1 + 4)) then (if (wrap64 (x4_1 + 4)) < (a0.size : Int) then (if 0 ≤ (wrap64 (x4_1 + 5)) then (if (wrap64 (x4_1 + 5)) < (a0.size : Int) then ((waymasterref18_Right.f (wrap64 (bt a0 x4_1)) (wrap64 (bt a0 (wrap64 (x4_1 + 1)))) (wrap64 ((wrap64 (bt a0 (wrap64 (x4_1 + 2)))) + (wrap64 (256 * (wrap64 (bt a0 (wrap64 (x4_1 + 3)))))))) (wrap64 (bt a0 (wrap64 (x4_1 + 4)))) (wrap64 (bt a0 (wrap64 (x4_1 + 5))))).bind fun t112 => (if t112 = true then (if x3_1.length < 3518437208883 then (waymasterref18_Decode.l0 kj1 a0 (x3_1 ++ [(⟨wrap64 (bt a0 x4_1), wrap64 (bt a0 (wrap64 (x4_1 + 1))), wrap64 ((wrap64 (bt a0 (wrap64 (x4_1 + 2)))) + (wrap64 (256 * (wrap64 (bt a0 (wrap64 (x4_1 + 3))))))), wrap64 (bt a0 (wrap64 (x4_1 + 4))), wrap64 (bt a0 (wrap64 (x4_1 + 5)))⟩ : S29)]) (wrap64 (x4_1 + 6))) else (none)) else (if x3_1.length < 3518437208883 then (waymasterref18_Decode.l0 kj1 a0 (x3_1 ++ [(⟨0, 0, 0, 0, 0⟩ : S29)]) (wrap64 (x4_1 + 6))) else (none)))) else (none)) else (none)) else (none)) else (none)) else (none)) else (none)) else (none)) else (none)) else (none)) else (none)) else (none)) else (none)) = some r := by rw [if_pos rfl] at H; exact H
            clear H
            have H := H1
            clear H1
            by_cases c6 : 0 ≤ x4_1
            · rw [if_pos c6] at H
              have c6b0 : decide (0 ≤ x4_1) = true := decide_eq_true c6
              clear c6
              by_cases c7 : x4_1 < (a0.size : Int)
              · rw [if_pos c7] at H
                have c7b0 : decide (x4_1 < (a0.size : Int)) = true := decide_eq_true c7
                clear c7
                obtain ⟨ji9, hji9⟩ : ∃ j_ : Int, (wrap64 (x4_1 + 1)) = j_ := ⟨_, rfl⟩
                replace H : (if 0 ≤ (ji9) then (if (ji9) < (a0.size : Int) then (if 0 ≤ (wrap64 (x4_1 + 2)) then (if (wrap64 (x4_1 + 2)) < (a0.size : Int) then (if 0 ≤ (wrap64 (x4_1 + 3)) then (if (wrap64 (x4_1 + 3)) < (a0.size : Int) then (if 0 ≤ (wrap64 (x4_1 + 4)) then (if (wrap64 (x4_1 + 4)) < (a0.size : Int) then (if 0 ≤ (wrap64 (x4_1 + 5)) then (if (wrap64 (x4_1 + 5)) < (a0.size : Int) then ((waymasterref18_Right.f (wrap64 (bt a0 x4_1)) (wrap64 (bt a0 (ji9))) (wrap64 ((wrap64 (bt a0 (wrap64 (x4_1 + 2)))) + (wrap64 (256 * (wrap64 (bt a0 (wrap64 (x4_1 + 3)))))))) (wrap64 (bt a0 (wrap64 (x4_1 + 4)))) (wrap64 (bt a0 (wrap64 (x4_1 + 5))))).bind fun t112 => (if t112 = true then (if x3_1.length < 3518437208883 then (waymasterref18_Decode.l0 kj1 a0 (x3_1 ++ [(⟨wrap64 (bt a0 x4_1), wrap64 (bt a0 (ji9)), wrap64 ((wrap64 (bt a0 (wrap64 (x4_1 + 2)))) + (wrap64 (256 * (wrap64 (bt a0 (wrap64 (x4_1 + 3))))))), wrap64 (bt a0 (wrap64 (x4_1 + 4))), wrap64 (bt a0 (wrap64 (x4_1 + 5)))⟩ : S29)]) (wrap64 (x4_1 + 6))) else (none)) else (if x3_1.length < 3518437208883 then (waymasterref18_Decode.l0 kj1 a0 (x3_1 ++ [(⟨0, 0, 0, 0, 0⟩ : S29)]) (wrap64 (x4_1 + 6))) else (none)))) else (none)) else (none)) else (none)) else (none)) else (none)) else (none)) else (none)) else (none)) else (none)) else (none)) = some r := by first | (rw [hji9] at H; exact H) | (simp only [hji9] at H ⊢; exact H)
                have hji9w : (IntKind.i64.wrap (x4_1 + 1)) = ji9 := (i64_w _).trans hji9
                by_cases c10 : 0 ≤ (ji9)
                · rw [if_pos c10] at H
                  have c10b0 : decide (0 ≤ (ji9)) = true := decide_eq_true c10
                  clear c10
                  by_cases c11 : (ji9) < (a0.size : Int)
                  · rw [if_pos c11] at H
                    have c11b0 : decide ((ji9) < (a0.size : Int)) = true := decide_eq_true c11
                    clear c11
                    obtain ⟨ji13, hji13⟩ : ∃ j_ : Int, (wrap64 (x4_1 + 2)) = j_ := ⟨_, rfl⟩
                    replace H : (if 0 ≤ (ji13) then (if (ji13) < (a0.size : Int) then (if 0 ≤ (wrap64 (x4_1 + 3)) then (if (wrap64 (x4_1 + 3)) < (a0.size : Int) then (if 0 ≤ (wrap64 (x4_1 + 4)) then (if (wrap64 (x4_1 + 4)) < (a0.size : Int) then (if 0 ≤ (wrap64 (x4_1 + 5)) then (if (wrap64 (x4_1 + 5)) < (a0.size : Int) then ((waymasterref18_Right.f (wrap64 (bt a0 x4_1)) (wrap64 (bt a0 (ji9))) (wrap64 ((wrap64 (bt a0 (ji13))) + (wrap64 (256 * (wrap64 (bt a0 (wrap64 (x4_1 + 3)))))))) (wrap64 (bt a0 (wrap64 (x4_1 + 4)))) (wrap64 (bt a0 (wrap64 (x4_1 + 5))))).bind fun t112 => (if t112 = true then (if x3_1.length < 3518437208883 then (waymasterref18_Decode.l0 kj1 a0 (x3_1 ++ [(⟨wrap64 (bt a0 x4_1), wrap64 (bt a0 (ji9)), wrap64 ((wrap64 (bt a0 (ji13))) + (wrap64 (256 * (wrap64 (bt a0 (wrap64 (x4_1 + 3))))))), wrap64 (bt a0 (wrap64 (x4_1 + 4))), wrap64 (bt a0 (wrap64 (x4_1 + 5)))⟩ : S29)]) (wrap64 (x4_1 + 6))) else (none)) else (if x3_1.length < 3518437208883 then (waymasterref18_Decode.l0 kj1 a0 (x3_1 ++ [(⟨0, 0, 0, 0, 0⟩ : S29)]) (wrap64 (x4_1 + 6))) else (none)))) else (none)) else (none)) else (none)) else (none)) else (none)) else (none)) else (none)) else (none)) = some r := by first | (rw [hji13] at H; exact H) | (simp only [hji13] at H ⊢; exact H)
                    have hji13w : (IntKind.i64.wrap (x4_1 + 2)) = ji13 := (i64_w _).trans hji13
                    by_cases c14 : 0 ≤ (ji13)
                    · rw [if_pos c14] at H
                      have c14b0 : decide (0 ≤ (ji13)) = true := decide_eq_true c14
                      clear c14
                      by_cases c15 : (ji13) < (a0.size : Int)
                      · rw [if_pos c15] at H
                        have c15b0 : decide ((ji13) < (a0.size : Int)) = true := decide_eq_true c15
                        clear c15
                        obtain ⟨ji17, hji17⟩ : ∃ j_ : Int, (wrap64 (x4_1 + 3)) = j_ := ⟨_, rfl⟩
                        replace H : (if 0 ≤ (ji17) then (if (ji17) < (a0.size : Int) then (if 0 ≤ (wrap64 (x4_1 + 4)) then (if (wrap64 (x4_1 + 4)) < (a0.size : Int) then (if 0 ≤ (wrap64 (x4_1 + 5)) then (if (wrap64 (x4_1 + 5)) < (a0.size : Int) then ((waymasterref18_Right.f (wrap64 (bt a0 x4_1)) (wrap64 (bt a0 (ji9))) (wrap64 ((wrap64 (bt a0 (ji13))) + (wrap64 (256 * (wrap64 (bt a0 (ji17))))))) (wrap64 (bt a0 (wrap64 (x4_1 + 4)))) (wrap64 (bt a0 (wrap64 (x4_1 + 5))))).bind fun t112 => (if t112 = true then (if x3_1.length < 3518437208883 then (waymasterref18_Decode.l0 kj1 a0 (x3_1 ++ [(⟨wrap64 (bt a0 x4_1), wrap64 (bt a0 (ji9)), wrap64 ((wrap64 (bt a0 (ji13))) + (wrap64 (256 * (wrap64 (bt a0 (ji17)))))), wrap64 (bt a0 (wrap64 (x4_1 + 4))), wrap64 (bt a0 (wrap64 (x4_1 + 5)))⟩ : S29)]) (wrap64 (x4_1 + 6))) else (none)) else (if x3_1.length < 3518437208883 then (waymasterref18_Decode.l0 kj1 a0 (x3_1 ++ [(⟨0, 0, 0, 0, 0⟩ : S29)]) (wrap64 (x4_1 + 6))) else (none)))) else (none)) else (none)) else (none)) else (none)) else (none)) else (none)) = some r := by first | (rw [hji17] at H; exact H) | (simp only [hji17] at H ⊢; exact H)
                        have hji17w : (IntKind.i64.wrap (x4_1 + 3)) = ji17 := (i64_w _).trans hji17
                        by_cases c18 : 0 ≤ (ji17)
                        · rw [if_pos c18] at H
                          have c18b0 : decide (0 ≤ (ji17)) = true := decide_eq_true c18
                          clear c18
                          by_cases c19 : (ji17) < (a0.size : Int)
                          · rw [if_pos c19] at H
                            have c19b0 : decide ((ji17) < (a0.size : Int)) = true := decide_eq_true c19
                            clear c19
                            obtain ⟨ji21, hji21⟩ : ∃ j_ : Int, (wrap64 (x4_1 + 4)) = j_ := ⟨_, rfl⟩
                            replace H : (if 0 ≤ (ji21) then (if (ji21) < (a0.size : Int) then (if 0 ≤ (wrap64 (x4_1 + 5)) then (if (wrap64 (x4_1 + 5)) < (a0.size : Int) then ((waymasterref18_Right.f (wrap64 (bt a0 x4_1)) (wrap64 (bt a0 (ji9))) (wrap64 ((wrap64 (bt a0 (ji13))) + (wrap64 (256 * (wrap64 (bt a0 (ji17))))))) (wrap64 (bt a0 (ji21))) (wrap64 (bt a0 (wrap64 (x4_1 + 5))))).bind fun t112 => (if t112 = true then (if x3_1.length < 3518437208883 then (waymasterref18_Decode.l0 kj1 a0 (x3_1 ++ [(⟨wrap64 (bt a0 x4_1), wrap64 (bt a0 (ji9)), wrap64 ((wrap64 (bt a0 (ji13))) + (wrap64 (256 * (wrap64 (bt a0 (ji17)))))), wrap64 (bt a0 (ji21)), wrap64 (bt a0 (wrap64 (x4_1 + 5)))⟩ : S29)]) (wrap64 (x4_1 + 6))) else (none)) else (if x3_1.length < 3518437208883 then (waymasterref18_Decode.l0 kj1 a0 (x3_1 ++ [(⟨0, 0, 0, 0, 0⟩ : S29)]) (wrap64 (x4_1 + 6))) else (none)))) else (none)) else (none)) else (none)) else (none)) = some r := by first | (rw [hji21] at H; exact H) | (simp only [hji21] at H ⊢; exact H)
                            have hji21w : (IntKind.i64.wrap (x4_1 + 4)) = ji21 := (i64_w _).trans hji21
                            by_cases c22 : 0 ≤ (ji21)
                            · rw [if_pos c22] at H
                              have c22b0 : decide (0 ≤ (ji21)) = true := decide_eq_true c22
                              clear c22
                              by_cases c23 : (ji21) < (a0.size : Int)
                              · rw [if_pos c23] at H
                                have c23b0 : decide ((ji21) < (a0.size : Int)) = true := decide_eq_true c23
                                clear c23
                                obtain ⟨ji25, hji25⟩ : ∃ j_ : Int, (wrap64 (x4_1 + 5)) = j_ := ⟨_, rfl⟩
                                replace H : (if 0 ≤ (ji25) then (if (ji25) < (a0.size : Int) then ((waymasterref18_Right.f (wrap64 (bt a0 x4_1)) (wrap64 (bt a0 (ji9))) (wrap64 ((wrap64 (bt a0 (ji13))) + (wrap64 (256 * (wrap64 (bt a0 (ji17))))))) (wrap64 (bt a0 (ji21))) (wrap64 (bt a0 (ji25)))).bind fun t112 => (if t112 = true then (if x3_1.length < 3518437208883 then (waymasterref18_Decode.l0 kj1 a0 (x3_1 ++ [(⟨wrap64 (bt a0 x4_1), wrap64 (bt a0 (ji9)), wrap64 ((wrap64 (bt a0 (ji13))) + (wrap64 (256 * (wrap64 (bt a0 (ji17)))))), wrap64 (bt a0 (ji21)), wrap64 (bt a0 (ji25))⟩ : S29)]) (wrap64 (x4_1 + 6))) else (none)) else (if x3_1.length < 3518437208883 then (waymasterref18_Decode.l0 kj1 a0 (x3_1 ++ [(⟨0, 0, 0, 0, 0⟩ : S29)]) (wrap64 (x4_1 + 6))) else (none)))) else (none)) else (none)) = some r := by first | (rw [hji25] at H; exact H) | (simp only [hji25] at H ⊢; exact H)
                                have hji25w : (IntKind.i64.wrap (x4_1 + 5)) = ji25 := (i64_w _).trans hji25
                                by_cases c26 : 0 ≤ (ji25)
                                · rw [if_pos c26] at H
                                  have c26b0 : decide (0 ≤ (ji25)) = true := decide_eq_true c26
                                  clear c26
                                  by_cases c27 : (ji25) < (a0.size : Int)
                                  · rw [if_pos c27] at H
                                    have c27b0 : decide ((ji25) < (a0.size : Int)) = true := decide_eq_true c27
                                    clear c27
                                    replace H := Option.bind_eq_some_iff.mp H
                                    obtain ⟨t112, A290, H⟩ := H
                                    replace H : (if t112 = true then (if x3_1.length < 3518437208883 then (waymasterref18_Decode.l0 kj1 a0 (x3_1 ++ [(⟨wrap64 (bt a0 x4_1), wrap64 (bt a0 (ji9)), wrap64 ((wrap64 (bt a0 (ji13))) + (wrap64 (256 * (wrap64 (bt a0 (ji17)))))), wrap64 (bt a0 (ji21)), wrap64 (bt a0 (ji25))⟩ : S29)]) (wrap64 (x4_1 + 6))) else (none)) else (if x3_1.length < 3518437208883 then (waymasterref18_Decode.l0 kj1 a0 (x3_1 ++ [(⟨0, 0, 0, 0, 0⟩ : S29)]) (wrap64 (x4_1 + 6))) else (none))) = some r := H
                                    have A29 := Aside0.mk A290
                                    clear A290
                                    by_cases c30 : t112 = true
                                    · subst c30
                                      have H1 : (if x3_1.length < 3518437208883 then (waymasterref18_Decode.l0 kj1 a0 (x3_1 ++ [(⟨wrap64 (bt a0 x4_1), wrap64 (bt a0 (ji9)), wrap64 ((wrap64 (bt a0 (ji13))) + (wrap64 (256 * (wrap64 (bt a0 (ji17)))))), wrap64 (bt a0 (ji21)), wrap64 (bt a0 (ji25))⟩ : S29)]) (wrap64 (x4_1 + 6))) else (none)) = some r := by rw [if_pos rfl] at H; exact H
                                      clear H
                                      have H := H1
                                      clear H1
                                      by_cases c31 : x3_1.length < 3518437208883
                                      · rw [if_pos c31] at H
                                        have LMc31 := Aside0.mk c31
                                        clear c31
                                        obtain ⟨y113, hy113⟩ : ∃ y_ : List (S29), y_ = (x3_1 ++ [(⟨wrap64 (bt a0 x4_1), wrap64 (bt a0 (ji9)), wrap64 ((wrap64 (bt a0 (ji13))) + (wrap64 (256 * (wrap64 (bt a0 (ji17)))))), wrap64 (bt a0 (ji21)), wrap64 (bt a0 (ji25))⟩ : S29)]) := ⟨_, rfl⟩
                                        replace H : (waymasterref18_Decode.l0 kj1 a0 y113 (wrap64 (x4_1 + 6))) = some r := by first | (rw [hy113]; with_reducible exact H) | (have H2_ := (Option.bind_some _ _).symm.trans H; rw [hy113]; with_reducible exact H2_) | (have H2_ := (Option.bind_some _ _).symm.trans H; with_reducible exact H2_) | with_reducible exact H | (rw [hy113]; exact H) | exact H
                                        have Ny113 := Aside0.mk hy113
                                        clear hy113
                                        have H' := Aside0.mk H
                                        clear H
                                        try go_wp2
                                        have n0_ := Aside0.mk (Kd.R_drew HO_3.out)
                                        have n1_ := Aside0.mk (below_drew1 HB.out)
                                        clear HO_3
                                        clear HB
                                        have HO_3 := n0_
                                        have HB := n1_
                                        clear n0_ n1_
                                        have p8 : 0 ≤ (x4_1 : Int) := of_decide_eq_true (by first | (with_reducible assumption) | assumption)
                                        have q8 : x4_1 < (a0.size : Int) := of_decide_eq_true (by first | (with_reducible assumption) | assumption)
                                        have hx8 := bt_at a0 x4_1
                                        replace p8 := eq_true p8
                                        replace q8 := eq_true q8
                                        have p12 : 0 ≤ ((ji9) : Int) := of_decide_eq_true (by first | (with_reducible assumption) | assumption)
                                        have q12 : (ji9) < (a0.size : Int) := of_decide_eq_true (by first | (with_reducible assumption) | assumption)
                                        have hx12 := bt_at a0 (ji9)
                                        replace p12 := eq_true p12
                                        replace q12 := eq_true q12
                                        have p16 : 0 ≤ ((ji13) : Int) := of_decide_eq_true (by first | (with_reducible assumption) | assumption)
                                        have q16 : (ji13) < (a0.size : Int) := of_decide_eq_true (by first | (with_reducible assumption) | assumption)
                                        have hx16 := bt_at a0 (ji13)
                                        replace p16 := eq_true p16
                                        replace q16 := eq_true q16
                                        have p20 : 0 ≤ ((ji17) : Int) := of_decide_eq_true (by first | (with_reducible assumption) | assumption)
                                        have q20 : (ji17) < (a0.size : Int) := of_decide_eq_true (by first | (with_reducible assumption) | assumption)
                                        have hx20 := bt_at a0 (ji17)
                                        replace p20 := eq_true p20
                                        replace q20 := eq_true q20
                                        have p24 : 0 ≤ ((ji21) : Int) := of_decide_eq_true (by first | (with_reducible assumption) | assumption)
                                        have q24 : (ji21) < (a0.size : Int) := of_decide_eq_true (by first | (with_reducible assumption) | assumption)
                                        have hx24 := bt_at a0 (ji21)
                                        replace p24 := eq_true p24
                                        replace q24 := eq_true q24
                                        have p28 : 0 ≤ ((ji25) : Int) := of_decide_eq_true (by first | (with_reducible assumption) | assumption)
                                        have q28 : (ji25) < (a0.size : Int) := of_decide_eq_true (by first | (with_reducible assumption) | assumption)
                                        have hx28 := bt_at a0 (ji25)
                                        replace p28 := eq_true p28
                                        replace q28 := eq_true q28
                                        refine start_ (n := 34) (S := fun w' => True) (ds := []) #[false, false, false, false, false, false, false, false, false, false, false, false, false, false, false, false, false, false, false, false, false, false, false, false, false, false, false, false, false, false, false, false, false, false] (by kernel_rfl) rfl rfl trivial (fun hHeld => ?_); refine with_tabW waymasterref18_Decode.tab5 waymasterref18_Decode.bits5 (fun HT_ HW_ => ?_)
                                        generalize wc.drew = w32 at HO_3 HB hHeld ⊢
                                        refine pure_ (i := 0) (N := some 19) (v := ?_) (a' := ?_) #[true, false, false, false, false, false, false, false, false, false, false, false, false, false, false, false, false, false, false, false, false, false, false, false, false, false, false, false, false, false, false, false, false, false] rfl rfl (any_of HT_.out (by kernel_rfl)) (fun _ _ _ h => h) (Or.inl ⟨by rfl, ?_⟩) ?_ ?_
                                        rotate_left
                                        · intro w'
                                          go_simp
                                          with_reducible rfl
                                        rotate_left
                                        · simp only [Act.put, List.setIfInBounds_toArray, List.set_cons_zero, List.set_cons_succ, i64_w, i32_w]
                                          rfl
                                        refine pure_ (i := 1) (N := some 20) (v := ?_) (a' := ?_) #[true, true, false, false, false, false, false, false, false, false, false, false, false, false, false, false, false, false, false, false, false, false, false, false, false, false, false, false, false, false, false, false, false, false] rfl rfl (any_of HT_.out (by kernel_rfl)) (fun _ _ _ h => h) (Or.inl ⟨by rfl, ?_⟩) ?_ ?_
                                        rotate_left
                                        · intro w'
                                          go_simp
                                          with_reducible rfl
                                        rotate_left
                                        · simp only [Act.put, List.setIfInBounds_toArray, List.set_cons_zero, List.set_cons_succ, i64_w, i32_w]
                                          rfl
                                        refine pure_ (i := 4) (N := some 23) (v := ?_) (a' := ?_) #[true, true, false, false, true, false, false, false, false, false, false, false, false, false, false, false, false, false, false, false, false, false, false, false, false, false, false, false, false, false, false, false, false, false] rfl rfl (any_of HT_.out (by kernel_rfl)) (fun _ _ _ h => h) (Or.inl ⟨by rfl, ?_⟩) ?_ ?_
                                        rotate_left
                                        · intro w'
                                          go_simp
                                          with_reducible rfl
                                        rotate_left
                                        · simp only [Act.put, List.setIfInBounds_toArray, List.set_cons_zero, List.set_cons_succ, i64_w, i32_w]
                                          rfl
                                        refine pure_ (i := 5) (N := some 24) (v := ?_) (a' := ?_) #[true, true, false, false, true, true, false, false, false, false, false, false, false, false, false, false, false, false, false, false, false, false, false, false, false, false, false, false, false, false, false, false, false, false] rfl rfl (any_of HT_.out (by kernel_rfl)) (fun _ _ _ h => h) (Or.inl ⟨by rfl, ?_⟩) ?_ ?_
                                        rotate_left
                                        · intro w'
                                          go_simp
                                          with_reducible rfl
                                        rotate_left
                                        · simp only [Act.put, List.setIfInBounds_toArray, List.set_cons_zero, List.set_cons_succ, i64_w, i32_w]
                                          rfl
                                        refine pure_ (i := 6) (N := some 25) (v := ?_) (a' := ?_) #[true, true, false, false, true, true, true, false, false, false, false, false, false, false, false, false, false, false, false, false, false, false, false, false, false, false, false, false, false, false, false, false, false, false] rfl rfl (any_of HT_.out (by kernel_rfl)) (fun _ _ _ h => h) (Or.inl ⟨by rfl, ?_⟩) ?_ ?_
                                        rotate_left
                                        · intro w'
                                          go_simp
                                          with_reducible rfl
                                        rotate_left
                                        · simp only [Act.put, List.setIfInBounds_toArray, List.set_cons_zero, List.set_cons_succ, i64_w, i32_w]
                                          rfl
                                        refine pure_ (i := 9) (N := some 28) (v := ?_) (a' := ?_) #[true, true, false, false, true, true, true, false, false, true, false, false, false, false, false, false, false, false, false, false, false, false, false, false, false, false, false, false, false, false, false, false, false, false] rfl rfl (any_of HT_.out (by kernel_rfl)) (fun _ _ _ h => h) (Or.inl ⟨by rfl, ?_⟩) ?_ ?_
                                        rotate_left
                                        · intro w'
                                          go_simp
                                          with_reducible rfl
                                        rotate_left
                                        · simp only [Act.put, List.setIfInBounds_toArray, List.set_cons_zero, List.set_cons_succ, i64_w, i32_w]
                                          rfl
                                        refine pure_ (i := 10) (N := some 29) (v := ?_) (a' := ?_) #[true, true, false, false, true, true, true, false, false, true, true, false, false, false, false, false, false, false, false, false, false, false, false, false, false, false, false, false, false, false, false, false, false, false] rfl rfl (any_of HT_.out (by kernel_rfl)) (fun _ _ _ h => h) (Or.inl ⟨by rfl, ?_⟩) ?_ ?_
                                        rotate_left
                                        · intro w'
                                          go_simp
                                          with_reducible rfl
                                        rotate_left
                                        · simp only [Act.put, List.setIfInBounds_toArray, List.set_cons_zero, List.set_cons_succ, i64_w, i32_w]
                                          rfl
                                        refine pure_ (i := 11) (N := some 30) (v := ?_) (a' := ?_) #[true, true, false, false, true, true, true, false, false, true, true, true, false, false, false, false, false, false, false, false, false, false, false, false, false, false, false, false, false, false, false, false, false, false] rfl rfl (any_of HT_.out (by kernel_rfl)) (fun _ _ _ h => h) (Or.inl ⟨by rfl, ?_⟩) ?_ ?_
                                        rotate_left
                                        · intro w'
                                          go_simp
                                          with_reducible rfl
                                        rotate_left
                                        · simp only [Act.put, List.setIfInBounds_toArray, List.set_cons_zero, List.set_cons_succ, i64_w, i32_w]
                                          rfl
                                        refine pure_ (i := 14) (N := some 33) (v := ?_) (a' := ?_) #[true, true, false, false, true, true, true, false, false, true, true, true, false, false, true, false, false, false, false, false, false, false, false, false, false, false, false, false, false, false, false, false, false, false] rfl rfl (any_of HT_.out (by kernel_rfl)) (fun _ _ _ h => h) (Or.inl ⟨by rfl, ?_⟩) ?_ ?_
                                        rotate_left
                                        · intro w'
                                          go_simp
                                          with_reducible rfl
                                        rotate_left
                                        · simp only [Act.put, List.setIfInBounds_toArray, List.set_cons_zero, List.set_cons_succ, i64_w, i32_w]
                                          rfl
                                        refine pure_ (i := 15) (N := some 34) (v := ?_) (a' := ?_) #[true, true, false, false, true, true, true, false, false, true, true, true, false, false, true, true, false, false, false, false, false, false, false, false, false, false, false, false, false, false, false, false, false, false] rfl rfl (any_of HT_.out (by kernel_rfl)) (fun _ _ _ h => h) (Or.inl ⟨by rfl, ?_⟩) ?_ ?_
                                        rotate_left
                                        · intro w'
                                          go_simp
                                          with_reducible rfl
                                        rotate_left
                                        · simp only [Act.put, List.setIfInBounds_toArray, List.set_cons_zero, List.set_cons_succ, i64_w, i32_w]
                                          rfl
                                        refine pure_ (i := 16) (N := some 35) (v := ?_) (a' := ?_) #[true, true, false, false, true, true, true, false, false, true, true, true, false, false, true, true, true, false, false, false, false, false, false, false, false, false, false, false, false, false, false, false, false, false] rfl rfl (any_of HT_.out (by kernel_rfl)) (fun _ _ _ h => h) (Or.inl ⟨by rfl, ?_⟩) ?_ ?_
                                        rotate_left
                                        · intro w'
                                          go_simp
                                          with_reducible rfl
                                        rotate_left
                                        · simp only [Act.put, List.setIfInBounds_toArray, List.set_cons_zero, List.set_cons_succ, i64_w, i32_w]
                                          rfl
                                        refine pure_ (i := 21) (N := some 40) (v := ?_) (a' := ?_) #[true, true, false, false, true, true, true, false, false, true, true, true, false, false, true, true, true, false, false, false, false, true, false, false, false, false, false, false, false, false, false, false, false, false] rfl rfl (any_of HT_.out (by kernel_rfl)) (fun _ _ _ h => h) (Or.inl ⟨by rfl, ?_⟩) ?_ ?_
                                        rotate_left
                                        · intro w'
                                          go_simp
                                          with_reducible rfl
                                        rotate_left
                                        · simp only [Act.put, List.setIfInBounds_toArray, List.set_cons_zero, List.set_cons_succ, i64_w, i32_w]
                                          rfl
                                        refine pure_ (i := 22) (N := some 41) (v := ?_) (a' := ?_) #[true, true, false, false, true, true, true, false, false, true, true, true, false, false, true, true, true, false, false, false, false, true, true, false, false, false, false, false, false, false, false, false, false, false] rfl rfl (any_of HT_.out (by kernel_rfl)) (fun _ _ _ h => h) (Or.inl ⟨by rfl, ?_⟩) ?_ ?_
                                        rotate_left
                                        · intro w'
                                          go_simp
                                          with_reducible rfl
                                        rotate_left
                                        · simp only [Act.put, List.setIfInBounds_toArray, List.set_cons_zero, List.set_cons_succ, i64_w, i32_w]
                                          rfl
                                        refine pure_ (i := 23) (N := some 42) (v := ?_) (a' := ?_) #[true, true, false, false, true, true, true, false, false, true, true, true, false, false, true, true, true, false, false, false, false, true, true, true, false, false, false, false, false, false, false, false, false, false] rfl rfl (any_of HT_.out (by kernel_rfl)) (fun _ _ _ h => h) (Or.inl ⟨by rfl, ?_⟩) ?_ ?_
                                        rotate_left
                                        · intro w'
                                          go_simp
                                          with_reducible rfl
                                        rotate_left
                                        · simp only [Act.put, List.setIfInBounds_toArray, List.set_cons_zero, List.set_cons_succ, i64_w, i32_w]
                                          rfl
                                        refine pure_ (i := 26) (N := some 45) (v := ?_) (a' := ?_) #[true, true, false, false, true, true, true, false, false, true, true, true, false, false, true, true, true, false, false, false, false, true, true, true, false, false, true, false, false, false, false, false, false, false] rfl rfl (any_of HT_.out (by kernel_rfl)) (fun _ _ _ h => h) (Or.inl ⟨by rfl, ?_⟩) ?_ ?_
                                        rotate_left
                                        · intro w'
                                          go_simp
                                          with_reducible rfl
                                        rotate_left
                                        · simp only [Act.put, List.setIfInBounds_toArray, List.set_cons_zero, List.set_cons_succ, i64_w, i32_w]
                                          rfl
                                        refine pure_ (i := 27) (N := some 46) (v := ?_) (a' := ?_) #[true, true, false, false, true, true, true, false, false, true, true, true, false, false, true, true, true, false, false, false, false, true, true, true, false, false, true, true, false, false, false, false, false, false] rfl rfl (any_of HT_.out (by kernel_rfl)) (fun _ _ _ h => h) (Or.inl ⟨by rfl, ?_⟩) ?_ ?_
                                        rotate_left
                                        · intro w'
                                          go_simp
                                          with_reducible rfl
                                        rotate_left
                                        · simp only [Act.put, List.setIfInBounds_toArray, List.set_cons_zero, List.set_cons_succ, i64_w, i32_w]
                                          rfl
                                        refine pure_ (i := 28) (N := some 47) (v := ?_) (a' := ?_) #[true, true, false, false, true, true, true, false, false, true, true, true, false, false, true, true, true, false, false, false, false, true, true, true, false, false, true, true, true, false, false, false, false, false] rfl rfl (any_of HT_.out (by kernel_rfl)) (fun _ _ _ h => h) (Or.inl ⟨by rfl, ?_⟩) ?_ ?_
                                        rotate_left
                                        · intro w'
                                          go_simp
                                          with_reducible rfl
                                        rotate_left
                                        · simp only [Act.put, List.setIfInBounds_toArray, List.set_cons_zero, List.set_cons_succ, i64_w, i32_w]
                                          rfl
                                        refine take_ (i := 2) (N := some 21) (v := ?_) (a' := ?_) #[true, true, true, false, true, true, true, false, false, true, true, true, false, false, true, true, true, false, false, false, false, true, true, true, false, false, true, true, true, false, false, false, false, false] rfl rfl (take_ofW HT_.out HW_.out (by kernel_rfl)) (fun _ _ _ h => h) (Or.inl ⟨by rfl, ?_⟩) hHeld ?_ ?_
                                        rotate_left
                                        · intro w' _
                                          go_simp
                                          with_reducible rfl
                                        rotate_left
                                        · simp only [Act.put, List.setIfInBounds_toArray, List.set_cons_zero, List.set_cons_succ, i64_w, i32_w]
                                          rfl
                                        refine pure_ (i := 3) (N := some 22) (v := ?_) (a' := ?_) #[true, true, true, true, true, true, true, false, false, true, true, true, false, false, true, true, true, false, false, false, false, true, true, true, false, false, true, true, true, false, false, false, false, false] rfl rfl (any_of HT_.out (by kernel_rfl)) (fun _ _ _ h => h) (Or.inl ⟨by rfl, ?_⟩) ?_ ?_
                                        rotate_left
                                        · intro w'
                                          go_simp
                                          with_reducible rfl
                                        rotate_left
                                        · simp only [Act.put, List.setIfInBounds_toArray, List.set_cons_zero, List.set_cons_succ, i64_w, i32_w]
                                          rfl
                                        refine take_ (i := 7) (N := some 26) (v := ?_) (a' := ?_) #[true, true, true, true, true, true, true, true, false, true, true, true, false, false, true, true, true, false, false, false, false, true, true, true, false, false, true, true, true, false, false, false, false, false] rfl rfl (take_ofW HT_.out HW_.out (by kernel_rfl)) (fun _ _ _ h => h) (Or.inl ⟨by rfl, ?_⟩) hHeld ?_ ?_
                                        rotate_left
                                        · intro w' _
                                          go_simp
                                          with_reducible rfl
                                        rotate_left
                                        · simp only [Act.put, List.setIfInBounds_toArray, List.set_cons_zero, List.set_cons_succ, i64_w, i32_w]
                                          rfl
                                        refine pure_ (i := 8) (N := some 27) (v := ?_) (a' := ?_) #[true, true, true, true, true, true, true, true, true, true, true, true, false, false, true, true, true, false, false, false, false, true, true, true, false, false, true, true, true, false, false, false, false, false] rfl rfl (any_of HT_.out (by kernel_rfl)) (fun _ _ _ h => h) (Or.inl ⟨by rfl, ?_⟩) ?_ ?_
                                        rotate_left
                                        · intro w'
                                          go_simp
                                          with_reducible rfl
                                        rotate_left
                                        · simp only [Act.put, List.setIfInBounds_toArray, List.set_cons_zero, List.set_cons_succ, i64_w, i32_w]
                                          rfl
                                        refine take_ (i := 12) (N := some 31) (v := ?_) (a' := ?_) #[true, true, true, true, true, true, true, true, true, true, true, true, true, false, true, true, true, false, false, false, false, true, true, true, false, false, true, true, true, false, false, false, false, false] rfl rfl (take_ofW HT_.out HW_.out (by kernel_rfl)) (fun _ _ _ h => h) (Or.inl ⟨by rfl, ?_⟩) hHeld ?_ ?_
                                        rotate_left
                                        · intro w' _
                                          go_simp
                                          with_reducible rfl
                                        rotate_left
                                        · simp only [Act.put, List.setIfInBounds_toArray, List.set_cons_zero, List.set_cons_succ, i64_w, i32_w]
                                          rfl
                                        refine pure_ (i := 13) (N := some 32) (v := ?_) (a' := ?_) #[true, true, true, true, true, true, true, true, true, true, true, true, true, true, true, true, true, false, false, false, false, true, true, true, false, false, true, true, true, false, false, false, false, false] rfl rfl (any_of HT_.out (by kernel_rfl)) (fun _ _ _ h => h) (Or.inl ⟨by rfl, ?_⟩) ?_ ?_
                                        rotate_left
                                        · intro w'
                                          go_simp
                                          with_reducible rfl
                                        rotate_left
                                        · simp only [Act.put, List.setIfInBounds_toArray, List.set_cons_zero, List.set_cons_succ, i64_w, i32_w]
                                          rfl
                                        refine take_ (i := 17) (N := some 36) (v := ?_) (a' := ?_) #[true, true, true, true, true, true, true, true, true, true, true, true, true, true, true, true, true, true, false, false, false, true, true, true, false, false, true, true, true, false, false, false, false, false] rfl rfl (take_ofW HT_.out HW_.out (by kernel_rfl)) (fun _ _ _ h => h) (Or.inl ⟨by rfl, ?_⟩) hHeld ?_ ?_
                                        rotate_left
                                        · intro w' _
                                          go_simp
                                          with_reducible rfl
                                        rotate_left
                                        · simp only [Act.put, List.setIfInBounds_toArray, List.set_cons_zero, List.set_cons_succ, i64_w, i32_w]
                                          rfl
                                        refine pure_ (i := 18) (N := some 37) (v := ?_) (a' := ?_) #[true, true, true, true, true, true, true, true, true, true, true, true, true, true, true, true, true, true, true, false, false, true, true, true, false, false, true, true, true, false, false, false, false, false] rfl rfl (any_of HT_.out (by kernel_rfl)) (fun _ _ _ h => h) (Or.inl ⟨by rfl, ?_⟩) ?_ ?_
                                        rotate_left
                                        · intro w'
                                          go_simp
                                          with_reducible rfl
                                        rotate_left
                                        · simp only [Act.put, List.setIfInBounds_toArray, List.set_cons_zero, List.set_cons_succ, i64_w, i32_w]
                                          rfl
                                        refine pure_ (i := 19) (N := some 38) (v := ?_) (a' := ?_) #[true, true, true, true, true, true, true, true, true, true, true, true, true, true, true, true, true, true, true, true, false, true, true, true, false, false, true, true, true, false, false, false, false, false] rfl rfl (any_of HT_.out (by kernel_rfl)) (fun _ _ _ h => h) (Or.inl ⟨by rfl, ?_⟩) ?_ ?_
                                        rotate_left
                                        · intro w'
                                          go_simp
                                          with_reducible rfl
                                        rotate_left
                                        · simp only [Act.put, List.setIfInBounds_toArray, List.set_cons_zero, List.set_cons_succ, i64_w, i32_w]
                                          rfl
                                        refine pure_ (i := 20) (N := some 39) (v := ?_) (a' := ?_) #[true, true, true, true, true, true, true, true, true, true, true, true, true, true, true, true, true, true, true, true, true, true, true, true, false, false, true, true, true, false, false, false, false, false] rfl rfl (any_of HT_.out (by kernel_rfl)) (fun _ _ _ h => h) (Or.inl ⟨by rfl, ?_⟩) ?_ ?_
                                        rotate_left
                                        · intro w'
                                          go_simp
                                          with_reducible rfl
                                        rotate_left
                                        · simp only [Act.put, List.setIfInBounds_toArray, List.set_cons_zero, List.set_cons_succ, i64_w, i32_w]
                                          rfl
                                        refine take_ (i := 24) (N := some 43) (v := ?_) (a' := ?_) #[true, true, true, true, true, true, true, true, true, true, true, true, true, true, true, true, true, true, true, true, true, true, true, true, true, false, true, true, true, false, false, false, false, false] rfl rfl (take_ofW HT_.out HW_.out (by kernel_rfl)) (fun _ _ _ h => h) (Or.inl ⟨by rfl, ?_⟩) hHeld ?_ ?_
                                        rotate_left
                                        · intro w' _
                                          go_simp
                                          with_reducible rfl
                                        rotate_left
                                        · simp only [Act.put, List.setIfInBounds_toArray, List.set_cons_zero, List.set_cons_succ, i64_w, i32_w]
                                          rfl
                                        refine pure_ (i := 25) (N := some 44) (v := ?_) (a' := ?_) #[true, true, true, true, true, true, true, true, true, true, true, true, true, true, true, true, true, true, true, true, true, true, true, true, true, true, true, true, true, false, false, false, false, false] rfl rfl (any_of HT_.out (by kernel_rfl)) (fun _ _ _ h => h) (Or.inl ⟨by rfl, ?_⟩) ?_ ?_
                                        rotate_left
                                        · intro w'
                                          go_simp
                                          with_reducible rfl
                                        rotate_left
                                        · simp only [Act.put, List.setIfInBounds_toArray, List.set_cons_zero, List.set_cons_succ, i64_w, i32_w]
                                          rfl
                                        refine take_ (i := 29) (N := some 48) (v := ?_) (a' := ?_) #[true, true, true, true, true, true, true, true, true, true, true, true, true, true, true, true, true, true, true, true, true, true, true, true, true, true, true, true, true, true, false, false, false, false] rfl rfl (take_ofW HT_.out HW_.out (by kernel_rfl)) (fun _ _ _ h => h) (Or.inl ⟨by rfl, ?_⟩) hHeld ?_ ?_
                                        rotate_left
                                        · intro w' _
                                          go_simp
                                          with_reducible rfl
                                        rotate_left
                                        · simp only [Act.put, List.setIfInBounds_toArray, List.set_cons_zero, List.set_cons_succ, i64_w, i32_w]
                                          rfl
                                        refine pure_ (i := 30) (N := some 49) (v := ?_) (a' := ?_) #[true, true, true, true, true, true, true, true, true, true, true, true, true, true, true, true, true, true, true, true, true, true, true, true, true, true, true, true, true, true, true, false, false, false] rfl rfl (any_of HT_.out (by kernel_rfl)) (fun _ _ _ h => h) (Or.inl ⟨by rfl, ?_⟩) ?_ ?_
                                        rotate_left
                                        · intro w'
                                          go_simp
                                          with_reducible rfl
                                        rotate_left
                                        · simp only [Act.put, List.setIfInBounds_toArray, List.set_cons_zero, List.set_cons_succ, i64_w, i32_w]
                                          rfl
                                        refine pure_ (i := 31) (N := some 50) (v := ?_) (a' := ?_) #[true, true, true, true, true, true, true, true, true, true, true, true, true, true, true, true, true, true, true, true, true, true, true, true, true, true, true, true, true, true, true, true, false, false] rfl rfl (any_of HT_.out (by kernel_rfl)) (fun _ _ _ h => h) (Or.inl ⟨by rfl, ?_⟩) ?_ ?_
                                        rotate_left
                                        · intro w'
                                          go_simp
                                          with_reducible rfl
                                        rotate_left
                                        · simp only [Act.put, List.setIfInBounds_toArray, List.set_cons_zero, List.set_cons_succ, i64_w, i32_w]
                                          rfl
                                        refine one_ (i := 32) (N := some 5) #[true, true, true, true, true, true, true, true, true, true, true, true, true, true, true, true, true, true, true, true, true, true, true, true, true, true, true, true, true, true, true, true, true, false] rfl rfl (one_of HT_.out (by kernel_rfl)) (by decide) (fun K hK => ?_)
                                        refine box_step ?hg (N := 5) ?hd (cs := #[.int .i64 0, .int .i64 0, .int .i64 0, .int .i64 0, .int .i64 0]) (t := 29) ?hr ?_; (case hd => rfl); (case hg => rfl); (case hr => first | (go_simp; done) | (go_simp; rfl))
                                        intro gb111 hg w33 hbox hb
                                        have n0_ := Aside0.mk (Kd.R_below (Kd.R_elderB (by (with_reducible repeat (first | apply Kd.R_alloc | apply Kd.R_drewN | apply Kd.R_drew)); exact HO_3.out) gb111 (Nat.le_of_eq hg.symm)) hb)
                                        have n1_ := Aside0.mk (below_step (by repeat (first | (with_reducible first | exact HB.out | apply below_alloc | apply pw_below_drewN | apply below_drew1) | exact HB.out)) hb)
                                        have n2_ := Aside0.mk (hbox)
                                        have n3_ := Aside0.mk ((by rw [hg]; exact (below_size (by repeat (first | (with_reducible first | exact HB.out | apply below_alloc | apply pw_below_drewN | apply below_drew1) | exact HB.out))) : w.heap.size ≤ gb111))
                                        have n4_ := Aside0.mk ((by rw [hg]; exact (below_size (by repeat (first | (with_reducible first | exact HB.out | apply below_alloc | apply pw_below_drewN | apply below_drew1) | exact HB.out))) : w.heap.size ≤ gb111))
                                        clear HO_3
                                        clear HB
                                        have HO_3 := n0_
                                        have HB := n1_
                                        have BK111 := n2_
                                        have GW111 := n3_
                                        have GE111 := n4_
                                        clear n0_ n1_ n2_ n3_ n4_
                                        clear hb hbox hg
                                        refine hK.out _ _ trivial (fun hHeld => ?_)
                                        clear hK K
                                        refine norm_ (a' := ?_) ?_ ?_
                                        rotate_left
                                        · show Act.put _ (some 5) _ = _
                                          simp only [Act.put, List.setIfInBounds_toArray, List.set_cons_zero, List.set_cons_succ, i64_w, i32_w]
                                          rfl
                                        refine one_ (i := 33) (N := none) #[true, true, true, true, true, true, true, true, true, true, true, true, true, true, true, true, true, true, true, true, true, true, true, true, true, true, true, true, true, true, true, true, true, true] rfl rfl (one_of HT_.out (by kernel_rfl)) (by decide) (fun K hK => ?_)
                                        have hs34 : w33.cell? ⟨gb111, 0, none⟩ = some (.int .i64 0) := (blk_cell BK111.out 0).trans rfl
                                        have hfs34 := blk_frozen BK111.out 0
                                        have hs35 : w33.cell? ⟨gb111, 1, none⟩ = some (.int .i64 0) := (blk_cell BK111.out 1).trans rfl
                                        have hfs35 := blk_frozen BK111.out 1
                                        have hs36 : w33.cell? ⟨gb111, 2, none⟩ = some (.int .i64 0) := (blk_cell BK111.out 2).trans rfl
                                        have hfs36 := blk_frozen BK111.out 2
                                        have hs37 : w33.cell? ⟨gb111, 3, none⟩ = some (.int .i64 0) := (blk_cell BK111.out 3).trans rfl
                                        have hfs37 := blk_frozen BK111.out 3
                                        have hs38 : w33.cell? ⟨gb111, 4, none⟩ = some (.int .i64 0) := (blk_cell BK111.out 4).trans rfl
                                        have hfs38 := blk_frozen BK111.out 4
                                        refine skip_ (w1 := ?_) (by rfl) rfl ?_ ?_
                                        rotate_left
                                        · go_simp
                                          rfl
                                        refine hK.out _ _ trivial (fun hHeld => ?_)
                                        clear hK K
                                        refine done_ (done_of HT_.out (by kernel_rfl)) ?_
                                        have hcz39_0 : w33.cell? ⟨gb111, 0, none⟩ = some (.int .i64 0) := (blk_cell BK111.out 0).trans rfl
                                        have hcz39_1 : w33.cell? ⟨gb111, 1, none⟩ = some (.int .i64 0) := (blk_cell BK111.out 1).trans rfl
                                        have hcz39_2 : w33.cell? ⟨gb111, 2, none⟩ = some (.int .i64 0) := (blk_cell BK111.out 2).trans rfl
                                        have hcz39_3 : w33.cell? ⟨gb111, 3, none⟩ = some (.int .i64 0) := (blk_cell BK111.out 3).trans rfl
                                        have hcz39_4 : w33.cell? ⟨gb111, 4, none⟩ = some (.int .i64 0) := (blk_cell BK111.out 4).trans rfl
                                        have hfz39_0 := blk_frozen BK111.out 0
                                        have hfz39_1 := blk_frozen BK111.out 1
                                        have hfz39_2 := blk_frozen BK111.out 2
                                        have hfz39_3 := blk_frozen BK111.out 3
                                        have hfz39_4 := blk_frozen BK111.out 4
                                        try go_wp2_with (first | ((with_reducible refine gate_callee (f := 27) rfl ?_); refine goesL_ (some 52) rfl rfl Try.func27 (by kernel_rfl) rfl #[.agg #[.int .i64 (wrap64 (bt a0 x4_1)), .int .i64 (wrap64 (bt a0 (ji9))), .int .i64 (wrap64 ((wrap64 (bt a0 (ji13))) + (wrap64 (256 * (wrap64 (bt a0 (ji17))))))), .int .i64 (wrap64 (bt a0 (ji21))), .int .i64 (wrap64 (bt a0 (ji25)))]] rfl (by (try simp only [List.map_toArray, List.map_cons, List.map_nil]); first | done | (simp only [hji13, hji17, hji21, hji25, hji9]; rfl) | rfl | (simp only [List.length_drop, List.length_take]; rfl)) ?_; (with_reducible refine (waymasterref18_Right.calls (wrap64 (bt a0 x4_1)) (wrap64 (bt a0 (ji9))) (wrap64 ((wrap64 (bt a0 (ji13))) + (wrap64 (256 * (wrap64 (bt a0 (ji17))))))) (wrap64 (bt a0 (ji21))) (wrap64 (bt a0 (ji25))) true _ A29.out).mono ?_); rintro e w40 ⟨rfl, hb⟩; refine ⟨_, rfl, ?_⟩; have n0_ := Aside0.mk (Kd.R_below (by (with_reducible repeat (first | apply Kd.R_alloc | apply Kd.R_drewN | apply Kd.R_drew)); exact (Kd.R_mono (Kd.R_far (p := ⟨gb111, 4, none⟩) (Kd.R_far (p := ⟨gb111, 3, none⟩) (Kd.R_far (p := ⟨gb111, 2, none⟩) (Kd.R_far (p := ⟨gb111, 1, none⟩) (Kd.R_far (p := ⟨gb111, 0, none⟩) (Kd.R_mono HO_3.out (fun k_ hk => (⟨hk, hk.2⟩ : _ ∧ k_ ≠ gb111))) (fun _ hk => hk.2) (.int .i64 (wrap64 (bt a0 x4_1)))) (fun _ hk => hk.2) (.int .i64 (wrap64 (bt a0 (ji9))))) (fun _ hk => hk.2) (.int .i64 (wrap64 ((wrap64 (bt a0 (ji13))) + (wrap64 (256 * (wrap64 (bt a0 (ji17))))))))) (fun _ hk => hk.2) (.int .i64 (wrap64 (bt a0 (ji21))))) (fun _ hk => hk.2) (.int .i64 (wrap64 (bt a0 (ji25))))) (fun _ h_ => h_.1))) hb); have n1_ := Aside0.mk (blk_below (g := gb111) (o := .cells #[.int .i64 (wrap64 (bt a0 x4_1)), .int .i64 (wrap64 (bt a0 (ji9))), .int .i64 (wrap64 ((wrap64 (bt a0 (ji13))) + (wrap64 (256 * (wrap64 (bt a0 (ji17))))))), .int .i64 (wrap64 (bt a0 (ji21))), .int .i64 (wrap64 (bt a0 (ji25)))] 29 (0, 0)) (by (with_reducible repeat (first | refine blk_drewN ?_ _ | refine blk_drew ?_ | refine blk_alloc ?_ _)); refine blk_put (cs := #[.int .i64 (wrap64 (bt a0 x4_1)), .int .i64 (wrap64 (bt a0 (ji9))), .int .i64 (wrap64 ((wrap64 (bt a0 (ji13))) + (wrap64 (256 * (wrap64 (bt a0 (ji17))))))), .int .i64 (wrap64 (bt a0 (ji21))), .int .i64 0]) ?_ 4 _ rfl; (with_reducible repeat (first | refine blk_drewN ?_ _ | refine blk_drew ?_ | refine blk_alloc ?_ _)); refine blk_put (cs := #[.int .i64 (wrap64 (bt a0 x4_1)), .int .i64 (wrap64 (bt a0 (ji9))), .int .i64 (wrap64 ((wrap64 (bt a0 (ji13))) + (wrap64 (256 * (wrap64 (bt a0 (ji17))))))), .int .i64 0, .int .i64 0]) ?_ 3 _ rfl; (with_reducible repeat (first | refine blk_drewN ?_ _ | refine blk_drew ?_ | refine blk_alloc ?_ _)); refine blk_put (cs := #[.int .i64 (wrap64 (bt a0 x4_1)), .int .i64 (wrap64 (bt a0 (ji9))), .int .i64 0, .int .i64 0, .int .i64 0]) ?_ 2 _ rfl; (with_reducible repeat (first | refine blk_drewN ?_ _ | refine blk_drew ?_ | refine blk_alloc ?_ _)); refine blk_put (cs := #[.int .i64 (wrap64 (bt a0 x4_1)), .int .i64 0, .int .i64 0, .int .i64 0, .int .i64 0]) ?_ 1 _ rfl; (with_reducible repeat (first | refine blk_drewN ?_ _ | refine blk_drew ?_ | refine blk_alloc ?_ _)); refine blk_put (cs := #[.int .i64 0, .int .i64 0, .int .i64 0, .int .i64 0, .int .i64 0]) ?_ 0 _ rfl; (with_reducible repeat (first | refine blk_drewN ?_ _ | refine blk_drew ?_ | refine blk_alloc ?_ _)); exact BK111.out) hb); have n2_ := Aside0.mk (below_step (by repeat (first | (with_reducible first | exact HB.out | apply below_alloc | apply pw_below_drewN | apply below_drew1 | refine below_set ?_ GE111.out) | exact HB.out)) hb); clear HO_3; clear BK111; clear HB; have HO_3 := n0_; have BK111 := n1_; have HB := n2_; clear n0_ n1_ n2_; (try clear hb); (try clear hb2); (try clear hk); (try clear hi); have hcz41_0 : w40.cell? ⟨gb111, 0, none⟩ = some (.int .i64 (wrap64 (bt a0 x4_1))) := (blk_cell BK111.out 0).trans rfl; have hcz41_1 : w40.cell? ⟨gb111, 1, none⟩ = some (.int .i64 (wrap64 (bt a0 (ji9)))) := (blk_cell BK111.out 1).trans rfl; have hcz41_2 : w40.cell? ⟨gb111, 2, none⟩ = some (.int .i64 (wrap64 ((wrap64 (bt a0 (ji13))) + (wrap64 (256 * (wrap64 (bt a0 (ji17)))))))) := (blk_cell BK111.out 2).trans rfl; have hcz41_3 : w40.cell? ⟨gb111, 3, none⟩ = some (.int .i64 (wrap64 (bt a0 (ji21)))) := (blk_cell BK111.out 3).trans rfl; have hcz41_4 : w40.cell? ⟨gb111, 4, none⟩ = some (.int .i64 (wrap64 (bt a0 (ji25)))) := (blk_cell BK111.out 4).trans rfl; have hfz41_0 := blk_frozen BK111.out 0; have hfz41_1 := blk_frozen BK111.out 1; have hfz41_2 := blk_frozen BK111.out 2; have hfz41_3 := blk_frozen BK111.out 3; have hfz41_4 := blk_frozen BK111.out 4) | ((with_reducible refine gate_builtin (b := .append) (xs := #[.tmp 56, .tmp 58]) rfl ?_); (try (refine gate_guard (by rfl) ?_; dsimp only)); at_builtin; refine Kd.R_append k29 (w0 := w) w.heap.size rfl (.tmp 56) (.tmp 58) 24 29 (.agg #[(.int .i64 0), (.int .i64 0), (.int .i64 0), (.int .i64 0), (.int .i64 0)]) 40 rfl Try.underlying24 info29 rfl (by decide) (by omega) u3 x3_1 (⟨wrap64 (bt a0 x4_1), wrap64 (bt a0 (ji9)), wrap64 ((wrap64 (bt a0 (ji13))) + (wrap64 (256 * (wrap64 (bt a0 (ji17)))))), wrap64 (bt a0 (ji21)), wrap64 (bt a0 (ji25))⟩ : S29) [.int .i64 (wrap64 (bt a0 x4_1)), .int .i64 (wrap64 (bt a0 (ji9))), .int .i64 (wrap64 ((wrap64 (bt a0 (ji13))) + (wrap64 (256 * (wrap64 (bt a0 (ji17))))))), .int .i64 (wrap64 (bt a0 (ji21))), .int .i64 (wrap64 (bt a0 (ji25)))] (fun k_ => k_ ≠ gb111) (fun _ => False) rfl rfl ?aP (fun _ hk => hk.elim) ?aF ?aO ?aB ?aS ?aL ?_; (case aP => exact k29_mkM _ _ _ (⟨wrap64 (bt a0 x4_1), wrap64 (bt a0 (ji9)), wrap64 ((wrap64 (bt a0 (ji13))) + (wrap64 (256 * (wrap64 (bt a0 (ji17)))))), wrap64 (bt a0 (ji21)), wrap64 (bt a0 (ji25))⟩ : S29)); (case aB => exact (by repeat (first | (with_reducible first | exact HB.out | apply below_alloc | apply pw_below_drewN | apply below_drew1 | refine below_set ?_ GE111.out) | exact HB.out))); (case aF => exact (fun k_ hk => Kd.freshB (g := gb111) (o := .cells #[.int .i64 (wrap64 (bt a0 x4_1)), .int .i64 (wrap64 (bt a0 (ji9))), .int .i64 (wrap64 ((wrap64 (bt a0 (ji13))) + (wrap64 (256 * (wrap64 (bt a0 (ji17))))))), .int .i64 (wrap64 (bt a0 (ji21))), .int .i64 (wrap64 (bt a0 (ji25)))] 29 (0, 0)) (by (with_reducible repeat (first | refine blk_drewN ?_ _ | refine blk_drew ?_ | refine blk_alloc ?_ _)); exact BK111.out) k_ hk)); (case aO => exact (by (with_reducible repeat (first | apply Kd.R_alloc | apply Kd.R_drewN | apply Kd.R_drew)); exact Kd.R_mono HO_3.out (fun _ hk => hk.2))); (case aS => exact (below_size (by repeat (first | (with_reducible first | exact HB.out | apply below_alloc | apply pw_below_drewN | apply below_drew1 | refine below_set ?_ GE111.out) | exact HB.out)))); (case aL => have := LMc31.out; omega); intro v114 w42 ho hb hg hat; rw [← Ny113.out] at ho; have n0_ := Aside0.mk (blk_grown (g := gb111) (o := .cells #[.int .i64 (wrap64 (bt a0 x4_1)), .int .i64 (wrap64 (bt a0 (ji9))), .int .i64 (wrap64 ((wrap64 (bt a0 (ji13))) + (wrap64 (256 * (wrap64 (bt a0 (ji17))))))), .int .i64 (wrap64 (bt a0 (ji21))), .int .i64 (wrap64 (bt a0 (ji25)))] 29 (0, 0)) (by (with_reducible repeat (first | refine blk_drewN ?_ _ | refine blk_drew ?_ | refine blk_alloc ?_ _)); exact BK111.out) hg (Kd.R_away HO_3.out (fun _ hk => hk.2))); have n1_ := Aside0.mk (hb); have n2_ := Aside0.mk (ho); clear BK111; clear HB; clear HO_3; have BK111 := n0_; have HB := n1_; have HO115 := n2_; clear n0_ n1_ n2_; clear ho hb hg hat))
                                        go_roundg kj1
                                        case measure => have := HK1.out; have := HJ1.out; omega
                                        case rel => exact ⟨(y113), (wrap64 (x4_1 + 6)), (by first | rfl | (simp; done) | (simp [*]; done)), H', ⟨by have := HK1.out; have := HJ1.out; omega⟩, ⟨by (with_reducible repeat (first | apply Kd.R_alloc | apply Kd.R_drewN | apply Kd.R_drew)); exact Kd.R_mono HO115.out (fun _ hk => trivial)⟩, ⟨by repeat (first | (with_reducible first | exact HB.out | apply below_alloc | apply pw_below_drewN | apply below_drew1 | refine below_set ?_ GE111.out) | exact HB.out)⟩⟩
                                      · rw [if_neg c31] at H
                                        exact absurd H (by simp)
                                    · replace c30 := Bool.eq_false_iff.mpr c30
                                      subst c30
                                      have H1 : (if x3_1.length < 3518437208883 then (waymasterref18_Decode.l0 kj1 a0 (x3_1 ++ [(⟨0, 0, 0, 0, 0⟩ : S29)]) (wrap64 (x4_1 + 6))) else (none)) = some r := by rw [if_neg (show ¬ (false = true) by decide)] at H; exact H
                                      clear H
                                      have H := H1
                                      clear H1
                                      by_cases c43 : x3_1.length < 3518437208883
                                      · rw [if_pos c43] at H
                                        have LMc43 := Aside0.mk c43
                                        clear c43
                                        obtain ⟨y116, hy116⟩ : ∃ y_ : List (S29), y_ = (x3_1 ++ [(⟨0, 0, 0, 0, 0⟩ : S29)]) := ⟨_, rfl⟩
                                        replace H : (waymasterref18_Decode.l0 kj1 a0 y116 (wrap64 (x4_1 + 6))) = some r := by first | (rw [hy116]; with_reducible exact H) | (have H2_ := (Option.bind_some _ _).symm.trans H; rw [hy116]; with_reducible exact H2_) | (have H2_ := (Option.bind_some _ _).symm.trans H; with_reducible exact H2_) | with_reducible exact H | (rw [hy116]; exact H) | exact H
                                        have Ny116 := Aside0.mk hy116
                                        clear hy116
                                        have H' := Aside0.mk H
                                        clear H
                                        try go_wp2
                                        have n0_ := Aside0.mk (Kd.R_drew HO_3.out)
                                        have n1_ := Aside0.mk (below_drew1 HB.out)
                                        clear HO_3
                                        clear HB
                                        have HO_3 := n0_
                                        have HB := n1_
                                        clear n0_ n1_
                                        have p8 : 0 ≤ (x4_1 : Int) := of_decide_eq_true (by first | (with_reducible assumption) | assumption)
                                        have q8 : x4_1 < (a0.size : Int) := of_decide_eq_true (by first | (with_reducible assumption) | assumption)
                                        have hx8 := bt_at a0 x4_1
                                        replace p8 := eq_true p8
                                        replace q8 := eq_true q8
                                        have p12 : 0 ≤ ((ji9) : Int) := of_decide_eq_true (by first | (with_reducible assumption) | assumption)
                                        have q12 : (ji9) < (a0.size : Int) := of_decide_eq_true (by first | (with_reducible assumption) | assumption)
                                        have hx12 := bt_at a0 (ji9)
                                        replace p12 := eq_true p12
                                        replace q12 := eq_true q12
                                        have p16 : 0 ≤ ((ji13) : Int) := of_decide_eq_true (by first | (with_reducible assumption) | assumption)
                                        have q16 : (ji13) < (a0.size : Int) := of_decide_eq_true (by first | (with_reducible assumption) | assumption)
                                        have hx16 := bt_at a0 (ji13)
                                        replace p16 := eq_true p16
                                        replace q16 := eq_true q16
                                        have p20 : 0 ≤ ((ji17) : Int) := of_decide_eq_true (by first | (with_reducible assumption) | assumption)
                                        have q20 : (ji17) < (a0.size : Int) := of_decide_eq_true (by first | (with_reducible assumption) | assumption)
                                        have hx20 := bt_at a0 (ji17)
                                        replace p20 := eq_true p20
                                        replace q20 := eq_true q20
                                        have p24 : 0 ≤ ((ji21) : Int) := of_decide_eq_true (by first | (with_reducible assumption) | assumption)
                                        have q24 : (ji21) < (a0.size : Int) := of_decide_eq_true (by first | (with_reducible assumption) | assumption)
                                        have hx24 := bt_at a0 (ji21)
                                        replace p24 := eq_true p24
                                        replace q24 := eq_true q24
                                        have p28 : 0 ≤ ((ji25) : Int) := of_decide_eq_true (by first | (with_reducible assumption) | assumption)
                                        have q28 : (ji25) < (a0.size : Int) := of_decide_eq_true (by first | (with_reducible assumption) | assumption)
                                        have hx28 := bt_at a0 (ji25)
                                        replace p28 := eq_true p28
                                        replace q28 := eq_true q28
                                        refine start_ (n := 34) (S := fun w' => True) (ds := []) #[false, false, false, false, false, false, false, false, false, false, false, false, false, false, false, false, false, false, false, false, false, false, false, false, false, false, false, false, false, false, false, false, false, false] (by kernel_rfl) rfl rfl trivial (fun hHeld => ?_); refine with_tabW waymasterref18_Decode.tab5 waymasterref18_Decode.bits5 (fun HT_ HW_ => ?_)
                                        generalize wc.drew = w44 at HO_3 HB hHeld ⊢
                                        refine pure_ (i := 0) (N := some 19) (v := ?_) (a' := ?_) #[true, false, false, false, false, false, false, false, false, false, false, false, false, false, false, false, false, false, false, false, false, false, false, false, false, false, false, false, false, false, false, false, false, false] rfl rfl (any_of HT_.out (by kernel_rfl)) (fun _ _ _ h => h) (Or.inl ⟨by rfl, ?_⟩) ?_ ?_
                                        rotate_left
                                        · intro w'
                                          go_simp
                                          with_reducible rfl
                                        rotate_left
                                        · simp only [Act.put, List.setIfInBounds_toArray, List.set_cons_zero, List.set_cons_succ, i64_w, i32_w]
                                          rfl
                                        refine pure_ (i := 1) (N := some 20) (v := ?_) (a' := ?_) #[true, true, false, false, false, false, false, false, false, false, false, false, false, false, false, false, false, false, false, false, false, false, false, false, false, false, false, false, false, false, false, false, false, false] rfl rfl (any_of HT_.out (by kernel_rfl)) (fun _ _ _ h => h) (Or.inl ⟨by rfl, ?_⟩) ?_ ?_
                                        rotate_left
                                        · intro w'
                                          go_simp
                                          with_reducible rfl
                                        rotate_left
                                        · simp only [Act.put, List.setIfInBounds_toArray, List.set_cons_zero, List.set_cons_succ, i64_w, i32_w]
                                          rfl
                                        refine pure_ (i := 4) (N := some 23) (v := ?_) (a' := ?_) #[true, true, false, false, true, false, false, false, false, false, false, false, false, false, false, false, false, false, false, false, false, false, false, false, false, false, false, false, false, false, false, false, false, false] rfl rfl (any_of HT_.out (by kernel_rfl)) (fun _ _ _ h => h) (Or.inl ⟨by rfl, ?_⟩) ?_ ?_
                                        rotate_left
                                        · intro w'
                                          go_simp
                                          with_reducible rfl
                                        rotate_left
                                        · simp only [Act.put, List.setIfInBounds_toArray, List.set_cons_zero, List.set_cons_succ, i64_w, i32_w]
                                          rfl
                                        refine pure_ (i := 5) (N := some 24) (v := ?_) (a' := ?_) #[true, true, false, false, true, true, false, false, false, false, false, false, false, false, false, false, false, false, false, false, false, false, false, false, false, false, false, false, false, false, false, false, false, false] rfl rfl (any_of HT_.out (by kernel_rfl)) (fun _ _ _ h => h) (Or.inl ⟨by rfl, ?_⟩) ?_ ?_
                                        rotate_left
                                        · intro w'
                                          go_simp
                                          with_reducible rfl
                                        rotate_left
                                        · simp only [Act.put, List.setIfInBounds_toArray, List.set_cons_zero, List.set_cons_succ, i64_w, i32_w]
                                          rfl
                                        refine pure_ (i := 6) (N := some 25) (v := ?_) (a' := ?_) #[true, true, false, false, true, true, true, false, false, false, false, false, false, false, false, false, false, false, false, false, false, false, false, false, false, false, false, false, false, false, false, false, false, false] rfl rfl (any_of HT_.out (by kernel_rfl)) (fun _ _ _ h => h) (Or.inl ⟨by rfl, ?_⟩) ?_ ?_
                                        rotate_left
                                        · intro w'
                                          go_simp
                                          with_reducible rfl
                                        rotate_left
                                        · simp only [Act.put, List.setIfInBounds_toArray, List.set_cons_zero, List.set_cons_succ, i64_w, i32_w]
                                          rfl
                                        refine pure_ (i := 9) (N := some 28) (v := ?_) (a' := ?_) #[true, true, false, false, true, true, true, false, false, true, false, false, false, false, false, false, false, false, false, false, false, false, false, false, false, false, false, false, false, false, false, false, false, false] rfl rfl (any_of HT_.out (by kernel_rfl)) (fun _ _ _ h => h) (Or.inl ⟨by rfl, ?_⟩) ?_ ?_
                                        rotate_left
                                        · intro w'
                                          go_simp
                                          with_reducible rfl
                                        rotate_left
                                        · simp only [Act.put, List.setIfInBounds_toArray, List.set_cons_zero, List.set_cons_succ, i64_w, i32_w]
                                          rfl
                                        refine pure_ (i := 10) (N := some 29) (v := ?_) (a' := ?_) #[true, true, false, false, true, true, true, false, false, true, true, false, false, false, false, false, false, false, false, false, false, false, false, false, false, false, false, false, false, false, false, false, false, false] rfl rfl (any_of HT_.out (by kernel_rfl)) (fun _ _ _ h => h) (Or.inl ⟨by rfl, ?_⟩) ?_ ?_
                                        rotate_left
                                        · intro w'
                                          go_simp
                                          with_reducible rfl
                                        rotate_left
                                        · simp only [Act.put, List.setIfInBounds_toArray, List.set_cons_zero, List.set_cons_succ, i64_w, i32_w]
                                          rfl
                                        refine pure_ (i := 11) (N := some 30) (v := ?_) (a' := ?_) #[true, true, false, false, true, true, true, false, false, true, true, true, false, false, false, false, false, false, false, false, false, false, false, false, false, false, false, false, false, false, false, false, false, false] rfl rfl (any_of HT_.out (by kernel_rfl)) (fun _ _ _ h => h) (Or.inl ⟨by rfl, ?_⟩) ?_ ?_
                                        rotate_left
                                        · intro w'
                                          go_simp
                                          with_reducible rfl
                                        rotate_left
                                        · simp only [Act.put, List.setIfInBounds_toArray, List.set_cons_zero, List.set_cons_succ, i64_w, i32_w]
                                          rfl
                                        refine pure_ (i := 14) (N := some 33) (v := ?_) (a' := ?_) #[true, true, false, false, true, true, true, false, false, true, true, true, false, false, true, false, false, false, false, false, false, false, false, false, false, false, false, false, false, false, false, false, false, false] rfl rfl (any_of HT_.out (by kernel_rfl)) (fun _ _ _ h => h) (Or.inl ⟨by rfl, ?_⟩) ?_ ?_
                                        rotate_left
                                        · intro w'
                                          go_simp
                                          with_reducible rfl
                                        rotate_left
                                        · simp only [Act.put, List.setIfInBounds_toArray, List.set_cons_zero, List.set_cons_succ, i64_w, i32_w]
                                          rfl
                                        refine pure_ (i := 15) (N := some 34) (v := ?_) (a' := ?_) #[true, true, false, false, true, true, true, false, false, true, true, true, false, false, true, true, false, false, false, false, false, false, false, false, false, false, false, false, false, false, false, false, false, false] rfl rfl (any_of HT_.out (by kernel_rfl)) (fun _ _ _ h => h) (Or.inl ⟨by rfl, ?_⟩) ?_ ?_
                                        rotate_left
                                        · intro w'
                                          go_simp
                                          with_reducible rfl
                                        rotate_left
                                        · simp only [Act.put, List.setIfInBounds_toArray, List.set_cons_zero, List.set_cons_succ, i64_w, i32_w]
                                          rfl
                                        refine pure_ (i := 16) (N := some 35) (v := ?_) (a' := ?_) #[true, true, false, false, true, true, true, false, false, true, true, true, false, false, true, true, true, false, false, false, false, false, false, false, false, false, false, false, false, false, false, false, false, false] rfl rfl (any_of HT_.out (by kernel_rfl)) (fun _ _ _ h => h) (Or.inl ⟨by rfl, ?_⟩) ?_ ?_
                                        rotate_left
                                        · intro w'
                                          go_simp
                                          with_reducible rfl
                                        rotate_left
                                        · simp only [Act.put, List.setIfInBounds_toArray, List.set_cons_zero, List.set_cons_succ, i64_w, i32_w]
                                          rfl
                                        refine pure_ (i := 21) (N := some 40) (v := ?_) (a' := ?_) #[true, true, false, false, true, true, true, false, false, true, true, true, false, false, true, true, true, false, false, false, false, true, false, false, false, false, false, false, false, false, false, false, false, false] rfl rfl (any_of HT_.out (by kernel_rfl)) (fun _ _ _ h => h) (Or.inl ⟨by rfl, ?_⟩) ?_ ?_
                                        rotate_left
                                        · intro w'
                                          go_simp
                                          with_reducible rfl
                                        rotate_left
                                        · simp only [Act.put, List.setIfInBounds_toArray, List.set_cons_zero, List.set_cons_succ, i64_w, i32_w]
                                          rfl
                                        refine pure_ (i := 22) (N := some 41) (v := ?_) (a' := ?_) #[true, true, false, false, true, true, true, false, false, true, true, true, false, false, true, true, true, false, false, false, false, true, true, false, false, false, false, false, false, false, false, false, false, false] rfl rfl (any_of HT_.out (by kernel_rfl)) (fun _ _ _ h => h) (Or.inl ⟨by rfl, ?_⟩) ?_ ?_
                                        rotate_left
                                        · intro w'
                                          go_simp
                                          with_reducible rfl
                                        rotate_left
                                        · simp only [Act.put, List.setIfInBounds_toArray, List.set_cons_zero, List.set_cons_succ, i64_w, i32_w]
                                          rfl
                                        refine pure_ (i := 23) (N := some 42) (v := ?_) (a' := ?_) #[true, true, false, false, true, true, true, false, false, true, true, true, false, false, true, true, true, false, false, false, false, true, true, true, false, false, false, false, false, false, false, false, false, false] rfl rfl (any_of HT_.out (by kernel_rfl)) (fun _ _ _ h => h) (Or.inl ⟨by rfl, ?_⟩) ?_ ?_
                                        rotate_left
                                        · intro w'
                                          go_simp
                                          with_reducible rfl
                                        rotate_left
                                        · simp only [Act.put, List.setIfInBounds_toArray, List.set_cons_zero, List.set_cons_succ, i64_w, i32_w]
                                          rfl
                                        refine pure_ (i := 26) (N := some 45) (v := ?_) (a' := ?_) #[true, true, false, false, true, true, true, false, false, true, true, true, false, false, true, true, true, false, false, false, false, true, true, true, false, false, true, false, false, false, false, false, false, false] rfl rfl (any_of HT_.out (by kernel_rfl)) (fun _ _ _ h => h) (Or.inl ⟨by rfl, ?_⟩) ?_ ?_
                                        rotate_left
                                        · intro w'
                                          go_simp
                                          with_reducible rfl
                                        rotate_left
                                        · simp only [Act.put, List.setIfInBounds_toArray, List.set_cons_zero, List.set_cons_succ, i64_w, i32_w]
                                          rfl
                                        refine pure_ (i := 27) (N := some 46) (v := ?_) (a' := ?_) #[true, true, false, false, true, true, true, false, false, true, true, true, false, false, true, true, true, false, false, false, false, true, true, true, false, false, true, true, false, false, false, false, false, false] rfl rfl (any_of HT_.out (by kernel_rfl)) (fun _ _ _ h => h) (Or.inl ⟨by rfl, ?_⟩) ?_ ?_
                                        rotate_left
                                        · intro w'
                                          go_simp
                                          with_reducible rfl
                                        rotate_left
                                        · simp only [Act.put, List.setIfInBounds_toArray, List.set_cons_zero, List.set_cons_succ, i64_w, i32_w]
                                          rfl
                                        refine pure_ (i := 28) (N := some 47) (v := ?_) (a' := ?_) #[true, true, false, false, true, true, true, false, false, true, true, true, false, false, true, true, true, false, false, false, false, true, true, true, false, false, true, true, true, false, false, false, false, false] rfl rfl (any_of HT_.out (by kernel_rfl)) (fun _ _ _ h => h) (Or.inl ⟨by rfl, ?_⟩) ?_ ?_
                                        rotate_left
                                        · intro w'
                                          go_simp
                                          with_reducible rfl
                                        rotate_left
                                        · simp only [Act.put, List.setIfInBounds_toArray, List.set_cons_zero, List.set_cons_succ, i64_w, i32_w]
                                          rfl
                                        refine take_ (i := 2) (N := some 21) (v := ?_) (a' := ?_) #[true, true, true, false, true, true, true, false, false, true, true, true, false, false, true, true, true, false, false, false, false, true, true, true, false, false, true, true, true, false, false, false, false, false] rfl rfl (take_ofW HT_.out HW_.out (by kernel_rfl)) (fun _ _ _ h => h) (Or.inl ⟨by rfl, ?_⟩) hHeld ?_ ?_
                                        rotate_left
                                        · intro w' _
                                          go_simp
                                          with_reducible rfl
                                        rotate_left
                                        · simp only [Act.put, List.setIfInBounds_toArray, List.set_cons_zero, List.set_cons_succ, i64_w, i32_w]
                                          rfl
                                        refine pure_ (i := 3) (N := some 22) (v := ?_) (a' := ?_) #[true, true, true, true, true, true, true, false, false, true, true, true, false, false, true, true, true, false, false, false, false, true, true, true, false, false, true, true, true, false, false, false, false, false] rfl rfl (any_of HT_.out (by kernel_rfl)) (fun _ _ _ h => h) (Or.inl ⟨by rfl, ?_⟩) ?_ ?_
                                        rotate_left
                                        · intro w'
                                          go_simp
                                          with_reducible rfl
                                        rotate_left
                                        · simp only [Act.put, List.setIfInBounds_toArray, List.set_cons_zero, List.set_cons_succ, i64_w, i32_w]
                                          rfl
                                        refine take_ (i := 7) (N := some 26) (v := ?_) (a' := ?_) #[true, true, true, true, true, true, true, true, false, true, true, true, false, false, true, true, true, false, false, false, false, true, true, true, false, false, true, true, true, false, false, false, false, false] rfl rfl (take_ofW HT_.out HW_.out (by kernel_rfl)) (fun _ _ _ h => h) (Or.inl ⟨by rfl, ?_⟩) hHeld ?_ ?_
                                        rotate_left
                                        · intro w' _
                                          go_simp
                                          with_reducible rfl
                                        rotate_left
                                        · simp only [Act.put, List.setIfInBounds_toArray, List.set_cons_zero, List.set_cons_succ, i64_w, i32_w]
                                          rfl
                                        refine pure_ (i := 8) (N := some 27) (v := ?_) (a' := ?_) #[true, true, true, true, true, true, true, true, true, true, true, true, false, false, true, true, true, false, false, false, false, true, true, true, false, false, true, true, true, false, false, false, false, false] rfl rfl (any_of HT_.out (by kernel_rfl)) (fun _ _ _ h => h) (Or.inl ⟨by rfl, ?_⟩) ?_ ?_
                                        rotate_left
                                        · intro w'
                                          go_simp
                                          with_reducible rfl
                                        rotate_left
                                        · simp only [Act.put, List.setIfInBounds_toArray, List.set_cons_zero, List.set_cons_succ, i64_w, i32_w]
                                          rfl
                                        refine take_ (i := 12) (N := some 31) (v := ?_) (a' := ?_) #[true, true, true, true, true, true, true, true, true, true, true, true, true, false, true, true, true, false, false, false, false, true, true, true, false, false, true, true, true, false, false, false, false, false] rfl rfl (take_ofW HT_.out HW_.out (by kernel_rfl)) (fun _ _ _ h => h) (Or.inl ⟨by rfl, ?_⟩) hHeld ?_ ?_
                                        rotate_left
                                        · intro w' _
                                          go_simp
                                          with_reducible rfl
                                        rotate_left
                                        · simp only [Act.put, List.setIfInBounds_toArray, List.set_cons_zero, List.set_cons_succ, i64_w, i32_w]
                                          rfl
                                        refine pure_ (i := 13) (N := some 32) (v := ?_) (a' := ?_) #[true, true, true, true, true, true, true, true, true, true, true, true, true, true, true, true, true, false, false, false, false, true, true, true, false, false, true, true, true, false, false, false, false, false] rfl rfl (any_of HT_.out (by kernel_rfl)) (fun _ _ _ h => h) (Or.inl ⟨by rfl, ?_⟩) ?_ ?_
                                        rotate_left
                                        · intro w'
                                          go_simp
                                          with_reducible rfl
                                        rotate_left
                                        · simp only [Act.put, List.setIfInBounds_toArray, List.set_cons_zero, List.set_cons_succ, i64_w, i32_w]
                                          rfl
                                        refine take_ (i := 17) (N := some 36) (v := ?_) (a' := ?_) #[true, true, true, true, true, true, true, true, true, true, true, true, true, true, true, true, true, true, false, false, false, true, true, true, false, false, true, true, true, false, false, false, false, false] rfl rfl (take_ofW HT_.out HW_.out (by kernel_rfl)) (fun _ _ _ h => h) (Or.inl ⟨by rfl, ?_⟩) hHeld ?_ ?_
                                        rotate_left
                                        · intro w' _
                                          go_simp
                                          with_reducible rfl
                                        rotate_left
                                        · simp only [Act.put, List.setIfInBounds_toArray, List.set_cons_zero, List.set_cons_succ, i64_w, i32_w]
                                          rfl
                                        refine pure_ (i := 18) (N := some 37) (v := ?_) (a' := ?_) #[true, true, true, true, true, true, true, true, true, true, true, true, true, true, true, true, true, true, true, false, false, true, true, true, false, false, true, true, true, false, false, false, false, false] rfl rfl (any_of HT_.out (by kernel_rfl)) (fun _ _ _ h => h) (Or.inl ⟨by rfl, ?_⟩) ?_ ?_
                                        rotate_left
                                        · intro w'
                                          go_simp
                                          with_reducible rfl
                                        rotate_left
                                        · simp only [Act.put, List.setIfInBounds_toArray, List.set_cons_zero, List.set_cons_succ, i64_w, i32_w]
                                          rfl
                                        refine pure_ (i := 19) (N := some 38) (v := ?_) (a' := ?_) #[true, true, true, true, true, true, true, true, true, true, true, true, true, true, true, true, true, true, true, true, false, true, true, true, false, false, true, true, true, false, false, false, false, false] rfl rfl (any_of HT_.out (by kernel_rfl)) (fun _ _ _ h => h) (Or.inl ⟨by rfl, ?_⟩) ?_ ?_
                                        rotate_left
                                        · intro w'
                                          go_simp
                                          with_reducible rfl
                                        rotate_left
                                        · simp only [Act.put, List.setIfInBounds_toArray, List.set_cons_zero, List.set_cons_succ, i64_w, i32_w]
                                          rfl
                                        refine pure_ (i := 20) (N := some 39) (v := ?_) (a' := ?_) #[true, true, true, true, true, true, true, true, true, true, true, true, true, true, true, true, true, true, true, true, true, true, true, true, false, false, true, true, true, false, false, false, false, false] rfl rfl (any_of HT_.out (by kernel_rfl)) (fun _ _ _ h => h) (Or.inl ⟨by rfl, ?_⟩) ?_ ?_
                                        rotate_left
                                        · intro w'
                                          go_simp
                                          with_reducible rfl
                                        rotate_left
                                        · simp only [Act.put, List.setIfInBounds_toArray, List.set_cons_zero, List.set_cons_succ, i64_w, i32_w]
                                          rfl
                                        refine take_ (i := 24) (N := some 43) (v := ?_) (a' := ?_) #[true, true, true, true, true, true, true, true, true, true, true, true, true, true, true, true, true, true, true, true, true, true, true, true, true, false, true, true, true, false, false, false, false, false] rfl rfl (take_ofW HT_.out HW_.out (by kernel_rfl)) (fun _ _ _ h => h) (Or.inl ⟨by rfl, ?_⟩) hHeld ?_ ?_
                                        rotate_left
                                        · intro w' _
                                          go_simp
                                          with_reducible rfl
                                        rotate_left
                                        · simp only [Act.put, List.setIfInBounds_toArray, List.set_cons_zero, List.set_cons_succ, i64_w, i32_w]
                                          rfl
                                        refine pure_ (i := 25) (N := some 44) (v := ?_) (a' := ?_) #[true, true, true, true, true, true, true, true, true, true, true, true, true, true, true, true, true, true, true, true, true, true, true, true, true, true, true, true, true, false, false, false, false, false] rfl rfl (any_of HT_.out (by kernel_rfl)) (fun _ _ _ h => h) (Or.inl ⟨by rfl, ?_⟩) ?_ ?_
                                        rotate_left
                                        · intro w'
                                          go_simp
                                          with_reducible rfl
                                        rotate_left
                                        · simp only [Act.put, List.setIfInBounds_toArray, List.set_cons_zero, List.set_cons_succ, i64_w, i32_w]
                                          rfl
                                        refine take_ (i := 29) (N := some 48) (v := ?_) (a' := ?_) #[true, true, true, true, true, true, true, true, true, true, true, true, true, true, true, true, true, true, true, true, true, true, true, true, true, true, true, true, true, true, false, false, false, false] rfl rfl (take_ofW HT_.out HW_.out (by kernel_rfl)) (fun _ _ _ h => h) (Or.inl ⟨by rfl, ?_⟩) hHeld ?_ ?_
                                        rotate_left
                                        · intro w' _
                                          go_simp
                                          with_reducible rfl
                                        rotate_left
                                        · simp only [Act.put, List.setIfInBounds_toArray, List.set_cons_zero, List.set_cons_succ, i64_w, i32_w]
                                          rfl
                                        refine pure_ (i := 30) (N := some 49) (v := ?_) (a' := ?_) #[true, true, true, true, true, true, true, true, true, true, true, true, true, true, true, true, true, true, true, true, true, true, true, true, true, true, true, true, true, true, true, false, false, false] rfl rfl (any_of HT_.out (by kernel_rfl)) (fun _ _ _ h => h) (Or.inl ⟨by rfl, ?_⟩) ?_ ?_
                                        rotate_left
                                        · intro w'
                                          go_simp
                                          with_reducible rfl
                                        rotate_left
                                        · simp only [Act.put, List.setIfInBounds_toArray, List.set_cons_zero, List.set_cons_succ, i64_w, i32_w]
                                          rfl
                                        refine pure_ (i := 31) (N := some 50) (v := ?_) (a' := ?_) #[true, true, true, true, true, true, true, true, true, true, true, true, true, true, true, true, true, true, true, true, true, true, true, true, true, true, true, true, true, true, true, true, false, false] rfl rfl (any_of HT_.out (by kernel_rfl)) (fun _ _ _ h => h) (Or.inl ⟨by rfl, ?_⟩) ?_ ?_
                                        rotate_left
                                        · intro w'
                                          go_simp
                                          with_reducible rfl
                                        rotate_left
                                        · simp only [Act.put, List.setIfInBounds_toArray, List.set_cons_zero, List.set_cons_succ, i64_w, i32_w]
                                          rfl
                                        refine one_ (i := 32) (N := some 5) #[true, true, true, true, true, true, true, true, true, true, true, true, true, true, true, true, true, true, true, true, true, true, true, true, true, true, true, true, true, true, true, true, true, false] rfl rfl (one_of HT_.out (by kernel_rfl)) (by decide) (fun K hK => ?_)
                                        refine box_step ?hg (N := 5) ?hd (cs := #[.int .i64 0, .int .i64 0, .int .i64 0, .int .i64 0, .int .i64 0]) (t := 29) ?hr ?_; (case hd => rfl); (case hg => rfl); (case hr => first | (go_simp; done) | (go_simp; rfl))
                                        intro gb111 hg w45 hbox hb
                                        have n0_ := Aside0.mk (Kd.R_below (Kd.R_elderB (by (with_reducible repeat (first | apply Kd.R_alloc | apply Kd.R_drewN | apply Kd.R_drew)); exact HO_3.out) gb111 (Nat.le_of_eq hg.symm)) hb)
                                        have n1_ := Aside0.mk (below_step (by repeat (first | (with_reducible first | exact HB.out | apply below_alloc | apply pw_below_drewN | apply below_drew1) | exact HB.out)) hb)
                                        have n2_ := Aside0.mk (hbox)
                                        have n3_ := Aside0.mk ((by rw [hg]; exact (below_size (by repeat (first | (with_reducible first | exact HB.out | apply below_alloc | apply pw_below_drewN | apply below_drew1) | exact HB.out))) : w.heap.size ≤ gb111))
                                        have n4_ := Aside0.mk ((by rw [hg]; exact (below_size (by repeat (first | (with_reducible first | exact HB.out | apply below_alloc | apply pw_below_drewN | apply below_drew1) | exact HB.out))) : w.heap.size ≤ gb111))
                                        clear HO_3
                                        clear HB
                                        have HO_3 := n0_
                                        have HB := n1_
                                        have BK111 := n2_
                                        have GW111 := n3_
                                        have GE111 := n4_
                                        clear n0_ n1_ n2_ n3_ n4_
                                        clear hb hbox hg
                                        refine hK.out _ _ trivial (fun hHeld => ?_)
                                        clear hK K
                                        refine norm_ (a' := ?_) ?_ ?_
                                        rotate_left
                                        · show Act.put _ (some 5) _ = _
                                          simp only [Act.put, List.setIfInBounds_toArray, List.set_cons_zero, List.set_cons_succ, i64_w, i32_w]
                                          rfl
                                        refine one_ (i := 33) (N := none) #[true, true, true, true, true, true, true, true, true, true, true, true, true, true, true, true, true, true, true, true, true, true, true, true, true, true, true, true, true, true, true, true, true, true] rfl rfl (one_of HT_.out (by kernel_rfl)) (by decide) (fun K hK => ?_)
                                        have hs46 : w45.cell? ⟨gb111, 0, none⟩ = some (.int .i64 0) := (blk_cell BK111.out 0).trans rfl
                                        have hfs46 := blk_frozen BK111.out 0
                                        have hs47 : w45.cell? ⟨gb111, 1, none⟩ = some (.int .i64 0) := (blk_cell BK111.out 1).trans rfl
                                        have hfs47 := blk_frozen BK111.out 1
                                        have hs48 : w45.cell? ⟨gb111, 2, none⟩ = some (.int .i64 0) := (blk_cell BK111.out 2).trans rfl
                                        have hfs48 := blk_frozen BK111.out 2
                                        have hs49 : w45.cell? ⟨gb111, 3, none⟩ = some (.int .i64 0) := (blk_cell BK111.out 3).trans rfl
                                        have hfs49 := blk_frozen BK111.out 3
                                        have hs50 : w45.cell? ⟨gb111, 4, none⟩ = some (.int .i64 0) := (blk_cell BK111.out 4).trans rfl
                                        have hfs50 := blk_frozen BK111.out 4
                                        refine skip_ (w1 := ?_) (by rfl) rfl ?_ ?_
                                        rotate_left
                                        · go_simp
                                          rfl
                                        refine hK.out _ _ trivial (fun hHeld => ?_)
                                        clear hK K
                                        refine done_ (done_of HT_.out (by kernel_rfl)) ?_
                                        have hcz51_0 : w45.cell? ⟨gb111, 0, none⟩ = some (.int .i64 0) := (blk_cell BK111.out 0).trans rfl
                                        have hcz51_1 : w45.cell? ⟨gb111, 1, none⟩ = some (.int .i64 0) := (blk_cell BK111.out 1).trans rfl
                                        have hcz51_2 : w45.cell? ⟨gb111, 2, none⟩ = some (.int .i64 0) := (blk_cell BK111.out 2).trans rfl
                                        have hcz51_3 : w45.cell? ⟨gb111, 3, none⟩ = some (.int .i64 0) := (blk_cell BK111.out 3).trans rfl
                                        have hcz51_4 : w45.cell? ⟨gb111, 4, none⟩ = some (.int .i64 0) := (blk_cell BK111.out 4).trans rfl
                                        have hfz51_0 := blk_frozen BK111.out 0
                                        have hfz51_1 := blk_frozen BK111.out 1
                                        have hfz51_2 := blk_frozen BK111.out 2
                                        have hfz51_3 := blk_frozen BK111.out 3
                                        have hfz51_4 := blk_frozen BK111.out 4
                                        try go_wp2_with (first | ((with_reducible refine gate_callee (f := 27) rfl ?_); refine goesL_ (some 52) rfl rfl Try.func27 (by kernel_rfl) rfl #[.agg #[.int .i64 (wrap64 (bt a0 x4_1)), .int .i64 (wrap64 (bt a0 (ji9))), .int .i64 (wrap64 ((wrap64 (bt a0 (ji13))) + (wrap64 (256 * (wrap64 (bt a0 (ji17))))))), .int .i64 (wrap64 (bt a0 (ji21))), .int .i64 (wrap64 (bt a0 (ji25)))]] rfl (by (try simp only [List.map_toArray, List.map_cons, List.map_nil]); first | done | (simp only [hji13, hji17, hji21, hji25, hji9]; rfl) | rfl | (simp only [List.length_drop, List.length_take]; rfl)) ?_; (with_reducible refine (waymasterref18_Right.calls (wrap64 (bt a0 x4_1)) (wrap64 (bt a0 (ji9))) (wrap64 ((wrap64 (bt a0 (ji13))) + (wrap64 (256 * (wrap64 (bt a0 (ji17))))))) (wrap64 (bt a0 (ji21))) (wrap64 (bt a0 (ji25))) false _ A29.out).mono ?_); rintro e w52 ⟨rfl, hb⟩; refine ⟨_, rfl, ?_⟩; have n0_ := Aside0.mk (Kd.R_below (by (with_reducible repeat (first | apply Kd.R_alloc | apply Kd.R_drewN | apply Kd.R_drew)); exact (Kd.R_mono (Kd.R_far (p := ⟨gb111, 4, none⟩) (Kd.R_far (p := ⟨gb111, 3, none⟩) (Kd.R_far (p := ⟨gb111, 2, none⟩) (Kd.R_far (p := ⟨gb111, 1, none⟩) (Kd.R_far (p := ⟨gb111, 0, none⟩) (Kd.R_mono HO_3.out (fun k_ hk => (⟨hk, hk.2⟩ : _ ∧ k_ ≠ gb111))) (fun _ hk => hk.2) (.int .i64 (wrap64 (bt a0 x4_1)))) (fun _ hk => hk.2) (.int .i64 (wrap64 (bt a0 (ji9))))) (fun _ hk => hk.2) (.int .i64 (wrap64 ((wrap64 (bt a0 (ji13))) + (wrap64 (256 * (wrap64 (bt a0 (ji17))))))))) (fun _ hk => hk.2) (.int .i64 (wrap64 (bt a0 (ji21))))) (fun _ hk => hk.2) (.int .i64 (wrap64 (bt a0 (ji25))))) (fun _ h_ => h_.1))) hb); have n1_ := Aside0.mk (blk_below (g := gb111) (o := .cells #[.int .i64 (wrap64 (bt a0 x4_1)), .int .i64 (wrap64 (bt a0 (ji9))), .int .i64 (wrap64 ((wrap64 (bt a0 (ji13))) + (wrap64 (256 * (wrap64 (bt a0 (ji17))))))), .int .i64 (wrap64 (bt a0 (ji21))), .int .i64 (wrap64 (bt a0 (ji25)))] 29 (0, 0)) (by (with_reducible repeat (first | refine blk_drewN ?_ _ | refine blk_drew ?_ | refine blk_alloc ?_ _)); refine blk_put (cs := #[.int .i64 (wrap64 (bt a0 x4_1)), .int .i64 (wrap64 (bt a0 (ji9))), .int .i64 (wrap64 ((wrap64 (bt a0 (ji13))) + (wrap64 (256 * (wrap64 (bt a0 (ji17))))))), .int .i64 (wrap64 (bt a0 (ji21))), .int .i64 0]) ?_ 4 _ rfl; (with_reducible repeat (first | refine blk_drewN ?_ _ | refine blk_drew ?_ | refine blk_alloc ?_ _)); refine blk_put (cs := #[.int .i64 (wrap64 (bt a0 x4_1)), .int .i64 (wrap64 (bt a0 (ji9))), .int .i64 (wrap64 ((wrap64 (bt a0 (ji13))) + (wrap64 (256 * (wrap64 (bt a0 (ji17))))))), .int .i64 0, .int .i64 0]) ?_ 3 _ rfl; (with_reducible repeat (first | refine blk_drewN ?_ _ | refine blk_drew ?_ | refine blk_alloc ?_ _)); refine blk_put (cs := #[.int .i64 (wrap64 (bt a0 x4_1)), .int .i64 (wrap64 (bt a0 (ji9))), .int .i64 0, .int .i64 0, .int .i64 0]) ?_ 2 _ rfl; (with_reducible repeat (first | refine blk_drewN ?_ _ | refine blk_drew ?_ | refine blk_alloc ?_ _)); refine blk_put (cs := #[.int .i64 (wrap64 (bt a0 x4_1)), .int .i64 0, .int .i64 0, .int .i64 0, .int .i64 0]) ?_ 1 _ rfl; (with_reducible repeat (first | refine blk_drewN ?_ _ | refine blk_drew ?_ | refine blk_alloc ?_ _)); refine blk_put (cs := #[.int .i64 0, .int .i64 0, .int .i64 0, .int .i64 0, .int .i64 0]) ?_ 0 _ rfl; (with_reducible repeat (first | refine blk_drewN ?_ _ | refine blk_drew ?_ | refine blk_alloc ?_ _)); exact BK111.out) hb); have n2_ := Aside0.mk (below_step (by repeat (first | (with_reducible first | exact HB.out | apply below_alloc | apply pw_below_drewN | apply below_drew1 | refine below_set ?_ GE111.out) | exact HB.out)) hb); clear HO_3; clear BK111; clear HB; have HO_3 := n0_; have BK111 := n1_; have HB := n2_; clear n0_ n1_ n2_; (try clear hb); (try clear hb2); (try clear hk); (try clear hi); have hcz53_0 : w52.cell? ⟨gb111, 0, none⟩ = some (.int .i64 (wrap64 (bt a0 x4_1))) := (blk_cell BK111.out 0).trans rfl; have hcz53_1 : w52.cell? ⟨gb111, 1, none⟩ = some (.int .i64 (wrap64 (bt a0 (ji9)))) := (blk_cell BK111.out 1).trans rfl; have hcz53_2 : w52.cell? ⟨gb111, 2, none⟩ = some (.int .i64 (wrap64 ((wrap64 (bt a0 (ji13))) + (wrap64 (256 * (wrap64 (bt a0 (ji17)))))))) := (blk_cell BK111.out 2).trans rfl; have hcz53_3 : w52.cell? ⟨gb111, 3, none⟩ = some (.int .i64 (wrap64 (bt a0 (ji21)))) := (blk_cell BK111.out 3).trans rfl; have hcz53_4 : w52.cell? ⟨gb111, 4, none⟩ = some (.int .i64 (wrap64 (bt a0 (ji25)))) := (blk_cell BK111.out 4).trans rfl; have hfz53_0 := blk_frozen BK111.out 0; have hfz53_1 := blk_frozen BK111.out 1; have hfz53_2 := blk_frozen BK111.out 2; have hfz53_3 := blk_frozen BK111.out 3; have hfz53_4 := blk_frozen BK111.out 4) | ((with_reducible refine gate_builtin (b := .append) (xs := #[.tmp 56, .tmp 58]) rfl ?_); (try (refine gate_guard (by rfl) ?_; dsimp only)); at_builtin; refine Kd.R_append k29 (w0 := w) w.heap.size rfl (.tmp 56) (.tmp 58) 24 29 (.agg #[(.int .i64 0), (.int .i64 0), (.int .i64 0), (.int .i64 0), (.int .i64 0)]) 40 rfl Try.underlying24 info29 rfl (by decide) (by omega) u3 x3_1 (⟨0, 0, 0, 0, 0⟩ : S29) [.int .i64 0, .int .i64 0, .int .i64 0, .int .i64 0, .int .i64 0] (fun k_ => k_ ≠ gb111) (fun _ => False) rfl (by first | (go_simp; done) | (go_simp; rfl)) ?aP (fun _ hk => hk.elim) ?aF ?aO ?aB ?aS ?aL ?_; (case aP => exact k29_mkM _ _ _ (⟨0, 0, 0, 0, 0⟩ : S29)); (case aB => exact (by repeat (first | (with_reducible first | exact HB.out | apply below_alloc | apply pw_below_drewN | apply below_drew1 | refine below_set ?_ GE111.out) | exact HB.out))); (case aF => exact (fun k_ hk => Kd.freshB (g := gb111) (o := .cells #[.int .i64 0, .int .i64 0, .int .i64 0, .int .i64 0, .int .i64 0] 29 (0, 0)) (by (with_reducible repeat (first | refine blk_drewN ?_ _ | refine blk_drew ?_ | refine blk_alloc ?_ _)); refine blk_put (cs := #[.int .i64 0, .int .i64 0, .int .i64 0, .int .i64 0, .int .i64 (wrap64 (bt a0 (ji25)))]) ?_ 4 _ rfl; (with_reducible repeat (first | refine blk_drewN ?_ _ | refine blk_drew ?_ | refine blk_alloc ?_ _)); refine blk_put (cs := #[.int .i64 0, .int .i64 0, .int .i64 0, .int .i64 (wrap64 (bt a0 (ji21))), .int .i64 (wrap64 (bt a0 (ji25)))]) ?_ 3 _ rfl; (with_reducible repeat (first | refine blk_drewN ?_ _ | refine blk_drew ?_ | refine blk_alloc ?_ _)); refine blk_put (cs := #[.int .i64 0, .int .i64 0, .int .i64 (wrap64 ((wrap64 (bt a0 (ji13))) + (wrap64 (256 * (wrap64 (bt a0 (ji17))))))), .int .i64 (wrap64 (bt a0 (ji21))), .int .i64 (wrap64 (bt a0 (ji25)))]) ?_ 2 _ rfl; (with_reducible repeat (first | refine blk_drewN ?_ _ | refine blk_drew ?_ | refine blk_alloc ?_ _)); refine blk_put (cs := #[.int .i64 0, .int .i64 (wrap64 (bt a0 (ji9))), .int .i64 (wrap64 ((wrap64 (bt a0 (ji13))) + (wrap64 (256 * (wrap64 (bt a0 (ji17))))))), .int .i64 (wrap64 (bt a0 (ji21))), .int .i64 (wrap64 (bt a0 (ji25)))]) ?_ 1 _ rfl; (with_reducible repeat (first | refine blk_drewN ?_ _ | refine blk_drew ?_ | refine blk_alloc ?_ _)); refine blk_put (cs := #[.int .i64 (wrap64 (bt a0 x4_1)), .int .i64 (wrap64 (bt a0 (ji9))), .int .i64 (wrap64 ((wrap64 (bt a0 (ji13))) + (wrap64 (256 * (wrap64 (bt a0 (ji17))))))), .int .i64 (wrap64 (bt a0 (ji21))), .int .i64 (wrap64 (bt a0 (ji25)))]) ?_ 0 _ rfl; (with_reducible repeat (first | refine blk_drewN ?_ _ | refine blk_drew ?_ | refine blk_alloc ?_ _)); exact BK111.out) k_ hk)); (case aO => exact (by (with_reducible repeat (first | apply Kd.R_alloc | apply Kd.R_drewN | apply Kd.R_drew)); exact Kd.R_mono (Kd.R_far (p := ⟨gb111, 4, none⟩) (Kd.R_far (p := ⟨gb111, 3, none⟩) (Kd.R_far (p := ⟨gb111, 2, none⟩) (Kd.R_far (p := ⟨gb111, 1, none⟩) (Kd.R_far (p := ⟨gb111, 0, none⟩) (Kd.R_mono HO_3.out (fun k_ hk => (⟨hk, hk.2⟩ : _ ∧ k_ ≠ gb111))) (fun _ hk => hk.2) (.int .i64 0)) (fun _ hk => hk.2) (.int .i64 0)) (fun _ hk => hk.2) (.int .i64 0)) (fun _ hk => hk.2) (.int .i64 0)) (fun _ hk => hk.2) (.int .i64 0)) (fun _ hk => hk.1.2))); (case aS => exact (below_size (by repeat (first | (with_reducible first | exact HB.out | apply below_alloc | apply pw_below_drewN | apply below_drew1 | refine below_set ?_ GE111.out) | exact HB.out)))); (case aL => have := LMc43.out; omega); intro v117 w54 ho hb hg hat; rw [← Ny116.out] at ho; have n0_ := Aside0.mk (blk_grown (g := gb111) (o := .cells #[.int .i64 0, .int .i64 0, .int .i64 0, .int .i64 0, .int .i64 0] 29 (0, 0)) (by (with_reducible repeat (first | refine blk_drewN ?_ _ | refine blk_drew ?_ | refine blk_alloc ?_ _)); refine blk_put (cs := #[.int .i64 0, .int .i64 0, .int .i64 0, .int .i64 0, .int .i64 (wrap64 (bt a0 (ji25)))]) ?_ 4 _ rfl; (with_reducible repeat (first | refine blk_drewN ?_ _ | refine blk_drew ?_ | refine blk_alloc ?_ _)); refine blk_put (cs := #[.int .i64 0, .int .i64 0, .int .i64 0, .int .i64 (wrap64 (bt a0 (ji21))), .int .i64 (wrap64 (bt a0 (ji25)))]) ?_ 3 _ rfl; (with_reducible repeat (first | refine blk_drewN ?_ _ | refine blk_drew ?_ | refine blk_alloc ?_ _)); refine blk_put (cs := #[.int .i64 0, .int .i64 0, .int .i64 (wrap64 ((wrap64 (bt a0 (ji13))) + (wrap64 (256 * (wrap64 (bt a0 (ji17))))))), .int .i64 (wrap64 (bt a0 (ji21))), .int .i64 (wrap64 (bt a0 (ji25)))]) ?_ 2 _ rfl; (with_reducible repeat (first | refine blk_drewN ?_ _ | refine blk_drew ?_ | refine blk_alloc ?_ _)); refine blk_put (cs := #[.int .i64 0, .int .i64 (wrap64 (bt a0 (ji9))), .int .i64 (wrap64 ((wrap64 (bt a0 (ji13))) + (wrap64 (256 * (wrap64 (bt a0 (ji17))))))), .int .i64 (wrap64 (bt a0 (ji21))), .int .i64 (wrap64 (bt a0 (ji25)))]) ?_ 1 _ rfl; (with_reducible repeat (first | refine blk_drewN ?_ _ | refine blk_drew ?_ | refine blk_alloc ?_ _)); refine blk_put (cs := #[.int .i64 (wrap64 (bt a0 x4_1)), .int .i64 (wrap64 (bt a0 (ji9))), .int .i64 (wrap64 ((wrap64 (bt a0 (ji13))) + (wrap64 (256 * (wrap64 (bt a0 (ji17))))))), .int .i64 (wrap64 (bt a0 (ji21))), .int .i64 (wrap64 (bt a0 (ji25)))]) ?_ 0 _ rfl; (with_reducible repeat (first | refine blk_drewN ?_ _ | refine blk_drew ?_ | refine blk_alloc ?_ _)); exact BK111.out) hg (Kd.R_away HO_3.out (fun _ hk => hk.2))); have n1_ := Aside0.mk (hb); have n2_ := Aside0.mk (ho); clear BK111; clear HB; clear HO_3; have BK111 := n0_; have HB := n1_; have HO118 := n2_; clear n0_ n1_ n2_; clear ho hb hg hat))
                                        go_roundg kj1
                                        case measure => have := HK1.out; have := HJ1.out; omega
                                        case rel => exact ⟨(y116), (wrap64 (x4_1 + 6)), (by first | rfl | (simp; done) | (simp [*]; done)), H', ⟨by have := HK1.out; have := HJ1.out; omega⟩, ⟨by (with_reducible repeat (first | apply Kd.R_alloc | apply Kd.R_drewN | apply Kd.R_drew)); exact Kd.R_mono HO118.out (fun _ hk => trivial)⟩, ⟨by repeat (first | (with_reducible first | exact HB.out | apply below_alloc | apply pw_below_drewN | apply below_drew1 | refine below_set ?_ GE111.out) | exact HB.out)⟩⟩
                                      · rw [if_neg c43] at H
                                        exact absurd H (by simp)
                                  · rw [if_neg c27] at H
                                    exact absurd H (by simp)
                                · rw [if_neg c26] at H
                                  exact absurd H (by simp)
                              · rw [if_neg c23] at H
                                exact absurd H (by simp)
                            · rw [if_neg c22] at H
                              exact absurd H (by simp)
                          · rw [if_neg c19] at H
                            exact absurd H (by simp)
                        · rw [if_neg c18] at H
                          exact absurd H (by simp)
                      · rw [if_neg c15] at H
                        exact absurd H (by simp)
                    · rw [if_neg c14] at H
                      exact absurd H (by simp)
                  · rw [if_neg c11] at H
                    exact absurd H (by simp)
                · rw [if_neg c10] at H
                  exact absurd H (by simp)
              · rw [if_neg c7] at H
                exact absurd H (by simp)
            · rw [if_neg c6] at H
              exact absurd H (by simp)
          · replace c5 := Bool.eq_false_iff.mpr c5
            subst c5
            have H1 : (some x3_1) = some r := by rw [if_neg (show ¬ (false = true) by decide)] at H; exact H
            clear H
            have H := H1
            clear H1
            obtain rfl := Option.some.inj H
            go_wp2
            go_ret
            exact ⟨_, by first | rfl | (simp [errW_none, errW_some] <;> rfl) | (simp [*, errW_none, errW_some] <;> rfl), by (with_reducible repeat (first | apply Kd.R_alloc | apply Kd.R_drewN | apply Kd.R_drew)); exact HO_3.out, by repeat (first | (with_reducible first | exact HB.out | apply below_alloc | apply pw_below_drewN | apply below_drew1) | exact HB.out)⟩

end Go.Proofs.Ytkjhklnjmpicgaa.QL
