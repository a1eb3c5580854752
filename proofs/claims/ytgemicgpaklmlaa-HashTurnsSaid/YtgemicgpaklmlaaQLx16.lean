/- Functions of the program as Lean functions, and the walks that show it, written by a program of this session on the base of the kit printer; Lean checks all of it. -/
import Derived.Test.YtgemicgpaklmlaaQLx0
import Derived.Test.YtgemicgpaklmlaaQLx4
import Derived.Test.YtgemicgpaklmlaaH1
namespace Go.Proofs.Ytgemicgpaklmlaa.QL
open Go.Proofs.Ytgemicgpaklmlaa.H
open Go.Proofs.Ytgemicgpaklmlaa.QB
open Go.RowKit Go.Proofs.YtgemicgpaklmlaaW.PrintWords Go.Proofs.YtgemicgpaklmlaaW.PrintLast Go.Proofs.YtgemicgpaklmlaaW.PrintMore
attribute [local go_sem] max2_int min2_int max_two min_two max_three min_three max_four min_four   -- for this text's walks alone
set_option linter.unusedVariables false
set_option linter.unusedSimpArgs false

/-! ### waymasterlaw07_HashTurns: function 8 -/
def waymasterlaw07_HashTurns.j0 : Nat → Int → Int → Int → Bool → Bool → Option (Bool)
  | 0, _, _, _, _, _ => none
  | k + 1, x0, x1, x2, x7, x22 => if x22 = true then (some x7) else (if x7 = true then ((hash_Turn.f x0 x1).bind fun t148 => ((hash_Turn.f t148 (wrap64 (-x1))).bind fun t149 => (if t149 = x0 then ((hash_Turn.f x0 x1).bind fun t150 => ((hash_Turn.f t150 x2).bind fun t151 => ((hash_Turn.f x0 (wrap64 (x1 + x2))).bind fun t152 => (if t151 = t152 then ((hash_Turn.f x0 32).bind fun t153 => (some (t153 == x0))) else (some false))))) else (some false)))) else (some false))
def waymasterlaw07_HashTurns.f (k : Nat) (a0 : Int) (a1 : Int) (a2 : Int) : Option (Bool) := (waymasterlaw07_shown.f).bind fun t147 => (if a1 < (-1000) then (waymasterlaw07_HashTurns.j0 k a0 a1 a2 t147 true) else (if a1 > 1000 then (waymasterlaw07_HashTurns.j0 k a0 a1 a2 t147 true) else (if a2 < (-1000) then (waymasterlaw07_HashTurns.j0 k a0 a1 a2 t147 true) else (waymasterlaw07_HashTurns.j0 k a0 a1 a2 t147 (decide (a2 > 1000))))))
theorem waymasterlaw07_HashTurns.mono_l : ∀ k, (∀ y0 y1 y2 y3 y4, LeO (waymasterlaw07_HashTurns.j0 k y0 y1 y2 y3 y4) (waymasterlaw07_HashTurns.j0 (k + 1) y0 y1 y2 y3 y4))
  | 0 => fun _ _ _ _ _ r h => by simp [waymasterlaw07_HashTurns.j0] at h
  | k + 1 => by
    have ih0 := waymasterlaw07_HashTurns.mono_l k
    · intro y0 y1 y2 y3 y4
      unfold waymasterlaw07_HashTurns.j0
      repeat' first
      | (with_reducible exact ih0 _ _ _ _ _)
      | (with_reducible exact LeO.refl _)
      | (with_reducible exact LeO.none _)
      | (with_reducible refine LeO.ite ?_ ?_)
      | (with_reducible refine LeO.bind ?_ (fun _ => ?_))
      | exact ih0 _ _ _ _ _
      | exact LeO.none _
      | refine LeO.ite ?_ ?_
      | refine LeO.bind ?_ (fun _ => ?_)
theorem waymasterlaw07_HashTurns.mono : ∀ a0 a1 a2 k, LeO (waymasterlaw07_HashTurns.f k a0 a1 a2) (waymasterlaw07_HashTurns.f (k + 1) a0 a1 a2) := by
  intro a0 a1 a2 k
  have ih0 := waymasterlaw07_HashTurns.mono_l k
  unfold waymasterlaw07_HashTurns.f
  repeat' first
      | (with_reducible exact ih0 _ _ _ _ _)
      | (with_reducible exact LeO.refl _)
      | (with_reducible exact LeO.none _)
      | (with_reducible refine LeO.ite ?_ ?_)
      | (with_reducible refine LeO.bind ?_ (fun _ => ?_))
      | exact ih0 _ _ _ _ _
      | exact LeO.none _
      | refine LeO.ite ?_ ?_
      | refine LeO.bind ?_ (fun _ => ?_)
set_option maxHeartbeats 8000000 in
set_option maxRecDepth 100000 in
theorem waymasterlaw07_HashTurns.calls (k : Nat) (a0 : Int) (a1 : Int) (a2 : Int) (r : Bool) (w : World) (h : waymasterlaw07_HashTurns.f k a0 a1 a2 = some r) :
    Calls Try.prog 8 #[.int .u32 a0, .int .i64 a1, .int .i64 a2] w fun e w' => e = .returned (.bool r) ∧ Below w.heap.size w w' := by
  have HB := Aside0.mk (Below.refl w.heap.size w)
  have H : ((waymasterlaw07_shown.f).bind fun t147 => (if a1 < (-1000) then (waymasterlaw07_HashTurns.j0 k a0 a1 a2 t147 true) else (if a1 > 1000 then (waymasterlaw07_HashTurns.j0 k a0 a1 a2 t147 true) else (if a2 < (-1000) then (waymasterlaw07_HashTurns.j0 k a0 a1 a2 t147 true) else (waymasterlaw07_HashTurns.j0 k a0 a1 a2 t147 (decide (a2 > 1000))))))) = some r := h
  clear h
  replace H := Option.bind_eq_some_iff.mp H
  obtain ⟨t147, A40, H⟩ := H
  replace H : (if a1 < (-1000) then (waymasterlaw07_HashTurns.j0 k a0 a1 a2 t147 true) else (if a1 > 1000 then (waymasterlaw07_HashTurns.j0 k a0 a1 a2 t147 true) else (if a2 < (-1000) then (waymasterlaw07_HashTurns.j0 k a0 a1 a2 t147 true) else (waymasterlaw07_HashTurns.j0 k a0 a1 a2 t147 (decide (a2 > 1000)))))) = some r := H
  have A4 := Aside0.mk A40
  clear A40
  have HC5 := Aside0.mk H
  clear H
  go_enter Try.func8, Try.ntmps8
  go_upto_region 2 with (first | ((with_reducible refine gate_callee (f := 11) rfl ?_); refine goesL_ (some 8) rfl rfl Try.func11 (by kernel_rfl) rfl #[] rfl (by (try simp only [List.map_toArray, List.map_cons, List.map_nil]); first | done | rfl | (simp only [List.length_drop, List.length_take]; rfl)) ?_; (with_reducible refine (waymasterlaw07_shown.calls  t147 _ A4.out).mono ?_); rintro e w6 ⟨rfl, hb⟩; refine ⟨_, rfl, ?_⟩; have n0_ := Aside0.mk (below_step (by repeat (first | (with_reducible first | exact HB.out | apply below_alloc | apply pw_below_drewN | apply below_drew1) | exact HB.out)) hb); clear HB; have HB := n0_; clear n0_; (try clear hb); (try clear hb2); (try clear hk); (try clear hi)))
  (try simp only [Act.put, List.setIfInBounds_toArray, List.set_cons_zero, List.set_cons_succ])
  go_cut [22] (fun v22 wc => ∃ (kq : Nat) (x22_4 : Bool), v22 = .bool x22_4 ∧ Aside0 (waymasterlaw07_HashTurns.j0 kq a0 a1 a2 t147 x22_4 = some r) ∧ Aside0 (kq ≤ k) ∧ Aside0 (Below w.heap.size w wc))
  case first =>
    have H := HC5.out
    clear HC5
    by_cases c7 : a1 < (-1000)
    · rw [if_pos c7] at H
      have c7b0 : decide (a1 < (-1000)) = true := decide_eq_true c7
      clear c7
      (first | rw [c7b0] | (simp only [i64_w, i32_w]; rw [c7b0]) | skip)
      have H' := Aside0.mk H
      clear H
      go_wp2
      go_meet
      case rel => exact ⟨_, (true), (by first | rfl | (simp; done) | (simp [*]; done)), H', ⟨by first | omega | exact Nat.le_refl _⟩, ⟨by repeat (first | (with_reducible first | exact HB.out | apply below_alloc | apply pw_below_drewN | apply below_drew1) | exact HB.out)⟩⟩
    · rw [if_neg c7] at H
      have c7b0 : decide (a1 < (-1000)) = false := decide_eq_false c7
      clear c7
      (first | rw [c7b0] | (simp only [i64_w, i32_w]; rw [c7b0]) | skip)
      by_cases c8 : a1 > 1000
      · rw [if_pos c8] at H
        have c8b0 : decide (1000 < a1) = true := decide_eq_true c8
        clear c8
        have H' := Aside0.mk H
        clear H
        go_wp2
        go_meet
        case rel => exact ⟨_, (true), (by first | rfl | (simp; done) | (simp [*]; done)), H', ⟨by first | omega | exact Nat.le_refl _⟩, ⟨by repeat (first | (with_reducible first | exact HB.out | apply below_alloc | apply pw_below_drewN | apply below_drew1) | exact HB.out)⟩⟩
      · rw [if_neg c8] at H
        have c8b0 : decide (1000 < a1) = false := decide_eq_false c8
        clear c8
        by_cases c9 : a2 < (-1000)
        · rw [if_pos c9] at H
          have c9b0 : decide (a2 < (-1000)) = true := decide_eq_true c9
          clear c9
          have H' := Aside0.mk H
          clear H
          go_wp2
          go_meet
          case rel => exact ⟨_, (true), (by first | rfl | (simp; done) | (simp [*]; done)), H', ⟨by first | omega | exact Nat.le_refl _⟩, ⟨by repeat (first | (with_reducible first | exact HB.out | apply below_alloc | apply pw_below_drewN | apply below_drew1) | exact HB.out)⟩⟩
        · rw [if_neg c9] at H
          have c9b0 : decide (a2 < (-1000)) = false := decide_eq_false c9
          clear c9
          have H' := Aside0.mk H
          clear H
          go_wp2
          go_meet
          case rel => exact ⟨_, (decide (a2 > 1000)), (by first | rfl | (simp; done) | (simp [*]; done)), H', ⟨by first | omega | exact Nat.le_refl _⟩, ⟨by repeat (first | (with_reducible first | exact HB.out | apply below_alloc | apply pw_below_drewN | apply below_drew1) | exact HB.out)⟩⟩
  case rest =>
    clear HC5
    try clear c1
    try clear p2
    try clear c7
    try clear c7b0
    try clear c8
    try clear c8b0
    try clear c9
    try clear c9b0
    obtain ⟨kq, x22_4, rfl, HA, HJ4, HB⟩ := hcut
    cases kq with
    | zero => exact absurd HA.out (by simp [waymasterlaw07_HashTurns.j0])
    | succ kj4 =>
      have H := HA.out
      clear HA
      simp only [waymasterlaw07_HashTurns.j0] at H
      by_cases c10 : x22_4 = true
      · subst c10
        have H1 : (some t147) = some r := by rw [if_pos rfl] at H; exact H
        clear H
        have H := H1
        clear H1
        obtain rfl := Option.some.inj H
        go_wp2
        go_ret
        exact ⟨by first | rfl | (simp [errW_none, errW_some] <;> rfl) | (simp [*, errW_none, errW_some] <;> rfl), by repeat (first | (with_reducible first | exact HB.out | apply below_alloc | apply pw_below_drewN | apply below_drew1) | exact HB.out)⟩
      · replace c10 := Bool.eq_false_iff.mpr c10
        subst c10
        have H1 : (if t147 = true then ((hash_Turn.f a0 a1).bind fun t148 => ((hash_Turn.f t148 (wrap64 (-a1))).bind fun t149 => (if t149 = a0 then ((hash_Turn.f a0 a1).bind fun t150 => ((hash_Turn.f t150 a2).bind fun t151 => ((hash_Turn.f a0 (wrap64 (a1 + a2))).bind fun t152 => (if t151 = t152 then ((hash_Turn.f a0 32).bind fun t153 => (some (t153 == a0))) else (some false))))) else (some false)))) else (some false)) = some r := by rw [if_neg (show ¬ (false = true) by decide)] at H; exact H
        clear H
        have H := H1
        clear H1
        by_cases c11 : t147 = true
        · subst c11
          have H1 : ((hash_Turn.f a0 a1).bind fun t148 => ((hash_Turn.f t148 (wrap64 (-a1))).bind fun t149 => (if t149 = a0 then ((hash_Turn.f a0 a1).bind fun t150 => ((hash_Turn.f t150 a2).bind fun t151 => ((hash_Turn.f a0 (wrap64 (a1 + a2))).bind fun t152 => (if t151 = t152 then ((hash_Turn.f a0 32).bind fun t153 => (some (t153 == a0))) else (some false))))) else (some false)))) = some r := by rw [if_pos rfl] at H; exact H
          clear H
          have H := H1
          clear H1
          replace H := Option.bind_eq_some_iff.mp H
          obtain ⟨t148, A120, H⟩ := H
          replace H : ((hash_Turn.f t148 (wrap64 (-a1))).bind fun t149 => (if t149 = a0 then ((hash_Turn.f a0 a1).bind fun t150 => ((hash_Turn.f t150 a2).bind fun t151 => ((hash_Turn.f a0 (wrap64 (a1 + a2))).bind fun t152 => (if t151 = t152 then ((hash_Turn.f a0 32).bind fun t153 => (some (t153 == a0))) else (some false))))) else (some false))) = some r := H
          have A12 := Aside0.mk A120
          clear A120
          replace H := Option.bind_eq_some_iff.mp H
          obtain ⟨t149, A130, H⟩ := H
          replace H : (if t149 = a0 then ((hash_Turn.f a0 a1).bind fun t150 => ((hash_Turn.f t150 a2).bind fun t151 => ((hash_Turn.f a0 (wrap64 (a1 + a2))).bind fun t152 => (if t151 = t152 then ((hash_Turn.f a0 32).bind fun t153 => (some (t153 == a0))) else (some false))))) else (some false)) = some r := H
          have A13 := Aside0.mk A130
          clear A130
          by_cases c14 : t149 = a0
          · rw [if_pos c14] at H
            have c14b0 : (t149 == a0) = true := beq_iff_eq.mpr c14
            have c14b1 : (t149 != a0) = false := bne_eq_false_iff_eq.mpr c14
            clear c14
            replace H := Option.bind_eq_some_iff.mp H
            obtain ⟨t150, A150, H⟩ := H
            replace H : ((hash_Turn.f t150 a2).bind fun t151 => ((hash_Turn.f a0 (wrap64 (a1 + a2))).bind fun t152 => (if t151 = t152 then ((hash_Turn.f a0 32).bind fun t153 => (some (t153 == a0))) else (some false)))) = some r := H
            have A15 := Aside0.mk A150
            clear A150
            obtain rfl : t148 = t150 := Option.some.inj (A12.out.symm.trans A15.out)
            replace H := Option.bind_eq_some_iff.mp H
            obtain ⟨t151, A160, H⟩ := H
            replace H : ((hash_Turn.f a0 (wrap64 (a1 + a2))).bind fun t152 => (if t151 = t152 then ((hash_Turn.f a0 32).bind fun t153 => (some (t153 == a0))) else (some false))) = some r := H
            have A16 := Aside0.mk A160
            clear A160
            replace H := Option.bind_eq_some_iff.mp H
            obtain ⟨t152, A170, H⟩ := H
            replace H : (if t151 = t152 then ((hash_Turn.f a0 32).bind fun t153 => (some (t153 == a0))) else (some false)) = some r := H
            have A17 := Aside0.mk A170
            clear A170
            by_cases c18 : t151 = t152
            · rw [if_pos c18] at H
              have c18b0 : (t151 == t152) = true := beq_iff_eq.mpr c18
              have c18b1 : (t151 != t152) = false := bne_eq_false_iff_eq.mpr c18
              clear c18
              replace H := Option.bind_eq_some_iff.mp H
              obtain ⟨t153, A190, H⟩ := H
              replace H : (some (t153 == a0)) = some r := H
              have A19 := Aside0.mk A190
              clear A190
              obtain rfl := Option.some.inj H
              go_wp2_with (first | (go_at_call 16; (with_reducible refine (hash_Turn.calls a0 a1 t148 _ A12.out).mono ?_); rintro e w20 ⟨rfl, hb⟩; have n0_ := Aside0.mk (below_step (by repeat (first | (with_reducible first | exact HB.out | apply below_alloc | apply pw_below_drewN | apply below_drew1) | exact HB.out)) hb); clear HB; have HB := n0_; clear n0_; (try clear hb); (try clear hb2); (try clear hk); (try clear hi)) | (go_at_call 16; (with_reducible refine (hash_Turn.calls t148 (wrap64 (-a1)) t149 _ A13.out).mono ?_); rintro e w21 ⟨rfl, hb⟩; have n0_ := Aside0.mk (below_step (by repeat (first | (with_reducible first | exact HB.out | apply below_alloc | apply pw_below_drewN | apply below_drew1) | exact HB.out)) hb); clear HB; have HB := n0_; clear n0_; (try clear hb); (try clear hb2); (try clear hk); (try clear hi)) | (go_at_call 16; (with_reducible refine (hash_Turn.calls a0 a1 t148 _ A15.out).mono ?_); rintro e w22 ⟨rfl, hb⟩; have n0_ := Aside0.mk (below_step (by repeat (first | (with_reducible first | exact HB.out | apply below_alloc | apply pw_below_drewN | apply below_drew1) | exact HB.out)) hb); clear HB; have HB := n0_; clear n0_; (try clear hb); (try clear hb2); (try clear hk); (try clear hi)) | (go_at_call 16; (with_reducible refine (hash_Turn.calls t148 a2 t151 _ A16.out).mono ?_); rintro e w23 ⟨rfl, hb⟩; have n0_ := Aside0.mk (below_step (by repeat (first | (with_reducible first | exact HB.out | apply below_alloc | apply pw_below_drewN | apply below_drew1) | exact HB.out)) hb); clear HB; have HB := n0_; clear n0_; (try clear hb); (try clear hb2); (try clear hk); (try clear hi)) | (go_at_call 16; (with_reducible refine (hash_Turn.calls a0 (wrap64 (a1 + a2)) t152 _ A17.out).mono ?_); rintro e w24 ⟨rfl, hb⟩; have n0_ := Aside0.mk (below_step (by repeat (first | (with_reducible first | exact HB.out | apply below_alloc | apply pw_below_drewN | apply below_drew1) | exact HB.out)) hb); clear HB; have HB := n0_; clear n0_; (try clear hb); (try clear hb2); (try clear hk); (try clear hi)) | (go_at_call 16; (with_reducible refine (hash_Turn.calls a0 32 t153 _ A19.out).mono ?_); rintro e w25 ⟨rfl, hb⟩; have n0_ := Aside0.mk (below_step (by repeat (first | (with_reducible first | exact HB.out | apply below_alloc | apply pw_below_drewN | apply below_drew1) | exact HB.out)) hb); clear HB; have HB := n0_; clear n0_; (try clear hb); (try clear hb2); (try clear hk); (try clear hi)))
              go_ret
              exact ⟨by first | rfl | (simp [errW_none, errW_some] <;> rfl) | (simp [*, errW_none, errW_some] <;> rfl), by repeat (first | (with_reducible first | exact HB.out | apply below_alloc | apply pw_below_drewN | apply below_drew1) | exact HB.out)⟩
            · rw [if_neg c18] at H
              have c18b0 : (t151 == t152) = false := beq_eq_false_iff_ne.mpr c18
              have c18b1 : (t151 != t152) = true := bne_iff_ne.mpr c18
              obtain rfl := Option.some.inj H
              go_wp2_with (first | (go_at_call 16; (with_reducible refine (hash_Turn.calls a0 a1 t148 _ A12.out).mono ?_); rintro e w26 ⟨rfl, hb⟩; have n0_ := Aside0.mk (below_step (by repeat (first | (with_reducible first | exact HB.out | apply below_alloc | apply pw_below_drewN | apply below_drew1) | exact HB.out)) hb); clear HB; have HB := n0_; clear n0_; (try clear hb); (try clear hb2); (try clear hk); (try clear hi)) | (go_at_call 16; (with_reducible refine (hash_Turn.calls t148 (wrap64 (-a1)) t149 _ A13.out).mono ?_); rintro e w27 ⟨rfl, hb⟩; have n0_ := Aside0.mk (below_step (by repeat (first | (with_reducible first | exact HB.out | apply below_alloc | apply pw_below_drewN | apply below_drew1) | exact HB.out)) hb); clear HB; have HB := n0_; clear n0_; (try clear hb); (try clear hb2); (try clear hk); (try clear hi)) | (go_at_call 16; (with_reducible refine (hash_Turn.calls a0 a1 t148 _ A15.out).mono ?_); rintro e w28 ⟨rfl, hb⟩; have n0_ := Aside0.mk (below_step (by repeat (first | (with_reducible first | exact HB.out | apply below_alloc | apply pw_below_drewN | apply below_drew1) | exact HB.out)) hb); clear HB; have HB := n0_; clear n0_; (try clear hb); (try clear hb2); (try clear hk); (try clear hi)) | (go_at_call 16; (with_reducible refine (hash_Turn.calls t148 a2 t151 _ A16.out).mono ?_); rintro e w29 ⟨rfl, hb⟩; have n0_ := Aside0.mk (below_step (by repeat (first | (with_reducible first | exact HB.out | apply below_alloc | apply pw_below_drewN | apply below_drew1) | exact HB.out)) hb); clear HB; have HB := n0_; clear n0_; (try clear hb); (try clear hb2); (try clear hk); (try clear hi)) | (go_at_call 16; (with_reducible refine (hash_Turn.calls a0 (wrap64 (a1 + a2)) t152 _ A17.out).mono ?_); rintro e w30 ⟨rfl, hb⟩; have n0_ := Aside0.mk (below_step (by repeat (first | (with_reducible first | exact HB.out | apply below_alloc | apply pw_below_drewN | apply below_drew1) | exact HB.out)) hb); clear HB; have HB := n0_; clear n0_; (try clear hb); (try clear hb2); (try clear hk); (try clear hi)))
              go_ret
              exact ⟨by first | rfl | (simp [errW_none, errW_some] <;> rfl) | (simp [*, errW_none, errW_some] <;> rfl), by repeat (first | (with_reducible first | exact HB.out | apply below_alloc | apply pw_below_drewN | apply below_drew1) | exact HB.out)⟩
          · rw [if_neg c14] at H
            have c14b0 : (t149 == a0) = false := beq_eq_false_iff_ne.mpr c14
            have c14b1 : (t149 != a0) = true := bne_iff_ne.mpr c14
            obtain rfl := Option.some.inj H
            go_wp2_with (first | (go_at_call 16; (with_reducible refine (hash_Turn.calls a0 a1 t148 _ A12.out).mono ?_); rintro e w31 ⟨rfl, hb⟩; have n0_ := Aside0.mk (below_step (by repeat (first | (with_reducible first | exact HB.out | apply below_alloc | apply pw_below_drewN | apply below_drew1) | exact HB.out)) hb); clear HB; have HB := n0_; clear n0_; (try clear hb); (try clear hb2); (try clear hk); (try clear hi)) | (go_at_call 16; (with_reducible refine (hash_Turn.calls t148 (wrap64 (-a1)) t149 _ A13.out).mono ?_); rintro e w32 ⟨rfl, hb⟩; have n0_ := Aside0.mk (below_step (by repeat (first | (with_reducible first | exact HB.out | apply below_alloc | apply pw_below_drewN | apply below_drew1) | exact HB.out)) hb); clear HB; have HB := n0_; clear n0_; (try clear hb); (try clear hb2); (try clear hk); (try clear hi)))
            go_ret
            exact ⟨by first | rfl | (simp [errW_none, errW_some] <;> rfl) | (simp [*, errW_none, errW_some] <;> rfl), by repeat (first | (with_reducible first | exact HB.out | apply below_alloc | apply pw_below_drewN | apply below_drew1) | exact HB.out)⟩
        · replace c11 := Bool.eq_false_iff.mpr c11
          subst c11
          have H1 : (some false) = some r := by rw [if_neg (show ¬ (false = true) by decide)] at H; exact H
          clear H
          have H := H1
          clear H1
          obtain rfl := Option.some.inj H
          go_wp2
          go_ret
          exact ⟨by first | rfl | (simp [errW_none, errW_some] <;> rfl) | (simp [*, errW_none, errW_some] <;> rfl), by repeat (first | (with_reducible first | exact HB.out | apply below_alloc | apply pw_below_drewN | apply below_drew1) | exact HB.out)⟩

/-- THE ONE PURE STATEMENT of waymasterlaw07_HashTurns: yours. -/
def waymasterlaw07_HashTurns.Pure : Prop := ∀ (a0 : Int) (a1 : Int) (a2 : Int), (Lit.int .u32 a0).wf = true → (Lit.int .i64 a1).wf = true → (Lit.int .i64 a2).wf = true → ∃ k, waymasterlaw07_HashTurns.f k a0 a1 a2 = some true
theorem waymasterlaw07_HashTurns.walk (P : waymasterlaw07_HashTurns.Pure) (a0 : Int) (a1 : Int) (a2 : Int) (w : World) (w0 : (Lit.int .u32 a0).wf = true) (w1 : (Lit.int .i64 a1).wf = true) (w2 : (Lit.int .i64 a2).wf = true) :
    Calls Try.prog 8 #[.int .u32 a0, .int .i64 a1, .int .i64 a2] w fun e w' => e = .returned (.bool true) ∧ Below w.heap.size w w' := by
  obtain ⟨k, h⟩ := P a0 a1 a2 w0 w1 w2
  refine (waymasterlaw07_HashTurns.calls k a0 a1 a2 true w h).mono ?_
  rintro e w' ⟨rfl, hd⟩
  exact ⟨rfl, hd⟩

end Go.Proofs.Ytgemicgpaklmlaa.QL
