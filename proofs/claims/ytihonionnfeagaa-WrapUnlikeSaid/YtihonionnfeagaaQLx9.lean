/- Functions of the program as Lean functions, and the walks that show it, written by a program of this session on the base of the kit printer; Lean checks all of it. -/
import Derived.Test.YtihonionnfeagaaQLx0
import Derived.Test.YtihonionnfeagaaQLx1
namespace Go.Proofs.Ytihonionnfeagaa.QL
open Go.Proofs.Ytihonionnfeagaa.H
open Go.Proofs.Ytihonionnfeagaa.QB
open Go.RowKit Go.Proofs.YtihonionnfeagaaW.PrintWords Go.Proofs.YtihonionnfeagaaW.PrintLast Go.Proofs.YtihonionnfeagaaW.PrintMore
attribute [local go_sem] max2_int min2_int max_two min_two max_three min_three max_four min_four   -- for this text's walks alone
set_option linter.unusedVariables false
set_option linter.unusedSimpArgs false

/-! ### waymasterlaw01_WrapUnlike: function 9 -/
mutual
def waymasterlaw01_WrapUnlike.j0 : Nat → Int → Int → Int → Bool → Bool → Option (Bool)
  | 0, _, _, _, _, _ => none
  | k + 1, x0, x1, x2, x7, x18 => if x18 = true then (some x7) else ((wrap_Range.f x0 ((x0 + ((x1) % 4294967296)) % 4294967296) x2).bind fun bt182 => ((wrap_IsSize.f x2).bind fun t186 => (if t186 = true then (if x1 > x2 then (if x7 = true then (if bt182.2 = 10 then (some ((bt182.1.length : Int) == 0)) else (some false)) else (some false)) else (if bt182.2 = 0 then (waymasterlaw01_WrapUnlike.j1 k x2 x7 bt182.1 ((bt182.1.length : Int) != x1)) else (waymasterlaw01_WrapUnlike.j1 k x2 x7 bt182.1 true))) else (if x7 = true then (some (bt182.2 == 2)) else (some false)))))
def waymasterlaw01_WrapUnlike.j1 : Nat → Int → Bool → List Int → Bool → Option (Bool)
  | 0, _, _, _, _ => none
  | k + 1, x2, x7, x8, x58 => if x58 = true then (some false) else (if 0 ≤ x2 then (if (x2 : Int).toNat ≤ 281474976710656 then (waymasterlaw01_WrapUnlike.l0 k x2 x7 x8 (List.replicate (x2 : Int).toNat false) 0) else (none)) else (none))
def waymasterlaw01_WrapUnlike.l0 : Nat → Int → Bool → List Int → List Bool → Int → Option (Bool)
  | 0, _, _, _, _, _ => none
  | k + 1, x2, x7, x8, x10, x11 => if x11 < (x8.length : Int) then (if 0 ≤ x11 then (if (rd x8 x11) < 0 then (some false) else (if (rd x8 x11) ≥ x2 then (some false) else (if 0 ≤ (rd x8 x11) then (if (rd x8 x11) < (x10.length : Int) then (if rdOf false x10 (rd x8 x11) = true then (some false) else (if x11 > 0 then (if 0 ≤ (wrap64 (x11 - 1)) then (if (wrap64 (x11 - 1)) < (x8.length : Int) then (if x2 = 0 then (none) else (if (rd x8 x11) = (Int.tmod (wrap64 ((rd x8 (wrap64 (x11 - 1))) + 1)) x2) then (waymasterlaw01_WrapUnlike.l0 k x2 x7 x8 (x10.set ((rd x8 x11) : Int).toNat true) (wrap64 (x11 + 1))) else (some false))) else (none)) else (none)) else (waymasterlaw01_WrapUnlike.l0 k x2 x7 x8 (x10.set ((rd x8 x11) : Int).toNat true) (wrap64 (x11 + 1))))) else (none)) else (none)))) else (none)) else (some x7)
end
def waymasterlaw01_WrapUnlike.f (k : Nat) (a0 : Int) (a1 : Int) (a2 : Int) : Option (Bool) := (waymasterlaw01_shown.f).bind fun t181 => (if a1 < 0 then (waymasterlaw01_WrapUnlike.j0 k a0 a1 a2 t181 true) else (waymasterlaw01_WrapUnlike.j0 k a0 a1 a2 t181 (decide (a1 > 4200))))
theorem waymasterlaw01_WrapUnlike.mono_l : ∀ k, (∀ y0 y1 y2 y3 y4, LeO (waymasterlaw01_WrapUnlike.j0 k y0 y1 y2 y3 y4) (waymasterlaw01_WrapUnlike.j0 (k + 1) y0 y1 y2 y3 y4)) ∧ (∀ y0 y1 y2 y3, LeO (waymasterlaw01_WrapUnlike.j1 k y0 y1 y2 y3) (waymasterlaw01_WrapUnlike.j1 (k + 1) y0 y1 y2 y3)) ∧ (∀ y0 y1 y2 y3 y4, LeO (waymasterlaw01_WrapUnlike.l0 k y0 y1 y2 y3 y4) (waymasterlaw01_WrapUnlike.l0 (k + 1) y0 y1 y2 y3 y4))
  | 0 => ⟨fun _ _ _ _ _ r h => by simp [waymasterlaw01_WrapUnlike.j0] at h, fun _ _ _ _ r h => by simp [waymasterlaw01_WrapUnlike.j1] at h, fun _ _ _ _ _ r h => by simp [waymasterlaw01_WrapUnlike.l0] at h⟩
  | k + 1 => by
    obtain ⟨ih0, ih1, ih2⟩ := waymasterlaw01_WrapUnlike.mono_l k
    refine ⟨?_, ?_, ?_⟩
    · intro y0 y1 y2 y3 y4
      unfold waymasterlaw01_WrapUnlike.j0
      repeat' first
      | (with_reducible exact ih0 _ _ _ _ _)
      | (with_reducible exact ih1 _ _ _ _)
      | (with_reducible exact ih2 _ _ _ _ _)
      | (with_reducible exact LeO.refl _)
      | (with_reducible exact LeO.none _)
      | (with_reducible refine LeO.ite ?_ ?_)
      | (with_reducible refine LeO.bind ?_ (fun _ => ?_))
      | exact ih0 _ _ _ _ _
      | exact ih1 _ _ _ _
      | exact ih2 _ _ _ _ _
      | exact LeO.none _
      | refine LeO.ite ?_ ?_
      | refine LeO.bind ?_ (fun _ => ?_)
    · intro y0 y1 y2 y3
      unfold waymasterlaw01_WrapUnlike.j1
      repeat' first
      | (with_reducible exact ih0 _ _ _ _ _)
      | (with_reducible exact ih1 _ _ _ _)
      | (with_reducible exact ih2 _ _ _ _ _)
      | (with_reducible exact LeO.refl _)
      | (with_reducible exact LeO.none _)
      | (with_reducible refine LeO.ite ?_ ?_)
      | (with_reducible refine LeO.bind ?_ (fun _ => ?_))
      | exact ih0 _ _ _ _ _
      | exact ih1 _ _ _ _
      | exact ih2 _ _ _ _ _
      | exact LeO.none _
      | refine LeO.ite ?_ ?_
      | refine LeO.bind ?_ (fun _ => ?_)
    · intro y0 y1 y2 y3 y4
      unfold waymasterlaw01_WrapUnlike.l0
      repeat' first
      | (with_reducible exact ih0 _ _ _ _ _)
      | (with_reducible exact ih1 _ _ _ _)
      | (with_reducible exact ih2 _ _ _ _ _)
      | (with_reducible exact LeO.refl _)
      | (with_reducible exact LeO.none _)
      | (with_reducible refine LeO.ite ?_ ?_)
      | (with_reducible refine LeO.bind ?_ (fun _ => ?_))
      | exact ih0 _ _ _ _ _
      | exact ih1 _ _ _ _
      | exact ih2 _ _ _ _ _
      | exact LeO.none _
      | refine LeO.ite ?_ ?_
      | refine LeO.bind ?_ (fun _ => ?_)
theorem waymasterlaw01_WrapUnlike.mono : ∀ a0 a1 a2 k, LeO (waymasterlaw01_WrapUnlike.f k a0 a1 a2) (waymasterlaw01_WrapUnlike.f (k + 1) a0 a1 a2) := by
  intro a0 a1 a2 k
  obtain ⟨ih0, ih1, ih2⟩ := waymasterlaw01_WrapUnlike.mono_l k
  unfold waymasterlaw01_WrapUnlike.f
  repeat' first
      | (with_reducible exact ih0 _ _ _ _ _)
      | (with_reducible exact ih1 _ _ _ _)
      | (with_reducible exact ih2 _ _ _ _ _)
      | (with_reducible exact LeO.refl _)
      | (with_reducible exact LeO.none _)
      | (with_reducible refine LeO.ite ?_ ?_)
      | (with_reducible refine LeO.bind ?_ (fun _ => ?_))
      | exact ih0 _ _ _ _ _
      | exact ih1 _ _ _ _
      | exact ih2 _ _ _ _ _
      | exact LeO.none _
      | refine LeO.ite ?_ ?_
      | refine LeO.bind ?_ (fun _ => ?_)
set_option maxHeartbeats 8000000 in
set_option maxRecDepth 100000 in
theorem waymasterlaw01_WrapUnlike.calls (k : Nat) (a0 : Int) (a1 : Int) (a2 : Int) (r : Bool) (w : World) (h : waymasterlaw01_WrapUnlike.f k a0 a1 a2 = some r) :
    Calls Try.prog 9 #[.int .u32 a0, .int .i64 a1, .int .i64 a2] w fun e w' => e = .returned (.bool r) ∧ Below w.heap.size w w' := by
  have HB := Aside0.mk (Below.refl w.heap.size w)
  have H : ((waymasterlaw01_shown.f).bind fun t181 => (if a1 < 0 then (waymasterlaw01_WrapUnlike.j0 k a0 a1 a2 t181 true) else (waymasterlaw01_WrapUnlike.j0 k a0 a1 a2 t181 (decide (a1 > 4200))))) = some r := h
  clear h
  replace H := Option.bind_eq_some_iff.mp H
  obtain ⟨t181, A40, H⟩ := H
  replace H : (if a1 < 0 then (waymasterlaw01_WrapUnlike.j0 k a0 a1 a2 t181 true) else (waymasterlaw01_WrapUnlike.j0 k a0 a1 a2 t181 (decide (a1 > 4200)))) = some r := H
  have A4 := Aside0.mk A40
  clear A40
  have HC5 := Aside0.mk H
  clear H
  go_enter Try.func9, Try.ntmps9
  go_upto_region 2 with (first | (go_at_call 10; (with_reducible refine (waymasterlaw01_shown.calls  t181 _ A4.out).mono ?_); rintro e w6 ⟨rfl, hb⟩; have n0_ := Aside0.mk (below_step (by repeat (first | (with_reducible first | exact HB.out | apply below_alloc | apply pw_below_drewN | apply below_drew1) | exact HB.out)) hb); clear HB; have HB := n0_; clear n0_; (try clear hb); (try clear hb2); (try clear hk); (try clear hi)))
  repeat (go_quiet (first | (go_at_call 10; (with_reducible refine (waymasterlaw01_shown.calls  t181 _ A4.out).mono ?_); rintro e w6 ⟨rfl, hb⟩; have n0_ := Aside0.mk (below_step (by repeat (first | (with_reducible first | exact HB.out | apply below_alloc | apply pw_below_drewN | apply below_drew1) | exact HB.out)) hb); clear HB; have HB := n0_; clear n0_; (try clear hb); (try clear hb2); (try clear hk); (try clear hi))); go_upto_region 2 with (first | (go_at_call 10; (with_reducible refine (waymasterlaw01_shown.calls  t181 _ A4.out).mono ?_); rintro e w6 ⟨rfl, hb⟩; have n0_ := Aside0.mk (below_step (by repeat (first | (with_reducible first | exact HB.out | apply below_alloc | apply pw_below_drewN | apply below_drew1) | exact HB.out)) hb); clear HB; have HB := n0_; clear n0_; (try clear hb); (try clear hb2); (try clear hk); (try clear hi))))
  (try simp only [Act.put, List.setIfInBounds_toArray, List.set_cons_zero, List.set_cons_succ])
  go_cut [18] (fun v18 wc => ∃ (kq : Nat) (x18_4 : Bool), v18 = .bool x18_4 ∧ Aside0 (waymasterlaw01_WrapUnlike.j0 kq a0 a1 a2 t181 x18_4 = some r) ∧ Aside0 (kq ≤ k) ∧ Aside0 (Below w.heap.size w wc))
  case first =>
    have H := HC5.out
    clear HC5
    by_cases c7 : a1 < 0
    · rw [if_pos c7] at H
      have c7b0 : decide (a1 < 0) = true := decide_eq_true c7
      clear c7
      (first | rw [c7b0] | (simp only [i64_w, i32_w]; rw [c7b0]) | skip)
      have H' := Aside0.mk H
      clear H
      go_wp2
      repeat (go_quiet (fail); try go_wp2)
      go_meet
      case rel => exact ⟨_, (true), (by first | rfl | (simp; done) | (simp [*]; done)), H', ⟨by first | omega | exact Nat.le_refl _⟩, ⟨by repeat (first | (with_reducible first | exact HB.out | apply below_alloc | apply pw_below_drewN | apply below_drew1) | exact HB.out)⟩⟩
    · rw [if_neg c7] at H
      have c7b0 : decide (a1 < 0) = false := decide_eq_false c7
      clear c7
      (first | rw [c7b0] | (simp only [i64_w, i32_w]; rw [c7b0]) | skip)
      have H' := Aside0.mk H
      clear H
      go_wp2
      repeat (go_quiet (fail); try go_wp2)
      go_meet
      case rel => exact ⟨_, (decide (a1 > 4200)), (by first | rfl | (simp; done) | (simp [*]; done)), H', ⟨by first | omega | exact Nat.le_refl _⟩, ⟨by repeat (first | (with_reducible first | exact HB.out | apply below_alloc | apply pw_below_drewN | apply below_drew1) | exact HB.out)⟩⟩
  case rest =>
    clear HC5
    try clear p2
    try clear c7
    try clear c7b0
    obtain ⟨kq, x18_4, rfl, HA, HJ4, HB⟩ := hcut
    cases kq with
    | zero => exact absurd HA.out (by simp [waymasterlaw01_WrapUnlike.j0])
    | succ kj4 =>
      have H := HA.out
      clear HA
      simp only [waymasterlaw01_WrapUnlike.j0] at H
      by_cases c8 : x18_4 = true
      · subst c8
        have H1 : (some t181) = some r := by rw [if_pos rfl] at H; exact H
        clear H
        have H := H1
        clear H1
        obtain rfl := Option.some.inj H
        go_wp2
        repeat (go_quiet (fail); try go_wp2)
        go_ret
        exact ⟨by first | rfl | (simp [errW_none, errW_some] <;> rfl) | (simp [*, errW_none, errW_some] <;> rfl), by repeat (first | (with_reducible first | exact HB.out | apply below_alloc | apply pw_below_drewN | apply below_drew1) | exact HB.out)⟩
      · replace c8 := Bool.eq_false_iff.mpr c8
        subst c8
        have H1 : ((wrap_Range.f a0 ((a0 + ((a1) % 4294967296)) % 4294967296) a2).bind fun bt182 => ((wrap_IsSize.f a2).bind fun t186 => (if t186 = true then (if a1 > a2 then (if t181 = true then (if bt182.2 = 10 then (some ((bt182.1.length : Int) == 0)) else (some false)) else (some false)) else (if bt182.2 = 0 then (waymasterlaw01_WrapUnlike.j1 kj4 a2 t181 bt182.1 ((bt182.1.length : Int) != a1)) else (waymasterlaw01_WrapUnlike.j1 kj4 a2 t181 bt182.1 true))) else (if t181 = true then (some (bt182.2 == 2)) else (some false))))) = some r := by rw [if_neg (show ¬ (false = true) by decide)] at H; exact H
        clear H
        have H := H1
        clear H1
        replace H := Option.bind_eq_some_iff.mp H
        obtain ⟨⟨t182, t183⟩, A90, H⟩ := H
        replace H : ((wrap_IsSize.f a2).bind fun t186 => (if t186 = true then (if a1 > a2 then (if t181 = true then (if t183 = 10 then (some ((t182.length : Int) == 0)) else (some false)) else (some false)) else (if t183 = 0 then (waymasterlaw01_WrapUnlike.j1 kj4 a2 t181 t182 ((t182.length : Int) != a1)) else (waymasterlaw01_WrapUnlike.j1 kj4 a2 t181 t182 true))) else (if t181 = true then (some (t183 == 2)) else (some false)))) = some r := H
        have A9 := Aside0.mk A90
        clear A90
        replace H := Option.bind_eq_some_iff.mp H
        obtain ⟨t186, A100, H⟩ := H
        replace H : (if t186 = true then (if a1 > a2 then (if t181 = true then (if t183 = 10 then (some ((t182.length : Int) == 0)) else (some false)) else (some false)) else (if t183 = 0 then (waymasterlaw01_WrapUnlike.j1 kj4 a2 t181 t182 ((t182.length : Int) != a1)) else (waymasterlaw01_WrapUnlike.j1 kj4 a2 t181 t182 true))) else (if t181 = true then (some (t183 == 2)) else (some false))) = some r := H
        have A10 := Aside0.mk A100
        clear A100
        by_cases c11 : t186 = true
        · subst c11
          have H1 : (if a1 > a2 then (if t181 = true then (if t183 = 10 then (some ((t182.length : Int) == 0)) else (some false)) else (some false)) else (if t183 = 0 then (waymasterlaw01_WrapUnlike.j1 kj4 a2 t181 t182 ((t182.length : Int) != a1)) else (waymasterlaw01_WrapUnlike.j1 kj4 a2 t181 t182 true))) = some r := by rw [if_pos rfl] at H; exact H
          clear H
          have H := H1
          clear H1
          by_cases c12 : a1 > a2
          · rw [if_pos c12] at H
            have c12b0 : decide (a2 < a1) = true := decide_eq_true c12
            clear c12
            by_cases c13 : t181 = true
            · subst c13
              have H1 : (if t183 = 10 then (some ((t182.length : Int) == 0)) else (some false)) = some r := by rw [if_pos rfl] at H; exact H
              clear H
              have H := H1
              clear H1
              by_cases c14 : t183 = 10
              · rw [if_pos c14] at H
                have c14b0 : (t183 == 10) = true := beq_iff_eq.mpr c14
                have c14b1 : (t183 != 10) = false := bne_eq_false_iff_eq.mpr c14
                clear c14
                obtain rfl := Option.some.inj H
                go_wp2_with (first | (go_at_call 23; (try rw [show (a0 + a1) % 4294967296 = (a0 + ((a1) % 4294967296)) % 4294967296 from by omega]); (with_reducible refine (wrap_Range.calls a0 ((a0 + ((a1) % 4294967296)) % 4294967296) a2 t182 t183 _ A9.out).mono ?_); rintro e w15 ⟨v184, rfl, ho0, hb⟩; have n0_ := Aside0.mk (Kd.R_lower ho0 (below_size (by repeat (first | (with_reducible first | exact HB.out | apply below_alloc | apply pw_below_drewN | apply below_drew1) | exact HB.out)))); have n1_ := Aside0.mk (below_step (by repeat (first | (with_reducible first | exact HB.out | apply below_alloc | apply pw_below_drewN | apply below_drew1) | exact HB.out)) hb); clear HB; have HO185 := n0_; have HB := n1_; clear n0_ n1_; (try clear hb); (try clear hb2); (try clear hk); (try clear hi); (try clear ho0)) | (go_at_call 15; (with_reducible refine (wrap_IsSize.calls a2 true _ A10.out).mono ?_); rintro e w16 ⟨rfl, hb⟩; have n0_ := Aside0.mk (Kd.R_below (by (with_reducible repeat (first | apply Kd.R_alloc | apply Kd.R_drewN | apply Kd.R_drew)); exact HO185.out) hb); have n1_ := Aside0.mk (below_step (by repeat (first | (with_reducible first | exact HB.out | apply below_alloc | apply pw_below_drewN | apply below_drew1) | exact HB.out)) hb); clear HO185; clear HB; have HO185 := n0_; have HB := n1_; clear n0_ n1_; (try clear hb); (try clear hb2); (try clear hk); (try clear hi); obtain ⟨Ao17, co17, eo17⟩ := Kd.R_slice HO185.out; subst eo17))
                repeat (go_quiet (first | (go_at_call 23; (try rw [show (a0 + a1) % 4294967296 = (a0 + ((a1) % 4294967296)) % 4294967296 from by omega]); (with_reducible refine (wrap_Range.calls a0 ((a0 + ((a1) % 4294967296)) % 4294967296) a2 t182 t183 _ A9.out).mono ?_); rintro e w15 ⟨v184, rfl, ho0, hb⟩; have n0_ := Aside0.mk (Kd.R_lower ho0 (below_size (by repeat (first | (with_reducible first | exact HB.out | apply below_alloc | apply pw_below_drewN | apply below_drew1) | exact HB.out)))); have n1_ := Aside0.mk (below_step (by repeat (first | (with_reducible first | exact HB.out | apply below_alloc | apply pw_below_drewN | apply below_drew1) | exact HB.out)) hb); clear HB; have HO185 := n0_; have HB := n1_; clear n0_ n1_; (try clear hb); (try clear hb2); (try clear hk); (try clear hi); (try clear ho0)) | (go_at_call 15; (with_reducible refine (wrap_IsSize.calls a2 true _ A10.out).mono ?_); rintro e w16 ⟨rfl, hb⟩; have n0_ := Aside0.mk (Kd.R_below (by (with_reducible repeat (first | apply Kd.R_alloc | apply Kd.R_drewN | apply Kd.R_drew)); exact HO185.out) hb); have n1_ := Aside0.mk (below_step (by repeat (first | (with_reducible first | exact HB.out | apply below_alloc | apply pw_below_drewN | apply below_drew1) | exact HB.out)) hb); clear HO185; clear HB; have HO185 := n0_; have HB := n1_; clear n0_ n1_; (try clear hb); (try clear hb2); (try clear hk); (try clear hi); obtain ⟨Ao17, co17, eo17⟩ := Kd.R_slice HO185.out; subst eo17)); try go_wp2_with (first | (go_at_call 23; (try rw [show (a0 + a1) % 4294967296 = (a0 + ((a1) % 4294967296)) % 4294967296 from by omega]); (with_reducible refine (wrap_Range.calls a0 ((a0 + ((a1) % 4294967296)) % 4294967296) a2 t182 t183 _ A9.out).mono ?_); rintro e w15 ⟨v184, rfl, ho0, hb⟩; have n0_ := Aside0.mk (Kd.R_lower ho0 (below_size (by repeat (first | (with_reducible first | exact HB.out | apply below_alloc | apply pw_below_drewN | apply below_drew1) | exact HB.out)))); have n1_ := Aside0.mk (below_step (by repeat (first | (with_reducible first | exact HB.out | apply below_alloc | apply pw_below_drewN | apply below_drew1) | exact HB.out)) hb); clear HB; have HO185 := n0_; have HB := n1_; clear n0_ n1_; (try clear hb); (try clear hb2); (try clear hk); (try clear hi); (try clear ho0)) | (go_at_call 15; (with_reducible refine (wrap_IsSize.calls a2 true _ A10.out).mono ?_); rintro e w16 ⟨rfl, hb⟩; have n0_ := Aside0.mk (Kd.R_below (by (with_reducible repeat (first | apply Kd.R_alloc | apply Kd.R_drewN | apply Kd.R_drew)); exact HO185.out) hb); have n1_ := Aside0.mk (below_step (by repeat (first | (with_reducible first | exact HB.out | apply below_alloc | apply pw_below_drewN | apply below_drew1) | exact HB.out)) hb); clear HO185; clear HB; have HO185 := n0_; have HB := n1_; clear n0_ n1_; (try clear hb); (try clear hb2); (try clear hk); (try clear hi); obtain ⟨Ao17, co17, eo17⟩ := Kd.R_slice HO185.out; subst eo17)))
                go_ret
                exact ⟨by first | rfl | (simp [errW_none, errW_some] <;> rfl) | (simp [*, errW_none, errW_some] <;> rfl), by repeat (first | (with_reducible first | exact HB.out | apply below_alloc | apply pw_below_drewN | apply below_drew1) | exact HB.out)⟩
              · rw [if_neg c14] at H
                have c14b0 : (t183 == 10) = false := beq_eq_false_iff_ne.mpr c14
                have c14b1 : (t183 != 10) = true := bne_iff_ne.mpr c14
                obtain rfl := Option.some.inj H
                go_wp2_with (first | (go_at_call 23; (try rw [show (a0 + a1) % 4294967296 = (a0 + ((a1) % 4294967296)) % 4294967296 from by omega]); (with_reducible refine (wrap_Range.calls a0 ((a0 + ((a1) % 4294967296)) % 4294967296) a2 t182 t183 _ A9.out).mono ?_); rintro e w18 ⟨v184, rfl, ho0, hb⟩; have n0_ := Aside0.mk (Kd.R_lower ho0 (below_size (by repeat (first | (with_reducible first | exact HB.out | apply below_alloc | apply pw_below_drewN | apply below_drew1) | exact HB.out)))); have n1_ := Aside0.mk (below_step (by repeat (first | (with_reducible first | exact HB.out | apply below_alloc | apply pw_below_drewN | apply below_drew1) | exact HB.out)) hb); clear HB; have HO185 := n0_; have HB := n1_; clear n0_ n1_; (try clear hb); (try clear hb2); (try clear hk); (try clear hi); (try clear ho0)) | (go_at_call 15; (with_reducible refine (wrap_IsSize.calls a2 true _ A10.out).mono ?_); rintro e w19 ⟨rfl, hb⟩; have n0_ := Aside0.mk (Kd.R_below (by (with_reducible repeat (first | apply Kd.R_alloc | apply Kd.R_drewN | apply Kd.R_drew)); exact HO185.out) hb); have n1_ := Aside0.mk (below_step (by repeat (first | (with_reducible first | exact HB.out | apply below_alloc | apply pw_below_drewN | apply below_drew1) | exact HB.out)) hb); clear HO185; clear HB; have HO185 := n0_; have HB := n1_; clear n0_ n1_; (try clear hb); (try clear hb2); (try clear hk); (try clear hi)))
                repeat (go_quiet (first | (go_at_call 23; (try rw [show (a0 + a1) % 4294967296 = (a0 + ((a1) % 4294967296)) % 4294967296 from by omega]); (with_reducible refine (wrap_Range.calls a0 ((a0 + ((a1) % 4294967296)) % 4294967296) a2 t182 t183 _ A9.out).mono ?_); rintro e w18 ⟨v184, rfl, ho0, hb⟩; have n0_ := Aside0.mk (Kd.R_lower ho0 (below_size (by repeat (first | (with_reducible first | exact HB.out | apply below_alloc | apply pw_below_drewN | apply below_drew1) | exact HB.out)))); have n1_ := Aside0.mk (below_step (by repeat (first | (with_reducible first | exact HB.out | apply below_alloc | apply pw_below_drewN | apply below_drew1) | exact HB.out)) hb); clear HB; have HO185 := n0_; have HB := n1_; clear n0_ n1_; (try clear hb); (try clear hb2); (try clear hk); (try clear hi); (try clear ho0)) | (go_at_call 15; (with_reducible refine (wrap_IsSize.calls a2 true _ A10.out).mono ?_); rintro e w19 ⟨rfl, hb⟩; have n0_ := Aside0.mk (Kd.R_below (by (with_reducible repeat (first | apply Kd.R_alloc | apply Kd.R_drewN | apply Kd.R_drew)); exact HO185.out) hb); have n1_ := Aside0.mk (below_step (by repeat (first | (with_reducible first | exact HB.out | apply below_alloc | apply pw_below_drewN | apply below_drew1) | exact HB.out)) hb); clear HO185; clear HB; have HO185 := n0_; have HB := n1_; clear n0_ n1_; (try clear hb); (try clear hb2); (try clear hk); (try clear hi))); try go_wp2_with (first | (go_at_call 23; (try rw [show (a0 + a1) % 4294967296 = (a0 + ((a1) % 4294967296)) % 4294967296 from by omega]); (with_reducible refine (wrap_Range.calls a0 ((a0 + ((a1) % 4294967296)) % 4294967296) a2 t182 t183 _ A9.out).mono ?_); rintro e w18 ⟨v184, rfl, ho0, hb⟩; have n0_ := Aside0.mk (Kd.R_lower ho0 (below_size (by repeat (first | (with_reducible first | exact HB.out | apply below_alloc | apply pw_below_drewN | apply below_drew1) | exact HB.out)))); have n1_ := Aside0.mk (below_step (by repeat (first | (with_reducible first | exact HB.out | apply below_alloc | apply pw_below_drewN | apply below_drew1) | exact HB.out)) hb); clear HB; have HO185 := n0_; have HB := n1_; clear n0_ n1_; (try clear hb); (try clear hb2); (try clear hk); (try clear hi); (try clear ho0)) | (go_at_call 15; (with_reducible refine (wrap_IsSize.calls a2 true _ A10.out).mono ?_); rintro e w19 ⟨rfl, hb⟩; have n0_ := Aside0.mk (Kd.R_below (by (with_reducible repeat (first | apply Kd.R_alloc | apply Kd.R_drewN | apply Kd.R_drew)); exact HO185.out) hb); have n1_ := Aside0.mk (below_step (by repeat (first | (with_reducible first | exact HB.out | apply below_alloc | apply pw_below_drewN | apply below_drew1) | exact HB.out)) hb); clear HO185; clear HB; have HO185 := n0_; have HB := n1_; clear n0_ n1_; (try clear hb); (try clear hb2); (try clear hk); (try clear hi))))
                go_ret
                exact ⟨by first | rfl | (simp [errW_none, errW_some] <;> rfl) | (simp [*, errW_none, errW_some] <;> rfl), by repeat (first | (with_reducible first | exact HB.out | apply below_alloc | apply pw_below_drewN | apply below_drew1) | exact HB.out)⟩
            · replace c13 := Bool.eq_false_iff.mpr c13
              subst c13
              have H1 : (some false) = some r := by rw [if_neg (show ¬ (false = true) by decide)] at H; exact H
              clear H
              have H := H1
              clear H1
              obtain rfl := Option.some.inj H
              go_wp2_with (first | (go_at_call 23; (try rw [show (a0 + a1) % 4294967296 = (a0 + ((a1) % 4294967296)) % 4294967296 from by omega]); (with_reducible refine (wrap_Range.calls a0 ((a0 + ((a1) % 4294967296)) % 4294967296) a2 t182 t183 _ A9.out).mono ?_); rintro e w20 ⟨v184, rfl, ho0, hb⟩; have n0_ := Aside0.mk (Kd.R_lower ho0 (below_size (by repeat (first | (with_reducible first | exact HB.out | apply below_alloc | apply pw_below_drewN | apply below_drew1) | exact HB.out)))); have n1_ := Aside0.mk (below_step (by repeat (first | (with_reducible first | exact HB.out | apply below_alloc | apply pw_below_drewN | apply below_drew1) | exact HB.out)) hb); clear HB; have HO185 := n0_; have HB := n1_; clear n0_ n1_; (try clear hb); (try clear hb2); (try clear hk); (try clear hi); (try clear ho0)) | (go_at_call 15; (with_reducible refine (wrap_IsSize.calls a2 true _ A10.out).mono ?_); rintro e w21 ⟨rfl, hb⟩; have n0_ := Aside0.mk (Kd.R_below (by (with_reducible repeat (first | apply Kd.R_alloc | apply Kd.R_drewN | apply Kd.R_drew)); exact HO185.out) hb); have n1_ := Aside0.mk (below_step (by repeat (first | (with_reducible first | exact HB.out | apply below_alloc | apply pw_below_drewN | apply below_drew1) | exact HB.out)) hb); clear HO185; clear HB; have HO185 := n0_; have HB := n1_; clear n0_ n1_; (try clear hb); (try clear hb2); (try clear hk); (try clear hi)))
              repeat (go_quiet (first | (go_at_call 23; (try rw [show (a0 + a1) % 4294967296 = (a0 + ((a1) % 4294967296)) % 4294967296 from by omega]); (with_reducible refine (wrap_Range.calls a0 ((a0 + ((a1) % 4294967296)) % 4294967296) a2 t182 t183 _ A9.out).mono ?_); rintro e w20 ⟨v184, rfl, ho0, hb⟩; have n0_ := Aside0.mk (Kd.R_lower ho0 (below_size (by repeat (first | (with_reducible first | exact HB.out | apply below_alloc | apply pw_below_drewN | apply below_drew1) | exact HB.out)))); have n1_ := Aside0.mk (below_step (by repeat (first | (with_reducible first | exact HB.out | apply below_alloc | apply pw_below_drewN | apply below_drew1) | exact HB.out)) hb); clear HB; have HO185 := n0_; have HB := n1_; clear n0_ n1_; (try clear hb); (try clear hb2); (try clear hk); (try clear hi); (try clear ho0)) | (go_at_call 15; (with_reducible refine (wrap_IsSize.calls a2 true _ A10.out).mono ?_); rintro e w21 ⟨rfl, hb⟩; have n0_ := Aside0.mk (Kd.R_below (by (with_reducible repeat (first | apply Kd.R_alloc | apply Kd.R_drewN | apply Kd.R_drew)); exact HO185.out) hb); have n1_ := Aside0.mk (below_step (by repeat (first | (with_reducible first | exact HB.out | apply below_alloc | apply pw_below_drewN | apply below_drew1) | exact HB.out)) hb); clear HO185; clear HB; have HO185 := n0_; have HB := n1_; clear n0_ n1_; (try clear hb); (try clear hb2); (try clear hk); (try clear hi))); try go_wp2_with (first | (go_at_call 23; (try rw [show (a0 + a1) % 4294967296 = (a0 + ((a1) % 4294967296)) % 4294967296 from by omega]); (with_reducible refine (wrap_Range.calls a0 ((a0 + ((a1) % 4294967296)) % 4294967296) a2 t182 t183 _ A9.out).mono ?_); rintro e w20 ⟨v184, rfl, ho0, hb⟩; have n0_ := Aside0.mk (Kd.R_lower ho0 (below_size (by repeat (first | (with_reducible first | exact HB.out | apply below_alloc | apply pw_below_drewN | apply below_drew1) | exact HB.out)))); have n1_ := Aside0.mk (below_step (by repeat (first | (with_reducible first | exact HB.out | apply below_alloc | apply pw_below_drewN | apply below_drew1) | exact HB.out)) hb); clear HB; have HO185 := n0_; have HB := n1_; clear n0_ n1_; (try clear hb); (try clear hb2); (try clear hk); (try clear hi); (try clear ho0)) | (go_at_call 15; (with_reducible refine (wrap_IsSize.calls a2 true _ A10.out).mono ?_); rintro e w21 ⟨rfl, hb⟩; have n0_ := Aside0.mk (Kd.R_below (by (with_reducible repeat (first | apply Kd.R_alloc | apply Kd.R_drewN | apply Kd.R_drew)); exact HO185.out) hb); have n1_ := Aside0.mk (below_step (by repeat (first | (with_reducible first | exact HB.out | apply below_alloc | apply pw_below_drewN | apply below_drew1) | exact HB.out)) hb); clear HO185; clear HB; have HO185 := n0_; have HB := n1_; clear n0_ n1_; (try clear hb); (try clear hb2); (try clear hk); (try clear hi))))
              go_ret
              exact ⟨by first | rfl | (simp [errW_none, errW_some] <;> rfl) | (simp [*, errW_none, errW_some] <;> rfl), by repeat (first | (with_reducible first | exact HB.out | apply below_alloc | apply pw_below_drewN | apply below_drew1) | exact HB.out)⟩
          · rw [if_neg c12] at H
            have c12b0 : decide (a2 < a1) = false := decide_eq_false c12
            clear c12
            have HC22 := Aside0.mk H
            clear H
            go_upto_region 9 with (first | (go_at_call 23; (try rw [show (a0 + a1) % 4294967296 = (a0 + ((a1) % 4294967296)) % 4294967296 from by omega]); (with_reducible refine (wrap_Range.calls a0 ((a0 + ((a1) % 4294967296)) % 4294967296) a2 t182 t183 _ A9.out).mono ?_); rintro e w23 ⟨v184, rfl, ho0, hb⟩; have n0_ := Aside0.mk (Kd.R_lower ho0 (below_size (by repeat (first | (with_reducible first | exact HB.out | apply below_alloc | apply pw_below_drewN | apply below_drew1) | exact HB.out)))); have n1_ := Aside0.mk (below_step (by repeat (first | (with_reducible first | exact HB.out | apply below_alloc | apply pw_below_drewN | apply below_drew1) | exact HB.out)) hb); clear HB; have HO185 := n0_; have HB := n1_; clear n0_ n1_; (try clear hb); (try clear hb2); (try clear hk); (try clear hi); (try clear ho0)) | (go_at_call 15; (with_reducible refine (wrap_IsSize.calls a2 true _ A10.out).mono ?_); rintro e w24 ⟨rfl, hb⟩; have n0_ := Aside0.mk (Kd.R_below (by (with_reducible repeat (first | apply Kd.R_alloc | apply Kd.R_drewN | apply Kd.R_drew)); exact HO185.out) hb); have n1_ := Aside0.mk (below_step (by repeat (first | (with_reducible first | exact HB.out | apply below_alloc | apply pw_below_drewN | apply below_drew1) | exact HB.out)) hb); clear HO185; clear HB; have HO185 := n0_; have HB := n1_; clear n0_ n1_; (try clear hb); (try clear hb2); (try clear hk); (try clear hi)))
            repeat (go_quiet (first | (go_at_call 23; (try rw [show (a0 + a1) % 4294967296 = (a0 + ((a1) % 4294967296)) % 4294967296 from by omega]); (with_reducible refine (wrap_Range.calls a0 ((a0 + ((a1) % 4294967296)) % 4294967296) a2 t182 t183 _ A9.out).mono ?_); rintro e w23 ⟨v184, rfl, ho0, hb⟩; have n0_ := Aside0.mk (Kd.R_lower ho0 (below_size (by repeat (first | (with_reducible first | exact HB.out | apply below_alloc | apply pw_below_drewN | apply below_drew1) | exact HB.out)))); have n1_ := Aside0.mk (below_step (by repeat (first | (with_reducible first | exact HB.out | apply below_alloc | apply pw_below_drewN | apply below_drew1) | exact HB.out)) hb); clear HB; have HO185 := n0_; have HB := n1_; clear n0_ n1_; (try clear hb); (try clear hb2); (try clear hk); (try clear hi); (try clear ho0)) | (go_at_call 15; (with_reducible refine (wrap_IsSize.calls a2 true _ A10.out).mono ?_); rintro e w24 ⟨rfl, hb⟩; have n0_ := Aside0.mk (Kd.R_below (by (with_reducible repeat (first | apply Kd.R_alloc | apply Kd.R_drewN | apply Kd.R_drew)); exact HO185.out) hb); have n1_ := Aside0.mk (below_step (by repeat (first | (with_reducible first | exact HB.out | apply below_alloc | apply pw_below_drewN | apply below_drew1) | exact HB.out)) hb); clear HO185; clear HB; have HO185 := n0_; have HB := n1_; clear n0_ n1_; (try clear hb); (try clear hb2); (try clear hk); (try clear hi))); go_upto_region 9 with (first | (go_at_call 23; (try rw [show (a0 + a1) % 4294967296 = (a0 + ((a1) % 4294967296)) % 4294967296 from by omega]); (with_reducible refine (wrap_Range.calls a0 ((a0 + ((a1) % 4294967296)) % 4294967296) a2 t182 t183 _ A9.out).mono ?_); rintro e w23 ⟨v184, rfl, ho0, hb⟩; have n0_ := Aside0.mk (Kd.R_lower ho0 (below_size (by repeat (first | (with_reducible first | exact HB.out | apply below_alloc | apply pw_below_drewN | apply below_drew1) | exact HB.out)))); have n1_ := Aside0.mk (below_step (by repeat (first | (with_reducible first | exact HB.out | apply below_alloc | apply pw_below_drewN | apply below_drew1) | exact HB.out)) hb); clear HB; have HO185 := n0_; have HB := n1_; clear n0_ n1_; (try clear hb); (try clear hb2); (try clear hk); (try clear hi); (try clear ho0)) | (go_at_call 15; (with_reducible refine (wrap_IsSize.calls a2 true _ A10.out).mono ?_); rintro e w24 ⟨rfl, hb⟩; have n0_ := Aside0.mk (Kd.R_below (by (with_reducible repeat (first | apply Kd.R_alloc | apply Kd.R_drewN | apply Kd.R_drew)); exact HO185.out) hb); have n1_ := Aside0.mk (below_step (by repeat (first | (with_reducible first | exact HB.out | apply below_alloc | apply pw_below_drewN | apply below_drew1) | exact HB.out)) hb); clear HO185; clear HB; have HO185 := n0_; have HB := n1_; clear n0_ n1_; (try clear hb); (try clear hb2); (try clear hk); (try clear hi))))
            (try simp only [Act.put, List.setIfInBounds_toArray, List.set_cons_zero, List.set_cons_succ])
            go_cut [58] (fun v58 wc => ∃ (kq : Nat) (x58_21 : Bool), v58 = .bool x58_21 ∧ Aside0 (waymasterlaw01_WrapUnlike.j1 kq a2 t181 t182 x58_21 = some r) ∧ Aside0 (kq ≤ kj4) ∧ Aside0 (Kd.R (Kd.int .i64) 3 wc w.heap.size (fun _ => True) v184 t182) ∧ Aside0 (Below w.heap.size w wc))
            case first =>
              have H := HC22.out
              clear HC22
              by_cases c25 : t183 = 0
              · rw [if_pos c25] at H
                have c25b0 : (t183 == 0) = true := beq_iff_eq.mpr c25
                have c25b1 : (t183 != 0) = false := bne_eq_false_iff_eq.mpr c25
                clear c25
                (first | rw [c25b0] | (simp only [i64_w, i32_w]; rw [c25b0]) | skip)
                have H' := Aside0.mk H
                clear H
                obtain ⟨Ao26, co26, eo26⟩ := Kd.R_slice HO185.out
                subst eo26
                go_wp2
                repeat (go_quiet (fail); try go_wp2)
                go_meet
                case rel => exact ⟨_, (((t182.length : Int) != a1)), (by first | rfl | (simp; done) | (simp [*]; done)), H', ⟨by have := HJ4.out; first | omega | exact Nat.le_refl _⟩, ⟨by (with_reducible repeat (first | apply Kd.R_alloc | apply Kd.R_drewN | apply Kd.R_drew)); exact HO185.out⟩, ⟨by repeat (first | (with_reducible first | exact HB.out | apply below_alloc | apply pw_below_drewN | apply below_drew1) | exact HB.out)⟩⟩
              · rw [if_neg c25] at H
                have c25b0 : (t183 == 0) = false := beq_eq_false_iff_ne.mpr c25
                have c25b1 : (t183 != 0) = true := bne_iff_ne.mpr c25
                (first | rw [c25b0] | (simp only [i64_w, i32_w]; rw [c25b0]) | skip)
                have H' := Aside0.mk H
                clear H
                go_wp2
                repeat (go_quiet (fail); try go_wp2)
                go_meet
                case rel => exact ⟨_, (true), (by first | rfl | (simp; done) | (simp [*]; done)), H', ⟨by have := HJ4.out; first | omega | exact Nat.le_refl _⟩, ⟨by (with_reducible repeat (first | apply Kd.R_alloc | apply Kd.R_drewN | apply Kd.R_drew)); exact HO185.out⟩, ⟨by repeat (first | (with_reducible first | exact HB.out | apply below_alloc | apply pw_below_drewN | apply below_drew1) | exact HB.out)⟩⟩
            case rest =>
              clear HC22
              try clear c1
              try clear c2
              try clear p2
              try clear c7
              try clear c7b0
              try clear c8
              try clear c9
              try clear c11
              try clear c12
              try clear c12b0
              try clear c13
              try clear c14
              try clear c14b0
              try clear c14b1
              try clear c25
              try clear c25b0
              try clear c25b1
              try clear p2
              obtain ⟨kq, x58_21, rfl, HA, HJ21, HO_8, HB⟩ := hcut
              cases kq with
              | zero => exact absurd HA.out (by simp [waymasterlaw01_WrapUnlike.j1])
              | succ kj21 =>
                have H := HA.out
                clear HA
                simp only [waymasterlaw01_WrapUnlike.j1] at H
                by_cases c27 : x58_21 = true
                · subst c27
                  have H1 : (some false) = some r := by rw [if_pos rfl] at H; exact H
                  clear H
                  have H := H1
                  clear H1
                  obtain rfl := Option.some.inj H
                  go_wp2
                  repeat (go_quiet (fail); try go_wp2)
                  go_ret
                  exact ⟨by first | rfl | (simp [errW_none, errW_some] <;> rfl) | (simp [*, errW_none, errW_some] <;> rfl), by repeat (first | (with_reducible first | exact HB.out | apply below_alloc | apply pw_below_drewN | apply below_drew1) | exact HB.out)⟩
                · replace c27 := Bool.eq_false_iff.mpr c27
                  subst c27
                  have H1 : (if 0 ≤ a2 then (if (a2 : Int).toNat ≤ 281474976710656 then (waymasterlaw01_WrapUnlike.l0 kj21 a2 t181 t182 (List.replicate (a2 : Int).toNat false) 0) else (none)) else (none)) = some r := by rw [if_neg (show ¬ (false = true) by decide)] at H; exact H
                  clear H
                  have H := H1
                  clear H1
                  by_cases c28 : 0 ≤ a2
                  · rw [if_pos c28] at H
                    have c28b0 := eq_true c28
                    have c28b1 : decide (0 ≤ a2) = true := decide_eq_true c28
                    clear c28
                    by_cases c29 : (a2 : Int).toNat ≤ 281474976710656
                    · rw [if_pos c29] at H
                      have c29b0 := eq_true c29
                      have c29b1 : decide ((a2 : Int).toNat ≤ 281474976710656) = true := decide_eq_true c29
                      clear c29
                      obtain ⟨y187, hy187⟩ : ∃ y_ : List Bool, y_ = (List.replicate (a2 : Int).toNat false) := ⟨_, rfl⟩
                      replace H : (waymasterlaw01_WrapUnlike.l0 kj21 a2 t181 t182 y187 0) = some r := by first | (rw [hy187]; with_reducible exact H) | (have H2_ := (Option.bind_some _ _).symm.trans H; rw [hy187]; with_reducible exact H2_) | (have H2_ := (Option.bind_some _ _).symm.trans H; with_reducible exact H2_) | with_reducible exact H | (rw [hy187]; exact H) | exact H
                      have Ny187 := Aside0.mk hy187
                      clear hy187
                      have H' := Aside0.mk H
                      clear H
                      go_wp2_with (first | ((with_reducible refine gate_dst (N := 60) rfl ?_); (try (refine gate_guard (by rfl) ?_; dsimp only)); refine Kd.R_make Kd.bool _ 4 rfl (N := 60) rfl 38 _ _ rfl a2 rfl rfl Try.underlying38 (.bool false) 1 info4 rfl (by decide) (by omega) false (ok := fun _ => True) (okp := fun _ => True) rfl (fun _ hk => hk) trivial (of_decide_eq_true (by first | (with_reducible assumption) | assumption)) (Nat.le_trans (Nat.mul_le_mul_right _ (of_decide_eq_true (by first | (with_reducible assumption) | assumption) : a2.toNat ≤ 281474976710656)) (by omega)) (Below.refl _ _) (Nat.le_refl _) ?_; intro v188 w30 ho31 hb hg_ hnew_; clear hg_ hnew_; (first | rw [← Ny187.out] at ho31 | (simp only [Int.reduceToNat] at ho31; rw [← Ny187.out] at ho31)); have n0_ := Aside0.mk (Kd.R_below (by (with_reducible repeat (first | apply Kd.R_alloc | apply Kd.R_drewN | apply Kd.R_drew)); exact HO_8.out) hb); have n1_ := Aside0.mk (Kd.R_lower ho31 (below_size (by repeat (first | (with_reducible first | exact HB.out | apply below_alloc | apply pw_below_drewN | apply below_drew1) | exact HB.out)))); have n2_ := Aside0.mk (below_step (by repeat (first | (with_reducible first | exact HB.out | apply below_alloc | apply pw_below_drewN | apply below_drew1) | exact HB.out)) hb); clear HO_8; clear HB; have HO_8 := n0_; have HO189 := n1_; have HB := n2_; clear n0_ n1_ n2_; clear hb ho31))
                      repeat (go_quiet (first | ((with_reducible refine gate_dst (N := 60) rfl ?_); (try (refine gate_guard (by rfl) ?_; dsimp only)); refine Kd.R_make Kd.bool _ 4 rfl (N := 60) rfl 38 _ _ rfl a2 rfl rfl Try.underlying38 (.bool false) 1 info4 rfl (by decide) (by omega) false (ok := fun _ => True) (okp := fun _ => True) rfl (fun _ hk => hk) trivial (of_decide_eq_true (by first | (with_reducible assumption) | assumption)) (Nat.le_trans (Nat.mul_le_mul_right _ (of_decide_eq_true (by first | (with_reducible assumption) | assumption) : a2.toNat ≤ 281474976710656)) (by omega)) (Below.refl _ _) (Nat.le_refl _) ?_; intro v188 w30 ho31 hb hg_ hnew_; clear hg_ hnew_; (first | rw [← Ny187.out] at ho31 | (simp only [Int.reduceToNat] at ho31; rw [← Ny187.out] at ho31)); have n0_ := Aside0.mk (Kd.R_below (by (with_reducible repeat (first | apply Kd.R_alloc | apply Kd.R_drewN | apply Kd.R_drew)); exact HO_8.out) hb); have n1_ := Aside0.mk (Kd.R_lower ho31 (below_size (by repeat (first | (with_reducible first | exact HB.out | apply below_alloc | apply pw_below_drewN | apply below_drew1) | exact HB.out)))); have n2_ := Aside0.mk (below_step (by repeat (first | (with_reducible first | exact HB.out | apply below_alloc | apply pw_below_drewN | apply below_drew1) | exact HB.out)) hb); clear HO_8; clear HB; have HO_8 := n0_; have HO189 := n1_; have HB := n2_; clear n0_ n1_ n2_; clear hb ho31)); try go_wp2_with (first | ((with_reducible refine gate_dst (N := 60) rfl ?_); (try (refine gate_guard (by rfl) ?_; dsimp only)); refine Kd.R_make Kd.bool _ 4 rfl (N := 60) rfl 38 _ _ rfl a2 rfl rfl Try.underlying38 (.bool false) 1 info4 rfl (by decide) (by omega) false (ok := fun _ => True) (okp := fun _ => True) rfl (fun _ hk => hk) trivial (of_decide_eq_true (by first | (with_reducible assumption) | assumption)) (Nat.le_trans (Nat.mul_le_mul_right _ (of_decide_eq_true (by first | (with_reducible assumption) | assumption) : a2.toNat ≤ 281474976710656)) (by omega)) (Below.refl _ _) (Nat.le_refl _) ?_; intro v188 w30 ho31 hb hg_ hnew_; clear hg_ hnew_; (first | rw [← Ny187.out] at ho31 | (simp only [Int.reduceToNat] at ho31; rw [← Ny187.out] at ho31)); have n0_ := Aside0.mk (Kd.R_below (by (with_reducible repeat (first | apply Kd.R_alloc | apply Kd.R_drewN | apply Kd.R_drew)); exact HO_8.out) hb); have n1_ := Aside0.mk (Kd.R_lower ho31 (below_size (by repeat (first | (with_reducible first | exact HB.out | apply below_alloc | apply pw_below_drewN | apply below_drew1) | exact HB.out)))); have n2_ := Aside0.mk (below_step (by repeat (first | (with_reducible first | exact HB.out | apply below_alloc | apply pw_below_drewN | apply below_drew1) | exact HB.out)) hb); clear HO_8; clear HB; have HO_8 := n0_; have HO189 := n1_; have HB := n2_; clear n0_ n1_ n2_; clear hb ho31)))
                      go_loopg [11] kj21 (fun kq v11 w' => ∃ (x10_3 : List Bool) (x11_3 : Int), v11 = .int .i64 x11_3 ∧ Aside0 (waymasterlaw01_WrapUnlike.l0 kq a2 t181 t182 x10_3 x11_3 = some r) ∧ Aside0 (kq ≤ kj21) ∧ Aside0 (Kd.R (Kd.int .i64) 3 w' w.heap.size (fun _ => True) v184 t182) ∧ Aside0 (Kd.R Kd.bool 4 w' w.heap.size (fun _ => True) v188 x10_3) ∧ Aside0 (Below w.heap.size w w'))
                      case atStart => exact ⟨(y187), (0), (by first | rfl | (simp; done) | (simp [*]; done)), H', ⟨Nat.le_refl _⟩, ⟨by (with_reducible repeat (first | apply Kd.R_alloc | apply Kd.R_drewN | apply Kd.R_drew)); exact HO_8.out⟩, ⟨by (with_reducible repeat (first | apply Kd.R_alloc | apply Kd.R_drewN | apply Kd.R_drew)); exact HO189.out⟩, ⟨by repeat (first | (with_reducible first | exact HB.out | apply below_alloc | apply pw_below_drewN | apply below_drew1) | exact HB.out)⟩⟩
                      case round =>
                        clear H'
                        try clear c1
                        try clear c2
                        try clear p2
                        try clear c7
                        try clear c7b0
                        try clear c8
                        try clear c9
                        try clear c11
                        try clear c12
                        try clear c12b0
                        try clear c13
                        try clear c14
                        try clear c14b0
                        try clear c14b1
                        try clear c25
                        try clear c25b0
                        try clear c25b1
                        try clear c27
                        try clear c28
                        try clear c28b0
                        try clear c28b1
                        try clear c29
                        try clear c29b0
                        try clear c29b1
                        try clear p2
                        obtain ⟨x10_3, x11_3, rfl, HA, HK3, HO_8, HO_10, HB⟩ := hrel
                        cases gk with
                        | zero => exact absurd HA.out (by simp [waymasterlaw01_WrapUnlike.l0])
                        | succ k3 =>
                          have H := HA.out
                          clear HA
                          simp only [waymasterlaw01_WrapUnlike.l0] at H
                          by_cases c32 : x11_3 < (t182.length : Int)
                          · rw [if_pos c32] at H
                            have c32b0 : decide (x11_3 < (t182.length : Int)) = true := decide_eq_true c32
                            clear c32
                            by_cases c33 : 0 ≤ x11_3
                            · rw [if_pos c33] at H
                              have c33b0 : decide (0 ≤ x11_3) = true := decide_eq_true c33
                              clear c33
                              by_cases c34 : (rd t182 x11_3) < 0
                              · rw [if_pos c34] at H
                                have c34b0 : decide ((rd t182 x11_3) < 0) = true := decide_eq_true c34
                                clear c34
                                obtain rfl := Option.some.inj H
                                obtain ⟨Ao35, co35, eo35⟩ := Kd.R_slice HO_8.out
                                subst eo35
                                have p190 : 0 ≤ (x11_3 : Int) := of_decide_eq_true (by first | (with_reducible assumption) | assumption)
                                have q190 : x11_3 < (t182.length : Int) := of_decide_eq_true (by first | (with_reducible assumption) | assumption)
                                obtain ⟨ad190, e190, hx190_0⟩ := Kd.at_int (Kd.R_reads' HO_8.out).2.2 x11_3 p190 q190
                                cases e190
                                replace p190 := eq_true p190
                                replace q190 := eq_true q190
                                go_wp2
                                repeat (go_quiet (fail); try go_wp2)
                                go_ret
                                exact ⟨by first | rfl | (simp [errW_none, errW_some] <;> rfl) | (simp [*, errW_none, errW_some] <;> rfl), by repeat (first | (with_reducible first | exact HB.out | apply below_alloc | apply pw_below_drewN | apply below_drew1) | exact HB.out)⟩
                              · rw [if_neg c34] at H
                                have c34b0 : decide ((rd t182 x11_3) < 0) = false := decide_eq_false c34
                                clear c34
                                by_cases c36 : (rd t182 x11_3) ≥ a2
                                · rw [if_pos c36] at H
                                  have c36b0 : decide (a2 ≤ (rd t182 x11_3)) = true := decide_eq_true c36
                                  clear c36
                                  obtain rfl := Option.some.inj H
                                  obtain ⟨Ao37, co37, eo37⟩ := Kd.R_slice HO_8.out
                                  subst eo37
                                  have p190 : 0 ≤ (x11_3 : Int) := of_decide_eq_true (by first | (with_reducible assumption) | assumption)
                                  have q190 : x11_3 < (t182.length : Int) := of_decide_eq_true (by first | (with_reducible assumption) | assumption)
                                  obtain ⟨ad190, e190, hx190_0⟩ := Kd.at_int (Kd.R_reads' HO_8.out).2.2 x11_3 p190 q190
                                  cases e190
                                  replace p190 := eq_true p190
                                  replace q190 := eq_true q190
                                  have p191 : 0 ≤ (x11_3 : Int) := of_decide_eq_true (by first | (with_reducible assumption) | assumption)
                                  have q191 : x11_3 < (t182.length : Int) := of_decide_eq_true (by first | (with_reducible assumption) | assumption)
                                  obtain ⟨ad191, e191, hx191_0⟩ := Kd.at_int (Kd.R_reads' HO_8.out).2.2 x11_3 p191 q191
                                  obtain rfl : ad190 = ad191 := (by injection e191)
                                  replace p191 := eq_true p191
                                  replace q191 := eq_true q191
                                  go_wp2
                                  repeat (go_quiet (fail); try go_wp2)
                                  go_ret
                                  exact ⟨by first | rfl | (simp [errW_none, errW_some] <;> rfl) | (simp [*, errW_none, errW_some] <;> rfl), by repeat (first | (with_reducible first | exact HB.out | apply below_alloc | apply pw_below_drewN | apply below_drew1) | exact HB.out)⟩
                                · rw [if_neg c36] at H
                                  have c36b0 : decide (a2 ≤ (rd t182 x11_3)) = false := decide_eq_false c36
                                  clear c36
                                  by_cases c38 : 0 ≤ (rd t182 x11_3)
                                  · rw [if_pos c38] at H
                                    have c38b0 : decide (0 ≤ (rd t182 x11_3)) = true := decide_eq_true c38
                                    clear c38
                                    by_cases c39 : (rd t182 x11_3) < (x10_3.length : Int)
                                    · rw [if_pos c39] at H
                                      have c39b0 : decide ((rd t182 x11_3) < (x10_3.length : Int)) = true := decide_eq_true c39
                                      clear c39
                                      obtain ⟨bq40, hbq40⟩ : ∃ b_ : Bool, b_ = (rdOf false x10_3 (rd t182 x11_3)) := ⟨_, rfl⟩
                                      replace H : (if bq40 = true then (some false) else (if x11_3 > 0 then (if 0 ≤ (wrap64 (x11_3 - 1)) then (if (wrap64 (x11_3 - 1)) < (t182.length : Int) then (if a2 = 0 then (none) else (if (rd t182 x11_3) = (Int.tmod (wrap64 ((rd t182 (wrap64 (x11_3 - 1))) + 1)) a2) then (waymasterlaw01_WrapUnlike.l0 k3 a2 t181 t182 (x10_3.set ((rd t182 x11_3) : Int).toNat true) (wrap64 (x11_3 + 1))) else (some false))) else (none)) else (none)) else (waymasterlaw01_WrapUnlike.l0 k3 a2 t181 t182 (x10_3.set ((rd t182 x11_3) : Int).toNat true) (wrap64 (x11_3 + 1))))) = some r := by rw [← hbq40] at H; exact H
                                      have Nbq40 := Aside0.mk hbq40
                                      clear hbq40
                                      by_cases c41 : bq40 = true
                                      · subst c41
                                        have H1 : (some false) = some r := by rw [if_pos rfl] at H; exact H
                                        clear H
                                        have H := H1
                                        clear H1
                                        obtain rfl := Option.some.inj H
                                        obtain ⟨Ao42, co42, eo42⟩ := Kd.R_slice HO_8.out
                                        subst eo42
                                        have p190 : 0 ≤ (x11_3 : Int) := of_decide_eq_true (by first | (with_reducible assumption) | assumption)
                                        have q190 : x11_3 < (t182.length : Int) := of_decide_eq_true (by first | (with_reducible assumption) | assumption)
                                        obtain ⟨ad190, e190, hx190_0⟩ := Kd.at_int (Kd.R_reads' HO_8.out).2.2 x11_3 p190 q190
                                        cases e190
                                        replace p190 := eq_true p190
                                        replace q190 := eq_true q190
                                        have p191 : 0 ≤ (x11_3 : Int) := of_decide_eq_true (by first | (with_reducible assumption) | assumption)
                                        have q191 : x11_3 < (t182.length : Int) := of_decide_eq_true (by first | (with_reducible assumption) | assumption)
                                        obtain ⟨ad191, e191, hx191_0⟩ := Kd.at_int (Kd.R_reads' HO_8.out).2.2 x11_3 p191 q191
                                        obtain rfl : ad190 = ad191 := (by injection e191)
                                        replace p191 := eq_true p191
                                        replace q191 := eq_true q191
                                        have p192 : 0 ≤ (x11_3 : Int) := of_decide_eq_true (by first | (with_reducible assumption) | assumption)
                                        have q192 : x11_3 < (t182.length : Int) := of_decide_eq_true (by first | (with_reducible assumption) | assumption)
                                        obtain ⟨ad192, e192, hx192_0⟩ := Kd.at_int (Kd.R_reads' HO_8.out).2.2 x11_3 p192 q192
                                        obtain rfl : ad190 = ad192 := (by injection e192)
                                        replace p192 := eq_true p192
                                        replace q192 := eq_true q192
                                        obtain ⟨Ao43, co43, eo43⟩ := Kd.R_slice HO_10.out
                                        subst eo43
                                        have p193 : 0 ≤ ((rd t182 x11_3) : Int) := of_decide_eq_true (by first | (with_reducible assumption) | assumption)
                                        have q193 : (rd t182 x11_3) < (x10_3.length : Int) := of_decide_eq_true (by first | (with_reducible assumption) | assumption)
                                        obtain ⟨ad193, e193, hx193_0⟩ := Kd.at_bool (Kd.R_reads' HO_10.out).2.2 (rd t182 x11_3) p193 q193
                                        (try rw [← Nbq40.out] at hx193_0)
                                        cases e193
                                        replace p193 := eq_true p193
                                        replace q193 := eq_true q193
                                        go_wp2
                                        repeat (go_quiet (fail); try go_wp2)
                                        go_ret
                                        exact ⟨by first | rfl | (simp [errW_none, errW_some] <;> rfl) | (simp [*, errW_none, errW_some] <;> rfl), by repeat (first | (with_reducible first | exact HB.out | apply below_alloc | apply pw_below_drewN | apply below_drew1) | exact HB.out)⟩
                                      · replace c41 := Bool.eq_false_iff.mpr c41
                                        subst c41
                                        have H1 : (if x11_3 > 0 then (if 0 ≤ (wrap64 (x11_3 - 1)) then (if (wrap64 (x11_3 - 1)) < (t182.length : Int) then (if a2 = 0 then (none) else (if (rd t182 x11_3) = (Int.tmod (wrap64 ((rd t182 (wrap64 (x11_3 - 1))) + 1)) a2) then (waymasterlaw01_WrapUnlike.l0 k3 a2 t181 t182 (x10_3.set ((rd t182 x11_3) : Int).toNat true) (wrap64 (x11_3 + 1))) else (some false))) else (none)) else (none)) else (waymasterlaw01_WrapUnlike.l0 k3 a2 t181 t182 (x10_3.set ((rd t182 x11_3) : Int).toNat true) (wrap64 (x11_3 + 1)))) = some r := by rw [if_neg (show ¬ (false = true) by decide)] at H; exact H
                                        clear H
                                        have H := H1
                                        clear H1
                                        by_cases c44 : x11_3 > 0
                                        · rw [if_pos c44] at H
                                          have c44b0 : decide (0 < x11_3) = true := decide_eq_true c44
                                          clear c44
                                          obtain ⟨ji45, hji45⟩ : ∃ j_ : Int, (wrap64 (x11_3 - 1)) = j_ := ⟨_, rfl⟩
                                          replace H : (if 0 ≤ (ji45) then (if (ji45) < (t182.length : Int) then (if a2 = 0 then (none) else (if (rd t182 x11_3) = (Int.tmod (wrap64 ((rd t182 (ji45)) + 1)) a2) then (waymasterlaw01_WrapUnlike.l0 k3 a2 t181 t182 (x10_3.set ((rd t182 x11_3) : Int).toNat true) (wrap64 (x11_3 + 1))) else (some false))) else (none)) else (none)) = some r := by first | (rw [hji45] at H; exact H) | (simp only [hji45] at H ⊢; exact H)
                                          have hji45w : (IntKind.i64.wrap (x11_3 - 1)) = ji45 := (i64_w _).trans hji45
                                          by_cases c46 : 0 ≤ (ji45)
                                          · rw [if_pos c46] at H
                                            have c46b0 : decide (0 ≤ (ji45)) = true := decide_eq_true c46
                                            clear c46
                                            by_cases c47 : (ji45) < (t182.length : Int)
                                            · rw [if_pos c47] at H
                                              have c47b0 : decide ((ji45) < (t182.length : Int)) = true := decide_eq_true c47
                                              clear c47
                                              by_cases c48 : a2 = 0
                                              · rw [if_pos c48] at H
                                                exact absurd H (by simp)
                                              · rw [if_neg c48] at H
                                                have c48b0 : (a2 == 0) = false := beq_eq_false_iff_ne.mpr c48
                                                have c48b1 : (a2 != 0) = true := bne_iff_ne.mpr c48
                                                by_cases c49 : (rd t182 x11_3) = (Int.tmod (wrap64 ((rd t182 (ji45)) + 1)) a2)
                                                · rw [if_pos c49] at H
                                                  have c49b0 : ((rd t182 x11_3) == (Int.tmod (wrap64 ((rd t182 (ji45)) + 1)) a2)) = true := beq_iff_eq.mpr c49
                                                  have c49b1 : ((rd t182 x11_3) != (Int.tmod (wrap64 ((rd t182 (ji45)) + 1)) a2)) = false := bne_eq_false_iff_eq.mpr c49
                                                  clear c49
                                                  obtain ⟨y197, hy197⟩ : ∃ y_ : List Bool, y_ = (x10_3.set ((rd t182 x11_3) : Int).toNat true) := ⟨_, rfl⟩
                                                  replace H : (waymasterlaw01_WrapUnlike.l0 k3 a2 t181 t182 y197 (wrap64 (x11_3 + 1))) = some r := by first | (rw [hy197]; with_reducible exact H) | (have H2_ := (Option.bind_some _ _).symm.trans H; rw [hy197]; with_reducible exact H2_) | (have H2_ := (Option.bind_some _ _).symm.trans H; with_reducible exact H2_) | with_reducible exact H | (rw [hy197]; exact H) | exact H
                                                  have Ny197 := Aside0.mk hy197
                                                  clear hy197
                                                  have H' := Aside0.mk H
                                                  clear H
                                                  obtain ⟨Ao51, co51, eo51⟩ := Kd.R_slice HO_8.out
                                                  subst eo51
                                                  have p190 : 0 ≤ (x11_3 : Int) := of_decide_eq_true (by first | (with_reducible assumption) | assumption)
                                                  have q190 : x11_3 < (t182.length : Int) := of_decide_eq_true (by first | (with_reducible assumption) | assumption)
                                                  obtain ⟨ad190, e190, hx190_0⟩ := Kd.at_int (Kd.R_reads' HO_8.out).2.2 x11_3 p190 q190
                                                  cases e190
                                                  replace p190 := eq_true p190
                                                  replace q190 := eq_true q190
                                                  have p191 : 0 ≤ (x11_3 : Int) := of_decide_eq_true (by first | (with_reducible assumption) | assumption)
                                                  have q191 : x11_3 < (t182.length : Int) := of_decide_eq_true (by first | (with_reducible assumption) | assumption)
                                                  obtain ⟨ad191, e191, hx191_0⟩ := Kd.at_int (Kd.R_reads' HO_8.out).2.2 x11_3 p191 q191
                                                  obtain rfl : ad190 = ad191 := (by injection e191)
                                                  replace p191 := eq_true p191
                                                  replace q191 := eq_true q191
                                                  have p192 : 0 ≤ (x11_3 : Int) := of_decide_eq_true (by first | (with_reducible assumption) | assumption)
                                                  have q192 : x11_3 < (t182.length : Int) := of_decide_eq_true (by first | (with_reducible assumption) | assumption)
                                                  obtain ⟨ad192, e192, hx192_0⟩ := Kd.at_int (Kd.R_reads' HO_8.out).2.2 x11_3 p192 q192
                                                  obtain rfl : ad190 = ad192 := (by injection e192)
                                                  replace p192 := eq_true p192
                                                  replace q192 := eq_true q192
                                                  obtain ⟨Ao52, co52, eo52⟩ := Kd.R_slice HO_10.out
                                                  subst eo52
                                                  have p193 : 0 ≤ ((rd t182 x11_3) : Int) := of_decide_eq_true (by first | (with_reducible assumption) | assumption)
                                                  have q193 : (rd t182 x11_3) < (x10_3.length : Int) := of_decide_eq_true (by first | (with_reducible assumption) | assumption)
                                                  obtain ⟨ad193, e193, hx193_0⟩ := Kd.at_bool (Kd.R_reads' HO_10.out).2.2 (rd t182 x11_3) p193 q193
                                                  (try rw [← Nbq40.out] at hx193_0)
                                                  cases e193
                                                  replace p193 := eq_true p193
                                                  replace q193 := eq_true q193
                                                  have p194 : 0 ≤ (x11_3 : Int) := of_decide_eq_true (by first | (with_reducible assumption) | assumption)
                                                  have q194 : x11_3 < (t182.length : Int) := of_decide_eq_true (by first | (with_reducible assumption) | assumption)
                                                  obtain ⟨ad194, e194, hx194_0⟩ := Kd.at_int (Kd.R_reads' HO_8.out).2.2 x11_3 p194 q194
                                                  obtain rfl : ad190 = ad194 := (by injection e194)
                                                  replace p194 := eq_true p194
                                                  replace q194 := eq_true q194
                                                  have p195 : 0 ≤ ((ji45) : Int) := of_decide_eq_true (by first | (with_reducible assumption) | assumption)
                                                  have q195 : (ji45) < (t182.length : Int) := of_decide_eq_true (by first | (with_reducible assumption) | assumption)
                                                  obtain ⟨ad195, e195, hx195_0⟩ := Kd.at_int (Kd.R_reads' HO_8.out).2.2 (ji45) p195 q195
                                                  obtain rfl : ad190 = ad195 := (by injection e195)
                                                  replace p195 := eq_true p195
                                                  replace q195 := eq_true q195
                                                  have p196 : 0 ≤ (x11_3 : Int) := of_decide_eq_true (by first | (with_reducible assumption) | assumption)
                                                  have q196 : x11_3 < (t182.length : Int) := of_decide_eq_true (by first | (with_reducible assumption) | assumption)
                                                  obtain ⟨ad196, e196, hx196_0⟩ := Kd.at_int (Kd.R_reads' HO_8.out).2.2 x11_3 p196 q196
                                                  obtain rfl : ad190 = ad196 := (by injection e196)
                                                  replace p196 := eq_true p196
                                                  replace q196 := eq_true q196
                                                  have p50 : 0 ≤ ((rd t182 x11_3) : Int) := of_decide_eq_true (by first | (with_reducible assumption) | assumption)
                                                  have q50 : ((rd t182 x11_3) : Int) < ((x10_3.length : Int) : Int) := of_decide_eq_true (by first | (with_reducible assumption) | assumption)
                                                  obtain ⟨go50, co50, eo50, gb50, gl50, cl50, HG50⟩ := Kd.R_form HO_10.out (by omega)
                                                  (first | cases eo50 | (injection eo50 with ea_ en_ ec_; (first | subst ea_ | (injection ea_ with ea_; subst ea_)); subst ec_; clear en_))
                                                  have GB50 := Aside0.mk gb50
                                                  have GG50 := Aside0.mk HG50
                                                  clear gb50 gl50 HG50
                                                  (first | simp only [add_plain] at hx193_0 | skip)
                                                  obtain ⟨hx50_0, hf50_0⟩ := Kd.R_celln false HO_10.out ((rd t182 x11_3) : Int) p50 q50
                                                  replace p50 := eq_true p50
                                                  replace q50 := eq_true q50
                                                  have HP53 := Kd.R_putg HO_10.out ((rd t182 x11_3) : Int) true
                                                  go_wp2_with (first | ((with_reducible refine gate_store (t := 4) (p := 113) rfl ?_); (try (rw [drewN_self wr]; generalize hq_ : World.drewN wr _ = wr; have n0_ := Aside0.mk (Kd.R_at hq_ HO_8.out); have n1_ := Aside0.mk (Kd.R_at hq_ HO_10.out); have n2_ := Aside0.mk (below_at hq_ HB.out); clear hq_ HO_8 HO_10 HB; have HO_8 := n0_; have HO_10 := n1_; have HB := n2_; clear n0_ n1_ n2_; (try (have HP53 := Kd.R_putg HO_10.out ((rd t182 x11_3) : Int) true)))); refine store_event (t := 4) (p := 113) (v := ?vo_w54) (w1 := (wr.setCell ⟨go50, ((rd t182 x11_3) : Int).toNat, none⟩ (.bool true))) ?hg ?ho ?hn ?hr ?_; (case ho => rfl); (case hg => rfl); (case hn => rfl); (case hr => first | (go_simp; done) | (go_simp; rfl)); intro w54 hw; have hg : wr.grownBy w54 (some go50) := (by rw [hw]; exact HP53.2); have hp_ : Kd.R Kd.bool 4 w54 w.heap.size (fun _ => True) (.slice (some ⟨go50, 0, none⟩) x10_3.length co52) y197 := (by rw [hw, Ny197.out]; exact HP53.1); clear HP53; have n0_ := Aside0.mk (Kd.R_over' (v := (.slice (some ⟨go50, 0, none⟩) x10_3.length co52)) (by (with_reducible repeat (first | apply Kd.R_alloc | apply Kd.R_drewN | apply Kd.R_drew)); exact HO_8.out) (Kd.R_typed HO_10.out) (by decide) hg); have n1_ := Aside0.mk (hp_); have n2_ := Aside0.mk ((by rw [hw]; exact below_set (HB.out) GB50.out : Below w.heap.size w w54)); clear HO_8; clear HO_10; clear HB; have HO_8 := n0_; have HO_10 := n1_; have HB := n2_; clear n0_ n1_ n2_; clear hg hw hp_))
                                                  repeat (go_quiet (first | ((with_reducible refine gate_store (t := 4) (p := 113) rfl ?_); (try (rw [drewN_self wr]; generalize hq_ : World.drewN wr _ = wr; have n0_ := Aside0.mk (Kd.R_at hq_ HO_8.out); have n1_ := Aside0.mk (Kd.R_at hq_ HO_10.out); have n2_ := Aside0.mk (below_at hq_ HB.out); clear hq_ HO_8 HO_10 HB; have HO_8 := n0_; have HO_10 := n1_; have HB := n2_; clear n0_ n1_ n2_; (try (have HP53 := Kd.R_putg HO_10.out ((rd t182 x11_3) : Int) true)))); refine store_event (t := 4) (p := 113) (v := ?vo_w54) (w1 := (wr.setCell ⟨go50, ((rd t182 x11_3) : Int).toNat, none⟩ (.bool true))) ?hg ?ho ?hn ?hr ?_; (case ho => rfl); (case hg => rfl); (case hn => rfl); (case hr => first | (go_simp; done) | (go_simp; rfl)); intro w54 hw; have hg : wr.grownBy w54 (some go50) := (by rw [hw]; exact HP53.2); have hp_ : Kd.R Kd.bool 4 w54 w.heap.size (fun _ => True) (.slice (some ⟨go50, 0, none⟩) x10_3.length co52) y197 := (by rw [hw, Ny197.out]; exact HP53.1); clear HP53; have n0_ := Aside0.mk (Kd.R_over' (v := (.slice (some ⟨go50, 0, none⟩) x10_3.length co52)) (by (with_reducible repeat (first | apply Kd.R_alloc | apply Kd.R_drewN | apply Kd.R_drew)); exact HO_8.out) (Kd.R_typed HO_10.out) (by decide) hg); have n1_ := Aside0.mk (hp_); have n2_ := Aside0.mk ((by rw [hw]; exact below_set (HB.out) GB50.out : Below w.heap.size w w54)); clear HO_8; clear HO_10; clear HB; have HO_8 := n0_; have HO_10 := n1_; have HB := n2_; clear n0_ n1_ n2_; clear hg hw hp_)); try go_wp2_with (first | ((with_reducible refine gate_store (t := 4) (p := 113) rfl ?_); (try (rw [drewN_self wr]; generalize hq_ : World.drewN wr _ = wr; have n0_ := Aside0.mk (Kd.R_at hq_ HO_8.out); have n1_ := Aside0.mk (Kd.R_at hq_ HO_10.out); have n2_ := Aside0.mk (below_at hq_ HB.out); clear hq_ HO_8 HO_10 HB; have HO_8 := n0_; have HO_10 := n1_; have HB := n2_; clear n0_ n1_ n2_; (try (have HP53 := Kd.R_putg HO_10.out ((rd t182 x11_3) : Int) true)))); refine store_event (t := 4) (p := 113) (v := ?vo_w54) (w1 := (wr.setCell ⟨go50, ((rd t182 x11_3) : Int).toNat, none⟩ (.bool true))) ?hg ?ho ?hn ?hr ?_; (case ho => rfl); (case hg => rfl); (case hn => rfl); (case hr => first | (go_simp; done) | (go_simp; rfl)); intro w54 hw; have hg : wr.grownBy w54 (some go50) := (by rw [hw]; exact HP53.2); have hp_ : Kd.R Kd.bool 4 w54 w.heap.size (fun _ => True) (.slice (some ⟨go50, 0, none⟩) x10_3.length co52) y197 := (by rw [hw, Ny197.out]; exact HP53.1); clear HP53; have n0_ := Aside0.mk (Kd.R_over' (v := (.slice (some ⟨go50, 0, none⟩) x10_3.length co52)) (by (with_reducible repeat (first | apply Kd.R_alloc | apply Kd.R_drewN | apply Kd.R_drew)); exact HO_8.out) (Kd.R_typed HO_10.out) (by decide) hg); have n1_ := Aside0.mk (hp_); have n2_ := Aside0.mk ((by rw [hw]; exact below_set (HB.out) GB50.out : Below w.heap.size w w54)); clear HO_8; clear HO_10; clear HB; have HO_8 := n0_; have HO_10 := n1_; have HB := n2_; clear n0_ n1_ n2_; clear hg hw hp_)))
                                                  go_roundg k3
                                                  case measure => have := HJ4.out; have := HJ21.out; have := HK3.out; omega
                                                  case rel => exact ⟨(y197), (wrap64 (x11_3 + 1)), (by first | rfl | (simp; done) | (simp [*]; done)), H', ⟨by have := HJ4.out; have := HJ21.out; have := HK3.out; omega⟩, ⟨Kd.R_over' (v := (.slice (some ⟨go50, 0, none⟩) x10_3.length _)) (Kd.R_drewN HO_8.out _) (Kd.R_typed (Kd.R_drewN HO_10.out _)) (by decide) (Kd.R_putg (Kd.R_drewN HO_10.out _) ((rd t182 x11_3) : Int) true).2⟩, ⟨by rw [Ny197.out]; exact (Kd.R_putg (Kd.R_drewN HO_10.out _) ((rd t182 x11_3) : Int) true).1⟩, ⟨below_set (pw_below_drewN HB.out _) GB50.out⟩⟩
                                                · rw [if_neg c49] at H
                                                  have c49b0 : ((rd t182 x11_3) == (Int.tmod (wrap64 ((rd t182 (ji45)) + 1)) a2)) = false := beq_eq_false_iff_ne.mpr c49
                                                  have c49b1 : ((rd t182 x11_3) != (Int.tmod (wrap64 ((rd t182 (ji45)) + 1)) a2)) = true := bne_iff_ne.mpr c49
                                                  obtain rfl := Option.some.inj H
                                                  obtain ⟨Ao55, co55, eo55⟩ := Kd.R_slice HO_8.out
                                                  subst eo55
                                                  have p190 : 0 ≤ (x11_3 : Int) := of_decide_eq_true (by first | (with_reducible assumption) | assumption)
                                                  have q190 : x11_3 < (t182.length : Int) := of_decide_eq_true (by first | (with_reducible assumption) | assumption)
                                                  obtain ⟨ad190, e190, hx190_0⟩ := Kd.at_int (Kd.R_reads' HO_8.out).2.2 x11_3 p190 q190
                                                  cases e190
                                                  replace p190 := eq_true p190
                                                  replace q190 := eq_true q190
                                                  have p191 : 0 ≤ (x11_3 : Int) := of_decide_eq_true (by first | (with_reducible assumption) | assumption)
                                                  have q191 : x11_3 < (t182.length : Int) := of_decide_eq_true (by first | (with_reducible assumption) | assumption)
                                                  obtain ⟨ad191, e191, hx191_0⟩ := Kd.at_int (Kd.R_reads' HO_8.out).2.2 x11_3 p191 q191
                                                  obtain rfl : ad190 = ad191 := (by injection e191)
                                                  replace p191 := eq_true p191
                                                  replace q191 := eq_true q191
                                                  have p192 : 0 ≤ (x11_3 : Int) := of_decide_eq_true (by first | (with_reducible assumption) | assumption)
                                                  have q192 : x11_3 < (t182.length : Int) := of_decide_eq_true (by first | (with_reducible assumption) | assumption)
                                                  obtain ⟨ad192, e192, hx192_0⟩ := Kd.at_int (Kd.R_reads' HO_8.out).2.2 x11_3 p192 q192
                                                  obtain rfl : ad190 = ad192 := (by injection e192)
                                                  replace p192 := eq_true p192
                                                  replace q192 := eq_true q192
                                                  obtain ⟨Ao56, co56, eo56⟩ := Kd.R_slice HO_10.out
                                                  subst eo56
                                                  have p193 : 0 ≤ ((rd t182 x11_3) : Int) := of_decide_eq_true (by first | (with_reducible assumption) | assumption)
                                                  have q193 : (rd t182 x11_3) < (x10_3.length : Int) := of_decide_eq_true (by first | (with_reducible assumption) | assumption)
                                                  obtain ⟨ad193, e193, hx193_0⟩ := Kd.at_bool (Kd.R_reads' HO_10.out).2.2 (rd t182 x11_3) p193 q193
                                                  (try rw [← Nbq40.out] at hx193_0)
                                                  cases e193
                                                  replace p193 := eq_true p193
                                                  replace q193 := eq_true q193
                                                  have p194 : 0 ≤ (x11_3 : Int) := of_decide_eq_true (by first | (with_reducible assumption) | assumption)
                                                  have q194 : x11_3 < (t182.length : Int) := of_decide_eq_true (by first | (with_reducible assumption) | assumption)
                                                  obtain ⟨ad194, e194, hx194_0⟩ := Kd.at_int (Kd.R_reads' HO_8.out).2.2 x11_3 p194 q194
                                                  obtain rfl : ad190 = ad194 := (by injection e194)
                                                  replace p194 := eq_true p194
                                                  replace q194 := eq_true q194
                                                  have p195 : 0 ≤ ((ji45) : Int) := of_decide_eq_true (by first | (with_reducible assumption) | assumption)
                                                  have q195 : (ji45) < (t182.length : Int) := of_decide_eq_true (by first | (with_reducible assumption) | assumption)
                                                  obtain ⟨ad195, e195, hx195_0⟩ := Kd.at_int (Kd.R_reads' HO_8.out).2.2 (ji45) p195 q195
                                                  obtain rfl : ad190 = ad195 := (by injection e195)
                                                  replace p195 := eq_true p195
                                                  replace q195 := eq_true q195
                                                  go_wp2
                                                  repeat (go_quiet (fail); try go_wp2)
                                                  go_ret
                                                  exact ⟨by first | rfl | (simp [errW_none, errW_some] <;> rfl) | (simp only [← hji45]; first | rfl | (simp [errW_none, errW_some] <;> rfl)) | (simp [*, errW_none, errW_some] <;> rfl), by repeat (first | (with_reducible first | exact HB.out | apply below_alloc | apply pw_below_drewN | apply below_drew1) | exact HB.out)⟩
                                            · rw [if_neg c47] at H
                                              exact absurd H (by simp)
                                          · rw [if_neg c46] at H
                                            exact absurd H (by simp)
                                        · rw [if_neg c44] at H
                                          have c44b0 : decide (0 < x11_3) = false := decide_eq_false c44
                                          clear c44
                                          obtain ⟨y199, hy199⟩ : ∃ y_ : List Bool, y_ = (x10_3.set ((rd t182 x11_3) : Int).toNat true) := ⟨_, rfl⟩
                                          replace H : (waymasterlaw01_WrapUnlike.l0 k3 a2 t181 t182 y199 (wrap64 (x11_3 + 1))) = some r := by first | (rw [hy199]; with_reducible exact H) | (have H2_ := (Option.bind_some _ _).symm.trans H; rw [hy199]; with_reducible exact H2_) | (have H2_ := (Option.bind_some _ _).symm.trans H; with_reducible exact H2_) | with_reducible exact H | (rw [hy199]; exact H) | exact H
                                          have Ny199 := Aside0.mk hy199
                                          clear hy199
                                          have H' := Aside0.mk H
                                          clear H
                                          obtain ⟨Ao58, co58, eo58⟩ := Kd.R_slice HO_8.out
                                          subst eo58
                                          have p190 : 0 ≤ (x11_3 : Int) := of_decide_eq_true (by first | (with_reducible assumption) | assumption)
                                          have q190 : x11_3 < (t182.length : Int) := of_decide_eq_true (by first | (with_reducible assumption) | assumption)
                                          obtain ⟨ad190, e190, hx190_0⟩ := Kd.at_int (Kd.R_reads' HO_8.out).2.2 x11_3 p190 q190
                                          cases e190
                                          replace p190 := eq_true p190
                                          replace q190 := eq_true q190
                                          have p191 : 0 ≤ (x11_3 : Int) := of_decide_eq_true (by first | (with_reducible assumption) | assumption)
                                          have q191 : x11_3 < (t182.length : Int) := of_decide_eq_true (by first | (with_reducible assumption) | assumption)
                                          obtain ⟨ad191, e191, hx191_0⟩ := Kd.at_int (Kd.R_reads' HO_8.out).2.2 x11_3 p191 q191
                                          obtain rfl : ad190 = ad191 := (by injection e191)
                                          replace p191 := eq_true p191
                                          replace q191 := eq_true q191
                                          have p192 : 0 ≤ (x11_3 : Int) := of_decide_eq_true (by first | (with_reducible assumption) | assumption)
                                          have q192 : x11_3 < (t182.length : Int) := of_decide_eq_true (by first | (with_reducible assumption) | assumption)
                                          obtain ⟨ad192, e192, hx192_0⟩ := Kd.at_int (Kd.R_reads' HO_8.out).2.2 x11_3 p192 q192
                                          obtain rfl : ad190 = ad192 := (by injection e192)
                                          replace p192 := eq_true p192
                                          replace q192 := eq_true q192
                                          obtain ⟨Ao59, co59, eo59⟩ := Kd.R_slice HO_10.out
                                          subst eo59
                                          have p193 : 0 ≤ ((rd t182 x11_3) : Int) := of_decide_eq_true (by first | (with_reducible assumption) | assumption)
                                          have q193 : (rd t182 x11_3) < (x10_3.length : Int) := of_decide_eq_true (by first | (with_reducible assumption) | assumption)
                                          obtain ⟨ad193, e193, hx193_0⟩ := Kd.at_bool (Kd.R_reads' HO_10.out).2.2 (rd t182 x11_3) p193 q193
                                          (try rw [← Nbq40.out] at hx193_0)
                                          cases e193
                                          replace p193 := eq_true p193
                                          replace q193 := eq_true q193
                                          have p198 : 0 ≤ (x11_3 : Int) := of_decide_eq_true (by first | (with_reducible assumption) | assumption)
                                          have q198 : x11_3 < (t182.length : Int) := of_decide_eq_true (by first | (with_reducible assumption) | assumption)
                                          obtain ⟨ad198, e198, hx198_0⟩ := Kd.at_int (Kd.R_reads' HO_8.out).2.2 x11_3 p198 q198
                                          obtain rfl : ad190 = ad198 := (by injection e198)
                                          replace p198 := eq_true p198
                                          replace q198 := eq_true q198
                                          have p57 : 0 ≤ ((rd t182 x11_3) : Int) := of_decide_eq_true (by first | (with_reducible assumption) | assumption)
                                          have q57 : ((rd t182 x11_3) : Int) < ((x10_3.length : Int) : Int) := of_decide_eq_true (by first | (with_reducible assumption) | assumption)
                                          obtain ⟨go57, co57, eo57, gb57, gl57, cl57, HG57⟩ := Kd.R_form HO_10.out (by omega)
                                          (first | cases eo57 | (injection eo57 with ea_ en_ ec_; (first | subst ea_ | (injection ea_ with ea_; subst ea_)); subst ec_; clear en_))
                                          have GB57 := Aside0.mk gb57
                                          have GG57 := Aside0.mk HG57
                                          clear gb57 gl57 HG57
                                          (first | simp only [add_plain] at hx193_0 | skip)
                                          obtain ⟨hx57_0, hf57_0⟩ := Kd.R_celln false HO_10.out ((rd t182 x11_3) : Int) p57 q57
                                          replace p57 := eq_true p57
                                          replace q57 := eq_true q57
                                          have HP60 := Kd.R_putg HO_10.out ((rd t182 x11_3) : Int) true
                                          go_wp2_with (first | ((with_reducible refine gate_store (t := 4) (p := 113) rfl ?_); (try (rw [drewN_self wr]; generalize hq_ : World.drewN wr _ = wr; have n0_ := Aside0.mk (Kd.R_at hq_ HO_8.out); have n1_ := Aside0.mk (Kd.R_at hq_ HO_10.out); have n2_ := Aside0.mk (below_at hq_ HB.out); clear hq_ HO_8 HO_10 HB; have HO_8 := n0_; have HO_10 := n1_; have HB := n2_; clear n0_ n1_ n2_; (try (have HP60 := Kd.R_putg HO_10.out ((rd t182 x11_3) : Int) true)))); refine store_event (t := 4) (p := 113) (v := ?vo_w61) (w1 := (wr.setCell ⟨go57, ((rd t182 x11_3) : Int).toNat, none⟩ (.bool true))) ?hg ?ho ?hn ?hr ?_; (case ho => rfl); (case hg => rfl); (case hn => rfl); (case hr => first | (go_simp; done) | (go_simp; rfl)); intro w61 hw; have hg : wr.grownBy w61 (some go57) := (by rw [hw]; exact HP60.2); have hp_ : Kd.R Kd.bool 4 w61 w.heap.size (fun _ => True) (.slice (some ⟨go57, 0, none⟩) x10_3.length co59) y199 := (by rw [hw, Ny199.out]; exact HP60.1); clear HP60; have n0_ := Aside0.mk (Kd.R_over' (v := (.slice (some ⟨go57, 0, none⟩) x10_3.length co59)) (by (with_reducible repeat (first | apply Kd.R_alloc | apply Kd.R_drewN | apply Kd.R_drew)); exact HO_8.out) (Kd.R_typed HO_10.out) (by decide) hg); have n1_ := Aside0.mk (hp_); have n2_ := Aside0.mk ((by rw [hw]; exact below_set (HB.out) GB57.out : Below w.heap.size w w61)); clear HO_8; clear HO_10; clear HB; have HO_8 := n0_; have HO_10 := n1_; have HB := n2_; clear n0_ n1_ n2_; clear hg hw hp_))
                                          repeat (go_quiet (first | ((with_reducible refine gate_store (t := 4) (p := 113) rfl ?_); (try (rw [drewN_self wr]; generalize hq_ : World.drewN wr _ = wr; have n0_ := Aside0.mk (Kd.R_at hq_ HO_8.out); have n1_ := Aside0.mk (Kd.R_at hq_ HO_10.out); have n2_ := Aside0.mk (below_at hq_ HB.out); clear hq_ HO_8 HO_10 HB; have HO_8 := n0_; have HO_10 := n1_; have HB := n2_; clear n0_ n1_ n2_; (try (have HP60 := Kd.R_putg HO_10.out ((rd t182 x11_3) : Int) true)))); refine store_event (t := 4) (p := 113) (v := ?vo_w61) (w1 := (wr.setCell ⟨go57, ((rd t182 x11_3) : Int).toNat, none⟩ (.bool true))) ?hg ?ho ?hn ?hr ?_; (case ho => rfl); (case hg => rfl); (case hn => rfl); (case hr => first | (go_simp; done) | (go_simp; rfl)); intro w61 hw; have hg : wr.grownBy w61 (some go57) := (by rw [hw]; exact HP60.2); have hp_ : Kd.R Kd.bool 4 w61 w.heap.size (fun _ => True) (.slice (some ⟨go57, 0, none⟩) x10_3.length co59) y199 := (by rw [hw, Ny199.out]; exact HP60.1); clear HP60; have n0_ := Aside0.mk (Kd.R_over' (v := (.slice (some ⟨go57, 0, none⟩) x10_3.length co59)) (by (with_reducible repeat (first | apply Kd.R_alloc | apply Kd.R_drewN | apply Kd.R_drew)); exact HO_8.out) (Kd.R_typed HO_10.out) (by decide) hg); have n1_ := Aside0.mk (hp_); have n2_ := Aside0.mk ((by rw [hw]; exact below_set (HB.out) GB57.out : Below w.heap.size w w61)); clear HO_8; clear HO_10; clear HB; have HO_8 := n0_; have HO_10 := n1_; have HB := n2_; clear n0_ n1_ n2_; clear hg hw hp_)); try go_wp2_with (first | ((with_reducible refine gate_store (t := 4) (p := 113) rfl ?_); (try (rw [drewN_self wr]; generalize hq_ : World.drewN wr _ = wr; have n0_ := Aside0.mk (Kd.R_at hq_ HO_8.out); have n1_ := Aside0.mk (Kd.R_at hq_ HO_10.out); have n2_ := Aside0.mk (below_at hq_ HB.out); clear hq_ HO_8 HO_10 HB; have HO_8 := n0_; have HO_10 := n1_; have HB := n2_; clear n0_ n1_ n2_; (try (have HP60 := Kd.R_putg HO_10.out ((rd t182 x11_3) : Int) true)))); refine store_event (t := 4) (p := 113) (v := ?vo_w61) (w1 := (wr.setCell ⟨go57, ((rd t182 x11_3) : Int).toNat, none⟩ (.bool true))) ?hg ?ho ?hn ?hr ?_; (case ho => rfl); (case hg => rfl); (case hn => rfl); (case hr => first | (go_simp; done) | (go_simp; rfl)); intro w61 hw; have hg : wr.grownBy w61 (some go57) := (by rw [hw]; exact HP60.2); have hp_ : Kd.R Kd.bool 4 w61 w.heap.size (fun _ => True) (.slice (some ⟨go57, 0, none⟩) x10_3.length co59) y199 := (by rw [hw, Ny199.out]; exact HP60.1); clear HP60; have n0_ := Aside0.mk (Kd.R_over' (v := (.slice (some ⟨go57, 0, none⟩) x10_3.length co59)) (by (with_reducible repeat (first | apply Kd.R_alloc | apply Kd.R_drewN | apply Kd.R_drew)); exact HO_8.out) (Kd.R_typed HO_10.out) (by decide) hg); have n1_ := Aside0.mk (hp_); have n2_ := Aside0.mk ((by rw [hw]; exact below_set (HB.out) GB57.out : Below w.heap.size w w61)); clear HO_8; clear HO_10; clear HB; have HO_8 := n0_; have HO_10 := n1_; have HB := n2_; clear n0_ n1_ n2_; clear hg hw hp_)))
                                          go_roundg k3
                                          case measure => have := HJ4.out; have := HJ21.out; have := HK3.out; omega
                                          case rel => exact ⟨(y199), (wrap64 (x11_3 + 1)), (by first | rfl | (simp; done) | (simp [*]; done)), H', ⟨by have := HJ4.out; have := HJ21.out; have := HK3.out; omega⟩, ⟨Kd.R_over' (v := (.slice (some ⟨go57, 0, none⟩) x10_3.length _)) (Kd.R_drewN HO_8.out _) (Kd.R_typed (Kd.R_drewN HO_10.out _)) (by decide) (Kd.R_putg (Kd.R_drewN HO_10.out _) ((rd t182 x11_3) : Int) true).2⟩, ⟨by rw [Ny199.out]; exact (Kd.R_putg (Kd.R_drewN HO_10.out _) ((rd t182 x11_3) : Int) true).1⟩, ⟨below_set (pw_below_drewN HB.out _) GB57.out⟩⟩
                                    · rw [if_neg c39] at H
                                      exact absurd H (by simp)
                                  · rw [if_neg c38] at H
                                    exact absurd H (by simp)
                            · rw [if_neg c33] at H
                              exact absurd H (by simp)
                          · rw [if_neg c32] at H
                            have c32b0 : decide (x11_3 < (t182.length : Int)) = false := decide_eq_false c32
                            clear c32
                            obtain rfl := Option.some.inj H
                            obtain ⟨Ao62, co62, eo62⟩ := Kd.R_slice HO_8.out
                            subst eo62
                            go_wp2
                            repeat (go_quiet (fail); try go_wp2)
                            go_ret
                            exact ⟨by first | rfl | (simp [errW_none, errW_some] <;> rfl) | (simp [*, errW_none, errW_some] <;> rfl), by repeat (first | (with_reducible first | exact HB.out | apply below_alloc | apply pw_below_drewN | apply below_drew1) | exact HB.out)⟩
                    · rw [if_neg c29] at H
                      exact absurd H (by simp)
                  · rw [if_neg c28] at H
                    exact absurd H (by simp)
        · replace c11 := Bool.eq_false_iff.mpr c11
          subst c11
          have H1 : (if t181 = true then (some (t183 == 2)) else (some false)) = some r := by rw [if_neg (show ¬ (false = true) by decide)] at H; exact H
          clear H
          have H := H1
          clear H1
          by_cases c63 : t181 = true
          · subst c63
            have H1 : (some (t183 == 2)) = some r := by rw [if_pos rfl] at H; exact H
            clear H
            have H := H1
            clear H1
            obtain rfl := Option.some.inj H
            go_wp2_with (first | (go_at_call 23; (try rw [show (a0 + a1) % 4294967296 = (a0 + ((a1) % 4294967296)) % 4294967296 from by omega]); (with_reducible refine (wrap_Range.calls a0 ((a0 + ((a1) % 4294967296)) % 4294967296) a2 t182 t183 _ A9.out).mono ?_); rintro e w64 ⟨v184, rfl, ho0, hb⟩; have n0_ := Aside0.mk (Kd.R_lower ho0 (below_size (by repeat (first | (with_reducible first | exact HB.out | apply below_alloc | apply pw_below_drewN | apply below_drew1) | exact HB.out)))); have n1_ := Aside0.mk (below_step (by repeat (first | (with_reducible first | exact HB.out | apply below_alloc | apply pw_below_drewN | apply below_drew1) | exact HB.out)) hb); clear HB; have HO185 := n0_; have HB := n1_; clear n0_ n1_; (try clear hb); (try clear hb2); (try clear hk); (try clear hi); (try clear ho0)) | (go_at_call 15; (with_reducible refine (wrap_IsSize.calls a2 false _ A10.out).mono ?_); rintro e w65 ⟨rfl, hb⟩; have n0_ := Aside0.mk (Kd.R_below (by (with_reducible repeat (first | apply Kd.R_alloc | apply Kd.R_drewN | apply Kd.R_drew)); exact HO185.out) hb); have n1_ := Aside0.mk (below_step (by repeat (first | (with_reducible first | exact HB.out | apply below_alloc | apply pw_below_drewN | apply below_drew1) | exact HB.out)) hb); clear HO185; clear HB; have HO185 := n0_; have HB := n1_; clear n0_ n1_; (try clear hb); (try clear hb2); (try clear hk); (try clear hi)))
            repeat (go_quiet (first | (go_at_call 23; (try rw [show (a0 + a1) % 4294967296 = (a0 + ((a1) % 4294967296)) % 4294967296 from by omega]); (with_reducible refine (wrap_Range.calls a0 ((a0 + ((a1) % 4294967296)) % 4294967296) a2 t182 t183 _ A9.out).mono ?_); rintro e w64 ⟨v184, rfl, ho0, hb⟩; have n0_ := Aside0.mk (Kd.R_lower ho0 (below_size (by repeat (first | (with_reducible first | exact HB.out | apply below_alloc | apply pw_below_drewN | apply below_drew1) | exact HB.out)))); have n1_ := Aside0.mk (below_step (by repeat (first | (with_reducible first | exact HB.out | apply below_alloc | apply pw_below_drewN | apply below_drew1) | exact HB.out)) hb); clear HB; have HO185 := n0_; have HB := n1_; clear n0_ n1_; (try clear hb); (try clear hb2); (try clear hk); (try clear hi); (try clear ho0)) | (go_at_call 15; (with_reducible refine (wrap_IsSize.calls a2 false _ A10.out).mono ?_); rintro e w65 ⟨rfl, hb⟩; have n0_ := Aside0.mk (Kd.R_below (by (with_reducible repeat (first | apply Kd.R_alloc | apply Kd.R_drewN | apply Kd.R_drew)); exact HO185.out) hb); have n1_ := Aside0.mk (below_step (by repeat (first | (with_reducible first | exact HB.out | apply below_alloc | apply pw_below_drewN | apply below_drew1) | exact HB.out)) hb); clear HO185; clear HB; have HO185 := n0_; have HB := n1_; clear n0_ n1_; (try clear hb); (try clear hb2); (try clear hk); (try clear hi))); try go_wp2_with (first | (go_at_call 23; (try rw [show (a0 + a1) % 4294967296 = (a0 + ((a1) % 4294967296)) % 4294967296 from by omega]); (with_reducible refine (wrap_Range.calls a0 ((a0 + ((a1) % 4294967296)) % 4294967296) a2 t182 t183 _ A9.out).mono ?_); rintro e w64 ⟨v184, rfl, ho0, hb⟩; have n0_ := Aside0.mk (Kd.R_lower ho0 (below_size (by repeat (first | (with_reducible first | exact HB.out | apply below_alloc | apply pw_below_drewN | apply below_drew1) | exact HB.out)))); have n1_ := Aside0.mk (below_step (by repeat (first | (with_reducible first | exact HB.out | apply below_alloc | apply pw_below_drewN | apply below_drew1) | exact HB.out)) hb); clear HB; have HO185 := n0_; have HB := n1_; clear n0_ n1_; (try clear hb); (try clear hb2); (try clear hk); (try clear hi); (try clear ho0)) | (go_at_call 15; (with_reducible refine (wrap_IsSize.calls a2 false _ A10.out).mono ?_); rintro e w65 ⟨rfl, hb⟩; have n0_ := Aside0.mk (Kd.R_below (by (with_reducible repeat (first | apply Kd.R_alloc | apply Kd.R_drewN | apply Kd.R_drew)); exact HO185.out) hb); have n1_ := Aside0.mk (below_step (by repeat (first | (with_reducible first | exact HB.out | apply below_alloc | apply pw_below_drewN | apply below_drew1) | exact HB.out)) hb); clear HO185; clear HB; have HO185 := n0_; have HB := n1_; clear n0_ n1_; (try clear hb); (try clear hb2); (try clear hk); (try clear hi))))
            go_ret
            exact ⟨by first | rfl | (simp [errW_none, errW_some] <;> rfl) | (simp [*, errW_none, errW_some] <;> rfl), by repeat (first | (with_reducible first | exact HB.out | apply below_alloc | apply pw_below_drewN | apply below_drew1) | exact HB.out)⟩
          · replace c63 := Bool.eq_false_iff.mpr c63
            subst c63
            have H1 : (some false) = some r := by rw [if_neg (show ¬ (false = true) by decide)] at H; exact H
            clear H
            have H := H1
            clear H1
            obtain rfl := Option.some.inj H
            go_wp2_with (first | (go_at_call 23; (try rw [show (a0 + a1) % 4294967296 = (a0 + ((a1) % 4294967296)) % 4294967296 from by omega]); (with_reducible refine (wrap_Range.calls a0 ((a0 + ((a1) % 4294967296)) % 4294967296) a2 t182 t183 _ A9.out).mono ?_); rintro e w66 ⟨v184, rfl, ho0, hb⟩; have n0_ := Aside0.mk (Kd.R_lower ho0 (below_size (by repeat (first | (with_reducible first | exact HB.out | apply below_alloc | apply pw_below_drewN | apply below_drew1) | exact HB.out)))); have n1_ := Aside0.mk (below_step (by repeat (first | (with_reducible first | exact HB.out | apply below_alloc | apply pw_below_drewN | apply below_drew1) | exact HB.out)) hb); clear HB; have HO185 := n0_; have HB := n1_; clear n0_ n1_; (try clear hb); (try clear hb2); (try clear hk); (try clear hi); (try clear ho0)) | (go_at_call 15; (with_reducible refine (wrap_IsSize.calls a2 false _ A10.out).mono ?_); rintro e w67 ⟨rfl, hb⟩; have n0_ := Aside0.mk (Kd.R_below (by (with_reducible repeat (first | apply Kd.R_alloc | apply Kd.R_drewN | apply Kd.R_drew)); exact HO185.out) hb); have n1_ := Aside0.mk (below_step (by repeat (first | (with_reducible first | exact HB.out | apply below_alloc | apply pw_below_drewN | apply below_drew1) | exact HB.out)) hb); clear HO185; clear HB; have HO185 := n0_; have HB := n1_; clear n0_ n1_; (try clear hb); (try clear hb2); (try clear hk); (try clear hi)))
            repeat (go_quiet (first | (go_at_call 23; (try rw [show (a0 + a1) % 4294967296 = (a0 + ((a1) % 4294967296)) % 4294967296 from by omega]); (with_reducible refine (wrap_Range.calls a0 ((a0 + ((a1) % 4294967296)) % 4294967296) a2 t182 t183 _ A9.out).mono ?_); rintro e w66 ⟨v184, rfl, ho0, hb⟩; have n0_ := Aside0.mk (Kd.R_lower ho0 (below_size (by repeat (first | (with_reducible first | exact HB.out | apply below_alloc | apply pw_below_drewN | apply below_drew1) | exact HB.out)))); have n1_ := Aside0.mk (below_step (by repeat (first | (with_reducible first | exact HB.out | apply below_alloc | apply pw_below_drewN | apply below_drew1) | exact HB.out)) hb); clear HB; have HO185 := n0_; have HB := n1_; clear n0_ n1_; (try clear hb); (try clear hb2); (try clear hk); (try clear hi); (try clear ho0)) | (go_at_call 15; (with_reducible refine (wrap_IsSize.calls a2 false _ A10.out).mono ?_); rintro e w67 ⟨rfl, hb⟩; have n0_ := Aside0.mk (Kd.R_below (by (with_reducible repeat (first | apply Kd.R_alloc | apply Kd.R_drewN | apply Kd.R_drew)); exact HO185.out) hb); have n1_ := Aside0.mk (below_step (by repeat (first | (with_reducible first | exact HB.out | apply below_alloc | apply pw_below_drewN | apply below_drew1) | exact HB.out)) hb); clear HO185; clear HB; have HO185 := n0_; have HB := n1_; clear n0_ n1_; (try clear hb); (try clear hb2); (try clear hk); (try clear hi))); try go_wp2_with (first | (go_at_call 23; (try rw [show (a0 + a1) % 4294967296 = (a0 + ((a1) % 4294967296)) % 4294967296 from by omega]); (with_reducible refine (wrap_Range.calls a0 ((a0 + ((a1) % 4294967296)) % 4294967296) a2 t182 t183 _ A9.out).mono ?_); rintro e w66 ⟨v184, rfl, ho0, hb⟩; have n0_ := Aside0.mk (Kd.R_lower ho0 (below_size (by repeat (first | (with_reducible first | exact HB.out | apply below_alloc | apply pw_below_drewN | apply below_drew1) | exact HB.out)))); have n1_ := Aside0.mk (below_step (by repeat (first | (with_reducible first | exact HB.out | apply below_alloc | apply pw_below_drewN | apply below_drew1) | exact HB.out)) hb); clear HB; have HO185 := n0_; have HB := n1_; clear n0_ n1_; (try clear hb); (try clear hb2); (try clear hk); (try clear hi); (try clear ho0)) | (go_at_call 15; (with_reducible refine (wrap_IsSize.calls a2 false _ A10.out).mono ?_); rintro e w67 ⟨rfl, hb⟩; have n0_ := Aside0.mk (Kd.R_below (by (with_reducible repeat (first | apply Kd.R_alloc | apply Kd.R_drewN | apply Kd.R_drew)); exact HO185.out) hb); have n1_ := Aside0.mk (below_step (by repeat (first | (with_reducible first | exact HB.out | apply below_alloc | apply pw_below_drewN | apply below_drew1) | exact HB.out)) hb); clear HO185; clear HB; have HO185 := n0_; have HB := n1_; clear n0_ n1_; (try clear hb); (try clear hb2); (try clear hk); (try clear hi))))
            go_ret
            exact ⟨by first | rfl | (simp [errW_none, errW_some] <;> rfl) | (simp [*, errW_none, errW_some] <;> rfl), by repeat (first | (with_reducible first | exact HB.out | apply below_alloc | apply pw_below_drewN | apply below_drew1) | exact HB.out)⟩

/-- THE ONE PURE STATEMENT of waymasterlaw01_WrapUnlike: yours. -/
def waymasterlaw01_WrapUnlike.Pure : Prop := ∀ (a0 : Int) (a1 : Int) (a2 : Int), (Lit.int .u32 a0).wf = true → (Lit.int .i64 a1).wf = true → (Lit.int .i64 a2).wf = true → ∃ k, waymasterlaw01_WrapUnlike.f k a0 a1 a2 = some true
theorem waymasterlaw01_WrapUnlike.walk (P : waymasterlaw01_WrapUnlike.Pure) (a0 : Int) (a1 : Int) (a2 : Int) (w : World) (w0 : (Lit.int .u32 a0).wf = true) (w1 : (Lit.int .i64 a1).wf = true) (w2 : (Lit.int .i64 a2).wf = true) :
    Calls Try.prog 9 #[.int .u32 a0, .int .i64 a1, .int .i64 a2] w fun e w' => e = .returned (.bool true) ∧ Below w.heap.size w w' := by
  obtain ⟨k, h⟩ := P a0 a1 a2 w0 w1 w2
  refine (waymasterlaw01_WrapUnlike.calls k a0 a1 a2 true w h).mono ?_
  rintro e w' ⟨rfl, hd⟩
  exact ⟨rfl, hd⟩

end Go.Proofs.Ytihonionnfeagaa.QL
