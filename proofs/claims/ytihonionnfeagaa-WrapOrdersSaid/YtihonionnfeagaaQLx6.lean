/- Functions of the program as Lean functions, and the walks that show it, written by a program of this session on the base of the kit printer; Lean checks all of it. -/
import Derived.Test.YtihonionnfeagaaQLx0
import Derived.Test.YtihonionnfeagaaQLx1
import Derived.Test.YtihonionnfeagaaQLx3
namespace Go.Proofs.Ytihonionnfeagaa.QL
open Go.Proofs.Ytihonionnfeagaa.H
open Go.Proofs.Ytihonionnfeagaa.QB
open Go.RowKit Go.Proofs.YtihonionnfeagaaW.PrintWords Go.Proofs.YtihonionnfeagaaW.PrintLast Go.Proofs.YtihonionnfeagaaW.PrintMore
attribute [local go_sem] max2_int min2_int max_two min_two max_three min_three max_four min_four   -- for this text's walks alone
set_option linter.unusedVariables false
set_option linter.unusedSimpArgs false

/-! ### waymasterlaw01_WrapOrders: function 7 -/
def waymasterlaw01_WrapOrders.j0 : Nat → Int → Int → Bool → Int → Option (Bool)
  | 0, _, _, _, _ => none
  | k + 1, x0, x1, x5, x6 => (wrap_Ahead.f x1 x0).bind fun t153 => (if t153 = true then (if x5 = true then (if x0 = x1 then (if (wrap64 (x6 + 1)) = 0 then ((wrap_Over.f x0 x1).bind fun t154 => (if t154 = 0 then (some true) else ((wrap_Over.f x1 x0).bind fun t155 => (some (t155 == 0))))) else (some false)) else (if (wrap64 (x6 + 1)) = 1 then ((wrap_Over.f x0 x1).bind fun t156 => (if t156 = 0 then (some true) else ((wrap_Over.f x1 x0).bind fun t157 => (some (t157 == 0))))) else (some false))) else (some false)) else (if x5 = true then (if x0 = x1 then (if x6 = 0 then ((wrap_Over.f x0 x1).bind fun t158 => (if t158 = 0 then (some true) else ((wrap_Over.f x1 x0).bind fun t159 => (some (t159 == 0))))) else (some false)) else (if x6 = 1 then ((wrap_Over.f x0 x1).bind fun t160 => (if t160 = 0 then (some true) else ((wrap_Over.f x1 x0).bind fun t161 => (some (t161 == 0))))) else (some false))) else (some false)))
def waymasterlaw01_WrapOrders.f (k : Nat) (a0 : Int) (a1 : Int) : Option (Bool) := (waymasterlaw01_shown.f).bind fun t148 => ((wrap_Far.f a0 a1).bind fun t149 => (if t149 = 2147483648 then (if t148 = true then ((wrap_Ahead.f a0 a1).bind fun t150 => (if t150 = true then (some false) else ((wrap_Ahead.f a1 a0).bind fun t151 => (some (!t151))))) else (some false)) else ((wrap_Ahead.f a0 a1).bind fun t152 => (if t152 = true then (waymasterlaw01_WrapOrders.j0 k a0 a1 t148 (0 + 1)) else (waymasterlaw01_WrapOrders.j0 k a0 a1 t148 0)))))
theorem waymasterlaw01_WrapOrders.mono_l : ∀ k, (∀ y0 y1 y2 y3, LeO (waymasterlaw01_WrapOrders.j0 k y0 y1 y2 y3) (waymasterlaw01_WrapOrders.j0 (k + 1) y0 y1 y2 y3))
  | 0 => fun _ _ _ _ r h => by simp [waymasterlaw01_WrapOrders.j0] at h
  | k + 1 => by
    have ih0 := waymasterlaw01_WrapOrders.mono_l k
    · intro y0 y1 y2 y3
      unfold waymasterlaw01_WrapOrders.j0
      repeat' first
      | (with_reducible exact ih0 _ _ _ _)
      | (with_reducible exact LeO.refl _)
      | (with_reducible exact LeO.none _)
      | (with_reducible refine LeO.ite ?_ ?_)
      | (with_reducible refine LeO.bind ?_ (fun _ => ?_))
      | exact ih0 _ _ _ _
      | exact LeO.none _
      | refine LeO.ite ?_ ?_
      | refine LeO.bind ?_ (fun _ => ?_)
theorem waymasterlaw01_WrapOrders.mono : ∀ a0 a1 k, LeO (waymasterlaw01_WrapOrders.f k a0 a1) (waymasterlaw01_WrapOrders.f (k + 1) a0 a1) := by
  intro a0 a1 k
  have ih0 := waymasterlaw01_WrapOrders.mono_l k
  unfold waymasterlaw01_WrapOrders.f
  repeat' first
      | (with_reducible exact ih0 _ _ _ _)
      | (with_reducible exact LeO.refl _)
      | (with_reducible exact LeO.none _)
      | (with_reducible refine LeO.ite ?_ ?_)
      | (with_reducible refine LeO.bind ?_ (fun _ => ?_))
      | exact ih0 _ _ _ _
      | exact LeO.none _
      | refine LeO.ite ?_ ?_
      | refine LeO.bind ?_ (fun _ => ?_)
set_option maxHeartbeats 8000000 in
set_option maxRecDepth 100000 in
theorem waymasterlaw01_WrapOrders.calls (k : Nat) (a0 : Int) (a1 : Int) (r : Bool) (w : World) (h : waymasterlaw01_WrapOrders.f k a0 a1 = some r) :
    Calls Try.prog 7 #[.int .u32 a0, .int .u32 a1] w fun e w' => e = .returned (.bool r) ∧ Below w.heap.size w w' := by
  have HB := Aside0.mk (Below.refl w.heap.size w)
  have H : ((waymasterlaw01_shown.f).bind fun t148 => ((wrap_Far.f a0 a1).bind fun t149 => (if t149 = 2147483648 then (if t148 = true then ((wrap_Ahead.f a0 a1).bind fun t150 => (if t150 = true then (some false) else ((wrap_Ahead.f a1 a0).bind fun t151 => (some (!t151))))) else (some false)) else ((wrap_Ahead.f a0 a1).bind fun t152 => (if t152 = true then (waymasterlaw01_WrapOrders.j0 k a0 a1 t148 (0 + 1)) else (waymasterlaw01_WrapOrders.j0 k a0 a1 t148 0)))))) = some r := h
  clear h
  replace H := Option.bind_eq_some_iff.mp H
  obtain ⟨t148, A30, H⟩ := H
  replace H : ((wrap_Far.f a0 a1).bind fun t149 => (if t149 = 2147483648 then (if t148 = true then ((wrap_Ahead.f a0 a1).bind fun t150 => (if t150 = true then (some false) else ((wrap_Ahead.f a1 a0).bind fun t151 => (some (!t151))))) else (some false)) else ((wrap_Ahead.f a0 a1).bind fun t152 => (if t152 = true then (waymasterlaw01_WrapOrders.j0 k a0 a1 t148 (0 + 1)) else (waymasterlaw01_WrapOrders.j0 k a0 a1 t148 0))))) = some r := H
  have A3 := Aside0.mk A30
  clear A30
  replace H := Option.bind_eq_some_iff.mp H
  obtain ⟨t149, A40, H⟩ := H
  replace H : (if t149 = 2147483648 then (if t148 = true then ((wrap_Ahead.f a0 a1).bind fun t150 => (if t150 = true then (some false) else ((wrap_Ahead.f a1 a0).bind fun t151 => (some (!t151))))) else (some false)) else ((wrap_Ahead.f a0 a1).bind fun t152 => (if t152 = true then (waymasterlaw01_WrapOrders.j0 k a0 a1 t148 (0 + 1)) else (waymasterlaw01_WrapOrders.j0 k a0 a1 t148 0)))) = some r := H
  have A4 := Aside0.mk A40
  clear A40
  by_cases c5 : t149 = 2147483648
  · rw [if_pos c5] at H
    have c5b0 : (t149 == 2147483648) = true := beq_iff_eq.mpr c5
    have c5b1 : (t149 != 2147483648) = false := bne_eq_false_iff_eq.mpr c5
    clear c5
    by_cases c6 : t148 = true
    · subst c6
      have H1 : ((wrap_Ahead.f a0 a1).bind fun t150 => (if t150 = true then (some false) else ((wrap_Ahead.f a1 a0).bind fun t151 => (some (!t151))))) = some r := by rw [if_pos rfl] at H; exact H
      clear H
      have H := H1
      clear H1
      replace H := Option.bind_eq_some_iff.mp H
      obtain ⟨t150, A70, H⟩ := H
      replace H : (if t150 = true then (some false) else ((wrap_Ahead.f a1 a0).bind fun t151 => (some (!t151)))) = some r := H
      have A7 := Aside0.mk A70
      clear A70
      by_cases c8 : t150 = true
      · subst c8
        have H1 : (some false) = some r := by rw [if_pos rfl] at H; exact H
        clear H
        have H := H1
        clear H1
        obtain rfl := Option.some.inj H
        go_enter Try.func7, Try.ntmps7
        go_wp2_with (first | ((with_reducible refine gate_callee (f := 10) rfl ?_); refine goesL_ (some 7) rfl rfl Try.func10 (by kernel_rfl) rfl #[] rfl (by (try simp only [List.map_toArray, List.map_cons, List.map_nil]); first | done | rfl | (simp only [List.length_drop, List.length_take]; rfl)) ?_; (with_reducible refine (waymasterlaw01_shown.calls  true _ A3.out).mono ?_); rintro e w9 ⟨rfl, hb⟩; refine ⟨_, rfl, ?_⟩; have n0_ := Aside0.mk (below_step (by repeat (first | (with_reducible first | exact HB.out | apply below_alloc | apply pw_below_drewN | apply below_drew1) | exact HB.out)) hb); clear HB; have HB := n0_; clear n0_; (try clear hb); (try clear hb2); (try clear hk); (try clear hi)) | ((with_reducible refine gate_callee (f := 17) rfl ?_); refine goesL_ (some 10) rfl rfl Try.func17 (by kernel_rfl) rfl #[.int .u32 a0, .int .u32 a1] rfl (by (try simp only [List.map_toArray, List.map_cons, List.map_nil]); first | done | rfl | (simp only [List.length_drop, List.length_take]; rfl)) ?_; (with_reducible refine (wrap_Far.calls a0 a1 t149 _ A4.out).mono ?_); rintro e w' ⟨rfl, ⟨nd, rfl⟩⟩; refine ⟨_, rfl, ?_⟩) | (go_at_call 19; (with_reducible refine (wrap_Ahead.calls a0 a1 true _ A7.out).mono ?_); rintro e w' ⟨rfl, ⟨nd, rfl⟩⟩))
        go_ret
        exact ⟨by first | rfl | (simp [errW_none, errW_some] <;> rfl) | (simp [*, errW_none, errW_some] <;> rfl), by repeat (first | (with_reducible first | exact HB.out | apply below_alloc | apply pw_below_drewN | apply below_drew1) | exact HB.out)⟩
      · replace c8 := Bool.eq_false_iff.mpr c8
        subst c8
        have H1 : ((wrap_Ahead.f a1 a0).bind fun t151 => (some (!t151))) = some r := by rw [if_neg (show ¬ (false = true) by decide)] at H; exact H
        clear H
        have H := H1
        clear H1
        replace H := Option.bind_eq_some_iff.mp H
        obtain ⟨t151, A100, H⟩ := H
        replace H : (some (!t151)) = some r := H
        have A10 := Aside0.mk A100
        clear A100
        obtain rfl := Option.some.inj H
        go_enter Try.func7, Try.ntmps7
        go_wp2_with (first | ((with_reducible refine gate_callee (f := 10) rfl ?_); refine goesL_ (some 7) rfl rfl Try.func10 (by kernel_rfl) rfl #[] rfl (by (try simp only [List.map_toArray, List.map_cons, List.map_nil]); first | done | rfl | (simp only [List.length_drop, List.length_take]; rfl)) ?_; (with_reducible refine (waymasterlaw01_shown.calls  true _ A3.out).mono ?_); rintro e w11 ⟨rfl, hb⟩; refine ⟨_, rfl, ?_⟩; have n0_ := Aside0.mk (below_step (by repeat (first | (with_reducible first | exact HB.out | apply below_alloc | apply pw_below_drewN | apply below_drew1) | exact HB.out)) hb); clear HB; have HB := n0_; clear n0_; (try clear hb); (try clear hb2); (try clear hk); (try clear hi)) | ((with_reducible refine gate_callee (f := 17) rfl ?_); refine goesL_ (some 10) rfl rfl Try.func17 (by kernel_rfl) rfl #[.int .u32 a0, .int .u32 a1] rfl (by (try simp only [List.map_toArray, List.map_cons, List.map_nil]); first | done | rfl | (simp only [List.length_drop, List.length_take]; rfl)) ?_; (with_reducible refine (wrap_Far.calls a0 a1 t149 _ A4.out).mono ?_); rintro e w' ⟨rfl, ⟨nd, rfl⟩⟩; refine ⟨_, rfl, ?_⟩) | (go_at_call 19; (with_reducible refine (wrap_Ahead.calls a0 a1 false _ A7.out).mono ?_); rintro e w' ⟨rfl, ⟨nd, rfl⟩⟩) | (go_at_call 19; (with_reducible refine (wrap_Ahead.calls a1 a0 t151 _ A10.out).mono ?_); rintro e w' ⟨rfl, ⟨nd, rfl⟩⟩))
        go_ret
        exact ⟨by first | rfl | (simp [errW_none, errW_some] <;> rfl) | (simp [*, errW_none, errW_some] <;> rfl), by repeat (first | (with_reducible first | exact HB.out | apply below_alloc | apply pw_below_drewN | apply below_drew1) | exact HB.out)⟩
    · replace c6 := Bool.eq_false_iff.mpr c6
      subst c6
      have H1 : (some false) = some r := by rw [if_neg (show ¬ (false = true) by decide)] at H; exact H
      clear H
      have H := H1
      clear H1
      obtain rfl := Option.some.inj H
      go_enter Try.func7, Try.ntmps7
      go_wp2_with (first | ((with_reducible refine gate_callee (f := 10) rfl ?_); refine goesL_ (some 7) rfl rfl Try.func10 (by kernel_rfl) rfl #[] rfl (by (try simp only [List.map_toArray, List.map_cons, List.map_nil]); first | done | rfl | (simp only [List.length_drop, List.length_take]; rfl)) ?_; (with_reducible refine (waymasterlaw01_shown.calls  false _ A3.out).mono ?_); rintro e w12 ⟨rfl, hb⟩; refine ⟨_, rfl, ?_⟩; have n0_ := Aside0.mk (below_step (by repeat (first | (with_reducible first | exact HB.out | apply below_alloc | apply pw_below_drewN | apply below_drew1) | exact HB.out)) hb); clear HB; have HB := n0_; clear n0_; (try clear hb); (try clear hb2); (try clear hk); (try clear hi)) | ((with_reducible refine gate_callee (f := 17) rfl ?_); refine goesL_ (some 10) rfl rfl Try.func17 (by kernel_rfl) rfl #[.int .u32 a0, .int .u32 a1] rfl (by (try simp only [List.map_toArray, List.map_cons, List.map_nil]); first | done | rfl | (simp only [List.length_drop, List.length_take]; rfl)) ?_; (with_reducible refine (wrap_Far.calls a0 a1 t149 _ A4.out).mono ?_); rintro e w' ⟨rfl, ⟨nd, rfl⟩⟩; refine ⟨_, rfl, ?_⟩))
      go_ret
      exact ⟨by first | rfl | (simp [errW_none, errW_some] <;> rfl) | (simp [*, errW_none, errW_some] <;> rfl), by repeat (first | (with_reducible first | exact HB.out | apply below_alloc | apply pw_below_drewN | apply below_drew1) | exact HB.out)⟩
  · rw [if_neg c5] at H
    have c5b0 : (t149 == 2147483648) = false := beq_eq_false_iff_ne.mpr c5
    have c5b1 : (t149 != 2147483648) = true := bne_iff_ne.mpr c5
    replace H := Option.bind_eq_some_iff.mp H
    obtain ⟨t152, A130, H⟩ := H
    replace H : (if t152 = true then (waymasterlaw01_WrapOrders.j0 k a0 a1 t148 (0 + 1)) else (waymasterlaw01_WrapOrders.j0 k a0 a1 t148 0)) = some r := H
    have A13 := Aside0.mk A130
    clear A130
    have HC14 := Aside0.mk H
    clear H
    go_enter Try.func7, Try.ntmps7
    go_upto_if 27 with (first | ((with_reducible refine gate_callee (f := 10) rfl ?_); refine goesL_ (some 7) rfl rfl Try.func10 (by kernel_rfl) rfl #[] rfl (by (try simp only [List.map_toArray, List.map_cons, List.map_nil]); first | done | rfl | (simp only [List.length_drop, List.length_take]; rfl)) ?_; (with_reducible refine (waymasterlaw01_shown.calls  t148 _ A3.out).mono ?_); rintro e w15 ⟨rfl, hb⟩; refine ⟨_, rfl, ?_⟩; have n0_ := Aside0.mk (below_step (by repeat (first | (with_reducible first | exact HB.out | apply below_alloc | apply pw_below_drewN | apply below_drew1) | exact HB.out)) hb); clear HB; have HB := n0_; clear n0_; (try clear hb); (try clear hb2); (try clear hk); (try clear hi)) | ((with_reducible refine gate_callee (f := 17) rfl ?_); refine goesL_ (some 10) rfl rfl Try.func17 (by kernel_rfl) rfl #[.int .u32 a0, .int .u32 a1] rfl (by (try simp only [List.map_toArray, List.map_cons, List.map_nil]); first | done | rfl | (simp only [List.length_drop, List.length_take]; rfl)) ?_; (with_reducible refine (wrap_Far.calls a0 a1 t149 _ A4.out).mono ?_); rintro e w' ⟨rfl, ⟨nd, rfl⟩⟩; refine ⟨_, rfl, ?_⟩) | ((with_reducible refine gate_callee (f := 19) rfl ?_); refine goesL_ (some 27) rfl rfl Try.func19 (by kernel_rfl) rfl #[.int .u32 a0, .int .u32 a1] rfl (by (try simp only [List.map_toArray, List.map_cons, List.map_nil]); first | done | rfl | (simp only [List.length_drop, List.length_take]; rfl)) ?_; (with_reducible refine (wrap_Ahead.calls a0 a1 t152 _ A13.out).mono ?_); rintro e w' ⟨rfl, ⟨nd, rfl⟩⟩; refine ⟨_, rfl, ?_⟩))
    (try simp only [Act.put, List.setIfInBounds_toArray, List.set_cons_zero, List.set_cons_succ])
    go_cut [6] (fun v6 wc => ∃ (kq : Nat) (x6_13 : Int), v6 = .int .i64 x6_13 ∧ Aside0 (waymasterlaw01_WrapOrders.j0 kq a0 a1 t148 x6_13 = some r) ∧ Aside0 (kq ≤ k) ∧ Aside0 (Below w.heap.size w wc))
    case first =>
      have H := HC14.out
      clear HC14
      by_cases c16 : t152 = true
      · subst c16
        have H1 : (waymasterlaw01_WrapOrders.j0 k a0 a1 t148 (0 + 1)) = some r := by rw [if_pos rfl] at H; exact H
        clear H
        have H := H1
        clear H1
        have H' := Aside0.mk H
        clear H
        go_wp2
        go_meet
        case rel => exact ⟨_, (0 + 1), (by first | rfl | (simp; done) | (simp [*]; done)), H', ⟨by first | omega | exact Nat.le_refl _⟩, ⟨by repeat (first | (with_reducible first | exact HB.out | apply below_alloc | apply pw_below_drewN | apply below_drew1) | exact HB.out)⟩⟩
      · replace c16 := Bool.eq_false_iff.mpr c16
        subst c16
        have H1 : (waymasterlaw01_WrapOrders.j0 k a0 a1 t148 0) = some r := by rw [if_neg (show ¬ (false = true) by decide)] at H; exact H
        clear H
        have H := H1
        clear H1
        have H' := Aside0.mk H
        clear H
        go_wp2
        go_meet
        case rel => exact ⟨_, (0), (by first | rfl | (simp; done) | (simp [*]; done)), H', ⟨by first | omega | exact Nat.le_refl _⟩, ⟨by repeat (first | (with_reducible first | exact HB.out | apply below_alloc | apply pw_below_drewN | apply below_drew1) | exact HB.out)⟩⟩
    case rest =>
      clear HC14
      try clear c1
      try clear p2
      try clear c5
      try clear c5b0
      try clear c5b1
      try clear c6
      try clear c7
      try clear c8
      try clear c10
      try clear c16
      obtain ⟨kq, x6_13, rfl, HA, HJ13, HB⟩ := hcut
      cases kq with
      | zero => exact absurd HA.out (by simp [waymasterlaw01_WrapOrders.j0])
      | succ kj13 =>
        have H := HA.out
        clear HA
        simp only [waymasterlaw01_WrapOrders.j0] at H
        replace H := Option.bind_eq_some_iff.mp H
        obtain ⟨t153, A170, H⟩ := H
        replace H : (if t153 = true then (if t148 = true then (if a0 = a1 then (if (wrap64 (x6_13 + 1)) = 0 then ((wrap_Over.f a0 a1).bind fun t154 => (if t154 = 0 then (some true) else ((wrap_Over.f a1 a0).bind fun t155 => (some (t155 == 0))))) else (some false)) else (if (wrap64 (x6_13 + 1)) = 1 then ((wrap_Over.f a0 a1).bind fun t156 => (if t156 = 0 then (some true) else ((wrap_Over.f a1 a0).bind fun t157 => (some (t157 == 0))))) else (some false))) else (some false)) else (if t148 = true then (if a0 = a1 then (if x6_13 = 0 then ((wrap_Over.f a0 a1).bind fun t158 => (if t158 = 0 then (some true) else ((wrap_Over.f a1 a0).bind fun t159 => (some (t159 == 0))))) else (some false)) else (if x6_13 = 1 then ((wrap_Over.f a0 a1).bind fun t160 => (if t160 = 0 then (some true) else ((wrap_Over.f a1 a0).bind fun t161 => (some (t161 == 0))))) else (some false))) else (some false))) = some r := H
        have A17 := Aside0.mk A170
        clear A170
        by_cases c18 : t153 = true
        · subst c18
          have H1 : (if t148 = true then (if a0 = a1 then (if (wrap64 (x6_13 + 1)) = 0 then ((wrap_Over.f a0 a1).bind fun t154 => (if t154 = 0 then (some true) else ((wrap_Over.f a1 a0).bind fun t155 => (some (t155 == 0))))) else (some false)) else (if (wrap64 (x6_13 + 1)) = 1 then ((wrap_Over.f a0 a1).bind fun t156 => (if t156 = 0 then (some true) else ((wrap_Over.f a1 a0).bind fun t157 => (some (t157 == 0))))) else (some false))) else (some false)) = some r := by rw [if_pos rfl] at H; exact H
          clear H
          have H := H1
          clear H1
          by_cases c19 : t148 = true
          · subst c19
            have H1 : (if a0 = a1 then (if (wrap64 (x6_13 + 1)) = 0 then ((wrap_Over.f a0 a1).bind fun t154 => (if t154 = 0 then (some true) else ((wrap_Over.f a1 a0).bind fun t155 => (some (t155 == 0))))) else (some false)) else (if (wrap64 (x6_13 + 1)) = 1 then ((wrap_Over.f a0 a1).bind fun t156 => (if t156 = 0 then (some true) else ((wrap_Over.f a1 a0).bind fun t157 => (some (t157 == 0))))) else (some false))) = some r := by rw [if_pos rfl] at H; exact H
            clear H
            have H := H1
            clear H1
            by_cases c20 : a0 = a1
            · rw [if_pos c20] at H
              have c20b0 : (a0 == a1) = true := beq_iff_eq.mpr c20
              have c20b1 : (a0 != a1) = false := bne_eq_false_iff_eq.mpr c20
              clear c20
              by_cases c21 : (wrap64 (x6_13 + 1)) = 0
              · rw [if_pos c21] at H
                have c21b0 : ((wrap64 (x6_13 + 1)) == 0) = true := beq_iff_eq.mpr c21
                have c21b1 : ((wrap64 (x6_13 + 1)) != 0) = false := bne_eq_false_iff_eq.mpr c21
                clear c21
                replace H := Option.bind_eq_some_iff.mp H
                obtain ⟨t154, A220, H⟩ := H
                replace H : (if t154 = 0 then (some true) else ((wrap_Over.f a1 a0).bind fun t155 => (some (t155 == 0)))) = some r := H
                have A22 := Aside0.mk A220
                clear A220
                by_cases c23 : t154 = 0
                · rw [if_pos c23] at H
                  have c23b0 : (t154 == 0) = true := beq_iff_eq.mpr c23
                  have c23b1 : (t154 != 0) = false := bne_eq_false_iff_eq.mpr c23
                  clear c23
                  obtain rfl := Option.some.inj H
                  go_wp2_with (first | ((with_reducible refine gate_callee (f := 19) rfl ?_); refine goesL_ (some 32) rfl rfl Try.func19 (by kernel_rfl) rfl #[.int .u32 a1, .int .u32 a0] rfl (by (try simp only [List.map_toArray, List.map_cons, List.map_nil]); first | done | rfl | (simp only [List.length_drop, List.length_take]; rfl)) ?_; (with_reducible refine (wrap_Ahead.calls a1 a0 true _ A17.out).mono ?_); rintro e w' ⟨rfl, ⟨nd, rfl⟩⟩; refine ⟨_, rfl, ?_⟩) | (go_at_call 21; (with_reducible refine (wrap_Over.calls a0 a1 t154 _ A22.out).mono ?_); rintro e w' ⟨rfl, ⟨nd, rfl⟩⟩))
                  go_ret
                  exact ⟨by first | rfl | (simp [errW_none, errW_some] <;> rfl) | (simp [*, errW_none, errW_some] <;> rfl), by repeat (first | (with_reducible first | exact HB.out | apply below_alloc | apply pw_below_drewN | apply below_drew1) | exact HB.out)⟩
                · rw [if_neg c23] at H
                  have c23b0 : (t154 == 0) = false := beq_eq_false_iff_ne.mpr c23
                  have c23b1 : (t154 != 0) = true := bne_iff_ne.mpr c23
                  replace H := Option.bind_eq_some_iff.mp H
                  obtain ⟨t155, A240, H⟩ := H
                  replace H : (some (t155 == 0)) = some r := H
                  have A24 := Aside0.mk A240
                  clear A240
                  obtain rfl := Option.some.inj H
                  go_wp2_with (first | ((with_reducible refine gate_callee (f := 19) rfl ?_); refine goesL_ (some 32) rfl rfl Try.func19 (by kernel_rfl) rfl #[.int .u32 a1, .int .u32 a0] rfl (by (try simp only [List.map_toArray, List.map_cons, List.map_nil]); first | done | rfl | (simp only [List.length_drop, List.length_take]; rfl)) ?_; (with_reducible refine (wrap_Ahead.calls a1 a0 true _ A17.out).mono ?_); rintro e w' ⟨rfl, ⟨nd, rfl⟩⟩; refine ⟨_, rfl, ?_⟩) | (go_at_call 21; (with_reducible refine (wrap_Over.calls a0 a1 t154 _ A22.out).mono ?_); rintro e w' ⟨rfl, ⟨nd, rfl⟩⟩) | (go_at_call 21; (with_reducible refine (wrap_Over.calls a1 a0 t155 _ A24.out).mono ?_); rintro e w' ⟨rfl, ⟨nd, rfl⟩⟩))
                  go_ret
                  exact ⟨by first | rfl | (simp [errW_none, errW_some] <;> rfl) | (simp [*, errW_none, errW_some] <;> rfl), by repeat (first | (with_reducible first | exact HB.out | apply below_alloc | apply pw_below_drewN | apply below_drew1) | exact HB.out)⟩
              · rw [if_neg c21] at H
                have c21b0 : ((wrap64 (x6_13 + 1)) == 0) = false := beq_eq_false_iff_ne.mpr c21
                have c21b1 : ((wrap64 (x6_13 + 1)) != 0) = true := bne_iff_ne.mpr c21
                obtain rfl := Option.some.inj H
                go_wp2_with (first | ((with_reducible refine gate_callee (f := 19) rfl ?_); refine goesL_ (some 32) rfl rfl Try.func19 (by kernel_rfl) rfl #[.int .u32 a1, .int .u32 a0] rfl (by (try simp only [List.map_toArray, List.map_cons, List.map_nil]); first | done | rfl | (simp only [List.length_drop, List.length_take]; rfl)) ?_; (with_reducible refine (wrap_Ahead.calls a1 a0 true _ A17.out).mono ?_); rintro e w' ⟨rfl, ⟨nd, rfl⟩⟩; refine ⟨_, rfl, ?_⟩))
                go_ret
                exact ⟨by first | rfl | (simp [errW_none, errW_some] <;> rfl) | (simp [*, errW_none, errW_some] <;> rfl), by repeat (first | (with_reducible first | exact HB.out | apply below_alloc | apply pw_below_drewN | apply below_drew1) | exact HB.out)⟩
            · rw [if_neg c20] at H
              have c20b0 : (a0 == a1) = false := beq_eq_false_iff_ne.mpr c20
              have c20b1 : (a0 != a1) = true := bne_iff_ne.mpr c20
              by_cases c25 : (wrap64 (x6_13 + 1)) = 1
              · rw [if_pos c25] at H
                have c25b0 : ((wrap64 (x6_13 + 1)) == 1) = true := beq_iff_eq.mpr c25
                have c25b1 : ((wrap64 (x6_13 + 1)) != 1) = false := bne_eq_false_iff_eq.mpr c25
                clear c25
                replace H := Option.bind_eq_some_iff.mp H
                obtain ⟨t156, A260, H⟩ := H
                replace H : (if t156 = 0 then (some true) else ((wrap_Over.f a1 a0).bind fun t157 => (some (t157 == 0)))) = some r := H
                have A26 := Aside0.mk A260
                clear A260
                by_cases c27 : t156 = 0
                · rw [if_pos c27] at H
                  have c27b0 : (t156 == 0) = true := beq_iff_eq.mpr c27
                  have c27b1 : (t156 != 0) = false := bne_eq_false_iff_eq.mpr c27
                  clear c27
                  obtain rfl := Option.some.inj H
                  go_wp2_with (first | ((with_reducible refine gate_callee (f := 19) rfl ?_); refine goesL_ (some 32) rfl rfl Try.func19 (by kernel_rfl) rfl #[.int .u32 a1, .int .u32 a0] rfl (by (try simp only [List.map_toArray, List.map_cons, List.map_nil]); first | done | rfl | (simp only [List.length_drop, List.length_take]; rfl)) ?_; (with_reducible refine (wrap_Ahead.calls a1 a0 true _ A17.out).mono ?_); rintro e w' ⟨rfl, ⟨nd, rfl⟩⟩; refine ⟨_, rfl, ?_⟩) | (go_at_call 21; (with_reducible refine (wrap_Over.calls a0 a1 t156 _ A26.out).mono ?_); rintro e w' ⟨rfl, ⟨nd, rfl⟩⟩))
                  go_ret
                  exact ⟨by first | rfl | (simp [errW_none, errW_some] <;> rfl) | (simp [*, errW_none, errW_some] <;> rfl), by repeat (first | (with_reducible first | exact HB.out | apply below_alloc | apply pw_below_drewN | apply below_drew1) | exact HB.out)⟩
                · rw [if_neg c27] at H
                  have c27b0 : (t156 == 0) = false := beq_eq_false_iff_ne.mpr c27
                  have c27b1 : (t156 != 0) = true := bne_iff_ne.mpr c27
                  replace H := Option.bind_eq_some_iff.mp H
                  obtain ⟨t157, A280, H⟩ := H
                  replace H : (some (t157 == 0)) = some r := H
                  have A28 := Aside0.mk A280
                  clear A280
                  obtain rfl := Option.some.inj H
                  go_wp2_with (first | ((with_reducible refine gate_callee (f := 19) rfl ?_); refine goesL_ (some 32) rfl rfl Try.func19 (by kernel_rfl) rfl #[.int .u32 a1, .int .u32 a0] rfl (by (try simp only [List.map_toArray, List.map_cons, List.map_nil]); first | done | rfl | (simp only [List.length_drop, List.length_take]; rfl)) ?_; (with_reducible refine (wrap_Ahead.calls a1 a0 true _ A17.out).mono ?_); rintro e w' ⟨rfl, ⟨nd, rfl⟩⟩; refine ⟨_, rfl, ?_⟩) | (go_at_call 21; (with_reducible refine (wrap_Over.calls a0 a1 t156 _ A26.out).mono ?_); rintro e w' ⟨rfl, ⟨nd, rfl⟩⟩) | (go_at_call 21; (with_reducible refine (wrap_Over.calls a1 a0 t157 _ A28.out).mono ?_); rintro e w' ⟨rfl, ⟨nd, rfl⟩⟩))
                  go_ret
                  exact ⟨by first | rfl | (simp [errW_none, errW_some] <;> rfl) | (simp [*, errW_none, errW_some] <;> rfl), by repeat (first | (with_reducible first | exact HB.out | apply below_alloc | apply pw_below_drewN | apply below_drew1) | exact HB.out)⟩
              · rw [if_neg c25] at H
                have c25b0 : ((wrap64 (x6_13 + 1)) == 1) = false := beq_eq_false_iff_ne.mpr c25
                have c25b1 : ((wrap64 (x6_13 + 1)) != 1) = true := bne_iff_ne.mpr c25
                obtain rfl := Option.some.inj H
                go_wp2_with (first | ((with_reducible refine gate_callee (f := 19) rfl ?_); refine goesL_ (some 32) rfl rfl Try.func19 (by kernel_rfl) rfl #[.int .u32 a1, .int .u32 a0] rfl (by (try simp only [List.map_toArray, List.map_cons, List.map_nil]); first | done | rfl | (simp only [List.length_drop, List.length_take]; rfl)) ?_; (with_reducible refine (wrap_Ahead.calls a1 a0 true _ A17.out).mono ?_); rintro e w' ⟨rfl, ⟨nd, rfl⟩⟩; refine ⟨_, rfl, ?_⟩))
                go_ret
                exact ⟨by first | rfl | (simp [errW_none, errW_some] <;> rfl) | (simp [*, errW_none, errW_some] <;> rfl), by repeat (first | (with_reducible first | exact HB.out | apply below_alloc | apply pw_below_drewN | apply below_drew1) | exact HB.out)⟩
          · replace c19 := Bool.eq_false_iff.mpr c19
            subst c19
            have H1 : (some false) = some r := by rw [if_neg (show ¬ (false = true) by decide)] at H; exact H
            clear H
            have H := H1
            clear H1
            obtain rfl := Option.some.inj H
            go_wp2_with (first | ((with_reducible refine gate_callee (f := 19) rfl ?_); refine goesL_ (some 32) rfl rfl Try.func19 (by kernel_rfl) rfl #[.int .u32 a1, .int .u32 a0] rfl (by (try simp only [List.map_toArray, List.map_cons, List.map_nil]); first | done | rfl | (simp only [List.length_drop, List.length_take]; rfl)) ?_; (with_reducible refine (wrap_Ahead.calls a1 a0 true _ A17.out).mono ?_); rintro e w' ⟨rfl, ⟨nd, rfl⟩⟩; refine ⟨_, rfl, ?_⟩))
            go_ret
            exact ⟨by first | rfl | (simp [errW_none, errW_some] <;> rfl) | (simp [*, errW_none, errW_some] <;> rfl), by repeat (first | (with_reducible first | exact HB.out | apply below_alloc | apply pw_below_drewN | apply below_drew1) | exact HB.out)⟩
        · replace c18 := Bool.eq_false_iff.mpr c18
          subst c18
          have H1 : (if t148 = true then (if a0 = a1 then (if x6_13 = 0 then ((wrap_Over.f a0 a1).bind fun t158 => (if t158 = 0 then (some true) else ((wrap_Over.f a1 a0).bind fun t159 => (some (t159 == 0))))) else (some false)) else (if x6_13 = 1 then ((wrap_Over.f a0 a1).bind fun t160 => (if t160 = 0 then (some true) else ((wrap_Over.f a1 a0).bind fun t161 => (some (t161 == 0))))) else (some false))) else (some false)) = some r := by rw [if_neg (show ¬ (false = true) by decide)] at H; exact H
          clear H
          have H := H1
          clear H1
          by_cases c29 : t148 = true
          · subst c29
            have H1 : (if a0 = a1 then (if x6_13 = 0 then ((wrap_Over.f a0 a1).bind fun t158 => (if t158 = 0 then (some true) else ((wrap_Over.f a1 a0).bind fun t159 => (some (t159 == 0))))) else (some false)) else (if x6_13 = 1 then ((wrap_Over.f a0 a1).bind fun t160 => (if t160 = 0 then (some true) else ((wrap_Over.f a1 a0).bind fun t161 => (some (t161 == 0))))) else (some false))) = some r := by rw [if_pos rfl] at H; exact H
            clear H
            have H := H1
            clear H1
            by_cases c30 : a0 = a1
            · rw [if_pos c30] at H
              have c30b0 : (a0 == a1) = true := beq_iff_eq.mpr c30
              have c30b1 : (a0 != a1) = false := bne_eq_false_iff_eq.mpr c30
              clear c30
              by_cases c31 : x6_13 = 0
              · rw [if_pos c31] at H
                have c31b0 : (x6_13 == 0) = true := beq_iff_eq.mpr c31
                have c31b1 : (x6_13 != 0) = false := bne_eq_false_iff_eq.mpr c31
                clear c31
                replace H := Option.bind_eq_some_iff.mp H
                obtain ⟨t158, A320, H⟩ := H
                replace H : (if t158 = 0 then (some true) else ((wrap_Over.f a1 a0).bind fun t159 => (some (t159 == 0)))) = some r := H
                have A32 := Aside0.mk A320
                clear A320
                by_cases c33 : t158 = 0
                · rw [if_pos c33] at H
                  have c33b0 : (t158 == 0) = true := beq_iff_eq.mpr c33
                  have c33b1 : (t158 != 0) = false := bne_eq_false_iff_eq.mpr c33
                  clear c33
                  obtain rfl := Option.some.inj H
                  go_wp2_with (first | ((with_reducible refine gate_callee (f := 19) rfl ?_); refine goesL_ (some 32) rfl rfl Try.func19 (by kernel_rfl) rfl #[.int .u32 a1, .int .u32 a0] rfl (by (try simp only [List.map_toArray, List.map_cons, List.map_nil]); first | done | rfl | (simp only [List.length_drop, List.length_take]; rfl)) ?_; (with_reducible refine (wrap_Ahead.calls a1 a0 false _ A17.out).mono ?_); rintro e w' ⟨rfl, ⟨nd, rfl⟩⟩; refine ⟨_, rfl, ?_⟩) | (go_at_call 21; (with_reducible refine (wrap_Over.calls a0 a1 t158 _ A32.out).mono ?_); rintro e w' ⟨rfl, ⟨nd, rfl⟩⟩))
                  go_ret
                  exact ⟨by first | rfl | (simp [errW_none, errW_some] <;> rfl) | (simp [*, errW_none, errW_some] <;> rfl), by repeat (first | (with_reducible first | exact HB.out | apply below_alloc | apply pw_below_drewN | apply below_drew1) | exact HB.out)⟩
                · rw [if_neg c33] at H
                  have c33b0 : (t158 == 0) = false := beq_eq_false_iff_ne.mpr c33
                  have c33b1 : (t158 != 0) = true := bne_iff_ne.mpr c33
                  replace H := Option.bind_eq_some_iff.mp H
                  obtain ⟨t159, A340, H⟩ := H
                  replace H : (some (t159 == 0)) = some r := H
                  have A34 := Aside0.mk A340
                  clear A340
                  obtain rfl := Option.some.inj H
                  go_wp2_with (first | ((with_reducible refine gate_callee (f := 19) rfl ?_); refine goesL_ (some 32) rfl rfl Try.func19 (by kernel_rfl) rfl #[.int .u32 a1, .int .u32 a0] rfl (by (try simp only [List.map_toArray, List.map_cons, List.map_nil]); first | done | rfl | (simp only [List.length_drop, List.length_take]; rfl)) ?_; (with_reducible refine (wrap_Ahead.calls a1 a0 false _ A17.out).mono ?_); rintro e w' ⟨rfl, ⟨nd, rfl⟩⟩; refine ⟨_, rfl, ?_⟩) | (go_at_call 21; (with_reducible refine (wrap_Over.calls a0 a1 t158 _ A32.out).mono ?_); rintro e w' ⟨rfl, ⟨nd, rfl⟩⟩) | (go_at_call 21; (with_reducible refine (wrap_Over.calls a1 a0 t159 _ A34.out).mono ?_); rintro e w' ⟨rfl, ⟨nd, rfl⟩⟩))
                  go_ret
                  exact ⟨by first | rfl | (simp [errW_none, errW_some] <;> rfl) | (simp [*, errW_none, errW_some] <;> rfl), by repeat (first | (with_reducible first | exact HB.out | apply below_alloc | apply pw_below_drewN | apply below_drew1) | exact HB.out)⟩
              · rw [if_neg c31] at H
                have c31b0 : (x6_13 == 0) = false := beq_eq_false_iff_ne.mpr c31
                have c31b1 : (x6_13 != 0) = true := bne_iff_ne.mpr c31
                obtain rfl := Option.some.inj H
                go_wp2_with (first | ((with_reducible refine gate_callee (f := 19) rfl ?_); refine goesL_ (some 32) rfl rfl Try.func19 (by kernel_rfl) rfl #[.int .u32 a1, .int .u32 a0] rfl (by (try simp only [List.map_toArray, List.map_cons, List.map_nil]); first | done | rfl | (simp only [List.length_drop, List.length_take]; rfl)) ?_; (with_reducible refine (wrap_Ahead.calls a1 a0 false _ A17.out).mono ?_); rintro e w' ⟨rfl, ⟨nd, rfl⟩⟩; refine ⟨_, rfl, ?_⟩))
                go_ret
                exact ⟨by first | rfl | (simp [errW_none, errW_some] <;> rfl) | (simp [*, errW_none, errW_some] <;> rfl), by repeat (first | (with_reducible first | exact HB.out | apply below_alloc | apply pw_below_drewN | apply below_drew1) | exact HB.out)⟩
            · rw [if_neg c30] at H
              have c30b0 : (a0 == a1) = false := beq_eq_false_iff_ne.mpr c30
              have c30b1 : (a0 != a1) = true := bne_iff_ne.mpr c30
              by_cases c35 : x6_13 = 1
              · rw [if_pos c35] at H
                have c35b0 : (x6_13 == 1) = true := beq_iff_eq.mpr c35
                have c35b1 : (x6_13 != 1) = false := bne_eq_false_iff_eq.mpr c35
                clear c35
                replace H := Option.bind_eq_some_iff.mp H
                obtain ⟨t160, A360, H⟩ := H
                replace H : (if t160 = 0 then (some true) else ((wrap_Over.f a1 a0).bind fun t161 => (some (t161 == 0)))) = some r := H
                have A36 := Aside0.mk A360
                clear A360
                by_cases c37 : t160 = 0
                · rw [if_pos c37] at H
                  have c37b0 : (t160 == 0) = true := beq_iff_eq.mpr c37
                  have c37b1 : (t160 != 0) = false := bne_eq_false_iff_eq.mpr c37
                  clear c37
                  obtain rfl := Option.some.inj H
                  go_wp2_with (first | ((with_reducible refine gate_callee (f := 19) rfl ?_); refine goesL_ (some 32) rfl rfl Try.func19 (by kernel_rfl) rfl #[.int .u32 a1, .int .u32 a0] rfl (by (try simp only [List.map_toArray, List.map_cons, List.map_nil]); first | done | rfl | (simp only [List.length_drop, List.length_take]; rfl)) ?_; (with_reducible refine (wrap_Ahead.calls a1 a0 false _ A17.out).mono ?_); rintro e w' ⟨rfl, ⟨nd, rfl⟩⟩; refine ⟨_, rfl, ?_⟩) | (go_at_call 21; (with_reducible refine (wrap_Over.calls a0 a1 t160 _ A36.out).mono ?_); rintro e w' ⟨rfl, ⟨nd, rfl⟩⟩))
                  go_ret
                  exact ⟨by first | rfl | (simp [errW_none, errW_some] <;> rfl) | (simp [*, errW_none, errW_some] <;> rfl), by repeat (first | (with_reducible first | exact HB.out | apply below_alloc | apply pw_below_drewN | apply below_drew1) | exact HB.out)⟩
                · rw [if_neg c37] at H
                  have c37b0 : (t160 == 0) = false := beq_eq_false_iff_ne.mpr c37
                  have c37b1 : (t160 != 0) = true := bne_iff_ne.mpr c37
                  replace H := Option.bind_eq_some_iff.mp H
                  obtain ⟨t161, A380, H⟩ := H
                  replace H : (some (t161 == 0)) = some r := H
                  have A38 := Aside0.mk A380
                  clear A380
                  obtain rfl := Option.some.inj H
                  go_wp2_with (first | ((with_reducible refine gate_callee (f := 19) rfl ?_); refine goesL_ (some 32) rfl rfl Try.func19 (by kernel_rfl) rfl #[.int .u32 a1, .int .u32 a0] rfl (by (try simp only [List.map_toArray, List.map_cons, List.map_nil]); first | done | rfl | (simp only [List.length_drop, List.length_take]; rfl)) ?_; (with_reducible refine (wrap_Ahead.calls a1 a0 false _ A17.out).mono ?_); rintro e w' ⟨rfl, ⟨nd, rfl⟩⟩; refine ⟨_, rfl, ?_⟩) | (go_at_call 21; (with_reducible refine (wrap_Over.calls a0 a1 t160 _ A36.out).mono ?_); rintro e w' ⟨rfl, ⟨nd, rfl⟩⟩) | (go_at_call 21; (with_reducible refine (wrap_Over.calls a1 a0 t161 _ A38.out).mono ?_); rintro e w' ⟨rfl, ⟨nd, rfl⟩⟩))
                  go_ret
                  exact ⟨by first | rfl | (simp [errW_none, errW_some] <;> rfl) | (simp [*, errW_none, errW_some] <;> rfl), by repeat (first | (with_reducible first | exact HB.out | apply below_alloc | apply pw_below_drewN | apply below_drew1) | exact HB.out)⟩
              · rw [if_neg c35] at H
                have c35b0 : (x6_13 == 1) = false := beq_eq_false_iff_ne.mpr c35
                have c35b1 : (x6_13 != 1) = true := bne_iff_ne.mpr c35
                obtain rfl := Option.some.inj H
                go_wp2_with (first | ((with_reducible refine gate_callee (f := 19) rfl ?_); refine goesL_ (some 32) rfl rfl Try.func19 (by kernel_rfl) rfl #[.int .u32 a1, .int .u32 a0] rfl (by (try simp only [List.map_toArray, List.map_cons, List.map_nil]); first | done | rfl | (simp only [List.length_drop, List.length_take]; rfl)) ?_; (with_reducible refine (wrap_Ahead.calls a1 a0 false _ A17.out).mono ?_); rintro e w' ⟨rfl, ⟨nd, rfl⟩⟩; refine ⟨_, rfl, ?_⟩))
                go_ret
                exact ⟨by first | rfl | (simp [errW_none, errW_some] <;> rfl) | (simp [*, errW_none, errW_some] <;> rfl), by repeat (first | (with_reducible first | exact HB.out | apply below_alloc | apply pw_below_drewN | apply below_drew1) | exact HB.out)⟩
          · replace c29 := Bool.eq_false_iff.mpr c29
            subst c29
            have H1 : (some false) = some r := by rw [if_neg (show ¬ (false = true) by decide)] at H; exact H
            clear H
            have H := H1
            clear H1
            obtain rfl := Option.some.inj H
            go_wp2_with (first | ((with_reducible refine gate_callee (f := 19) rfl ?_); refine goesL_ (some 32) rfl rfl Try.func19 (by kernel_rfl) rfl #[.int .u32 a1, .int .u32 a0] rfl (by (try simp only [List.map_toArray, List.map_cons, List.map_nil]); first | done | rfl | (simp only [List.length_drop, List.length_take]; rfl)) ?_; (with_reducible refine (wrap_Ahead.calls a1 a0 false _ A17.out).mono ?_); rintro e w' ⟨rfl, ⟨nd, rfl⟩⟩; refine ⟨_, rfl, ?_⟩))
            go_ret
            exact ⟨by first | rfl | (simp [errW_none, errW_some] <;> rfl) | (simp [*, errW_none, errW_some] <;> rfl), by repeat (first | (with_reducible first | exact HB.out | apply below_alloc | apply pw_below_drewN | apply below_drew1) | exact HB.out)⟩

/-- THE ONE PURE STATEMENT of waymasterlaw01_WrapOrders: yours. -/
def waymasterlaw01_WrapOrders.Pure : Prop := ∀ (a0 : Int) (a1 : Int), (Lit.int .u32 a0).wf = true → (Lit.int .u32 a1).wf = true → ∃ k, waymasterlaw01_WrapOrders.f k a0 a1 = some true
theorem waymasterlaw01_WrapOrders.walk (P : waymasterlaw01_WrapOrders.Pure) (a0 : Int) (a1 : Int) (w : World) (w0 : (Lit.int .u32 a0).wf = true) (w1 : (Lit.int .u32 a1).wf = true) :
    Calls Try.prog 7 #[.int .u32 a0, .int .u32 a1] w fun e w' => e = .returned (.bool true) ∧ Below w.heap.size w w' := by
  obtain ⟨k, h⟩ := P a0 a1 w0 w1
  refine (waymasterlaw01_WrapOrders.calls k a0 a1 true w h).mono ?_
  rintro e w' ⟨rfl, hd⟩
  exact ⟨rfl, hd⟩

end Go.Proofs.Ytihonionnfeagaa.QL
