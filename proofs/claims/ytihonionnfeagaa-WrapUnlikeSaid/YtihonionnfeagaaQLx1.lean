/- Functions of the program as Lean functions, and the walks that show it, written by a program of this session on the base of the kit printer; Lean checks all of it. -/
import Derived.Test.YtihonionnfeagaaQLx0
namespace Go.Proofs.Ytihonionnfeagaa.QL
open Go.Proofs.Ytihonionnfeagaa.H
open Go.Proofs.Ytihonionnfeagaa.QB
open Go.RowKit Go.Proofs.YtihonionnfeagaaW.PrintWords Go.Proofs.YtihonionnfeagaaW.PrintLast Go.Proofs.YtihonionnfeagaaW.PrintMore
attribute [local go_sem] max2_int min2_int max_two min_two max_three min_three max_four min_four   -- for this text's walks alone
set_option linter.unusedVariables false
set_option linter.unusedSimpArgs false




/-! ### wrap_Ahead: function 19 -/
def wrap_Ahead.f (a0 : Int) (a1 : Int) : Option (Bool) := some (decide ((wrap32 ((a1 - a0) % 4294967296)) > 0))
set_option maxHeartbeats 8000000 in
set_option maxRecDepth 100000 in
theorem wrap_Ahead.calls (a0 : Int) (a1 : Int) (r : Bool) (w : World) (h : wrap_Ahead.f a0 a1 = some r) :
    Calls Try.prog 19 #[.int .u32 a0, .int .u32 a1] w fun e w' => e = .returned (.bool r) ∧ Drawn0 w w' := by
  have H : (some (decide ((wrap32 ((a1 - a0) % 4294967296)) > 0))) = some r := h
  clear h
  obtain rfl := Option.some.inj H
  go_enter Try.func19, Try.ntmps19
  go_wp2
  go_ret
  exact ⟨by first | rfl | (simp; done) | (simp [*]; done), by repeat (first | exact Drawn0.refl _ | apply Drawn0.step)⟩

/-! ### waymasterlaw01_shown: function 10 -/
def waymasterlaw01_shown.f  : Option (Bool) := (wrap_Room.f 2 4294967295 4).bind fun bt101 => ((wrap_Slot.f 5 3).bind fun bt103 => ((wrap_Far.f 4294967295 2).bind fun t105 => (if t105 = 3 then ((wrap_Ahead.f 4294967295 2).bind fun t106 => (if t106 = true then (if bt101.1 = 1 then (if bt101.2 = 0 then (some (bt103.2 == 2)) else (some false)) else (some false)) else (some false))) else (some false))))
set_option maxHeartbeats 8000000 in
set_option maxRecDepth 100000 in
theorem waymasterlaw01_shown.calls  (r : Bool) (w : World) (h : waymasterlaw01_shown.f  = some r) :
    Calls Try.prog 10 #[] w fun e w' => e = .returned (.bool r) ∧ Below w.heap.size w w' := by
  have HB := Aside0.mk (Below.refl w.heap.size w)
  have H : ((wrap_Room.f 2 4294967295 4).bind fun bt101 => ((wrap_Slot.f 5 3).bind fun bt103 => ((wrap_Far.f 4294967295 2).bind fun t105 => (if t105 = 3 then ((wrap_Ahead.f 4294967295 2).bind fun t106 => (if t106 = true then (if bt101.1 = 1 then (if bt101.2 = 0 then (some (bt103.2 == 2)) else (some false)) else (some false)) else (some false))) else (some false))))) = some r := h
  clear h
  replace H := Option.bind_eq_some_iff.mp H
  obtain ⟨⟨t101, t102⟩, A10, H⟩ := H
  replace H : ((wrap_Slot.f 5 3).bind fun bt103 => ((wrap_Far.f 4294967295 2).bind fun t105 => (if t105 = 3 then ((wrap_Ahead.f 4294967295 2).bind fun t106 => (if t106 = true then (if t101 = 1 then (if t102 = 0 then (some (bt103.2 == 2)) else (some false)) else (some false)) else (some false))) else (some false)))) = some r := H
  have A1 := Aside0.mk A10
  clear A10
  replace H := Option.bind_eq_some_iff.mp H
  obtain ⟨⟨t103, t104⟩, A20, H⟩ := H
  replace H : ((wrap_Far.f 4294967295 2).bind fun t105 => (if t105 = 3 then ((wrap_Ahead.f 4294967295 2).bind fun t106 => (if t106 = true then (if t101 = 1 then (if t102 = 0 then (some (t104 == 2)) else (some false)) else (some false)) else (some false))) else (some false))) = some r := H
  have A2 := Aside0.mk A20
  clear A20
  replace H := Option.bind_eq_some_iff.mp H
  obtain ⟨t105, A30, H⟩ := H
  replace H : (if t105 = 3 then ((wrap_Ahead.f 4294967295 2).bind fun t106 => (if t106 = true then (if t101 = 1 then (if t102 = 0 then (some (t104 == 2)) else (some false)) else (some false)) else (some false))) else (some false)) = some r := H
  have A3 := Aside0.mk A30
  clear A30
  by_cases c4 : t105 = 3
  · rw [if_pos c4] at H
    have c4b0 : (t105 == 3) = true := beq_iff_eq.mpr c4
    have c4b1 : (t105 != 3) = false := bne_eq_false_iff_eq.mpr c4
    clear c4
    replace H := Option.bind_eq_some_iff.mp H
    obtain ⟨t106, A50, H⟩ := H
    replace H : (if t106 = true then (if t101 = 1 then (if t102 = 0 then (some (t104 == 2)) else (some false)) else (some false)) else (some false)) = some r := H
    have A5 := Aside0.mk A50
    clear A50
    by_cases c6 : t106 = true
    · subst c6
      have H1 : (if t101 = 1 then (if t102 = 0 then (some (t104 == 2)) else (some false)) else (some false)) = some r := by rw [if_pos rfl] at H; exact H
      clear H
      have H := H1
      clear H1
      by_cases c7 : t101 = 1
      · rw [if_pos c7] at H
        have c7b0 : (t101 == 1) = true := beq_iff_eq.mpr c7
        have c7b1 : (t101 != 1) = false := bne_eq_false_iff_eq.mpr c7
        clear c7
        by_cases c8 : t102 = 0
        · rw [if_pos c8] at H
          have c8b0 : (t102 == 0) = true := beq_iff_eq.mpr c8
          have c8b1 : (t102 != 0) = false := bne_eq_false_iff_eq.mpr c8
          clear c8
          obtain rfl := Option.some.inj H
          go_enter Try.func10, Try.ntmps10
          go_wp2_with (first | ((with_reducible refine gate_callee (f := 13) rfl ?_); refine goesL_ (some 6) rfl rfl Try.func13 (by kernel_rfl) rfl #[.int .u32 2, .int .u32 4294967295, .int .i64 4] rfl (by (try simp only [List.map_toArray, List.map_cons, List.map_nil]); first | done | rfl | (simp only [List.length_drop, List.length_take]; rfl)) ?_; (with_reducible refine (wrap_Room.calls 2 4294967295 4 t101 t102 _ A1.out).mono ?_); rintro e w9 ⟨rfl, hb⟩; refine ⟨_, rfl, ?_⟩; have n0_ := Aside0.mk (below_step (by repeat (first | (with_reducible first | exact HB.out | apply below_alloc | apply pw_below_drewN | apply below_drew1) | exact HB.out)) hb); clear HB; have HB := n0_; clear n0_; (try clear hb); (try clear hb2); (try clear hk); (try clear hi)) | ((with_reducible refine gate_callee (f := 11) rfl ?_); refine goesL_ (some 10) rfl rfl Try.func11 (by kernel_rfl) rfl #[.int .u32 5, .int .i64 3] rfl (by (try simp only [List.map_toArray, List.map_cons, List.map_nil]); first | done | rfl | (simp only [List.length_drop, List.length_take]; rfl)) ?_; (with_reducible refine (wrap_Slot.calls 5 3 t103 t104 _ A2.out).mono ?_); rintro e w10 ⟨rfl, hb⟩; refine ⟨_, rfl, ?_⟩; have n0_ := Aside0.mk (below_step (by repeat (first | (with_reducible first | exact HB.out | apply below_alloc | apply pw_below_drewN | apply below_drew1) | exact HB.out)) hb); clear HB; have HB := n0_; clear n0_; (try clear hb); (try clear hb2); (try clear hk); (try clear hi)) | ((with_reducible refine gate_callee (f := 17) rfl ?_); refine goesL_ (some 13) rfl rfl Try.func17 (by kernel_rfl) rfl #[.int .u32 4294967295, .int .u32 2] rfl (by (try simp only [List.map_toArray, List.map_cons, List.map_nil]); first | done | rfl | (simp only [List.length_drop, List.length_take]; rfl)) ?_; (with_reducible refine (wrap_Far.calls 4294967295 2 t105 _ A3.out).mono ?_); rintro e w' ⟨rfl, ⟨nd, rfl⟩⟩; refine ⟨_, rfl, ?_⟩) | (go_at_call 19; (with_reducible refine (wrap_Ahead.calls 4294967295 2 true _ A5.out).mono ?_); rintro e w' ⟨rfl, ⟨nd, rfl⟩⟩))
          go_ret
          exact ⟨by first | rfl | (simp [errW_none, errW_some] <;> rfl) | (simp [*, errW_none, errW_some] <;> rfl), by repeat (first | (with_reducible first | exact HB.out | apply below_alloc | apply pw_below_drewN | apply below_drew1) | exact HB.out)⟩
        · rw [if_neg c8] at H
          have c8b0 : (t102 == 0) = false := beq_eq_false_iff_ne.mpr c8
          have c8b1 : (t102 != 0) = true := bne_iff_ne.mpr c8
          obtain rfl := Option.some.inj H
          go_enter Try.func10, Try.ntmps10
          go_wp2_with (first | ((with_reducible refine gate_callee (f := 13) rfl ?_); refine goesL_ (some 6) rfl rfl Try.func13 (by kernel_rfl) rfl #[.int .u32 2, .int .u32 4294967295, .int .i64 4] rfl (by (try simp only [List.map_toArray, List.map_cons, List.map_nil]); first | done | rfl | (simp only [List.length_drop, List.length_take]; rfl)) ?_; (with_reducible refine (wrap_Room.calls 2 4294967295 4 t101 t102 _ A1.out).mono ?_); rintro e w11 ⟨rfl, hb⟩; refine ⟨_, rfl, ?_⟩; have n0_ := Aside0.mk (below_step (by repeat (first | (with_reducible first | exact HB.out | apply below_alloc | apply pw_below_drewN | apply below_drew1) | exact HB.out)) hb); clear HB; have HB := n0_; clear n0_; (try clear hb); (try clear hb2); (try clear hk); (try clear hi)) | ((with_reducible refine gate_callee (f := 11) rfl ?_); refine goesL_ (some 10) rfl rfl Try.func11 (by kernel_rfl) rfl #[.int .u32 5, .int .i64 3] rfl (by (try simp only [List.map_toArray, List.map_cons, List.map_nil]); first | done | rfl | (simp only [List.length_drop, List.length_take]; rfl)) ?_; (with_reducible refine (wrap_Slot.calls 5 3 t103 t104 _ A2.out).mono ?_); rintro e w12 ⟨rfl, hb⟩; refine ⟨_, rfl, ?_⟩; have n0_ := Aside0.mk (below_step (by repeat (first | (with_reducible first | exact HB.out | apply below_alloc | apply pw_below_drewN | apply below_drew1) | exact HB.out)) hb); clear HB; have HB := n0_; clear n0_; (try clear hb); (try clear hb2); (try clear hk); (try clear hi)) | ((with_reducible refine gate_callee (f := 17) rfl ?_); refine goesL_ (some 13) rfl rfl Try.func17 (by kernel_rfl) rfl #[.int .u32 4294967295, .int .u32 2] rfl (by (try simp only [List.map_toArray, List.map_cons, List.map_nil]); first | done | rfl | (simp only [List.length_drop, List.length_take]; rfl)) ?_; (with_reducible refine (wrap_Far.calls 4294967295 2 t105 _ A3.out).mono ?_); rintro e w' ⟨rfl, ⟨nd, rfl⟩⟩; refine ⟨_, rfl, ?_⟩) | (go_at_call 19; (with_reducible refine (wrap_Ahead.calls 4294967295 2 true _ A5.out).mono ?_); rintro e w' ⟨rfl, ⟨nd, rfl⟩⟩))
          go_ret
          exact ⟨by first | rfl | (simp [errW_none, errW_some] <;> rfl) | (simp [*, errW_none, errW_some] <;> rfl), by repeat (first | (with_reducible first | exact HB.out | apply below_alloc | apply pw_below_drewN | apply below_drew1) | exact HB.out)⟩
      · rw [if_neg c7] at H
        have c7b0 : (t101 == 1) = false := beq_eq_false_iff_ne.mpr c7
        have c7b1 : (t101 != 1) = true := bne_iff_ne.mpr c7
        obtain rfl := Option.some.inj H
        go_enter Try.func10, Try.ntmps10
        go_wp2_with (first | ((with_reducible refine gate_callee (f := 13) rfl ?_); refine goesL_ (some 6) rfl rfl Try.func13 (by kernel_rfl) rfl #[.int .u32 2, .int .u32 4294967295, .int .i64 4] rfl (by (try simp only [List.map_toArray, List.map_cons, List.map_nil]); first | done | rfl | (simp only [List.length_drop, List.length_take]; rfl)) ?_; (with_reducible refine (wrap_Room.calls 2 4294967295 4 t101 t102 _ A1.out).mono ?_); rintro e w13 ⟨rfl, hb⟩; refine ⟨_, rfl, ?_⟩; have n0_ := Aside0.mk (below_step (by repeat (first | (with_reducible first | exact HB.out | apply below_alloc | apply pw_below_drewN | apply below_drew1) | exact HB.out)) hb); clear HB; have HB := n0_; clear n0_; (try clear hb); (try clear hb2); (try clear hk); (try clear hi)) | ((with_reducible refine gate_callee (f := 11) rfl ?_); refine goesL_ (some 10) rfl rfl Try.func11 (by kernel_rfl) rfl #[.int .u32 5, .int .i64 3] rfl (by (try simp only [List.map_toArray, List.map_cons, List.map_nil]); first | done | rfl | (simp only [List.length_drop, List.length_take]; rfl)) ?_; (with_reducible refine (wrap_Slot.calls 5 3 t103 t104 _ A2.out).mono ?_); rintro e w14 ⟨rfl, hb⟩; refine ⟨_, rfl, ?_⟩; have n0_ := Aside0.mk (below_step (by repeat (first | (with_reducible first | exact HB.out | apply below_alloc | apply pw_below_drewN | apply below_drew1) | exact HB.out)) hb); clear HB; have HB := n0_; clear n0_; (try clear hb); (try clear hb2); (try clear hk); (try clear hi)) | ((with_reducible refine gate_callee (f := 17) rfl ?_); refine goesL_ (some 13) rfl rfl Try.func17 (by kernel_rfl) rfl #[.int .u32 4294967295, .int .u32 2] rfl (by (try simp only [List.map_toArray, List.map_cons, List.map_nil]); first | done | rfl | (simp only [List.length_drop, List.length_take]; rfl)) ?_; (with_reducible refine (wrap_Far.calls 4294967295 2 t105 _ A3.out).mono ?_); rintro e w' ⟨rfl, ⟨nd, rfl⟩⟩; refine ⟨_, rfl, ?_⟩) | (go_at_call 19; (with_reducible refine (wrap_Ahead.calls 4294967295 2 true _ A5.out).mono ?_); rintro e w' ⟨rfl, ⟨nd, rfl⟩⟩))
        go_ret
        exact ⟨by first | rfl | (simp [errW_none, errW_some] <;> rfl) | (simp [*, errW_none, errW_some] <;> rfl), by repeat (first | (with_reducible first | exact HB.out | apply below_alloc | apply pw_below_drewN | apply below_drew1) | exact HB.out)⟩
    · replace c6 := Bool.eq_false_iff.mpr c6
      subst c6
      have H1 : (some false) = some r := by rw [if_neg (show ¬ (false = true) by decide)] at H; exact H
      clear H
      have H := H1
      clear H1
      obtain rfl := Option.some.inj H
      go_enter Try.func10, Try.ntmps10
      go_wp2_with (first | ((with_reducible refine gate_callee (f := 13) rfl ?_); refine goesL_ (some 6) rfl rfl Try.func13 (by kernel_rfl) rfl #[.int .u32 2, .int .u32 4294967295, .int .i64 4] rfl (by (try simp only [List.map_toArray, List.map_cons, List.map_nil]); first | done | rfl | (simp only [List.length_drop, List.length_take]; rfl)) ?_; (with_reducible refine (wrap_Room.calls 2 4294967295 4 t101 t102 _ A1.out).mono ?_); rintro e w15 ⟨rfl, hb⟩; refine ⟨_, rfl, ?_⟩; have n0_ := Aside0.mk (below_step (by repeat (first | (with_reducible first | exact HB.out | apply below_alloc | apply pw_below_drewN | apply below_drew1) | exact HB.out)) hb); clear HB; have HB := n0_; clear n0_; (try clear hb); (try clear hb2); (try clear hk); (try clear hi)) | ((with_reducible refine gate_callee (f := 11) rfl ?_); refine goesL_ (some 10) rfl rfl Try.func11 (by kernel_rfl) rfl #[.int .u32 5, .int .i64 3] rfl (by (try simp only [List.map_toArray, List.map_cons, List.map_nil]); first | done | rfl | (simp only [List.length_drop, List.length_take]; rfl)) ?_; (with_reducible refine (wrap_Slot.calls 5 3 t103 t104 _ A2.out).mono ?_); rintro e w16 ⟨rfl, hb⟩; refine ⟨_, rfl, ?_⟩; have n0_ := Aside0.mk (below_step (by repeat (first | (with_reducible first | exact HB.out | apply below_alloc | apply pw_below_drewN | apply below_drew1) | exact HB.out)) hb); clear HB; have HB := n0_; clear n0_; (try clear hb); (try clear hb2); (try clear hk); (try clear hi)) | ((with_reducible refine gate_callee (f := 17) rfl ?_); refine goesL_ (some 13) rfl rfl Try.func17 (by kernel_rfl) rfl #[.int .u32 4294967295, .int .u32 2] rfl (by (try simp only [List.map_toArray, List.map_cons, List.map_nil]); first | done | rfl | (simp only [List.length_drop, List.length_take]; rfl)) ?_; (with_reducible refine (wrap_Far.calls 4294967295 2 t105 _ A3.out).mono ?_); rintro e w' ⟨rfl, ⟨nd, rfl⟩⟩; refine ⟨_, rfl, ?_⟩) | (go_at_call 19; (with_reducible refine (wrap_Ahead.calls 4294967295 2 false _ A5.out).mono ?_); rintro e w' ⟨rfl, ⟨nd, rfl⟩⟩))
      go_ret
      exact ⟨by first | rfl | (simp [errW_none, errW_some] <;> rfl) | (simp [*, errW_none, errW_some] <;> rfl), by repeat (first | (with_reducible first | exact HB.out | apply below_alloc | apply pw_below_drewN | apply below_drew1) | exact HB.out)⟩
  · rw [if_neg c4] at H
    have c4b0 : (t105 == 3) = false := beq_eq_false_iff_ne.mpr c4
    have c4b1 : (t105 != 3) = true := bne_iff_ne.mpr c4
    obtain rfl := Option.some.inj H
    go_enter Try.func10, Try.ntmps10
    go_wp2_with (first | ((with_reducible refine gate_callee (f := 13) rfl ?_); refine goesL_ (some 6) rfl rfl Try.func13 (by kernel_rfl) rfl #[.int .u32 2, .int .u32 4294967295, .int .i64 4] rfl (by (try simp only [List.map_toArray, List.map_cons, List.map_nil]); first | done | rfl | (simp only [List.length_drop, List.length_take]; rfl)) ?_; (with_reducible refine (wrap_Room.calls 2 4294967295 4 t101 t102 _ A1.out).mono ?_); rintro e w17 ⟨rfl, hb⟩; refine ⟨_, rfl, ?_⟩; have n0_ := Aside0.mk (below_step (by repeat (first | (with_reducible first | exact HB.out | apply below_alloc | apply pw_below_drewN | apply below_drew1) | exact HB.out)) hb); clear HB; have HB := n0_; clear n0_; (try clear hb); (try clear hb2); (try clear hk); (try clear hi)) | ((with_reducible refine gate_callee (f := 11) rfl ?_); refine goesL_ (some 10) rfl rfl Try.func11 (by kernel_rfl) rfl #[.int .u32 5, .int .i64 3] rfl (by (try simp only [List.map_toArray, List.map_cons, List.map_nil]); first | done | rfl | (simp only [List.length_drop, List.length_take]; rfl)) ?_; (with_reducible refine (wrap_Slot.calls 5 3 t103 t104 _ A2.out).mono ?_); rintro e w18 ⟨rfl, hb⟩; refine ⟨_, rfl, ?_⟩; have n0_ := Aside0.mk (below_step (by repeat (first | (with_reducible first | exact HB.out | apply below_alloc | apply pw_below_drewN | apply below_drew1) | exact HB.out)) hb); clear HB; have HB := n0_; clear n0_; (try clear hb); (try clear hb2); (try clear hk); (try clear hi)) | ((with_reducible refine gate_callee (f := 17) rfl ?_); refine goesL_ (some 13) rfl rfl Try.func17 (by kernel_rfl) rfl #[.int .u32 4294967295, .int .u32 2] rfl (by (try simp only [List.map_toArray, List.map_cons, List.map_nil]); first | done | rfl | (simp only [List.length_drop, List.length_take]; rfl)) ?_; (with_reducible refine (wrap_Far.calls 4294967295 2 t105 _ A3.out).mono ?_); rintro e w' ⟨rfl, ⟨nd, rfl⟩⟩; refine ⟨_, rfl, ?_⟩))
    go_ret
    exact ⟨by first | rfl | (simp [errW_none, errW_some] <;> rfl) | (simp [*, errW_none, errW_some] <;> rfl), by repeat (first | (with_reducible first | exact HB.out | apply below_alloc | apply pw_below_drewN | apply below_drew1) | exact HB.out)⟩

/-! ### waymasterref01_IsSize: function 16 -/
def waymasterref01_IsSize.l0 : Nat → Int → Int → Option (Bool)
  | 0, _, _ => none
  | k + 1, x0, x3 => if x3 ≤ 4096 then (if x0 = x3 then (some true) else (waymasterref01_IsSize.l0 k x0 (wrap64 (2 * x3)))) else (some false)
def waymasterref01_IsSize.f (k : Nat) (a0 : Int) : Option (Bool) := waymasterref01_IsSize.l0 k a0 1
theorem waymasterref01_IsSize.mono_l : ∀ k, (∀ y0 y1, LeO (waymasterref01_IsSize.l0 k y0 y1) (waymasterref01_IsSize.l0 (k + 1) y0 y1))
  | 0 => fun _ _ r h => by simp [waymasterref01_IsSize.l0] at h
  | k + 1 => by
    have ih0 := waymasterref01_IsSize.mono_l k
    · intro y0 y1
      unfold waymasterref01_IsSize.l0
      repeat' first
      | (with_reducible exact ih0 _ _)
      | (with_reducible exact LeO.refl _)
      | (with_reducible exact LeO.none _)
      | (with_reducible refine LeO.ite ?_ ?_)
      | (with_reducible refine LeO.bind ?_ (fun _ => ?_))
      | exact ih0 _ _
      | exact LeO.none _
      | refine LeO.ite ?_ ?_
      | refine LeO.bind ?_ (fun _ => ?_)
theorem waymasterref01_IsSize.mono : ∀ a0 k, LeO (waymasterref01_IsSize.f k a0) (waymasterref01_IsSize.f (k + 1) a0) := by
  intro a0 k
  have ih0 := waymasterref01_IsSize.mono_l k
  unfold waymasterref01_IsSize.f
  repeat' first
      | (with_reducible exact ih0 _ _)
      | (with_reducible exact LeO.refl _)
      | (with_reducible exact LeO.none _)
      | (with_reducible refine LeO.ite ?_ ?_)
      | (with_reducible refine LeO.bind ?_ (fun _ => ?_))
      | exact ih0 _ _
      | exact LeO.none _
      | refine LeO.ite ?_ ?_
      | refine LeO.bind ?_ (fun _ => ?_)
set_option maxHeartbeats 8000000 in
set_option maxRecDepth 100000 in
theorem waymasterref01_IsSize.calls (k : Nat) (a0 : Int) (r : Bool) (w : World) (h : waymasterref01_IsSize.f k a0 = some r) :
    Calls Try.prog 16 #[.int .i64 a0] w fun e w' => e = .returned (.bool r) ∧ Drawn0 w w' := by
  have H : (waymasterref01_IsSize.l0 k a0 1) = some r := h
  clear h
  have H' := Aside0.mk H
  clear H
  go_enter Try.func16, Try.ntmps16
  go_wp2
  go_loopg [3] k (fun kq v3 w' => ∃ (x3_1 : Int), v3 = .int .i64 x3_1 ∧ Aside0 (waymasterref01_IsSize.l0 kq a0 x3_1 = some r) ∧ Aside0 (kq ≤ k) ∧ Drawn0 w w')
  case atStart => exact ⟨(1), (by first | rfl | (simp; done) | (simp [*]; done)), H', ⟨Nat.le_refl _⟩, by repeat (first | exact Drawn0.refl _ | apply Drawn0.step)⟩
  case round =>
    clear H'
    try clear c1
    obtain ⟨x3_1, rfl, HA, HK1, ⟨m1, rfl⟩⟩ := hrel
    cases gk with
    | zero => exact absurd HA.out (by simp [waymasterref01_IsSize.l0])
    | succ k1 =>
      have H := HA.out
      clear HA
      simp only [waymasterref01_IsSize.l0] at H
      by_cases c2 : x3_1 ≤ 4096
      · rw [if_pos c2] at H
        have c2b0 : decide (x3_1 ≤ 4096) = true := decide_eq_true c2
        clear c2
        by_cases c3 : a0 = x3_1
        · rw [if_pos c3] at H
          have c3b0 : (a0 == x3_1) = true := beq_iff_eq.mpr c3
          have c3b1 : (a0 != x3_1) = false := bne_eq_false_iff_eq.mpr c3
          clear c3
          obtain rfl := Option.some.inj H
          go_wp2
          go_ret
          exact ⟨by first | rfl | (simp; done) | (simp [*]; done), by repeat (first | exact Drawn0.refl _ | apply Drawn0.step)⟩
        · rw [if_neg c3] at H
          have c3b0 : (a0 == x3_1) = false := beq_eq_false_iff_ne.mpr c3
          have c3b1 : (a0 != x3_1) = true := bne_iff_ne.mpr c3
          have H' := Aside0.mk H
          clear H
          go_wp2
          go_roundg k1
          case measure => have := HK1.out; omega
          case rel => exact ⟨(wrap64 (2 * x3_1)), (by first | rfl | (simp; done) | (simp [*]; done)), H', ⟨by have := HK1.out; omega⟩, by repeat (first | exact Drawn0.refl _ | apply Drawn0.step)⟩
      · rw [if_neg c2] at H
        have c2b0 : decide (x3_1 ≤ 4096) = false := decide_eq_false c2
        clear c2
        obtain rfl := Option.some.inj H
        go_wp2
        go_ret
        exact ⟨by first | rfl | (simp; done) | (simp [*]; done), by repeat (first | exact Drawn0.refl _ | apply Drawn0.step)⟩

/-! ### waymasterref01_Slot: function 12 -/
def waymasterref01_Slot.f (k : Nat) (a0 : Int) (a1 : Int) : Option (Int × Int) := (waymasterref01_IsSize.f k a1).bind fun t107 => (if t107 = true then (if (IntKind.u64.wrap (a1)) = 0 then (none) else (some (wrap64 (Int.tmod (IntKind.u64.wrap (a0)) (IntKind.u64.wrap (a1))), 0))) else (some (0, 2)))
theorem waymasterref01_Slot.mono : ∀ a0 a1 k, LeO (waymasterref01_Slot.f k a0 a1) (waymasterref01_Slot.f (k + 1) a0 a1) := by
  intro a0 a1 k
  unfold waymasterref01_Slot.f
  repeat' first
      | (with_reducible exact waymasterref01_IsSize.mono _ _)
      | (with_reducible exact LeO.refl _)
      | (with_reducible exact LeO.none _)
      | (with_reducible refine LeO.ite ?_ ?_)
      | (with_reducible refine LeO.bind ?_ (fun _ => ?_))
      | exact waymasterref01_IsSize.mono _ _
      | exact LeO.none _
      | refine LeO.ite ?_ ?_
      | refine LeO.bind ?_ (fun _ => ?_)
set_option maxHeartbeats 8000000 in
set_option maxRecDepth 100000 in
theorem waymasterref01_Slot.calls (k : Nat) (a0 : Int) (a1 : Int) (r1 : Int) (r2 : Int) (w : World) (h : waymasterref01_Slot.f k a0 a1 = some (r1, r2)) :
    Calls Try.prog 12 #[.int .u32 a0, .int .i64 a1] w fun e w' => e = .returned (.tuple #[.int .i64 r1, .int .i64 r2]) ∧ Drawn0 w w' := by
  have H : ((waymasterref01_IsSize.f k a1).bind fun t107 => (if t107 = true then (if (IntKind.u64.wrap (a1)) = 0 then (none) else (some (wrap64 (Int.tmod (IntKind.u64.wrap (a0)) (IntKind.u64.wrap (a1))), 0))) else (some (0, 2)))) = some (r1, r2) := h
  clear h
  replace H := Option.bind_eq_some_iff.mp H
  obtain ⟨t107, A30, H⟩ := H
  replace H : (if t107 = true then (if (IntKind.u64.wrap (a1)) = 0 then (none) else (some (wrap64 (Int.tmod (IntKind.u64.wrap (a0)) (IntKind.u64.wrap (a1))), 0))) else (some (0, 2))) = some (r1, r2) := H
  have A3 := Aside0.mk A30
  clear A30
  by_cases c4 : t107 = true
  · subst c4
    have H1 : (if (IntKind.u64.wrap (a1)) = 0 then (none) else (some (wrap64 (Int.tmod (IntKind.u64.wrap (a0)) (IntKind.u64.wrap (a1))), 0))) = some (r1, r2) := by rw [if_pos rfl] at H; exact H
    clear H
    have H := H1
    clear H1
    by_cases c5 : (IntKind.u64.wrap (a1)) = 0
    · rw [if_pos c5] at H
      exact absurd H (by simp)
    · rw [if_neg c5] at H
      have c5b0 : ((IntKind.u64.wrap (a1)) == 0) = false := beq_eq_false_iff_ne.mpr c5
      have c5b1 : ((IntKind.u64.wrap (a1)) != 0) = true := bne_iff_ne.mpr c5
      simp only [Option.some.injEq, Prod.mk.injEq] at H
      obtain ⟨rfl, rfl⟩ := H
      go_enter Try.func12, Try.ntmps12
      go_wp2_with (first | ((with_reducible refine gate_callee (f := 16) rfl ?_); refine goesL_ (some 8) rfl rfl Try.func16 (by kernel_rfl) rfl #[.int .i64 a1] rfl (by (try simp only [List.map_toArray, List.map_cons, List.map_nil]); first | done | rfl | (simp only [List.length_drop, List.length_take]; rfl)) ?_; (with_reducible refine (waymasterref01_IsSize.calls k a1 true _ A3.out).mono ?_); rintro e w' ⟨rfl, ⟨nd, rfl⟩⟩; refine ⟨_, rfl, ?_⟩))
      go_ret2
      exact ⟨by first | rfl | (simp; done) | (simp [*]; done), by repeat (first | exact Drawn0.refl _ | apply Drawn0.step)⟩
  · replace c4 := Bool.eq_false_iff.mpr c4
    subst c4
    have H1 : (some (0, 2)) = some (r1, r2) := by rw [if_neg (show ¬ (false = true) by decide)] at H; exact H
    clear H
    have H := H1
    clear H1
    simp only [Option.some.injEq, Prod.mk.injEq] at H
    obtain ⟨rfl, rfl⟩ := H
    go_enter Try.func12, Try.ntmps12
    go_wp2_with (first | ((with_reducible refine gate_callee (f := 16) rfl ?_); refine goesL_ (some 8) rfl rfl Try.func16 (by kernel_rfl) rfl #[.int .i64 a1] rfl (by (try simp only [List.map_toArray, List.map_cons, List.map_nil]); first | done | rfl | (simp only [List.length_drop, List.length_take]; rfl)) ?_; (with_reducible refine (waymasterref01_IsSize.calls k a1 false _ A3.out).mono ?_); rintro e w' ⟨rfl, ⟨nd, rfl⟩⟩; refine ⟨_, rfl, ?_⟩))
    go_ret2
    exact ⟨by first | rfl | (simp; done) | (simp [*]; done), by repeat (first | exact Drawn0.refl _ | apply Drawn0.step)⟩

/-! ### waymasterref01_Far: function 18 -/
def waymasterref01_Far.f (a0 : Int) (a1 : Int) : Option (Int) := some ((a1 - a0) % 4294967296)
set_option maxHeartbeats 8000000 in
set_option maxRecDepth 100000 in
theorem waymasterref01_Far.calls (a0 : Int) (a1 : Int) (r : Int) (w : World) (h : waymasterref01_Far.f a0 a1 = some r) :
    Calls Try.prog 18 #[.int .u32 a0, .int .u32 a1] w fun e w' => e = .returned (.int .u32 r) ∧ Drawn0 w w' := by
  have H : (some ((a1 - a0) % 4294967296)) = some r := h
  clear h
  obtain rfl := Option.some.inj H
  go_enter Try.func18, Try.ntmps18
  go_wp2
  go_ret
  exact ⟨by first | rfl | (simp; done) | (simp [*]; done), by repeat (first | exact Drawn0.refl _ | apply Drawn0.step)⟩

end Go.Proofs.Ytihonionnfeagaa.QL
