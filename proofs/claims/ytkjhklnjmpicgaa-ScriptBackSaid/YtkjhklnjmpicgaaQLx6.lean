/- Functions of the program as Lean functions, and the walks that show it, written by a program of this session on the base of the kit printer; Lean checks all of it. -/
import Derived.Test.YtkjhklnjmpicgaaQLx0
import Derived.Test.YtkjhklnjmpicgaaQLx1
import Derived.Test.YtkjhklnjmpicgaaQLx5
import Derived.Test.YtkjhklnjmpicgaaH2
namespace Go.Proofs.Ytkjhklnjmpicgaa.QL
open Go.Proofs.Ytkjhklnjmpicgaa.H
open Go.RowKit Go.Proofs.YtkjhklnjmpicgaaW.PrintWords Go.Proofs.YtkjhklnjmpicgaaW.PrintLast Go.Proofs.YtkjhklnjmpicgaaW.PrintMore
attribute [local go_sem] max2_int min2_int max_two min_two max_three min_three max_four min_four   -- for this text's walks alone
set_option linter.unusedVariables false
set_option linter.unusedSimpArgs false

attribute [local go_sem high] eqA29
/-! ### waymasterlaw18_shown: function 11 -/
def waymasterlaw18_shown.f  : Option (Bool) := (script_Decode.f (⟨#[4, 0, 5, 0, 0, 2, 12, 0, 0, 0, 0, 0, 1]⟩ : ByteArray)).bind fun t102 => (if (t102.length : Int) = 2 then (if 0 < (t102.length : Int) then ((script_Time.f ((rd_T29 t102 0).f0) ((rd_T29 t102 0).f1) ((rd_T29 t102 0).f2) ((rd_T29 t102 0).f3) ((rd_T29 t102 0).f4)).bind fun t106 => (if t106 = 20 then (if 1 < (t102.length : Int) then (some (((rd_T29 t102 1).f0) == 0 && (((rd_T29 t102 1).f1) == 0 && (((rd_T29 t102 1).f2) == 0 && (((rd_T29 t102 1).f3) == 0 && (((rd_T29 t102 1).f4) == 0)))))) else (none)) else (some false))) else (none)) else (some false))
set_option maxHeartbeats 8000000 in
set_option maxRecDepth 100000 in
theorem waymasterlaw18_shown.calls  (r : Bool) (w : World) (h : waymasterlaw18_shown.f  = some r) :
    Calls Try.prog 11 #[] w fun e w' => e = .returned (.bool r) ∧ Below w.heap.size w w' := by
  have hu29 := Try.underlying29
  have HB := Aside0.mk (Below.refl w.heap.size w)
  have H : ((script_Decode.f (⟨#[4, 0, 5, 0, 0, 2, 12, 0, 0, 0, 0, 0, 1]⟩ : ByteArray)).bind fun t102 => (if (t102.length : Int) = 2 then (if 0 < (t102.length : Int) then ((script_Time.f ((rd_T29 t102 0).f0) ((rd_T29 t102 0).f1) ((rd_T29 t102 0).f2) ((rd_T29 t102 0).f3) ((rd_T29 t102 0).f4)).bind fun t106 => (if t106 = 20 then (if 1 < (t102.length : Int) then (some (((rd_T29 t102 1).f0) == 0 && (((rd_T29 t102 1).f1) == 0 && (((rd_T29 t102 1).f2) == 0 && (((rd_T29 t102 1).f3) == 0 && (((rd_T29 t102 1).f4) == 0)))))) else (none)) else (some false))) else (none)) else (some false))) = some r := h
  clear h
  replace H := Option.bind_eq_some_iff.mp H
  obtain ⟨t102, A10, H⟩ := H
  replace H : (if (t102.length : Int) = 2 then (if 0 < (t102.length : Int) then ((script_Time.f ((rd_T29 t102 0).f0) ((rd_T29 t102 0).f1) ((rd_T29 t102 0).f2) ((rd_T29 t102 0).f3) ((rd_T29 t102 0).f4)).bind fun t106 => (if t106 = 20 then (if 1 < (t102.length : Int) then (some (((rd_T29 t102 1).f0) == 0 && (((rd_T29 t102 1).f1) == 0 && (((rd_T29 t102 1).f2) == 0 && (((rd_T29 t102 1).f3) == 0 && (((rd_T29 t102 1).f4) == 0)))))) else (none)) else (some false))) else (none)) else (some false)) = some r := H
  have A1 := Aside0.mk A10
  clear A10
  by_cases c2 : (t102.length : Int) = 2
  · rw [if_pos c2] at H
    have c2b0 : ((t102.length : Int) == 2) = true := beq_iff_eq.mpr c2
    have c2b1 : ((t102.length : Int) != 2) = false := bne_eq_false_iff_eq.mpr c2
    clear c2
    by_cases c3 : 0 < (t102.length : Int)
    · rw [if_pos c3] at H
      have c3b0 : decide (0 < (t102.length : Int)) = true := decide_eq_true c3
      have c3b1 : decide (0 < t102.length) = true := decide_eq_true (by omega)
      clear c3
      replace H := Option.bind_eq_some_iff.mp H
      obtain ⟨t106, A40, H⟩ := H
      replace H : (if t106 = 20 then (if 1 < (t102.length : Int) then (some (((rd_T29 t102 1).f0) == 0 && (((rd_T29 t102 1).f1) == 0 && (((rd_T29 t102 1).f2) == 0 && (((rd_T29 t102 1).f3) == 0 && (((rd_T29 t102 1).f4) == 0)))))) else (none)) else (some false)) = some r := H
      have A4 := Aside0.mk A40
      clear A40
      by_cases c5 : t106 = 20
      · rw [if_pos c5] at H
        have c5b0 : (t106 == 20) = true := beq_iff_eq.mpr c5
        have c5b1 : (t106 != 20) = false := bne_eq_false_iff_eq.mpr c5
        clear c5
        by_cases c6 : 1 < (t102.length : Int)
        · rw [if_pos c6] at H
          have c6b0 : decide (1 < (t102.length : Int)) = true := decide_eq_true c6
          have c6b1 : decide (1 < t102.length) = true := decide_eq_true (by omega)
          clear c6
          obtain rfl := Option.some.inj H
          go_enter Try.func11, Try.ntmps11
          go_wp2_with (first | ((with_reducible refine gate_callee (f := 13) rfl ?_); refine goesL_ (some 2) rfl rfl Try.func13 (by kernel_rfl) rfl #[.string (⟨#[4, 0, 5, 0, 0, 2, 12, 0, 0, 0, 0, 0, 1]⟩ : ByteArray)] rfl (by (try simp only [List.map_toArray, List.map_cons, List.map_nil]); first | done | rfl | (simp only [List.length_drop, List.length_take]; rfl)) ?_; (with_reducible refine (script_Decode.calls (⟨#[4, 0, 5, 0, 0, 2, 12, 0, 0, 0, 0, 0, 1]⟩ : ByteArray) t102 _ A1.out).mono ?_); rintro e w7 ⟨v103, rfl, ho0, hb⟩; refine ⟨_, rfl, ?_⟩; have n0_ := Aside0.mk (Kd.R_lower ho0 (below_size (by repeat (first | (with_reducible first | exact HB.out | apply below_alloc | apply pw_below_drewN | apply below_drew1) | exact HB.out)))); have n1_ := Aside0.mk (below_step (by repeat (first | (with_reducible first | exact HB.out | apply below_alloc | apply pw_below_drewN | apply below_drew1) | exact HB.out)) hb); clear HB; have HO104 := n0_; have HB := n1_; clear n0_ n1_; (try clear hb); (try clear hb2); (try clear hk); (try clear hi); (try clear ho0); obtain ⟨Ao8, co8, eo8⟩ := Kd.R_slice HO104.out; subst eo8; have p105 : 0 ≤ (0 : Int) := (by omega); have q105 : 0 < (t102.length : Int) := of_decide_eq_true (by first | (with_reducible assumption) | assumption); obtain ⟨ad105, e105, hx105_0, hx105_1, hx105_2, hx105_3, hx105_4⟩ := at_T29 (Kd.R_reads' HO104.out).2.2 0 p105 q105; cases e105; have qi105 : (0 < t102.length) = True := eq_true (by omega); (try rw [show ((0 : Int)).toNat = 0 from rfl] at hx105_0); (try rw [show 0 * 5 = 0 from rfl] at hx105_0); (try rw [Addr.add_zero'] at hx105_0); (try rw [show ((0 : Int)).toNat = 0 from rfl] at hx105_1); (try rw [show 0 * 5 = 0 from rfl] at hx105_1); (try rw [Addr.add_zero'] at hx105_1); (try rw [show ((0 : Int)).toNat = 0 from rfl] at hx105_2); (try rw [show 0 * 5 = 0 from rfl] at hx105_2); (try rw [Addr.add_zero'] at hx105_2); (try rw [show ((0 : Int)).toNat = 0 from rfl] at hx105_3); (try rw [show 0 * 5 = 0 from rfl] at hx105_3); (try rw [Addr.add_zero'] at hx105_3); (try rw [show ((0 : Int)).toNat = 0 from rfl] at hx105_4); (try rw [show 0 * 5 = 0 from rfl] at hx105_4); (try rw [Addr.add_zero'] at hx105_4); replace p105 := eq_true p105; replace q105 := eq_true q105) | (go_at_call 17; (with_reducible refine (script_Time.calls ((rd_T29 t102 0).f0) ((rd_T29 t102 0).f1) ((rd_T29 t102 0).f2) ((rd_T29 t102 0).f3) ((rd_T29 t102 0).f4) t106 _ A4.out).mono ?_); rintro e w9 ⟨rfl, hb⟩; have n0_ := Aside0.mk (Kd.R_below (by (with_reducible repeat (first | apply Kd.R_alloc | apply Kd.R_drewN | apply Kd.R_drew)); exact HO104.out) hb); have n1_ := Aside0.mk (below_step (by repeat (first | (with_reducible first | exact HB.out | apply below_alloc | apply pw_below_drewN | apply below_drew1) | exact HB.out)) hb); clear HO104; clear HB; have HO104 := n0_; have HB := n1_; clear n0_ n1_; (try clear hb); (try clear hb2); (try clear hk); (try clear hi); have p107 : 0 ≤ (1 : Int) := (by omega); have q107 : 1 < (t102.length : Int) := of_decide_eq_true (by first | (with_reducible assumption) | assumption); obtain ⟨ad107, e107, hx107_0, hx107_1, hx107_2, hx107_3, hx107_4⟩ := at_T29 (Kd.R_reads' HO104.out).2.2 1 p107 q107; obtain rfl : ad105 = ad107 := (by injection e107); (try simp only [show (1 : Int).toNat = 1 from rfl, Nat.reduceMul, Nat.reduceEqDiff, Go.Addr.add, ↓reduceIte] at hx107_0); (try simp only [show (1 : Int).toNat = 1 from rfl, Nat.reduceMul, Nat.reduceEqDiff, Go.Addr.add, ↓reduceIte] at hx107_1); (try simp only [show (1 : Int).toNat = 1 from rfl, Nat.reduceMul, Nat.reduceEqDiff, Go.Addr.add, ↓reduceIte] at hx107_2); (try simp only [show (1 : Int).toNat = 1 from rfl, Nat.reduceMul, Nat.reduceEqDiff, Go.Addr.add, ↓reduceIte] at hx107_3); (try simp only [show (1 : Int).toNat = 1 from rfl, Nat.reduceMul, Nat.reduceEqDiff, Go.Addr.add, ↓reduceIte] at hx107_4); have qi107 : (1 < t102.length) = True := eq_true (by omega); (try rw [show ((1 : Int)).toNat = 1 from rfl] at hx107_0); (try rw [show 1 * 5 = 5 from rfl] at hx107_0); (try rw [show ((1 : Int)).toNat = 1 from rfl] at hx107_1); (try rw [show 1 * 5 = 5 from rfl] at hx107_1); (try rw [show ((1 : Int)).toNat = 1 from rfl] at hx107_2); (try rw [show 1 * 5 = 5 from rfl] at hx107_2); (try rw [show ((1 : Int)).toNat = 1 from rfl] at hx107_3); (try rw [show 1 * 5 = 5 from rfl] at hx107_3); (try rw [show ((1 : Int)).toNat = 1 from rfl] at hx107_4); (try rw [show 1 * 5 = 5 from rfl] at hx107_4); replace p107 := eq_true p107; replace q107 := eq_true q107))
          go_ret
          exact ⟨by first | rfl | (simp [errW_none, errW_some] <;> rfl) | (simp [*, errW_none, errW_some] <;> rfl), by repeat (first | (with_reducible first | exact HB.out | apply below_alloc | apply pw_below_drewN | apply below_drew1) | exact HB.out)⟩
        · rw [if_neg c6] at H
          exact absurd H (by simp)
      · rw [if_neg c5] at H
        have c5b0 : (t106 == 20) = false := beq_eq_false_iff_ne.mpr c5
        have c5b1 : (t106 != 20) = true := bne_iff_ne.mpr c5
        obtain rfl := Option.some.inj H
        go_enter Try.func11, Try.ntmps11
        go_wp2_with (first | ((with_reducible refine gate_callee (f := 13) rfl ?_); refine goesL_ (some 2) rfl rfl Try.func13 (by kernel_rfl) rfl #[.string (⟨#[4, 0, 5, 0, 0, 2, 12, 0, 0, 0, 0, 0, 1]⟩ : ByteArray)] rfl (by (try simp only [List.map_toArray, List.map_cons, List.map_nil]); first | done | rfl | (simp only [List.length_drop, List.length_take]; rfl)) ?_; (with_reducible refine (script_Decode.calls (⟨#[4, 0, 5, 0, 0, 2, 12, 0, 0, 0, 0, 0, 1]⟩ : ByteArray) t102 _ A1.out).mono ?_); rintro e w10 ⟨v103, rfl, ho0, hb⟩; refine ⟨_, rfl, ?_⟩; have n0_ := Aside0.mk (Kd.R_lower ho0 (below_size (by repeat (first | (with_reducible first | exact HB.out | apply below_alloc | apply pw_below_drewN | apply below_drew1) | exact HB.out)))); have n1_ := Aside0.mk (below_step (by repeat (first | (with_reducible first | exact HB.out | apply below_alloc | apply pw_below_drewN | apply below_drew1) | exact HB.out)) hb); clear HB; have HO104 := n0_; have HB := n1_; clear n0_ n1_; (try clear hb); (try clear hb2); (try clear hk); (try clear hi); (try clear ho0); obtain ⟨Ao11, co11, eo11⟩ := Kd.R_slice HO104.out; subst eo11; have p105 : 0 ≤ (0 : Int) := (by omega); have q105 : 0 < (t102.length : Int) := of_decide_eq_true (by first | (with_reducible assumption) | assumption); obtain ⟨ad105, e105, hx105_0, hx105_1, hx105_2, hx105_3, hx105_4⟩ := at_T29 (Kd.R_reads' HO104.out).2.2 0 p105 q105; cases e105; have qi105 : (0 < t102.length) = True := eq_true (by omega); (try rw [show ((0 : Int)).toNat = 0 from rfl] at hx105_0); (try rw [show 0 * 5 = 0 from rfl] at hx105_0); (try rw [Addr.add_zero'] at hx105_0); (try rw [show ((0 : Int)).toNat = 0 from rfl] at hx105_1); (try rw [show 0 * 5 = 0 from rfl] at hx105_1); (try rw [Addr.add_zero'] at hx105_1); (try rw [show ((0 : Int)).toNat = 0 from rfl] at hx105_2); (try rw [show 0 * 5 = 0 from rfl] at hx105_2); (try rw [Addr.add_zero'] at hx105_2); (try rw [show ((0 : Int)).toNat = 0 from rfl] at hx105_3); (try rw [show 0 * 5 = 0 from rfl] at hx105_3); (try rw [Addr.add_zero'] at hx105_3); (try rw [show ((0 : Int)).toNat = 0 from rfl] at hx105_4); (try rw [show 0 * 5 = 0 from rfl] at hx105_4); (try rw [Addr.add_zero'] at hx105_4); replace p105 := eq_true p105; replace q105 := eq_true q105) | (go_at_call 17; (with_reducible refine (script_Time.calls ((rd_T29 t102 0).f0) ((rd_T29 t102 0).f1) ((rd_T29 t102 0).f2) ((rd_T29 t102 0).f3) ((rd_T29 t102 0).f4) t106 _ A4.out).mono ?_); rintro e w12 ⟨rfl, hb⟩; have n0_ := Aside0.mk (Kd.R_below (by (with_reducible repeat (first | apply Kd.R_alloc | apply Kd.R_drewN | apply Kd.R_drew)); exact HO104.out) hb); have n1_ := Aside0.mk (below_step (by repeat (first | (with_reducible first | exact HB.out | apply below_alloc | apply pw_below_drewN | apply below_drew1) | exact HB.out)) hb); clear HO104; clear HB; have HO104 := n0_; have HB := n1_; clear n0_ n1_; (try clear hb); (try clear hb2); (try clear hk); (try clear hi)))
        go_ret
        exact ⟨by first | rfl | (simp [errW_none, errW_some] <;> rfl) | (simp [*, errW_none, errW_some] <;> rfl), by repeat (first | (with_reducible first | exact HB.out | apply below_alloc | apply pw_below_drewN | apply below_drew1) | exact HB.out)⟩
    · rw [if_neg c3] at H
      exact absurd H (by simp)
  · rw [if_neg c2] at H
    have c2b0 : ((t102.length : Int) == 2) = false := beq_eq_false_iff_ne.mpr c2
    have c2b1 : ((t102.length : Int) != 2) = true := bne_iff_ne.mpr c2
    obtain rfl := Option.some.inj H
    go_enter Try.func11, Try.ntmps11
    go_wp2_with (first | ((with_reducible refine gate_callee (f := 13) rfl ?_); refine goesL_ (some 2) rfl rfl Try.func13 (by kernel_rfl) rfl #[.string (⟨#[4, 0, 5, 0, 0, 2, 12, 0, 0, 0, 0, 0, 1]⟩ : ByteArray)] rfl (by (try simp only [List.map_toArray, List.map_cons, List.map_nil]); first | done | rfl | (simp only [List.length_drop, List.length_take]; rfl)) ?_; (with_reducible refine (script_Decode.calls (⟨#[4, 0, 5, 0, 0, 2, 12, 0, 0, 0, 0, 0, 1]⟩ : ByteArray) t102 _ A1.out).mono ?_); rintro e w13 ⟨v103, rfl, ho0, hb⟩; refine ⟨_, rfl, ?_⟩; have n0_ := Aside0.mk (Kd.R_lower ho0 (below_size (by repeat (first | (with_reducible first | exact HB.out | apply below_alloc | apply pw_below_drewN | apply below_drew1) | exact HB.out)))); have n1_ := Aside0.mk (below_step (by repeat (first | (with_reducible first | exact HB.out | apply below_alloc | apply pw_below_drewN | apply below_drew1) | exact HB.out)) hb); clear HB; have HO104 := n0_; have HB := n1_; clear n0_ n1_; (try clear hb); (try clear hb2); (try clear hk); (try clear hi); (try clear ho0); obtain ⟨Ao14, co14, eo14⟩ := Kd.R_slice HO104.out; subst eo14))
    go_ret
    exact ⟨by first | rfl | (simp [errW_none, errW_some] <;> rfl) | (simp [*, errW_none, errW_some] <;> rfl), by repeat (first | (with_reducible first | exact HB.out | apply below_alloc | apply pw_below_drewN | apply below_drew1) | exact HB.out)⟩

end Go.Proofs.Ytkjhklnjmpicgaa.QL
