/- Functions of the program as Lean functions, and the walks that show it, written by a program of this session on the base of the kit printer; Lean checks all of it. -/
import Derived.Test.YtkjhklnjmpicgaaQLx0
import Derived.Test.YtkjhklnjmpicgaaQLx6
import Derived.Test.YtkjhklnjmpicgaaQLx7
import Derived.Test.YtkjhklnjmpicgaaQLx14
import Derived.Test.YtkjhklnjmpicgaaQLx15
import Derived.Test.YtkjhklnjmpicgaaH2
namespace Go.Proofs.Ytkjhklnjmpicgaa.QL
open Go.Proofs.Ytkjhklnjmpicgaa.H
open Go.RowKit Go.Proofs.YtkjhklnjmpicgaaW.PrintWords Go.Proofs.YtkjhklnjmpicgaaW.PrintLast Go.Proofs.YtkjhklnjmpicgaaW.PrintMore
attribute [local go_sem] max2_int min2_int max_two min_two max_three min_three max_four min_four   -- for this text's walks alone
set_option linter.unusedVariables false
set_option linter.unusedSimpArgs false

/-! ### waymasterlaw18_ScriptEncodes: function 5 -/
def waymasterlaw18_ScriptEncodes.f (k : Nat) (l0 : List (S29)) : Option (Bool) := (waymasterlaw18_shown.f).bind fun t182 => (if 0 ≤ (mn (l0.length : Int) 200) then (if (mn (l0.length : Int) 200) ≤ (l0.length : Int) then ((some (l0.take ((mn (l0.length : Int) 200) : Int).toNat : List (S29))).bind fun y183 => ((script_Encode.f k y183).bind fun bt187 => ((waymasterref18_Encode.f k y183).bind fun bt189 => (if t182 = true then (if bt187.1.toList = bt189.1.toList then (some (bt187.2 == bt189.2)) else (some false)) else (some false))))) else (none)) else (none))
theorem waymasterlaw18_ScriptEncodes.mono : ∀ a0 k, LeO (waymasterlaw18_ScriptEncodes.f k a0) (waymasterlaw18_ScriptEncodes.f (k + 1) a0) := by
  intro a0 k
  unfold waymasterlaw18_ScriptEncodes.f
  repeat' first
      | (with_reducible exact script_Encode.mono _ _)
      | (with_reducible exact waymasterref18_Encode.mono _ _)
      | (with_reducible exact LeO.refl _)
      | (with_reducible exact LeO.none _)
      | (with_reducible refine LeO.ite ?_ ?_)
      | (with_reducible refine LeO.bind ?_ (fun _ => ?_))
      | exact script_Encode.mono _ _
      | exact waymasterref18_Encode.mono _ _
      | exact LeO.none _
      | refine LeO.ite ?_ ?_
      | refine LeO.bind ?_ (fun _ => ?_)
set_option maxHeartbeats 8000000 in
set_option maxRecDepth 100000 in
theorem waymasterlaw18_ScriptEncodes.calls (k : Nat) (A0 : Option Addr) (c0 : Nat) (l0 : List (S29)) (r : Bool) (w : World) (hr0 : Kd.C k29 w A0 l0.length l0) (hc0 : l0.length ≤ c0) (h : waymasterlaw18_ScriptEncodes.f k l0 = some r) :
    Calls Try.prog 5 #[.slice A0 l0.length c0] w fun e w' => e = .returned (.bool r) ∧ Below w.heap.size w w' := by
  have HR0 := Aside0.mk hr0
  have HC0 := Aside0.mk hc0
  clear hr0 hc0
  have HB := Aside0.mk (Below.refl w.heap.size w)
  have H : ((waymasterlaw18_shown.f).bind fun t182 => (if 0 ≤ (mn (l0.length : Int) 200) then (if (mn (l0.length : Int) 200) ≤ (l0.length : Int) then ((some (l0.take ((mn (l0.length : Int) 200) : Int).toNat : List (S29))).bind fun y183 => ((script_Encode.f k y183).bind fun bt187 => ((waymasterref18_Encode.f k y183).bind fun bt189 => (if t182 = true then (if bt187.1.toList = bt189.1.toList then (some (bt187.2 == bt189.2)) else (some false)) else (some false))))) else (none)) else (none))) = some r := h
  clear h
  replace H := Option.bind_eq_some_iff.mp H
  obtain ⟨t182, A20, H⟩ := H
  replace H : (if 0 ≤ (mn (l0.length : Int) 200) then (if (mn (l0.length : Int) 200) ≤ (l0.length : Int) then ((some (l0.take ((mn (l0.length : Int) 200) : Int).toNat : List (S29))).bind fun y183 => ((script_Encode.f k y183).bind fun bt187 => ((waymasterref18_Encode.f k y183).bind fun bt189 => (if t182 = true then (if bt187.1.toList = bt189.1.toList then (some (bt187.2 == bt189.2)) else (some false)) else (some false))))) else (none)) else (none)) = some r := H
  have A2 := Aside0.mk A20
  clear A20
  obtain ⟨ji3, hji3⟩ : ∃ j_ : Int, (mn (l0.length : Int) 200) = j_ := ⟨_, rfl⟩
  replace H : (if 0 ≤ (ji3) then (if (ji3) ≤ (l0.length : Int) then ((some (l0.take ((ji3) : Int).toNat : List (S29))).bind fun y183 => ((script_Encode.f k y183).bind fun bt187 => ((waymasterref18_Encode.f k y183).bind fun bt189 => (if t182 = true then (if bt187.1.toList = bt189.1.toList then (some (bt187.2 == bt189.2)) else (some false)) else (some false))))) else (none)) else (none)) = some r := by first | (rw [hji3] at H; exact H) | (simp only [hji3] at H ⊢; exact H)
  (try rw [hji3] at A2)
  (try (have hji3h : ji3 ≤ 200 := by (rw [← hji3]; unfold mn; (repeat' split) <;> omega)))
  (try (have hji3g : ji3 ≤ 64 := by omega))
  (try (have hji3l : 0 ≤ ji3 := by (rw [← hji3]; unfold mn; (repeat' split) <;> omega)))
  (try (have hji3m : 0 ≤ ji3 := by omega))
  have hji3_ : (if 200 < (l0.length : Int) then 200 else (l0.length : Int)) = ji3 := hji3
  by_cases c4 : 0 ≤ (ji3)
  · rw [if_pos c4] at H
    have c4b0 := eq_true c4
    have c4b1 : decide (0 ≤ (ji3)) = true := decide_eq_true c4
    clear c4
    by_cases c5 : (ji3) ≤ (l0.length : Int)
    · rw [if_pos c5] at H
      have c5b0 := eq_true c5
      have c5b1 : decide ((ji3) ≤ (l0.length : Int)) = true := decide_eq_true c5
      clear c5
      obtain ⟨y183, hy183⟩ : ∃ y_ : List (S29), y_ = (l0.take ((ji3) : Int).toNat) := ⟨_, rfl⟩
      replace H : ((script_Encode.f k y183).bind fun bt187 => ((waymasterref18_Encode.f k y183).bind fun bt189 => (if t182 = true then (if bt187.1.toList = bt189.1.toList then (some (bt187.2 == bt189.2)) else (some false)) else (some false)))) = some r := by first | (rw [hy183]; with_reducible exact H) | (have H2_ := (Option.bind_some _ _).symm.trans H; rw [hy183]; with_reducible exact H2_) | (have H2_ := (Option.bind_some _ _).symm.trans H; with_reducible exact H2_) | with_reducible exact H | (rw [hy183]; exact H) | exact H
      have Ny183 := Aside0.mk hy183
      clear hy183
      replace H := Option.bind_eq_some_iff.mp H
      obtain ⟨⟨t187, t188⟩, A60, H⟩ := H
      replace H : ((waymasterref18_Encode.f k y183).bind fun bt189 => (if t182 = true then (if t187.toList = bt189.1.toList then (some (t188 == bt189.2)) else (some false)) else (some false))) = some r := H
      have A6 := Aside0.mk A60
      clear A60
      replace H := Option.bind_eq_some_iff.mp H
      obtain ⟨⟨t189, t190⟩, A70, H⟩ := H
      replace H : (if t182 = true then (if t187.toList = t189.toList then (some (t188 == t190)) else (some false)) else (some false)) = some r := H
      have A7 := Aside0.mk A70
      clear A70
      by_cases c8 : t182 = true
      · subst c8
        have H1 : (if t187.toList = t189.toList then (some (t188 == t190)) else (some false)) = some r := by rw [if_pos rfl] at H; exact H
        clear H
        have H := H1
        clear H1
        by_cases c9 : t187.toList = t189.toList
        · rw [if_pos c9] at H
          have c9b0 : (t187.toList == t189.toList) = true := beq_iff_eq.mpr c9
          have c9b1 : (t187.toList != t189.toList) = false := bne_eq_false_iff_eq.mpr c9
          clear c9
          obtain rfl := Option.some.inj H
          go_enter Try.func5, Try.ntmps5
          go_wp2_with (first | ((with_reducible refine gate_callee (f := 11) rfl ?_); refine goesL_ (some 8) rfl rfl Try.func11 (by kernel_rfl) rfl #[] rfl (by (try simp only [List.map_toArray, List.map_cons, List.map_nil]); first | done | rfl | (simp only [List.length_drop, List.length_take]; rfl)) ?_; (with_reducible refine (waymasterlaw18_shown.calls  true _ A2.out).mono ?_); rintro e w10 ⟨rfl, hb⟩; refine ⟨_, rfl, ?_⟩; have n0_ := Aside0.mk (below_step (by repeat (first | (with_reducible first | exact HB.out | apply below_alloc | apply pw_below_drewN | apply below_drew1) | exact HB.out)) hb); clear HB; have HB := n0_; clear n0_; (try clear hb); (try clear hb2); (try clear hk); (try clear hi); have q11 : ((ji3) : Int) ≤ ((l0.length : Int) : Int) := of_decide_eq_true (by first | (with_reducible assumption) | assumption); obtain ⟨i011, hi011, _, hsz11, _⟩ := info_parts info29; have hroom11 : l0.length ≤ c0 := HC0.out; have hC11 : Kd.C k29 _ A0 l0.length l0 := HR0.out; have hcut11 := cut_to (P := Try.prog) 24 29 .i64 Try.underlying24 hi011 A0 l0.length c0 (ji3) (of_decide_eq_true (by first | (with_reducible assumption) | assumption)) q11 hroom11; have hr11 := Kd.C_take (m := ((ji3) : Int).toNat) hC11 (by omega); have hy11 : y183.length = ((ji3) : Int).toNat := (by rw [Ny183.out, List.length_take]; omega); rw [← Ny183.out] at hr11; rw [← hy11] at hcut11; have HR186 := Aside0.mk hr11; have HC186 := Aside0.mk (show y183.length ≤ c0 from by omega); clear hr11 hC11 hroom11 hi011 hsz11; have KY11 := Aside0.mk hy11; clear hy11; replace q11 := eq_true q11) | ((with_reducible refine gate_callee (f := 18) rfl ?_); refine goesL_ (some 16) rfl rfl Try.func18 (by kernel_rfl) rfl #[.slice A0 y183.length c0] rfl (by (try simp only [List.map_toArray, List.map_cons, List.map_nil]); first | done | rfl | (simp only [List.length_drop, List.length_take]; rfl)) ?_; (with_reducible refine (script_Encode.calls k _ _ y183 t187 t188 _ ?side1 ?side2 A6.out).mono ?_); (case side1 => repeat (first | exact (Kd.C_below HR186.out HB.out) | (with_reducible refine Kd.C_alloc ?_ _) | (with_reducible refine Kd.C_drewN ?_ _) | (with_reducible refine Kd.C_drew ?_))); (case side2 => exact HC186.out); rintro e w12 ⟨rfl, hb⟩; refine ⟨_, rfl, ?_⟩; have n0_ := Aside0.mk (below_step (by repeat (first | (with_reducible first | exact HB.out | apply below_alloc | apply pw_below_drewN | apply below_drew1) | exact HB.out)) hb); clear HB; have HB := n0_; clear n0_; (try clear hb); (try clear hb2); (try clear hk); (try clear hi)) | ((with_reducible refine gate_callee (f := 19) rfl ?_); refine goesL_ (some 21) rfl rfl Try.func19 (by kernel_rfl) rfl #[.slice A0 y183.length c0] rfl (by (try simp only [List.map_toArray, List.map_cons, List.map_nil]); first | done | rfl | (simp only [List.length_drop, List.length_take]; rfl)) ?_; (with_reducible refine (waymasterref18_Encode.calls k _ _ y183 t189 t190 _ ?side1 ?side2 A7.out).mono ?_); (case side1 => repeat (first | exact (Kd.C_below HR186.out HB.out) | (with_reducible refine Kd.C_alloc ?_ _) | (with_reducible refine Kd.C_drewN ?_ _) | (with_reducible refine Kd.C_drew ?_))); (case side2 => exact HC186.out); rintro e w13 ⟨rfl, hb⟩; refine ⟨_, rfl, ?_⟩; have n0_ := Aside0.mk (below_step (by repeat (first | (with_reducible first | exact HB.out | apply below_alloc | apply pw_below_drewN | apply below_drew1) | exact HB.out)) hb); clear HB; have HB := n0_; clear n0_; (try clear hb); (try clear hb2); (try clear hk); (try clear hi)))
          go_ret
          exact ⟨by first | rfl | (simp [errW_none, errW_some] <;> rfl) | (simp only [← hji3]; first | rfl | (simp [errW_none, errW_some] <;> rfl)) | (simp [*, errW_none, errW_some] <;> rfl), by repeat (first | (with_reducible first | exact HB.out | apply below_alloc | apply pw_below_drewN | apply below_drew1) | exact HB.out)⟩
        · rw [if_neg c9] at H
          have c9b0 : (t187.toList == t189.toList) = false := beq_eq_false_iff_ne.mpr c9
          have c9b1 : (t187.toList != t189.toList) = true := bne_iff_ne.mpr c9
          obtain rfl := Option.some.inj H
          go_enter Try.func5, Try.ntmps5
          go_wp2_with (first | ((with_reducible refine gate_callee (f := 11) rfl ?_); refine goesL_ (some 8) rfl rfl Try.func11 (by kernel_rfl) rfl #[] rfl (by (try simp only [List.map_toArray, List.map_cons, List.map_nil]); first | done | rfl | (simp only [List.length_drop, List.length_take]; rfl)) ?_; (with_reducible refine (waymasterlaw18_shown.calls  true _ A2.out).mono ?_); rintro e w14 ⟨rfl, hb⟩; refine ⟨_, rfl, ?_⟩; have n0_ := Aside0.mk (below_step (by repeat (first | (with_reducible first | exact HB.out | apply below_alloc | apply pw_below_drewN | apply below_drew1) | exact HB.out)) hb); clear HB; have HB := n0_; clear n0_; (try clear hb); (try clear hb2); (try clear hk); (try clear hi); have q15 : ((ji3) : Int) ≤ ((l0.length : Int) : Int) := of_decide_eq_true (by first | (with_reducible assumption) | assumption); obtain ⟨i015, hi015, _, hsz15, _⟩ := info_parts info29; have hroom15 : l0.length ≤ c0 := HC0.out; have hC15 : Kd.C k29 _ A0 l0.length l0 := HR0.out; have hcut15 := cut_to (P := Try.prog) 24 29 .i64 Try.underlying24 hi015 A0 l0.length c0 (ji3) (of_decide_eq_true (by first | (with_reducible assumption) | assumption)) q15 hroom15; have hr15 := Kd.C_take (m := ((ji3) : Int).toNat) hC15 (by omega); have hy15 : y183.length = ((ji3) : Int).toNat := (by rw [Ny183.out, List.length_take]; omega); rw [← Ny183.out] at hr15; rw [← hy15] at hcut15; have HR186 := Aside0.mk hr15; have HC186 := Aside0.mk (show y183.length ≤ c0 from by omega); clear hr15 hC15 hroom15 hi015 hsz15; have KY15 := Aside0.mk hy15; clear hy15; replace q15 := eq_true q15) | ((with_reducible refine gate_callee (f := 18) rfl ?_); refine goesL_ (some 16) rfl rfl Try.func18 (by kernel_rfl) rfl #[.slice A0 y183.length c0] rfl (by (try simp only [List.map_toArray, List.map_cons, List.map_nil]); first | done | rfl | (simp only [List.length_drop, List.length_take]; rfl)) ?_; (with_reducible refine (script_Encode.calls k _ _ y183 t187 t188 _ ?side1 ?side2 A6.out).mono ?_); (case side1 => repeat (first | exact (Kd.C_below HR186.out HB.out) | (with_reducible refine Kd.C_alloc ?_ _) | (with_reducible refine Kd.C_drewN ?_ _) | (with_reducible refine Kd.C_drew ?_))); (case side2 => exact HC186.out); rintro e w16 ⟨rfl, hb⟩; refine ⟨_, rfl, ?_⟩; have n0_ := Aside0.mk (below_step (by repeat (first | (with_reducible first | exact HB.out | apply below_alloc | apply pw_below_drewN | apply below_drew1) | exact HB.out)) hb); clear HB; have HB := n0_; clear n0_; (try clear hb); (try clear hb2); (try clear hk); (try clear hi)) | ((with_reducible refine gate_callee (f := 19) rfl ?_); refine goesL_ (some 21) rfl rfl Try.func19 (by kernel_rfl) rfl #[.slice A0 y183.length c0] rfl (by (try simp only [List.map_toArray, List.map_cons, List.map_nil]); first | done | rfl | (simp only [List.length_drop, List.length_take]; rfl)) ?_; (with_reducible refine (waymasterref18_Encode.calls k _ _ y183 t189 t190 _ ?side1 ?side2 A7.out).mono ?_); (case side1 => repeat (first | exact (Kd.C_below HR186.out HB.out) | (with_reducible refine Kd.C_alloc ?_ _) | (with_reducible refine Kd.C_drewN ?_ _) | (with_reducible refine Kd.C_drew ?_))); (case side2 => exact HC186.out); rintro e w17 ⟨rfl, hb⟩; refine ⟨_, rfl, ?_⟩; have n0_ := Aside0.mk (below_step (by repeat (first | (with_reducible first | exact HB.out | apply below_alloc | apply pw_below_drewN | apply below_drew1) | exact HB.out)) hb); clear HB; have HB := n0_; clear n0_; (try clear hb); (try clear hb2); (try clear hk); (try clear hi)))
          go_ret
          exact ⟨by first | rfl | (simp [errW_none, errW_some] <;> rfl) | (simp only [← hji3]; first | rfl | (simp [errW_none, errW_some] <;> rfl)) | (simp [*, errW_none, errW_some] <;> rfl), by repeat (first | (with_reducible first | exact HB.out | apply below_alloc | apply pw_below_drewN | apply below_drew1) | exact HB.out)⟩
      · replace c8 := Bool.eq_false_iff.mpr c8
        subst c8
        have H1 : (some false) = some r := by rw [if_neg (show ¬ (false = true) by decide)] at H; exact H
        clear H
        have H := H1
        clear H1
        obtain rfl := Option.some.inj H
        go_enter Try.func5, Try.ntmps5
        go_wp2_with (first | ((with_reducible refine gate_callee (f := 11) rfl ?_); refine goesL_ (some 8) rfl rfl Try.func11 (by kernel_rfl) rfl #[] rfl (by (try simp only [List.map_toArray, List.map_cons, List.map_nil]); first | done | rfl | (simp only [List.length_drop, List.length_take]; rfl)) ?_; (with_reducible refine (waymasterlaw18_shown.calls  false _ A2.out).mono ?_); rintro e w18 ⟨rfl, hb⟩; refine ⟨_, rfl, ?_⟩; have n0_ := Aside0.mk (below_step (by repeat (first | (with_reducible first | exact HB.out | apply below_alloc | apply pw_below_drewN | apply below_drew1) | exact HB.out)) hb); clear HB; have HB := n0_; clear n0_; (try clear hb); (try clear hb2); (try clear hk); (try clear hi); have q19 : ((ji3) : Int) ≤ ((l0.length : Int) : Int) := of_decide_eq_true (by first | (with_reducible assumption) | assumption); obtain ⟨i019, hi019, _, hsz19, _⟩ := info_parts info29; have hroom19 : l0.length ≤ c0 := HC0.out; have hC19 : Kd.C k29 _ A0 l0.length l0 := HR0.out; have hcut19 := cut_to (P := Try.prog) 24 29 .i64 Try.underlying24 hi019 A0 l0.length c0 (ji3) (of_decide_eq_true (by first | (with_reducible assumption) | assumption)) q19 hroom19; have hr19 := Kd.C_take (m := ((ji3) : Int).toNat) hC19 (by omega); have hy19 : y183.length = ((ji3) : Int).toNat := (by rw [Ny183.out, List.length_take]; omega); rw [← Ny183.out] at hr19; rw [← hy19] at hcut19; have HR186 := Aside0.mk hr19; have HC186 := Aside0.mk (show y183.length ≤ c0 from by omega); clear hr19 hC19 hroom19 hi019 hsz19; have KY19 := Aside0.mk hy19; clear hy19; replace q19 := eq_true q19) | ((with_reducible refine gate_callee (f := 18) rfl ?_); refine goesL_ (some 16) rfl rfl Try.func18 (by kernel_rfl) rfl #[.slice A0 y183.length c0] rfl (by (try simp only [List.map_toArray, List.map_cons, List.map_nil]); first | done | rfl | (simp only [List.length_drop, List.length_take]; rfl)) ?_; (with_reducible refine (script_Encode.calls k _ _ y183 t187 t188 _ ?side1 ?side2 A6.out).mono ?_); (case side1 => repeat (first | exact (Kd.C_below HR186.out HB.out) | (with_reducible refine Kd.C_alloc ?_ _) | (with_reducible refine Kd.C_drewN ?_ _) | (with_reducible refine Kd.C_drew ?_))); (case side2 => exact HC186.out); rintro e w20 ⟨rfl, hb⟩; refine ⟨_, rfl, ?_⟩; have n0_ := Aside0.mk (below_step (by repeat (first | (with_reducible first | exact HB.out | apply below_alloc | apply pw_below_drewN | apply below_drew1) | exact HB.out)) hb); clear HB; have HB := n0_; clear n0_; (try clear hb); (try clear hb2); (try clear hk); (try clear hi)) | ((with_reducible refine gate_callee (f := 19) rfl ?_); refine goesL_ (some 21) rfl rfl Try.func19 (by kernel_rfl) rfl #[.slice A0 y183.length c0] rfl (by (try simp only [List.map_toArray, List.map_cons, List.map_nil]); first | done | rfl | (simp only [List.length_drop, List.length_take]; rfl)) ?_; (with_reducible refine (waymasterref18_Encode.calls k _ _ y183 t189 t190 _ ?side1 ?side2 A7.out).mono ?_); (case side1 => repeat (first | exact (Kd.C_below HR186.out HB.out) | (with_reducible refine Kd.C_alloc ?_ _) | (with_reducible refine Kd.C_drewN ?_ _) | (with_reducible refine Kd.C_drew ?_))); (case side2 => exact HC186.out); rintro e w21 ⟨rfl, hb⟩; refine ⟨_, rfl, ?_⟩; have n0_ := Aside0.mk (below_step (by repeat (first | (with_reducible first | exact HB.out | apply below_alloc | apply pw_below_drewN | apply below_drew1) | exact HB.out)) hb); clear HB; have HB := n0_; clear n0_; (try clear hb); (try clear hb2); (try clear hk); (try clear hi)))
        go_ret
        exact ⟨by first | rfl | (simp [errW_none, errW_some] <;> rfl) | (simp only [← hji3]; first | rfl | (simp [errW_none, errW_some] <;> rfl)) | (simp [*, errW_none, errW_some] <;> rfl), by repeat (first | (with_reducible first | exact HB.out | apply below_alloc | apply pw_below_drewN | apply below_drew1) | exact HB.out)⟩
    · rw [if_neg c5] at H
      exact absurd H (by simp)
  · rw [if_neg c4] at H
    exact absurd H (by simp)

/-! ### waymasterlaw18_ScriptBack: function 6 -/
def waymasterlaw18_ScriptBack.f (k : Nat) (l0 : List (S29)) : Option (Bool) := (waymasterlaw18_shown.f).bind fun t191 => (if 0 ≤ (mn (l0.length : Int) 200) then (if (mn (l0.length : Int) 200) ≤ (l0.length : Int) then ((some (l0.take ((mn (l0.length : Int) 200) : Int).toNat : List (S29))).bind fun y192 => ((script_Encode.f k y192).bind fun bt196 => (if bt196.2 = 0 then (if t191 = true then (if (bt196.1.size : Int) = (wrap64 (6 * (y192.length : Int))) then ((script_Decode.f bt196.1).bind fun t198 => ((waymasterref18_Same.f k t198 y192).bind fun t201 => (some t201))) else (some false)) else (some false)) else (if t191 = true then (some (bt196.1.toList == ([] : List UInt8))) else (some false))))) else (none)) else (none))
theorem waymasterlaw18_ScriptBack.mono : ∀ a0 k, LeO (waymasterlaw18_ScriptBack.f k a0) (waymasterlaw18_ScriptBack.f (k + 1) a0) := by
  intro a0 k
  unfold waymasterlaw18_ScriptBack.f
  repeat' first
      | (with_reducible exact script_Encode.mono _ _)
      | (with_reducible exact waymasterref18_Same.mono _ _ _)
      | (with_reducible exact LeO.refl _)
      | (with_reducible exact LeO.none _)
      | (with_reducible refine LeO.ite ?_ ?_)
      | (with_reducible refine LeO.bind ?_ (fun _ => ?_))
      | exact script_Encode.mono _ _
      | exact waymasterref18_Same.mono _ _ _
      | exact LeO.none _
      | refine LeO.ite ?_ ?_
      | refine LeO.bind ?_ (fun _ => ?_)
set_option maxHeartbeats 8000000 in
set_option maxRecDepth 100000 in
theorem waymasterlaw18_ScriptBack.calls (k : Nat) (A0 : Option Addr) (c0 : Nat) (l0 : List (S29)) (r : Bool) (w : World) (hr0 : Kd.C k29 w A0 l0.length l0) (hc0 : l0.length ≤ c0) (h : waymasterlaw18_ScriptBack.f k l0 = some r) :
    Calls Try.prog 6 #[.slice A0 l0.length c0] w fun e w' => e = .returned (.bool r) ∧ Below w.heap.size w w' := by
  have HR0 := Aside0.mk hr0
  have HC0 := Aside0.mk hc0
  clear hr0 hc0
  have HB := Aside0.mk (Below.refl w.heap.size w)
  have H : ((waymasterlaw18_shown.f).bind fun t191 => (if 0 ≤ (mn (l0.length : Int) 200) then (if (mn (l0.length : Int) 200) ≤ (l0.length : Int) then ((some (l0.take ((mn (l0.length : Int) 200) : Int).toNat : List (S29))).bind fun y192 => ((script_Encode.f k y192).bind fun bt196 => (if bt196.2 = 0 then (if t191 = true then (if (bt196.1.size : Int) = (wrap64 (6 * (y192.length : Int))) then ((script_Decode.f bt196.1).bind fun t198 => ((waymasterref18_Same.f k t198 y192).bind fun t201 => (some t201))) else (some false)) else (some false)) else (if t191 = true then (some (bt196.1.toList == ([] : List UInt8))) else (some false))))) else (none)) else (none))) = some r := h
  clear h
  replace H := Option.bind_eq_some_iff.mp H
  obtain ⟨t191, A20, H⟩ := H
  replace H : (if 0 ≤ (mn (l0.length : Int) 200) then (if (mn (l0.length : Int) 200) ≤ (l0.length : Int) then ((some (l0.take ((mn (l0.length : Int) 200) : Int).toNat : List (S29))).bind fun y192 => ((script_Encode.f k y192).bind fun bt196 => (if bt196.2 = 0 then (if t191 = true then (if (bt196.1.size : Int) = (wrap64 (6 * (y192.length : Int))) then ((script_Decode.f bt196.1).bind fun t198 => ((waymasterref18_Same.f k t198 y192).bind fun t201 => (some t201))) else (some false)) else (some false)) else (if t191 = true then (some (bt196.1.toList == ([] : List UInt8))) else (some false))))) else (none)) else (none)) = some r := H
  have A2 := Aside0.mk A20
  clear A20
  obtain ⟨ji3, hji3⟩ : ∃ j_ : Int, (mn (l0.length : Int) 200) = j_ := ⟨_, rfl⟩
  replace H : (if 0 ≤ (ji3) then (if (ji3) ≤ (l0.length : Int) then ((some (l0.take ((ji3) : Int).toNat : List (S29))).bind fun y192 => ((script_Encode.f k y192).bind fun bt196 => (if bt196.2 = 0 then (if t191 = true then (if (bt196.1.size : Int) = (wrap64 (6 * (y192.length : Int))) then ((script_Decode.f bt196.1).bind fun t198 => ((waymasterref18_Same.f k t198 y192).bind fun t201 => (some t201))) else (some false)) else (some false)) else (if t191 = true then (some (bt196.1.toList == ([] : List UInt8))) else (some false))))) else (none)) else (none)) = some r := by first | (rw [hji3] at H; exact H) | (simp only [hji3] at H ⊢; exact H)
  (try rw [hji3] at A2)
  (try (have hji3h : ji3 ≤ 200 := by (rw [← hji3]; unfold mn; (repeat' split) <;> omega)))
  (try (have hji3g : ji3 ≤ 64 := by omega))
  (try (have hji3l : 0 ≤ ji3 := by (rw [← hji3]; unfold mn; (repeat' split) <;> omega)))
  (try (have hji3m : 0 ≤ ji3 := by omega))
  have hji3_ : (if 200 < (l0.length : Int) then 200 else (l0.length : Int)) = ji3 := hji3
  by_cases c4 : 0 ≤ (ji3)
  · rw [if_pos c4] at H
    have c4b0 := eq_true c4
    have c4b1 : decide (0 ≤ (ji3)) = true := decide_eq_true c4
    clear c4
    by_cases c5 : (ji3) ≤ (l0.length : Int)
    · rw [if_pos c5] at H
      have c5b0 := eq_true c5
      have c5b1 : decide ((ji3) ≤ (l0.length : Int)) = true := decide_eq_true c5
      clear c5
      obtain ⟨y192, hy192⟩ : ∃ y_ : List (S29), y_ = (l0.take ((ji3) : Int).toNat) := ⟨_, rfl⟩
      replace H : ((script_Encode.f k y192).bind fun bt196 => (if bt196.2 = 0 then (if t191 = true then (if (bt196.1.size : Int) = (wrap64 (6 * (y192.length : Int))) then ((script_Decode.f bt196.1).bind fun t198 => ((waymasterref18_Same.f k t198 y192).bind fun t201 => (some t201))) else (some false)) else (some false)) else (if t191 = true then (some (bt196.1.toList == ([] : List UInt8))) else (some false)))) = some r := by first | (rw [hy192]; with_reducible exact H) | (have H2_ := (Option.bind_some _ _).symm.trans H; rw [hy192]; with_reducible exact H2_) | (have H2_ := (Option.bind_some _ _).symm.trans H; with_reducible exact H2_) | with_reducible exact H | (rw [hy192]; exact H) | exact H
      have Ny192 := Aside0.mk hy192
      clear hy192
      replace H := Option.bind_eq_some_iff.mp H
      obtain ⟨⟨t196, t197⟩, A60, H⟩ := H
      replace H : (if t197 = 0 then (if t191 = true then (if (t196.size : Int) = (wrap64 (6 * (y192.length : Int))) then ((script_Decode.f t196).bind fun t198 => ((waymasterref18_Same.f k t198 y192).bind fun t201 => (some t201))) else (some false)) else (some false)) else (if t191 = true then (some (t196.toList == ([] : List UInt8))) else (some false))) = some r := H
      have A6 := Aside0.mk A60
      clear A60
      by_cases c7 : t197 = 0
      · rw [if_pos c7] at H
        have c7b0 : (t197 == 0) = true := beq_iff_eq.mpr c7
        have c7b1 : (t197 != 0) = false := bne_eq_false_iff_eq.mpr c7
        clear c7
        by_cases c8 : t191 = true
        · subst c8
          have H1 : (if (t196.size : Int) = (wrap64 (6 * (y192.length : Int))) then ((script_Decode.f t196).bind fun t198 => ((waymasterref18_Same.f k t198 y192).bind fun t201 => (some t201))) else (some false)) = some r := by rw [if_pos rfl] at H; exact H
          clear H
          have H := H1
          clear H1
          by_cases c9 : (t196.size : Int) = (wrap64 (6 * (y192.length : Int)))
          · rw [if_pos c9] at H
            have c9b0 : ((t196.size : Int) == (wrap64 (6 * (y192.length : Int)))) = true := beq_iff_eq.mpr c9
            have c9b1 : ((t196.size : Int) != (wrap64 (6 * (y192.length : Int)))) = false := bne_eq_false_iff_eq.mpr c9
            clear c9
            replace H := Option.bind_eq_some_iff.mp H
            obtain ⟨t198, A100, H⟩ := H
            replace H : ((waymasterref18_Same.f k t198 y192).bind fun t201 => (some t201)) = some r := H
            have A10 := Aside0.mk A100
            clear A100
            replace H := Option.bind_eq_some_iff.mp H
            obtain ⟨t201, A110, H⟩ := H
            replace H : (some t201) = some r := H
            have A11 := Aside0.mk A110
            clear A110
            obtain rfl := Option.some.inj H
            go_enter Try.func6, Try.ntmps6
            go_wp2_with (first | ((with_reducible refine gate_callee (f := 11) rfl ?_); refine goesL_ (some 6) rfl rfl Try.func11 (by kernel_rfl) rfl #[] rfl (by (try simp only [List.map_toArray, List.map_cons, List.map_nil]); first | done | rfl | (simp only [List.length_drop, List.length_take]; rfl)) ?_; (with_reducible refine (waymasterlaw18_shown.calls  true _ A2.out).mono ?_); rintro e w12 ⟨rfl, hb⟩; refine ⟨_, rfl, ?_⟩; have n0_ := Aside0.mk (below_step (by repeat (first | (with_reducible first | exact HB.out | apply below_alloc | apply pw_below_drewN | apply below_drew1) | exact HB.out)) hb); clear HB; have HB := n0_; clear n0_; (try clear hb); (try clear hb2); (try clear hk); (try clear hi); have q13 : ((ji3) : Int) ≤ ((l0.length : Int) : Int) := of_decide_eq_true (by first | (with_reducible assumption) | assumption); obtain ⟨i013, hi013, _, hsz13, _⟩ := info_parts info29; have hroom13 : l0.length ≤ c0 := HC0.out; have hC13 : Kd.C k29 _ A0 l0.length l0 := HR0.out; have hcut13 := cut_to (P := Try.prog) 24 29 .i64 Try.underlying24 hi013 A0 l0.length c0 (ji3) (of_decide_eq_true (by first | (with_reducible assumption) | assumption)) q13 hroom13; have hr13 := Kd.C_take (m := ((ji3) : Int).toNat) hC13 (by omega); have hy13 : y192.length = ((ji3) : Int).toNat := (by rw [Ny192.out, List.length_take]; omega); rw [← Ny192.out] at hr13; rw [← hy13] at hcut13; have HR195 := Aside0.mk hr13; have HC195 := Aside0.mk (show y192.length ≤ c0 from by omega); clear hr13 hC13 hroom13 hi013 hsz13; have KY13 := Aside0.mk hy13; clear hy13; replace q13 := eq_true q13) | ((with_reducible refine gate_callee (f := 18) rfl ?_); refine goesL_ (some 14) rfl rfl Try.func18 (by kernel_rfl) rfl #[.slice A0 y192.length c0] rfl (by (try simp only [List.map_toArray, List.map_cons, List.map_nil]); first | done | rfl | (simp only [List.length_drop, List.length_take]; rfl)) ?_; (with_reducible refine (script_Encode.calls k _ _ y192 t196 t197 _ ?side1 ?side2 A6.out).mono ?_); (case side1 => repeat (first | exact (Kd.C_below HR195.out HB.out) | (with_reducible refine Kd.C_alloc ?_ _) | (with_reducible refine Kd.C_drewN ?_ _) | (with_reducible refine Kd.C_drew ?_))); (case side2 => exact HC195.out); rintro e w14 ⟨rfl, hb⟩; refine ⟨_, rfl, ?_⟩; have n0_ := Aside0.mk (below_step (by repeat (first | (with_reducible first | exact HB.out | apply below_alloc | apply pw_below_drewN | apply below_drew1) | exact HB.out)) hb); clear HB; have HB := n0_; clear n0_; (try clear hb); (try clear hb2); (try clear hk); (try clear hi)) | (go_at_call 13; (with_reducible refine (script_Decode.calls t196 t198 _ A10.out).mono ?_); rintro e w15 ⟨v199, rfl, ho0, hb⟩; have n0_ := Aside0.mk (Kd.R_lower ho0 (below_size (by repeat (first | (with_reducible first | exact HB.out | apply below_alloc | apply pw_below_drewN | apply below_drew1) | exact HB.out)))); have n1_ := Aside0.mk (below_step (by repeat (first | (with_reducible first | exact HB.out | apply below_alloc | apply pw_below_drewN | apply below_drew1) | exact HB.out)) hb); clear HB; have HO200 := n0_; have HB := n1_; clear n0_ n1_; (try clear hb); (try clear hb2); (try clear hk); (try clear hi); (try clear ho0); obtain ⟨Ao16, co16, eo16⟩ := Kd.R_slice HO200.out; subst eo16) | (go_at_call 12; (with_reducible refine (waymasterref18_Same.calls k _ _ t198 _ _ y192 t201 _ ?side1 ?side2 ?side3 ?side4 A11.out).mono ?_); (case side1 => repeat (first | exact (Kd.R_reads' HO200.out).2.2 | (with_reducible refine Kd.C_alloc ?_ _) | (with_reducible refine Kd.C_drewN ?_ _) | (with_reducible refine Kd.C_drew ?_))); (case side2 => exact (Kd.R_reads' HO200.out).2.1); (case side3 => repeat (first | exact (Kd.C_below HR195.out HB.out) | (with_reducible refine Kd.C_alloc ?_ _) | (with_reducible refine Kd.C_drewN ?_ _) | (with_reducible refine Kd.C_drew ?_))); (case side4 => exact HC195.out); rintro e w' ⟨rfl, ⟨nd, rfl⟩⟩))
            go_ret
            exact ⟨by first | rfl | (simp [errW_none, errW_some] <;> rfl) | (simp only [← hji3]; first | rfl | (simp [errW_none, errW_some] <;> rfl)) | (simp [*, errW_none, errW_some] <;> rfl), by repeat (first | (with_reducible first | exact HB.out | apply below_alloc | apply pw_below_drewN | apply below_drew1) | exact HB.out)⟩
          · rw [if_neg c9] at H
            have c9b0 : ((t196.size : Int) == (wrap64 (6 * (y192.length : Int)))) = false := beq_eq_false_iff_ne.mpr c9
            have c9b1 : ((t196.size : Int) != (wrap64 (6 * (y192.length : Int)))) = true := bne_iff_ne.mpr c9
            obtain rfl := Option.some.inj H
            go_enter Try.func6, Try.ntmps6
            go_wp2_with (first | ((with_reducible refine gate_callee (f := 11) rfl ?_); refine goesL_ (some 6) rfl rfl Try.func11 (by kernel_rfl) rfl #[] rfl (by (try simp only [List.map_toArray, List.map_cons, List.map_nil]); first | done | rfl | (simp only [List.length_drop, List.length_take]; rfl)) ?_; (with_reducible refine (waymasterlaw18_shown.calls  true _ A2.out).mono ?_); rintro e w17 ⟨rfl, hb⟩; refine ⟨_, rfl, ?_⟩; have n0_ := Aside0.mk (below_step (by repeat (first | (with_reducible first | exact HB.out | apply below_alloc | apply pw_below_drewN | apply below_drew1) | exact HB.out)) hb); clear HB; have HB := n0_; clear n0_; (try clear hb); (try clear hb2); (try clear hk); (try clear hi); have q18 : ((ji3) : Int) ≤ ((l0.length : Int) : Int) := of_decide_eq_true (by first | (with_reducible assumption) | assumption); obtain ⟨i018, hi018, _, hsz18, _⟩ := info_parts info29; have hroom18 : l0.length ≤ c0 := HC0.out; have hC18 : Kd.C k29 _ A0 l0.length l0 := HR0.out; have hcut18 := cut_to (P := Try.prog) 24 29 .i64 Try.underlying24 hi018 A0 l0.length c0 (ji3) (of_decide_eq_true (by first | (with_reducible assumption) | assumption)) q18 hroom18; have hr18 := Kd.C_take (m := ((ji3) : Int).toNat) hC18 (by omega); have hy18 : y192.length = ((ji3) : Int).toNat := (by rw [Ny192.out, List.length_take]; omega); rw [← Ny192.out] at hr18; rw [← hy18] at hcut18; have HR195 := Aside0.mk hr18; have HC195 := Aside0.mk (show y192.length ≤ c0 from by omega); clear hr18 hC18 hroom18 hi018 hsz18; have KY18 := Aside0.mk hy18; clear hy18; replace q18 := eq_true q18) | ((with_reducible refine gate_callee (f := 18) rfl ?_); refine goesL_ (some 14) rfl rfl Try.func18 (by kernel_rfl) rfl #[.slice A0 y192.length c0] rfl (by (try simp only [List.map_toArray, List.map_cons, List.map_nil]); first | done | rfl | (simp only [List.length_drop, List.length_take]; rfl)) ?_; (with_reducible refine (script_Encode.calls k _ _ y192 t196 t197 _ ?side1 ?side2 A6.out).mono ?_); (case side1 => repeat (first | exact (Kd.C_below HR195.out HB.out) | (with_reducible refine Kd.C_alloc ?_ _) | (with_reducible refine Kd.C_drewN ?_ _) | (with_reducible refine Kd.C_drew ?_))); (case side2 => exact HC195.out); rintro e w19 ⟨rfl, hb⟩; refine ⟨_, rfl, ?_⟩; have n0_ := Aside0.mk (below_step (by repeat (first | (with_reducible first | exact HB.out | apply below_alloc | apply pw_below_drewN | apply below_drew1) | exact HB.out)) hb); clear HB; have HB := n0_; clear n0_; (try clear hb); (try clear hb2); (try clear hk); (try clear hi)))
            go_ret
            exact ⟨by first | rfl | (simp [errW_none, errW_some] <;> rfl) | (simp only [← hji3]; first | rfl | (simp [errW_none, errW_some] <;> rfl)) | (simp [*, errW_none, errW_some] <;> rfl), by repeat (first | (with_reducible first | exact HB.out | apply below_alloc | apply pw_below_drewN | apply below_drew1) | exact HB.out)⟩
        · replace c8 := Bool.eq_false_iff.mpr c8
          subst c8
          have H1 : (some false) = some r := by rw [if_neg (show ¬ (false = true) by decide)] at H; exact H
          clear H
          have H := H1
          clear H1
          obtain rfl := Option.some.inj H
          go_enter Try.func6, Try.ntmps6
          go_wp2_with (first | ((with_reducible refine gate_callee (f := 11) rfl ?_); refine goesL_ (some 6) rfl rfl Try.func11 (by kernel_rfl) rfl #[] rfl (by (try simp only [List.map_toArray, List.map_cons, List.map_nil]); first | done | rfl | (simp only [List.length_drop, List.length_take]; rfl)) ?_; (with_reducible refine (waymasterlaw18_shown.calls  false _ A2.out).mono ?_); rintro e w20 ⟨rfl, hb⟩; refine ⟨_, rfl, ?_⟩; have n0_ := Aside0.mk (below_step (by repeat (first | (with_reducible first | exact HB.out | apply below_alloc | apply pw_below_drewN | apply below_drew1) | exact HB.out)) hb); clear HB; have HB := n0_; clear n0_; (try clear hb); (try clear hb2); (try clear hk); (try clear hi); have q21 : ((ji3) : Int) ≤ ((l0.length : Int) : Int) := of_decide_eq_true (by first | (with_reducible assumption) | assumption); obtain ⟨i021, hi021, _, hsz21, _⟩ := info_parts info29; have hroom21 : l0.length ≤ c0 := HC0.out; have hC21 : Kd.C k29 _ A0 l0.length l0 := HR0.out; have hcut21 := cut_to (P := Try.prog) 24 29 .i64 Try.underlying24 hi021 A0 l0.length c0 (ji3) (of_decide_eq_true (by first | (with_reducible assumption) | assumption)) q21 hroom21; have hr21 := Kd.C_take (m := ((ji3) : Int).toNat) hC21 (by omega); have hy21 : y192.length = ((ji3) : Int).toNat := (by rw [Ny192.out, List.length_take]; omega); rw [← Ny192.out] at hr21; rw [← hy21] at hcut21; have HR195 := Aside0.mk hr21; have HC195 := Aside0.mk (show y192.length ≤ c0 from by omega); clear hr21 hC21 hroom21 hi021 hsz21; have KY21 := Aside0.mk hy21; clear hy21; replace q21 := eq_true q21) | ((with_reducible refine gate_callee (f := 18) rfl ?_); refine goesL_ (some 14) rfl rfl Try.func18 (by kernel_rfl) rfl #[.slice A0 y192.length c0] rfl (by (try simp only [List.map_toArray, List.map_cons, List.map_nil]); first | done | rfl | (simp only [List.length_drop, List.length_take]; rfl)) ?_; (with_reducible refine (script_Encode.calls k _ _ y192 t196 t197 _ ?side1 ?side2 A6.out).mono ?_); (case side1 => repeat (first | exact (Kd.C_below HR195.out HB.out) | (with_reducible refine Kd.C_alloc ?_ _) | (with_reducible refine Kd.C_drewN ?_ _) | (with_reducible refine Kd.C_drew ?_))); (case side2 => exact HC195.out); rintro e w22 ⟨rfl, hb⟩; refine ⟨_, rfl, ?_⟩; have n0_ := Aside0.mk (below_step (by repeat (first | (with_reducible first | exact HB.out | apply below_alloc | apply pw_below_drewN | apply below_drew1) | exact HB.out)) hb); clear HB; have HB := n0_; clear n0_; (try clear hb); (try clear hb2); (try clear hk); (try clear hi)))
          go_ret
          exact ⟨by first | rfl | (simp [errW_none, errW_some] <;> rfl) | (simp only [← hji3]; first | rfl | (simp [errW_none, errW_some] <;> rfl)) | (simp [*, errW_none, errW_some] <;> rfl), by repeat (first | (with_reducible first | exact HB.out | apply below_alloc | apply pw_below_drewN | apply below_drew1) | exact HB.out)⟩
      · rw [if_neg c7] at H
        have c7b0 : (t197 == 0) = false := beq_eq_false_iff_ne.mpr c7
        have c7b1 : (t197 != 0) = true := bne_iff_ne.mpr c7
        by_cases c23 : t191 = true
        · subst c23
          have H1 : (some (t196.toList == ([] : List UInt8))) = some r := by rw [if_pos rfl] at H; exact H
          clear H
          have H := H1
          clear H1
          obtain rfl := Option.some.inj H
          go_enter Try.func6, Try.ntmps6
          go_wp2_with (first | ((with_reducible refine gate_callee (f := 11) rfl ?_); refine goesL_ (some 6) rfl rfl Try.func11 (by kernel_rfl) rfl #[] rfl (by (try simp only [List.map_toArray, List.map_cons, List.map_nil]); first | done | rfl | (simp only [List.length_drop, List.length_take]; rfl)) ?_; (with_reducible refine (waymasterlaw18_shown.calls  true _ A2.out).mono ?_); rintro e w24 ⟨rfl, hb⟩; refine ⟨_, rfl, ?_⟩; have n0_ := Aside0.mk (below_step (by repeat (first | (with_reducible first | exact HB.out | apply below_alloc | apply pw_below_drewN | apply below_drew1) | exact HB.out)) hb); clear HB; have HB := n0_; clear n0_; (try clear hb); (try clear hb2); (try clear hk); (try clear hi); have q25 : ((ji3) : Int) ≤ ((l0.length : Int) : Int) := of_decide_eq_true (by first | (with_reducible assumption) | assumption); obtain ⟨i025, hi025, _, hsz25, _⟩ := info_parts info29; have hroom25 : l0.length ≤ c0 := HC0.out; have hC25 : Kd.C k29 _ A0 l0.length l0 := HR0.out; have hcut25 := cut_to (P := Try.prog) 24 29 .i64 Try.underlying24 hi025 A0 l0.length c0 (ji3) (of_decide_eq_true (by first | (with_reducible assumption) | assumption)) q25 hroom25; have hr25 := Kd.C_take (m := ((ji3) : Int).toNat) hC25 (by omega); have hy25 : y192.length = ((ji3) : Int).toNat := (by rw [Ny192.out, List.length_take]; omega); rw [← Ny192.out] at hr25; rw [← hy25] at hcut25; have HR195 := Aside0.mk hr25; have HC195 := Aside0.mk (show y192.length ≤ c0 from by omega); clear hr25 hC25 hroom25 hi025 hsz25; have KY25 := Aside0.mk hy25; clear hy25; replace q25 := eq_true q25) | ((with_reducible refine gate_callee (f := 18) rfl ?_); refine goesL_ (some 14) rfl rfl Try.func18 (by kernel_rfl) rfl #[.slice A0 y192.length c0] rfl (by (try simp only [List.map_toArray, List.map_cons, List.map_nil]); first | done | rfl | (simp only [List.length_drop, List.length_take]; rfl)) ?_; (with_reducible refine (script_Encode.calls k _ _ y192 t196 t197 _ ?side1 ?side2 A6.out).mono ?_); (case side1 => repeat (first | exact (Kd.C_below HR195.out HB.out) | (with_reducible refine Kd.C_alloc ?_ _) | (with_reducible refine Kd.C_drewN ?_ _) | (with_reducible refine Kd.C_drew ?_))); (case side2 => exact HC195.out); rintro e w26 ⟨rfl, hb⟩; refine ⟨_, rfl, ?_⟩; have n0_ := Aside0.mk (below_step (by repeat (first | (with_reducible first | exact HB.out | apply below_alloc | apply pw_below_drewN | apply below_drew1) | exact HB.out)) hb); clear HB; have HB := n0_; clear n0_; (try clear hb); (try clear hb2); (try clear hk); (try clear hi)))
          go_ret
          exact ⟨by first | rfl | (simp [errW_none, errW_some] <;> rfl) | (simp only [← hji3]; first | rfl | (simp [errW_none, errW_some] <;> rfl)) | (simp [*, errW_none, errW_some] <;> rfl), by repeat (first | (with_reducible first | exact HB.out | apply below_alloc | apply pw_below_drewN | apply below_drew1) | exact HB.out)⟩
        · replace c23 := Bool.eq_false_iff.mpr c23
          subst c23
          have H1 : (some false) = some r := by rw [if_neg (show ¬ (false = true) by decide)] at H; exact H
          clear H
          have H := H1
          clear H1
          obtain rfl := Option.some.inj H
          go_enter Try.func6, Try.ntmps6
          go_wp2_with (first | ((with_reducible refine gate_callee (f := 11) rfl ?_); refine goesL_ (some 6) rfl rfl Try.func11 (by kernel_rfl) rfl #[] rfl (by (try simp only [List.map_toArray, List.map_cons, List.map_nil]); first | done | rfl | (simp only [List.length_drop, List.length_take]; rfl)) ?_; (with_reducible refine (waymasterlaw18_shown.calls  false _ A2.out).mono ?_); rintro e w27 ⟨rfl, hb⟩; refine ⟨_, rfl, ?_⟩; have n0_ := Aside0.mk (below_step (by repeat (first | (with_reducible first | exact HB.out | apply below_alloc | apply pw_below_drewN | apply below_drew1) | exact HB.out)) hb); clear HB; have HB := n0_; clear n0_; (try clear hb); (try clear hb2); (try clear hk); (try clear hi); have q28 : ((ji3) : Int) ≤ ((l0.length : Int) : Int) := of_decide_eq_true (by first | (with_reducible assumption) | assumption); obtain ⟨i028, hi028, _, hsz28, _⟩ := info_parts info29; have hroom28 : l0.length ≤ c0 := HC0.out; have hC28 : Kd.C k29 _ A0 l0.length l0 := HR0.out; have hcut28 := cut_to (P := Try.prog) 24 29 .i64 Try.underlying24 hi028 A0 l0.length c0 (ji3) (of_decide_eq_true (by first | (with_reducible assumption) | assumption)) q28 hroom28; have hr28 := Kd.C_take (m := ((ji3) : Int).toNat) hC28 (by omega); have hy28 : y192.length = ((ji3) : Int).toNat := (by rw [Ny192.out, List.length_take]; omega); rw [← Ny192.out] at hr28; rw [← hy28] at hcut28; have HR195 := Aside0.mk hr28; have HC195 := Aside0.mk (show y192.length ≤ c0 from by omega); clear hr28 hC28 hroom28 hi028 hsz28; have KY28 := Aside0.mk hy28; clear hy28; replace q28 := eq_true q28) | ((with_reducible refine gate_callee (f := 18) rfl ?_); refine goesL_ (some 14) rfl rfl Try.func18 (by kernel_rfl) rfl #[.slice A0 y192.length c0] rfl (by (try simp only [List.map_toArray, List.map_cons, List.map_nil]); first | done | rfl | (simp only [List.length_drop, List.length_take]; rfl)) ?_; (with_reducible refine (script_Encode.calls k _ _ y192 t196 t197 _ ?side1 ?side2 A6.out).mono ?_); (case side1 => repeat (first | exact (Kd.C_below HR195.out HB.out) | (with_reducible refine Kd.C_alloc ?_ _) | (with_reducible refine Kd.C_drewN ?_ _) | (with_reducible refine Kd.C_drew ?_))); (case side2 => exact HC195.out); rintro e w29 ⟨rfl, hb⟩; refine ⟨_, rfl, ?_⟩; have n0_ := Aside0.mk (below_step (by repeat (first | (with_reducible first | exact HB.out | apply below_alloc | apply pw_below_drewN | apply below_drew1) | exact HB.out)) hb); clear HB; have HB := n0_; clear n0_; (try clear hb); (try clear hb2); (try clear hk); (try clear hi)))
          go_ret
          exact ⟨by first | rfl | (simp [errW_none, errW_some] <;> rfl) | (simp only [← hji3]; first | rfl | (simp [errW_none, errW_some] <;> rfl)) | (simp [*, errW_none, errW_some] <;> rfl), by repeat (first | (with_reducible first | exact HB.out | apply below_alloc | apply pw_below_drewN | apply below_drew1) | exact HB.out)⟩
    · rw [if_neg c5] at H
      exact absurd H (by simp)
  · rw [if_neg c4] at H
    exact absurd H (by simp)

-- NOT PRINTED: function 7 (waymasterlaw18_ScriptTells)

end Go.Proofs.Ytkjhklnjmpicgaa.QL
