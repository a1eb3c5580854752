/- Functions of the program as Lean functions, and the walks that show it, written by a program of this session on the base of the kit printer; Lean checks all of it. -/
import Derived.Test.YtafmgnojlnkmjaaQLx0
import Derived.Test.YtafmgnojlnkmjaaH4
import Derived.Test.YtafmgnojlnkmjaaQLx4
import Derived.Test.YtafmgnojlnkmjaaQLx20
import Derived.Test.YtafmgnojlnkmjaaH3
namespace Go.Proofs.Ytafmgnojlnkmjaa.QL
open Go.Proofs.Ytafmgnojlnkmjaa.H
open Go.RowKit Go.Proofs.YtafmgnojlnkmjaaW.PrintWords Go.Proofs.YtafmgnojlnkmjaaW.PrintLast Go.Proofs.YtafmgnojlnkmjaaW.PrintMore
attribute [local go_sem] max2_int min2_int max_two min_two max_three min_three max_four min_four   -- for this text's walks alone
set_option linter.unusedVariables false
set_option linter.unusedSimpArgs false

/-! ### waymasterlaw08_TableOwners: function 9 -/
mutual
def waymasterlaw08_TableOwners.l0 : Nat → Bool → Int → Int → List Int → List (S32) → Option (Bool)
  | 0, _, _, _, _, _ => none
  | k + 1, x3, x4, x306000, x306001, x306002 => if x4 < (x306002.length : Int) then (waymasterlaw08_TableOwners.l1 k x3 x4 0 x306000 x306001 x306002) else ((table_Idle.f x306000 x306001 x306002).bind fun bt312 => (waymasterlaw08_TableOwners.l2 k x3 bt312.1 bt312.2 0 x306000 x306001 x306002))
def waymasterlaw08_TableOwners.l1 : Nat → Bool → Int → Int → Int → List Int → List (S32) → Option (Bool)
  | 0, _, _, _, _, _, _ => none
  | k + 1, x3, x4, x5, x306000, x306001, x306002 => if 0 ≤ x4 then (if x4 < (x306002.length : Int) then (if x5 < ((rd_T32 x306002 x4).f1) then ((table_Owner.f x306000 x306001 x306002 (wrap64 (((rd_T32 x306002 x4).f0) + x5))).bind fun bt310 => (if bt310.1 = x4 then (if bt310.2 = 0 then (waymasterlaw08_TableOwners.l1 k x3 x4 (wrap64 (x5 + 1)) x306000 x306001 x306002) else (some false)) else (some false))) else (waymasterlaw08_TableOwners.l0 k x3 (wrap64 (x4 + 1)) x306000 x306001 x306002)) else (none)) else (none)
def waymasterlaw08_TableOwners.l2 : Nat → Bool → List Int → Int → Int → Int → List Int → List (S32) → Option (Bool)
  | 0, _, _, _, _, _, _, _ => none
  | k + 1, x3, x8, x9, x10, x306000, x306001, x306002 => if x10 < x306000 then ((table_Owner.f x306000 x306001 x306002 x10).bind fun bt316 => (if bt316.2 = 0 then ((waymasterlaw08_has.f k x8 x10).bind fun t318 => (if ((bt316.1 == (-1)) != t318) = true then (some false) else (waymasterlaw08_TableOwners.l2 k x3 x8 x9 (wrap64 (x10 + 1)) x306000 x306001 x306002))) else (some false))) else (if x3 = true then (some (x9 == 0)) else (some false))
end
def waymasterlaw08_TableOwners.f (k : Nat) (a0_0 : Int) (l0_1 : List Int) (l0_2 : List (S32)) : Option (Bool) := (waymasterlaw08_shown.f k).bind fun t306 => ((table_Right.f a0_0 l0_1 l0_2).bind fun t307 => (if t307 = true then (waymasterlaw08_TableOwners.l0 k t306 0 a0_0 l0_1 l0_2) else (some t306)))
theorem waymasterlaw08_TableOwners.mono_l : ∀ k, (∀ y0 y1 y2 y3 y4, LeO (waymasterlaw08_TableOwners.l0 k y0 y1 y2 y3 y4) (waymasterlaw08_TableOwners.l0 (k + 1) y0 y1 y2 y3 y4)) ∧ (∀ y0 y1 y2 y3 y4 y5, LeO (waymasterlaw08_TableOwners.l1 k y0 y1 y2 y3 y4 y5) (waymasterlaw08_TableOwners.l1 (k + 1) y0 y1 y2 y3 y4 y5)) ∧ (∀ y0 y1 y2 y3 y4 y5 y6, LeO (waymasterlaw08_TableOwners.l2 k y0 y1 y2 y3 y4 y5 y6) (waymasterlaw08_TableOwners.l2 (k + 1) y0 y1 y2 y3 y4 y5 y6))
  | 0 => ⟨fun _ _ _ _ _ r h => by simp [waymasterlaw08_TableOwners.l0] at h, fun _ _ _ _ _ _ r h => by simp [waymasterlaw08_TableOwners.l1] at h, fun _ _ _ _ _ _ _ r h => by simp [waymasterlaw08_TableOwners.l2] at h⟩
  | k + 1 => by
    obtain ⟨ih0, ih1, ih2⟩ := waymasterlaw08_TableOwners.mono_l k
    refine ⟨?_, ?_, ?_⟩
    · intro y0 y1 y2 y3 y4
      unfold waymasterlaw08_TableOwners.l0
      repeat' first
      | (with_reducible exact ih0 _ _ _ _ _)
      | (with_reducible exact ih1 _ _ _ _ _ _)
      | (with_reducible exact ih2 _ _ _ _ _ _ _)
      | (with_reducible exact waymasterlaw08_has.mono _ _ _)
      | (with_reducible exact waymasterlaw08_shown.mono _)
      | (with_reducible exact LeO.refl _)
      | (with_reducible exact LeO.none _)
      | (with_reducible refine LeO.ite ?_ ?_)
      | (with_reducible refine LeO.bind ?_ (fun _ => ?_))
      | exact ih0 _ _ _ _ _
      | exact ih1 _ _ _ _ _ _
      | exact ih2 _ _ _ _ _ _ _
      | exact waymasterlaw08_has.mono _ _ _
      | exact waymasterlaw08_shown.mono _
      | exact LeO.none _
      | refine LeO.ite ?_ ?_
      | refine LeO.bind ?_ (fun _ => ?_)
    · intro y0 y1 y2 y3 y4 y5
      unfold waymasterlaw08_TableOwners.l1
      repeat' first
      | (with_reducible exact ih0 _ _ _ _ _)
      | (with_reducible exact ih1 _ _ _ _ _ _)
      | (with_reducible exact ih2 _ _ _ _ _ _ _)
      | (with_reducible exact waymasterlaw08_has.mono _ _ _)
      | (with_reducible exact waymasterlaw08_shown.mono _)
      | (with_reducible exact LeO.refl _)
      | (with_reducible exact LeO.none _)
      | (with_reducible refine LeO.ite ?_ ?_)
      | (with_reducible refine LeO.bind ?_ (fun _ => ?_))
      | exact ih0 _ _ _ _ _
      | exact ih1 _ _ _ _ _ _
      | exact ih2 _ _ _ _ _ _ _
      | exact waymasterlaw08_has.mono _ _ _
      | exact waymasterlaw08_shown.mono _
      | exact LeO.none _
      | refine LeO.ite ?_ ?_
      | refine LeO.bind ?_ (fun _ => ?_)
    · intro y0 y1 y2 y3 y4 y5 y6
      unfold waymasterlaw08_TableOwners.l2
      repeat' first
      | (with_reducible exact ih0 _ _ _ _ _)
      | (with_reducible exact ih1 _ _ _ _ _ _)
      | (with_reducible exact ih2 _ _ _ _ _ _ _)
      | (with_reducible exact waymasterlaw08_has.mono _ _ _)
      | (with_reducible exact waymasterlaw08_shown.mono _)
      | (with_reducible exact LeO.refl _)
      | (with_reducible exact LeO.none _)
      | (with_reducible refine LeO.ite ?_ ?_)
      | (with_reducible refine LeO.bind ?_ (fun _ => ?_))
      | exact ih0 _ _ _ _ _
      | exact ih1 _ _ _ _ _ _
      | exact ih2 _ _ _ _ _ _ _
      | exact waymasterlaw08_has.mono _ _ _
      | exact waymasterlaw08_shown.mono _
      | exact LeO.none _
      | refine LeO.ite ?_ ?_
      | refine LeO.bind ?_ (fun _ => ?_)
theorem waymasterlaw08_TableOwners.mono : ∀ a0 a1 a2 k, LeO (waymasterlaw08_TableOwners.f k a0 a1 a2) (waymasterlaw08_TableOwners.f (k + 1) a0 a1 a2) := by
  intro a0 a1 a2 k
  obtain ⟨ih0, ih1, ih2⟩ := waymasterlaw08_TableOwners.mono_l k
  unfold waymasterlaw08_TableOwners.f
  repeat' first
      | (with_reducible exact ih0 _ _ _ _ _)
      | (with_reducible exact ih1 _ _ _ _ _ _)
      | (with_reducible exact ih2 _ _ _ _ _ _ _)
      | (with_reducible exact waymasterlaw08_has.mono _ _ _)
      | (with_reducible exact waymasterlaw08_shown.mono _)
      | (with_reducible exact LeO.refl _)
      | (with_reducible exact LeO.none _)
      | (with_reducible refine LeO.ite ?_ ?_)
      | (with_reducible refine LeO.bind ?_ (fun _ => ?_))
      | exact ih0 _ _ _ _ _
      | exact ih1 _ _ _ _ _ _
      | exact ih2 _ _ _ _ _ _ _
      | exact waymasterlaw08_has.mono _ _ _
      | exact waymasterlaw08_shown.mono _
      | exact LeO.none _
      | refine LeO.ite ?_ ?_
      | refine LeO.bind ?_ (fun _ => ?_)
def waymasterlaw08_TableOwners.T11 : Bool × List (List Nat × List Nat) := (true, [([], []), ([], []), ([1], [1]), ([], []), ([2, 3], [2, 3]), ([4], [4]), ([5], [5]), ([], []), ([6, 7], [6, 7]), ([0, 8], [0, 8]), ([9], [9]), ([10], [10]), ([10], [10]), ([11, 9, 0, 1, 2, 3, 4, 5, 6, 7, 8, 9, 10, 11], [11]), ([12, 13, 0, 1, 2, 3, 4, 5, 6, 7, 8, 9, 10, 11, 12, 13], [12])])
def waymasterlaw08_TableOwners.B11 : List Nat := [0, 0, 2, 0, 14, 30, 62, 0, 254, 511, 1023, 2047, 2047, 4095, 16383]
theorem waymasterlaw08_TableOwners.tab11 : rtab .any (opsOf Try.f9 11) = waymasterlaw08_TableOwners.T11 := by kernel_rfl
theorem waymasterlaw08_TableOwners.bits11 : waitsOk waymasterlaw08_TableOwners.T11.2 waymasterlaw08_TableOwners.B11 = true := by kernel_rfl
set_option maxHeartbeats 8000000 in
set_option maxRecDepth 100000 in
theorem waymasterlaw08_TableOwners.calls (k : Nat) (a0_0 : Int) (A0_1 : Option Addr) (c0_1 : Nat) (l0_1 : List Int) (A0_2 : Option Addr) (c0_2 : Nat) (l0_2 : List (S32)) (r : Bool) (N0_1 N0_2 : Nat) (hN0_1 : l0_1.length = min N0_1 20) (hN0_2 : l0_2.length = min N0_2 20) (hM0_1 : N0_1 ≤ c0_1) (hM0_2 : N0_2 ≤ c0_2) (w : World) (hr0_1 : Kd.C (Kd.int .i64) w A0_1 l0_1.length l0_1) (hc0_1 : l0_1.length ≤ c0_1) (hr0_2 : Kd.C k32 w A0_2 l0_2.length l0_2) (hc0_2 : l0_2.length ≤ c0_2) (h : waymasterlaw08_TableOwners.f k a0_0 l0_1 l0_2 = some r) :
    Calls Try.prog 9 #[.agg #[.int .i64 a0_0, .slice A0_1 N0_1 c0_1, .slice A0_2 N0_2 c0_2]] w fun e w' => e = .returned (.bool r) ∧ Below w.heap.size w w' := by
  have HN0_1 := Aside0.mk hN0_1
  have HM0_1 := Aside0.mk hM0_1
  clear hN0_1 hM0_1
  have HN0_2 := Aside0.mk hN0_2
  have HM0_2 := Aside0.mk hM0_2
  clear hN0_2 hM0_2
  have hu25 := Try.underlying25
  have HR0_1 := Aside0.mk hr0_1
  have HC0_1 := Aside0.mk hc0_1
  clear hr0_1 hc0_1
  have HR0_2 := Aside0.mk hr0_2
  have HC0_2 := Aside0.mk hc0_2
  clear hr0_2 hc0_2
  have HB := Aside0.mk (Below.refl w.heap.size w)
  have H : ((waymasterlaw08_shown.f k).bind fun t306 => ((table_Right.f a0_0 l0_1 l0_2).bind fun t307 => (if t307 = true then (waymasterlaw08_TableOwners.l0 k t306 0 a0_0 l0_1 l0_2) else (some t306)))) = some r := h
  clear h
  replace H := Option.bind_eq_some_iff.mp H
  obtain ⟨t306, A20, H⟩ := H
  replace H : ((table_Right.f a0_0 l0_1 l0_2).bind fun t307 => (if t307 = true then (waymasterlaw08_TableOwners.l0 k t306 0 a0_0 l0_1 l0_2) else (some t306))) = some r := H
  have A2 := Aside0.mk A20
  clear A20
  replace H := Option.bind_eq_some_iff.mp H
  obtain ⟨t307, A30, H⟩ := H
  replace H : (if t307 = true then (waymasterlaw08_TableOwners.l0 k t306 0 a0_0 l0_1 l0_2) else (some t306)) = some r := H
  have A3 := Aside0.mk A30
  clear A30
  by_cases c4 : t307 = true
  · subst c4
    have H1 : (waymasterlaw08_TableOwners.l0 k t306 0 a0_0 l0_1 l0_2) = some r := by rw [if_pos rfl] at H; exact H
    clear H
    have H := H1
    clear H1
    have H' := Aside0.mk H
    clear H
    go_enter Try.func9, Try.ntmps9
    go_wp2_with (first | ((with_reducible refine gate_dst (N := 1) rfl ?_); refine box_event ?hg (N := 1) ?hd (cs := #[.int .i64 a0_0, .slice A0_1 N0_1 c0_1, .slice A0_2 N0_2 c0_2]) (t := 25) ?hr ?_; (case hd => rfl); (case hg => rfl); (case hr => first | (go_simp; done) | (go_simp; rfl)); intro gb305 hg w5 hbox hb; have n0_ := Aside0.mk (below_step (by repeat (first | (with_reducible first | exact HB.out | apply below_alloc | apply pw_below_drewN | apply below_drew1) | exact HB.out)) hb); have n1_ := Aside0.mk (hbox); have n2_ := Aside0.mk ((by rw [hg]; exact (below_size (by repeat (first | (with_reducible first | exact HB.out | apply below_alloc | apply pw_below_drewN | apply below_drew1) | exact HB.out))) : w.heap.size ≤ gb305)); have n3_ := Aside0.mk ((by rw [hg]; exact (below_size (by repeat (first | (with_reducible first | exact HB.out | apply below_alloc | apply pw_below_drewN | apply below_drew1) | exact HB.out))) : w.heap.size ≤ gb305)); clear HB; have HB := n0_; have BK305 := n1_; have GW305 := n2_; have GE305 := n3_; clear n0_ n1_ n2_ n3_; clear hb hbox hg) | ((with_reducible refine gate_callee (f := 11) rfl ?_); refine goesL_ (some 13) rfl rfl Try.func11 (by kernel_rfl) rfl #[] rfl (by (try simp only [List.map_toArray, List.map_cons, List.map_nil]); first | done | rfl | (simp only [List.length_drop, List.length_take]; rfl)) ?_; (with_reducible refine (waymasterlaw08_shown.calls k  t306 _ A2.out).mono ?_); rintro e w6 ⟨rfl, hb⟩; refine ⟨_, rfl, ?_⟩; have n0_ := Aside0.mk (blk_below (g := gb305) (o := .cells #[.int .i64 a0_0, .slice A0_1 N0_1 c0_1, .slice A0_2 N0_2 c0_2] 25 (0, 0)) (by (with_reducible repeat (first | refine blk_drewN ?_ _ | refine blk_drew ?_ | refine blk_alloc ?_ _)); exact BK305.out) hb); have n1_ := Aside0.mk (below_step (by repeat (first | (with_reducible first | exact HB.out | apply below_alloc | apply pw_below_drewN | apply below_drew1 | refine below_set ?_ GE305.out) | exact HB.out)) hb); clear BK305; clear HB; have BK305 := n0_; have HB := n1_; clear n0_ n1_; (try clear hb); (try clear hb2); (try clear hk); (try clear hi); have hcz7_0 : w6.cell? ⟨gb305, 0, none⟩ = some (.int .i64 a0_0) := (blk_cell BK305.out 0).trans rfl; have hcz7_1 : w6.cell? ⟨gb305, 1, none⟩ = some (.slice A0_1 N0_1 c0_1) := (blk_cell BK305.out 1).trans rfl; have hcz7_2 : w6.cell? ⟨gb305, 2, none⟩ = some (.slice A0_2 N0_2 c0_2) := (blk_cell BK305.out 2).trans rfl; have hfz7_0 := blk_frozen BK305.out 0; have hfz7_1 := blk_frozen BK305.out 1; have hfz7_2 := blk_frozen BK305.out 2) | (go_at_call 12; (with_reducible refine (Go.Proofs.Ytafmgnojlnkmjaa.H.cut_calls a0_0 A0_1 N0_1 l0_1.length c0_1 A0_2 N0_2 l0_2.length c0_2 HN0_1.out HN0_2.out HM0_1.out HM0_2.out _).mono ?_); rintro e w6 ⟨rfl, hb⟩; have n0_ := Aside0.mk (below_step (by repeat (first | (with_reducible first | exact HB.out | apply below_alloc | apply pw_below_drewN | apply below_drew1) | exact HB.out)) hb); have m0_ := Aside0.mk (blk_below (g := gb305) BK305.out hb); clear BK305; have BK305 := m0_; clear m0_; clear HB; have HB := n0_; clear n0_ hb; have hcc0_0 := (blk_cell (w := w6) BK305.out 0).trans rfl; have hcc0_1 := (blk_cell (w := w6) BK305.out 1).trans rfl; have hcc0_2 := (blk_cell (w := w6) BK305.out 2).trans rfl) | (refine Go.Proofs.Ytafmgnojlnkmjaa.H.gate_store (.tmp 1) rfl ?_; refine Go.Proofs.Ytafmgnojlnkmjaa.H.wpList_struct rfl (.tmp 1) _ rfl gb305 _ #[.int .i64 a0_0, .slice A0_1 l0_1.length c0_1, .slice A0_2 l0_2.length c0_2] rfl rfl BK305.out rfl rfl (by simp [Value.oneCell']) ?_; intro w6 hs1 hs2 hs3; have n0_ := Aside0.mk (HB.out.trans (hs3 _ GE305.out)); have n1_ := Aside0.mk hs1; clear HB; clear BK305; have HB := n0_; have BK305 := n1_; clear n0_ n1_ hs1 hs2 hs3; have hcs0_0 := (blk_cell (w := w6) BK305.out 0).trans rfl; have hcs0_1 := (blk_cell (w := w6) BK305.out 1).trans rfl; have hcs0_2 := (blk_cell (w := w6) BK305.out 2).trans rfl) | ((with_reducible refine gate_callee (f := 22) rfl ?_); refine goesL_ (some 17) rfl rfl Try.func22 (by kernel_rfl) rfl #[.agg #[.int .i64 a0_0, .slice A0_1 l0_1.length c0_1, .slice A0_2 l0_2.length c0_2]] rfl (by (try simp only [List.map_toArray, List.map_cons, List.map_nil]); first | done | rfl | (simp only [List.length_drop, List.length_take]; rfl)) ?_; (with_reducible refine (table_Right.calls a0_0 _ _ l0_1 _ _ l0_2 true _ ?side1 ?side2 ?side3 ?side4 A3.out).mono ?_); (case side1 => exact Kd.C_below HR0_1.out (by repeat (first | (with_reducible first | exact HB.out | apply below_alloc | apply pw_below_drewN | apply below_drew1 | refine below_set ?_ GE305.out) | exact HB.out))); (case side2 => exact HC0_1.out); (case side3 => exact Kd.C_below HR0_2.out (by repeat (first | (with_reducible first | exact HB.out | apply below_alloc | apply pw_below_drewN | apply below_drew1 | refine below_set ?_ GE305.out) | exact HB.out))); (case side4 => exact HC0_2.out); rintro e w8 ⟨rfl, hb⟩; refine ⟨_, rfl, ?_⟩; have n0_ := Aside0.mk (blk_below (g := gb305) (o := .cells #[.int .i64 a0_0, .slice A0_1 l0_1.length c0_1, .slice A0_2 l0_2.length c0_2] 25 (0, 0)) (by first | exact BK305.out | ((with_reducible repeat (first | refine blk_drewN ?_ _ | refine blk_drew ?_ | refine blk_alloc ?_ _)); refine blk_put (cs := #[.int .i64 a0_0, .slice A0_1 l0_1.length c0_1, .slice A0_2 l0_2.length c0_2]) ?_ 2 _ rfl; (with_reducible repeat (first | refine blk_drewN ?_ _ | refine blk_drew ?_ | refine blk_alloc ?_ _)); refine blk_put (cs := #[.int .i64 a0_0, .slice A0_1 l0_1.length c0_1, .slice A0_2 l0_2.length c0_2]) ?_ 1 _ rfl; (with_reducible repeat (first | refine blk_drewN ?_ _ | refine blk_drew ?_ | refine blk_alloc ?_ _)); refine blk_put (cs := #[.int .i64 a0_0, .slice A0_1 l0_1.length c0_1, .slice A0_2 l0_2.length c0_2]) ?_ 0 _ rfl; (with_reducible repeat (first | refine blk_drewN ?_ _ | refine blk_drew ?_ | refine blk_alloc ?_ _)); exact BK305.out)) hb); have n1_ := Aside0.mk (below_step (by repeat (first | (with_reducible first | exact HB.out | apply below_alloc | apply pw_below_drewN | apply below_drew1 | refine below_set ?_ GE305.out) | exact HB.out)) hb); clear BK305; clear HB; have BK305 := n0_; have HB := n1_; clear n0_ n1_; (try clear hb); (try clear hb2); (try clear hk); (try clear hi)))
    go_loopg [4] k (fun kq v4 w' => ∃ (x4_1 : Int), v4 = .int .i64 x4_1 ∧ Aside0 (waymasterlaw08_TableOwners.l0 kq t306 x4_1 a0_0 l0_1 l0_2 = some r) ∧ Aside0 (kq ≤ k) ∧ Aside0 (w'.heap[gb305]? = some (.cells #[.int .i64 a0_0, (.slice A0_1 l0_1.length c0_1), (.slice A0_2 l0_2.length c0_2)] 25 (0, 0))) ∧ Aside0 (Below w.heap.size w w'))
    case atStart => exact ⟨(0), (by first | rfl | (simp; done) | (simp [*]; done)), H', ⟨Nat.le_refl _⟩, ⟨by (with_reducible repeat (first | refine blk_drewN ?_ _ | refine blk_drew ?_ | refine blk_alloc ?_ _)); exact BK305.out⟩, ⟨by repeat (first | (with_reducible first | exact HB.out | apply below_alloc | apply pw_below_drewN | apply below_drew1 | refine below_set ?_ GE305.out) | exact HB.out)⟩⟩
    case round =>
      clear H'
      try clear c1
      try clear c2
      try clear p2
      try clear c4
      try clear hcz7_0
      try clear hcz7_1
      try clear hcz7_2
      try clear hfz7_0
      try clear hfz7_1
      try clear hfz7_2
      obtain ⟨x4_1, rfl, HA, HK1, BK305, HB⟩ := hrel
      cases gk with
      | zero => exact absurd HA.out (by simp [waymasterlaw08_TableOwners.l0])
      | succ k1 =>
        have H := HA.out
        clear HA
        simp only [waymasterlaw08_TableOwners.l0] at H
        by_cases c9 : x4_1 < (l0_2.length : Int)
        · rw [if_pos c9] at H
          have c9b0 : decide (x4_1 < (l0_2.length : Int)) = true := decide_eq_true c9
          clear c9
          have H' := Aside0.mk H
          clear H
          have hcz10_0 : wr.cell? ⟨gb305, 0, none⟩ = some (.int .i64 a0_0) := (blk_cell BK305.out 0).trans rfl
          have hcz10_1 : wr.cell? ⟨gb305, 1, none⟩ = some (.slice A0_1 l0_1.length c0_1) := (blk_cell BK305.out 1).trans rfl
          have hcz10_2 : wr.cell? ⟨gb305, 2, none⟩ = some (.slice A0_2 l0_2.length c0_2) := (blk_cell BK305.out 2).trans rfl
          have hfz10_0 := blk_frozen BK305.out 0
          have hfz10_1 := blk_frozen BK305.out 1
          have hfz10_2 := blk_frozen BK305.out 2
          go_wp2
          go_loopg [5] k1 (fun kq v5 w' => ∃ (x5_2 : Int), v5 = .int .i64 x5_2 ∧ Aside0 (waymasterlaw08_TableOwners.l1 kq t306 x4_1 x5_2 a0_0 l0_1 l0_2 = some r) ∧ Aside0 (kq ≤ k1) ∧ Aside0 (w'.heap[gb305]? = some (.cells #[.int .i64 a0_0, (.slice A0_1 l0_1.length c0_1), (.slice A0_2 l0_2.length c0_2)] 25 (0, 0))) ∧ Aside0 (Below w.heap.size w w'))
          case atStart => exact ⟨(0), (by first | rfl | (simp; done) | (simp [*]; done)), H', ⟨Nat.le_refl _⟩, ⟨by (with_reducible repeat (first | refine blk_drewN ?_ _ | refine blk_drew ?_ | refine blk_alloc ?_ _)); exact BK305.out⟩, ⟨by repeat (first | (with_reducible first | exact HB.out | apply below_alloc | apply pw_below_drewN | apply below_drew1 | refine below_set ?_ GE305.out) | exact HB.out)⟩⟩
          case round =>
            clear H'
            try clear c1
            try clear c2
            try clear p2
            try clear c4
            try clear c9
            try clear c9b0
            try clear hcz10_0
            try clear hcz10_1
            try clear hcz10_2
            try clear hcz7_0
            try clear hcz7_1
            try clear hcz7_2
            try clear hfz10_0
            try clear hfz10_1
            try clear hfz10_2
            try clear hfz7_0
            try clear hfz7_1
            try clear hfz7_2
            try clear p2
            obtain ⟨x5_2, rfl, HA, HK2, BK305, HB⟩ := hrel
            cases gk with
            | zero => exact absurd HA.out (by simp [waymasterlaw08_TableOwners.l1])
            | succ k2 =>
              have H := HA.out
              clear HA
              simp only [waymasterlaw08_TableOwners.l1] at H
              by_cases c11 : 0 ≤ x4_1
              · rw [if_pos c11] at H
                have c11b0 : decide (0 ≤ x4_1) = true := decide_eq_true c11
                clear c11
                by_cases c12 : x4_1 < (l0_2.length : Int)
                · rw [if_pos c12] at H
                  have c12b0 : decide (x4_1 < (l0_2.length : Int)) = true := decide_eq_true c12
                  clear c12
                  by_cases c13 : x5_2 < ((rd_T32 l0_2 x4_1).f1)
                  · rw [if_pos c13] at H
                    have c13b0 : decide (x5_2 < ((rd_T32 l0_2 x4_1).f1)) = true := decide_eq_true c13
                    clear c13
                    replace H := Option.bind_eq_some_iff.mp H
                    obtain ⟨⟨t310, t311⟩, A140, H⟩ := H
                    replace H : (if t310 = x4_1 then (if t311 = 0 then (waymasterlaw08_TableOwners.l1 k2 t306 x4_1 (wrap64 (x5_2 + 1)) a0_0 l0_1 l0_2) else (some false)) else (some false)) = some r := H
                    have A14 := Aside0.mk A140
                    clear A140
                    by_cases c15 : t310 = x4_1
                    · rw [if_pos c15] at H
                      have c15b0 : (t310 == x4_1) = true := beq_iff_eq.mpr c15
                      have c15b1 : (t310 != x4_1) = false := bne_eq_false_iff_eq.mpr c15
                      clear c15
                      by_cases c16 : t311 = 0
                      · rw [if_pos c16] at H
                        have c16b0 : (t311 == 0) = true := beq_iff_eq.mpr c16
                        have c16b1 : (t311 != 0) = false := bne_eq_false_iff_eq.mpr c16
                        clear c16
                        have H' := Aside0.mk H
                        clear H
                        have hcz17_0 : wr.cell? ⟨gb305, 0, none⟩ = some (.int .i64 a0_0) := (blk_cell BK305.out 0).trans rfl
                        have hcz17_1 : wr.cell? ⟨gb305, 1, none⟩ = some (.slice A0_1 l0_1.length c0_1) := (blk_cell BK305.out 1).trans rfl
                        have hcz17_2 : wr.cell? ⟨gb305, 2, none⟩ = some (.slice A0_2 l0_2.length c0_2) := (blk_cell BK305.out 2).trans rfl
                        have hfz17_0 := blk_frozen BK305.out 0
                        have hfz17_1 := blk_frozen BK305.out 1
                        have hfz17_2 := blk_frozen BK305.out 2
                        have p308 : 0 ≤ (x4_1 : Int) := of_decide_eq_true (by first | (with_reducible assumption) | assumption)
                        have q308 : x4_1 < (l0_2.length : Int) := of_decide_eq_true (by first | (with_reducible assumption) | assumption)
                        obtain ⟨ad308, e308, hx308_0, hx308_1⟩ := at_T32 HR0_2.out x4_1 p308 q308
                        cases e308
                        replace hx308_0 := (HB.out.cell (World.block_lt_of_cell? w _ hx308_0)).trans hx308_0
                        replace hx308_1 := (HB.out.cell (World.block_lt_of_cell? w _ hx308_1)).trans hx308_1
                        replace p308 := eq_true p308
                        replace q308 := eq_true q308
                        try go_wp2
                        have n0_ := Aside0.mk (blk_drew BK305.out)
                        have n1_ := Aside0.mk (below_drew1 HB.out)
                        clear BK305
                        clear HB
                        have BK305 := n0_
                        have HB := n1_
                        clear n0_ n1_
                        have p309 : 0 ≤ (x4_1 : Int) := of_decide_eq_true (by first | (with_reducible assumption) | assumption)
                        have q309 : x4_1 < (l0_2.length : Int) := of_decide_eq_true (by first | (with_reducible assumption) | assumption)
                        obtain ⟨ad309, e309, hx309_0, hx309_1⟩ := at_T32 HR0_2.out x4_1 p309 q309
                        have hw309_1 := hx309_1
                        have hw309_0 := hx309_0
                        obtain rfl : ad308 = ad309 := (by injection e309)
                        replace hx309_0 := (HB.out.cell (World.block_lt_of_cell? w _ hx309_0)).trans hx309_0
                        replace hx309_1 := (HB.out.cell (World.block_lt_of_cell? w _ hx309_1)).trans hx309_1
                        replace p309 := eq_true p309
                        replace q309 := eq_true q309
                        refine start_ (n := 15) (S := fun w' => w'.cell? ⟨gb305, 0, none⟩ = some (.int .i64 a0_0) ∧ w'.cell? ⟨gb305, 1, none⟩ = some (.slice A0_1 l0_1.length c0_1) ∧ w'.cell? ⟨gb305, 2, none⟩ = some (.slice (some ad308) l0_2.length c0_2) ∧ w'.cell? (ad308.add ((x4_1).toNat * 2)) = some (.int .i64 ((rd_T32 l0_2 x4_1).f0)) ∧ w'.cell? ⟨(ad308.add ((x4_1).toNat * 2)).block, (ad308.add ((x4_1).toNat * 2)).off + 1, none⟩ = some (.int .i64 ((rd_T32 l0_2 x4_1).f1))) (ds := []) #[false, false, false, false, false, false, false, false, false, false, false, false, false, false, false] (by kernel_rfl) rfl rfl ⟨(blk_cell BK305.out 0).trans rfl, (blk_cell BK305.out 1).trans rfl, (blk_cell BK305.out 2).trans rfl, ((HB.out.cell (World.block_lt_of_cell? w _ hw309_0)).trans hw309_0), ((HB.out.cell (World.block_lt_of_cell? w _ hw309_1)).trans hw309_1)⟩ (fun hHeld => ?_); refine with_tabW waymasterlaw08_TableOwners.tab11 waymasterlaw08_TableOwners.bits11 (fun HT_ HW_ => ?_)
                        generalize wr.drew = w18 at BK305 HB hx309_0 hx309_1 hHeld ⊢
                        refine pure_ (i := 1) (N := some 39) (v := ?_) (a' := ?_) #[false, true, false, false, false, false, false, false, false, false, false, false, false, false, false] rfl rfl (any_of HT_.out (by kernel_rfl)) (fun _ _ _ h => h) (Or.inl ⟨by rfl, ?_⟩) ?_ ?_
                        rotate_left
                        · intro w'
                          go_simp
                          with_reducible rfl
                        rotate_left
                        · simp only [Act.put, List.setIfInBounds_toArray, List.set_cons_zero, List.set_cons_succ, i64_w, i32_w]
                          rfl
                        refine pure_ (i := 3) (N := some 41) (v := ?_) (a' := ?_) #[false, true, false, true, false, false, false, false, false, false, false, false, false, false, false] rfl rfl (any_of HT_.out (by kernel_rfl)) (fun _ _ _ h => h) (Or.inl ⟨by rfl, ?_⟩) ?_ ?_
                        rotate_left
                        · intro w'
                          go_simp
                          with_reducible rfl
                        rotate_left
                        · simp only [Act.put, List.setIfInBounds_toArray, List.set_cons_zero, List.set_cons_succ, i64_w, i32_w]
                          rfl
                        refine pure_ (i := 7) (N := some 45) (v := ?_) (a' := ?_) #[false, true, false, true, false, false, false, true, false, false, false, false, false, false, false] rfl rfl (any_of HT_.out (by kernel_rfl)) (fun _ _ _ h => h) (Or.inl ⟨by rfl, ?_⟩) ?_ ?_
                        rotate_left
                        · intro w'
                          go_simp
                          with_reducible rfl
                        rotate_left
                        · simp only [Act.put, List.setIfInBounds_toArray, List.set_cons_zero, List.set_cons_succ, i64_w, i32_w]
                          rfl
                        refine take_ (i := 0) (N := some 38) (v := ?_) (a' := ?_) #[true, true, false, true, false, false, false, true, false, false, false, false, false, false, false] rfl rfl (take_ofW HT_.out HW_.out (by kernel_rfl)) (fun _ _ _ h => h) (Or.inl ⟨by rfl, ?_⟩) hHeld ?_ ?_
                        rotate_left
                        · rintro w' ⟨s0, s1, s2, s3, s4⟩
                          go_simp
                          with_reducible rfl
                        rotate_left
                        · simp only [Act.put, List.setIfInBounds_toArray, List.set_cons_zero, List.set_cons_succ, i64_w, i32_w]
                          rfl
                        refine take_ (i := 2) (N := some 40) (v := ?_) (a' := ?_) #[true, true, true, true, false, false, false, true, false, false, false, false, false, false, false] rfl rfl (take_ofW HT_.out HW_.out (by kernel_rfl)) (fun _ _ _ h => h) (Or.inl ⟨by rfl, ?_⟩) hHeld ?_ ?_
                        rotate_left
                        · rintro w' ⟨s0, s1, s2, s3, s4⟩
                          go_simp
                          with_reducible rfl
                        rotate_left
                        · simp only [Act.put, List.setIfInBounds_toArray, List.set_cons_zero, List.set_cons_succ, i64_w, i32_w]
                          rfl
                        refine pure_ (i := 4) (N := some 42) (v := ?_) (a' := ?_) #[true, true, true, true, true, false, false, true, false, false, false, false, false, false, false] rfl rfl (any_of HT_.out (by kernel_rfl)) (fun _ _ _ h => h) (Or.inl ⟨by rfl, ?_⟩) ?_ ?_
                        rotate_left
                        · intro w'
                          go_simp
                          with_reducible rfl
                        rotate_left
                        · simp only [Act.put, List.setIfInBounds_toArray, List.set_cons_zero, List.set_cons_succ, i64_w, i32_w]
                          rfl
                        refine pure_ (i := 5) (N := some 43) (v := ?_) (a' := ?_) #[true, true, true, true, true, true, false, true, false, false, false, false, false, false, false] rfl rfl (any_of HT_.out (by kernel_rfl)) (fun _ _ _ h => h) (Or.inl ⟨by rfl, ?_⟩) ?_ ?_
                        rotate_left
                        · intro w'
                          go_simp
                          with_reducible rfl
                        rotate_left
                        · simp only [Act.put, List.setIfInBounds_toArray, List.set_cons_zero, List.set_cons_succ, i64_w, i32_w]
                          rfl
                        refine take_ (i := 6) (N := some 44) (v := ?_) (a' := ?_) #[true, true, true, true, true, true, true, true, false, false, false, false, false, false, false] rfl rfl (take_ofW HT_.out HW_.out (by kernel_rfl)) (fun _ _ _ h => h) (Or.inl ⟨by rfl, ?_⟩) hHeld ?_ ?_
                        rotate_left
                        · rintro w' ⟨s0, s1, s2, s3, s4⟩
                          go_simp
                          with_reducible rfl
                        rotate_left
                        · simp only [Act.put, List.setIfInBounds_toArray, List.set_cons_zero, List.set_cons_succ, i64_w, i32_w]
                          rfl
                        refine pure_ (i := 8) (N := some 46) (v := ?_) (a' := ?_) #[true, true, true, true, true, true, true, true, true, false, false, false, false, false, false] rfl rfl (any_of HT_.out (by kernel_rfl)) (fun _ _ _ h => h) (Or.inl ⟨by rfl, ?_⟩) ?_ ?_
                        rotate_left
                        · intro w'
                          go_simp
                          with_reducible rfl
                        rotate_left
                        · simp only [Act.put, List.setIfInBounds_toArray, List.set_cons_zero, List.set_cons_succ, i64_w, i32_w]
                          rfl
                        refine one_ (i := 9) (N := some 47) #[true, true, true, true, true, true, true, true, true, true, false, false, false, false, false] rfl rfl (one_of HT_.out (by kernel_rfl)) (by decide) (fun K hK => ?_)
                        refine goes_ Try.func17 (by kernel_rfl) rfl #[.agg #[.int .i64 a0_0, .slice A0_1 l0_1.length c0_1, .slice (some ad308) l0_2.length c0_2], .int .i64 (wrap64 (((rd_T32 l0_2 x4_1).f0) + x5_2))] (by rfl) rfl rfl (by (try simp only [List.map_toArray, List.map_cons, List.map_nil]); first | done | rfl | (simp only [List.length_drop, List.length_take]; rfl)) ?_
                        with_reducible refine (table_Owner.calls a0_0 _ _ l0_1 _ _ l0_2 (wrap64 (((rd_T32 l0_2 x4_1).f0) + x5_2)) t310 t311 _ ?side1 ?side2 ?side3 ?side4 A14.out).mono ?_
                        (case side1 => repeat (first | exact (Kd.C_below HR0_1.out HB.out) | (with_reducible refine Kd.C_alloc ?_ _) | (with_reducible refine Kd.C_drewN ?_ _) | (with_reducible refine Kd.C_drew ?_)))
                        (case side2 => exact HC0_1.out)
                        (case side3 => repeat (first | exact (Kd.C_below HR0_2.out HB.out) | (with_reducible refine Kd.C_alloc ?_ _) | (with_reducible refine Kd.C_drewN ?_ _) | (with_reducible refine Kd.C_drew ?_)))
                        (case side4 => exact HC0_2.out)
                        rintro e w19 ⟨rfl, hb⟩
                        refine ⟨_, rfl, ?_⟩
                        have n0_ := Aside0.mk (blk_below (g := gb305) (o := .cells #[.int .i64 a0_0, .slice A0_1 l0_1.length c0_1, .slice (some ad308) l0_2.length c0_2] 25 (0, 0)) (by (with_reducible repeat (first | refine blk_drewN ?_ _ | refine blk_drew ?_ | refine blk_alloc ?_ _)); exact BK305.out) hb)
                        have n1_ := Aside0.mk (below_step (by repeat (first | (with_reducible first | exact HB.out | apply below_alloc | apply pw_below_drewN | apply below_drew1 | refine below_set ?_ GE305.out) | exact HB.out)) hb)
                        clear BK305
                        clear HB
                        have BK305 := n0_
                        have HB := n1_
                        clear n0_ n1_
                        (try clear hb)
                        (try clear hb2)
                        (try clear hk)
                        (try clear hi)
                        refine hK.out _ _ ⟨(blk_cell BK305.out 0).trans rfl, (blk_cell BK305.out 1).trans rfl, (blk_cell BK305.out 2).trans rfl, ((HB.out.cell (World.block_lt_of_cell? w _ hw309_0)).trans hw309_0), ((HB.out.cell (World.block_lt_of_cell? w _ hw309_1)).trans hw309_1)⟩ (fun hHeld => ?_)
                        clear hK K
                        refine norm_ (a' := ?_) ?_ ?_
                        rotate_left
                        · show Act.put _ (some 47) _ = _
                          simp only [Act.put, List.setIfInBounds_toArray, List.set_cons_zero, List.set_cons_succ, i64_w, i32_w]
                          rfl
                        refine pure_ (i := 10) (N := some 37) (v := ?_) (a' := ?_) #[true, true, true, true, true, true, true, true, true, true, true, false, false, false, false] rfl rfl (any_of HT_.out (by kernel_rfl)) (fun _ _ _ h => h) (Or.inl ⟨by rfl, ?_⟩) ?_ ?_
                        rotate_left
                        · intro w'
                          go_simp
                          with_reducible rfl
                        rotate_left
                        · simp only [Act.put, List.setIfInBounds_toArray, List.set_cons_zero, List.set_cons_succ, i64_w, i32_w]
                          rfl
                        refine pure_ (i := 11) (N := some 48) (v := ?_) (a' := ?_) #[true, true, true, true, true, true, true, true, true, true, true, true, false, false, false] rfl rfl (any_of HT_.out (by kernel_rfl)) (fun _ _ _ h => h) (Or.inl ⟨by rfl, ?_⟩) ?_ ?_
                        rotate_left
                        · intro w'
                          go_simp
                          with_reducible rfl
                        rotate_left
                        · simp only [Act.put, List.setIfInBounds_toArray, List.set_cons_zero, List.set_cons_succ, i64_w, i32_w]
                          rfl
                        refine pure_ (i := 12) (N := some 49) (v := ?_) (a' := ?_) #[true, true, true, true, true, true, true, true, true, true, true, true, true, false, false] rfl rfl (any_of HT_.out (by kernel_rfl)) (fun _ _ _ h => h) (Or.inl ⟨by rfl, ?_⟩) ?_ ?_
                        rotate_left
                        · intro w'
                          go_simp
                          with_reducible rfl
                        rotate_left
                        · simp only [Act.put, List.setIfInBounds_toArray, List.set_cons_zero, List.set_cons_succ, i64_w, i32_w]
                          rfl
                        refine pure_ (i := 13) (N := some 6) (v := ?_) (a' := ?_) #[true, true, true, true, true, true, true, true, true, true, true, true, true, true, false] rfl rfl (any_of HT_.out (by kernel_rfl)) (fun _ _ _ h => h) (Or.inl ⟨by rfl, ?_⟩) ?_ ?_
                        rotate_left
                        · intro w'
                          go_simp
                          with_reducible rfl
                        rotate_left
                        · simp only [Act.put, List.setIfInBounds_toArray, List.set_cons_zero, List.set_cons_succ, i64_w, i32_w]
                          rfl
                        refine pure_ (i := 14) (N := some 7) (v := ?_) (a' := ?_) #[true, true, true, true, true, true, true, true, true, true, true, true, true, true, true] rfl rfl (any_of HT_.out (by kernel_rfl)) (fun _ _ _ h => h) (Or.inl ⟨by rfl, ?_⟩) ?_ ?_
                        rotate_left
                        · intro w'
                          go_simp
                          with_reducible rfl
                        rotate_left
                        · simp only [Act.put, List.setIfInBounds_toArray, List.set_cons_zero, List.set_cons_succ, i64_w, i32_w]
                          rfl
                        refine done_ (done_of HT_.out (by kernel_rfl)) ?_
                        try go_wp2
                        go_roundg k2
                        case measure => have := HK1.out; have := HK2.out; omega
                        case rel => exact ⟨(wrap64 (x5_2 + 1)), (by first | rfl | (simp; done) | (simp [*]; done)), H', ⟨by have := HK1.out; have := HK2.out; omega⟩, ⟨by (with_reducible repeat (first | refine blk_drewN ?_ _ | refine blk_drew ?_ | refine blk_alloc ?_ _)); exact BK305.out⟩, ⟨by repeat (first | (with_reducible first | exact HB.out | apply below_alloc | apply pw_below_drewN | apply below_drew1 | refine below_set ?_ GE305.out) | exact HB.out)⟩⟩
                      · rw [if_neg c16] at H
                        have c16b0 : (t311 == 0) = false := beq_eq_false_iff_ne.mpr c16
                        have c16b1 : (t311 != 0) = true := bne_iff_ne.mpr c16
                        obtain rfl := Option.some.inj H
                        have hcz20_0 : wr.cell? ⟨gb305, 0, none⟩ = some (.int .i64 a0_0) := (blk_cell BK305.out 0).trans rfl
                        have hcz20_1 : wr.cell? ⟨gb305, 1, none⟩ = some (.slice A0_1 l0_1.length c0_1) := (blk_cell BK305.out 1).trans rfl
                        have hcz20_2 : wr.cell? ⟨gb305, 2, none⟩ = some (.slice A0_2 l0_2.length c0_2) := (blk_cell BK305.out 2).trans rfl
                        have hfz20_0 := blk_frozen BK305.out 0
                        have hfz20_1 := blk_frozen BK305.out 1
                        have hfz20_2 := blk_frozen BK305.out 2
                        have p308 : 0 ≤ (x4_1 : Int) := of_decide_eq_true (by first | (with_reducible assumption) | assumption)
                        have q308 : x4_1 < (l0_2.length : Int) := of_decide_eq_true (by first | (with_reducible assumption) | assumption)
                        obtain ⟨ad308, e308, hx308_0, hx308_1⟩ := at_T32 HR0_2.out x4_1 p308 q308
                        cases e308
                        replace hx308_0 := (HB.out.cell (World.block_lt_of_cell? w _ hx308_0)).trans hx308_0
                        replace hx308_1 := (HB.out.cell (World.block_lt_of_cell? w _ hx308_1)).trans hx308_1
                        replace p308 := eq_true p308
                        replace q308 := eq_true q308
                        try go_wp2
                        have n0_ := Aside0.mk (blk_drew BK305.out)
                        have n1_ := Aside0.mk (below_drew1 HB.out)
                        clear BK305
                        clear HB
                        have BK305 := n0_
                        have HB := n1_
                        clear n0_ n1_
                        have p309 : 0 ≤ (x4_1 : Int) := of_decide_eq_true (by first | (with_reducible assumption) | assumption)
                        have q309 : x4_1 < (l0_2.length : Int) := of_decide_eq_true (by first | (with_reducible assumption) | assumption)
                        obtain ⟨ad309, e309, hx309_0, hx309_1⟩ := at_T32 HR0_2.out x4_1 p309 q309
                        have hw309_1 := hx309_1
                        have hw309_0 := hx309_0
                        obtain rfl : ad308 = ad309 := (by injection e309)
                        replace hx309_0 := (HB.out.cell (World.block_lt_of_cell? w _ hx309_0)).trans hx309_0
                        replace hx309_1 := (HB.out.cell (World.block_lt_of_cell? w _ hx309_1)).trans hx309_1
                        replace p309 := eq_true p309
                        replace q309 := eq_true q309
                        refine start_ (n := 15) (S := fun w' => w'.cell? ⟨gb305, 0, none⟩ = some (.int .i64 a0_0) ∧ w'.cell? ⟨gb305, 1, none⟩ = some (.slice A0_1 l0_1.length c0_1) ∧ w'.cell? ⟨gb305, 2, none⟩ = some (.slice (some ad308) l0_2.length c0_2) ∧ w'.cell? (ad308.add ((x4_1).toNat * 2)) = some (.int .i64 ((rd_T32 l0_2 x4_1).f0)) ∧ w'.cell? ⟨(ad308.add ((x4_1).toNat * 2)).block, (ad308.add ((x4_1).toNat * 2)).off + 1, none⟩ = some (.int .i64 ((rd_T32 l0_2 x4_1).f1))) (ds := []) #[false, false, false, false, false, false, false, false, false, false, false, false, false, false, false] (by kernel_rfl) rfl rfl ⟨(blk_cell BK305.out 0).trans rfl, (blk_cell BK305.out 1).trans rfl, (blk_cell BK305.out 2).trans rfl, ((HB.out.cell (World.block_lt_of_cell? w _ hw309_0)).trans hw309_0), ((HB.out.cell (World.block_lt_of_cell? w _ hw309_1)).trans hw309_1)⟩ (fun hHeld => ?_); refine with_tabW waymasterlaw08_TableOwners.tab11 waymasterlaw08_TableOwners.bits11 (fun HT_ HW_ => ?_)
                        generalize wr.drew = w21 at BK305 HB hx309_0 hx309_1 hHeld ⊢
                        refine pure_ (i := 1) (N := some 39) (v := ?_) (a' := ?_) #[false, true, false, false, false, false, false, false, false, false, false, false, false, false, false] rfl rfl (any_of HT_.out (by kernel_rfl)) (fun _ _ _ h => h) (Or.inl ⟨by rfl, ?_⟩) ?_ ?_
                        rotate_left
                        · intro w'
                          go_simp
                          with_reducible rfl
                        rotate_left
                        · simp only [Act.put, List.setIfInBounds_toArray, List.set_cons_zero, List.set_cons_succ, i64_w, i32_w]
                          rfl
                        refine pure_ (i := 3) (N := some 41) (v := ?_) (a' := ?_) #[false, true, false, true, false, false, false, false, false, false, false, false, false, false, false] rfl rfl (any_of HT_.out (by kernel_rfl)) (fun _ _ _ h => h) (Or.inl ⟨by rfl, ?_⟩) ?_ ?_
                        rotate_left
                        · intro w'
                          go_simp
                          with_reducible rfl
                        rotate_left
                        · simp only [Act.put, List.setIfInBounds_toArray, List.set_cons_zero, List.set_cons_succ, i64_w, i32_w]
                          rfl
                        refine pure_ (i := 7) (N := some 45) (v := ?_) (a' := ?_) #[false, true, false, true, false, false, false, true, false, false, false, false, false, false, false] rfl rfl (any_of HT_.out (by kernel_rfl)) (fun _ _ _ h => h) (Or.inl ⟨by rfl, ?_⟩) ?_ ?_
                        rotate_left
                        · intro w'
                          go_simp
                          with_reducible rfl
                        rotate_left
                        · simp only [Act.put, List.setIfInBounds_toArray, List.set_cons_zero, List.set_cons_succ, i64_w, i32_w]
                          rfl
                        refine take_ (i := 0) (N := some 38) (v := ?_) (a' := ?_) #[true, true, false, true, false, false, false, true, false, false, false, false, false, false, false] rfl rfl (take_ofW HT_.out HW_.out (by kernel_rfl)) (fun _ _ _ h => h) (Or.inl ⟨by rfl, ?_⟩) hHeld ?_ ?_
                        rotate_left
                        · rintro w' ⟨s0, s1, s2, s3, s4⟩
                          go_simp
                          with_reducible rfl
                        rotate_left
                        · simp only [Act.put, List.setIfInBounds_toArray, List.set_cons_zero, List.set_cons_succ, i64_w, i32_w]
                          rfl
                        refine take_ (i := 2) (N := some 40) (v := ?_) (a' := ?_) #[true, true, true, true, false, false, false, true, false, false, false, false, false, false, false] rfl rfl (take_ofW HT_.out HW_.out (by kernel_rfl)) (fun _ _ _ h => h) (Or.inl ⟨by rfl, ?_⟩) hHeld ?_ ?_
                        rotate_left
                        · rintro w' ⟨s0, s1, s2, s3, s4⟩
                          go_simp
                          with_reducible rfl
                        rotate_left
                        · simp only [Act.put, List.setIfInBounds_toArray, List.set_cons_zero, List.set_cons_succ, i64_w, i32_w]
                          rfl
                        refine pure_ (i := 4) (N := some 42) (v := ?_) (a' := ?_) #[true, true, true, true, true, false, false, true, false, false, false, false, false, false, false] rfl rfl (any_of HT_.out (by kernel_rfl)) (fun _ _ _ h => h) (Or.inl ⟨by rfl, ?_⟩) ?_ ?_
                        rotate_left
                        · intro w'
                          go_simp
                          with_reducible rfl
                        rotate_left
                        · simp only [Act.put, List.setIfInBounds_toArray, List.set_cons_zero, List.set_cons_succ, i64_w, i32_w]
                          rfl
                        refine pure_ (i := 5) (N := some 43) (v := ?_) (a' := ?_) #[true, true, true, true, true, true, false, true, false, false, false, false, false, false, false] rfl rfl (any_of HT_.out (by kernel_rfl)) (fun _ _ _ h => h) (Or.inl ⟨by rfl, ?_⟩) ?_ ?_
                        rotate_left
                        · intro w'
                          go_simp
                          with_reducible rfl
                        rotate_left
                        · simp only [Act.put, List.setIfInBounds_toArray, List.set_cons_zero, List.set_cons_succ, i64_w, i32_w]
                          rfl
                        refine take_ (i := 6) (N := some 44) (v := ?_) (a' := ?_) #[true, true, true, true, true, true, true, true, false, false, false, false, false, false, false] rfl rfl (take_ofW HT_.out HW_.out (by kernel_rfl)) (fun _ _ _ h => h) (Or.inl ⟨by rfl, ?_⟩) hHeld ?_ ?_
                        rotate_left
                        · rintro w' ⟨s0, s1, s2, s3, s4⟩
                          go_simp
                          with_reducible rfl
                        rotate_left
                        · simp only [Act.put, List.setIfInBounds_toArray, List.set_cons_zero, List.set_cons_succ, i64_w, i32_w]
                          rfl
                        refine pure_ (i := 8) (N := some 46) (v := ?_) (a' := ?_) #[true, true, true, true, true, true, true, true, true, false, false, false, false, false, false] rfl rfl (any_of HT_.out (by kernel_rfl)) (fun _ _ _ h => h) (Or.inl ⟨by rfl, ?_⟩) ?_ ?_
                        rotate_left
                        · intro w'
                          go_simp
                          with_reducible rfl
                        rotate_left
                        · simp only [Act.put, List.setIfInBounds_toArray, List.set_cons_zero, List.set_cons_succ, i64_w, i32_w]
                          rfl
                        refine one_ (i := 9) (N := some 47) #[true, true, true, true, true, true, true, true, true, true, false, false, false, false, false] rfl rfl (one_of HT_.out (by kernel_rfl)) (by decide) (fun K hK => ?_)
                        refine goes_ Try.func17 (by kernel_rfl) rfl #[.agg #[.int .i64 a0_0, .slice A0_1 l0_1.length c0_1, .slice (some ad308) l0_2.length c0_2], .int .i64 (wrap64 (((rd_T32 l0_2 x4_1).f0) + x5_2))] (by rfl) rfl rfl (by (try simp only [List.map_toArray, List.map_cons, List.map_nil]); first | done | rfl | (simp only [List.length_drop, List.length_take]; rfl)) ?_
                        with_reducible refine (table_Owner.calls a0_0 _ _ l0_1 _ _ l0_2 (wrap64 (((rd_T32 l0_2 x4_1).f0) + x5_2)) t310 t311 _ ?side1 ?side2 ?side3 ?side4 A14.out).mono ?_
                        (case side1 => repeat (first | exact (Kd.C_below HR0_1.out HB.out) | (with_reducible refine Kd.C_alloc ?_ _) | (with_reducible refine Kd.C_drewN ?_ _) | (with_reducible refine Kd.C_drew ?_)))
                        (case side2 => exact HC0_1.out)
                        (case side3 => repeat (first | exact (Kd.C_below HR0_2.out HB.out) | (with_reducible refine Kd.C_alloc ?_ _) | (with_reducible refine Kd.C_drewN ?_ _) | (with_reducible refine Kd.C_drew ?_)))
                        (case side4 => exact HC0_2.out)
                        rintro e w22 ⟨rfl, hb⟩
                        refine ⟨_, rfl, ?_⟩
                        have n0_ := Aside0.mk (blk_below (g := gb305) (o := .cells #[.int .i64 a0_0, .slice A0_1 l0_1.length c0_1, .slice (some ad308) l0_2.length c0_2] 25 (0, 0)) (by (with_reducible repeat (first | refine blk_drewN ?_ _ | refine blk_drew ?_ | refine blk_alloc ?_ _)); exact BK305.out) hb)
                        have n1_ := Aside0.mk (below_step (by repeat (first | (with_reducible first | exact HB.out | apply below_alloc | apply pw_below_drewN | apply below_drew1 | refine below_set ?_ GE305.out) | exact HB.out)) hb)
                        clear BK305
                        clear HB
                        have BK305 := n0_
                        have HB := n1_
                        clear n0_ n1_
                        (try clear hb)
                        (try clear hb2)
                        (try clear hk)
                        (try clear hi)
                        refine hK.out _ _ ⟨(blk_cell BK305.out 0).trans rfl, (blk_cell BK305.out 1).trans rfl, (blk_cell BK305.out 2).trans rfl, ((HB.out.cell (World.block_lt_of_cell? w _ hw309_0)).trans hw309_0), ((HB.out.cell (World.block_lt_of_cell? w _ hw309_1)).trans hw309_1)⟩ (fun hHeld => ?_)
                        clear hK K
                        refine norm_ (a' := ?_) ?_ ?_
                        rotate_left
                        · show Act.put _ (some 47) _ = _
                          simp only [Act.put, List.setIfInBounds_toArray, List.set_cons_zero, List.set_cons_succ, i64_w, i32_w]
                          rfl
                        refine pure_ (i := 10) (N := some 37) (v := ?_) (a' := ?_) #[true, true, true, true, true, true, true, true, true, true, true, false, false, false, false] rfl rfl (any_of HT_.out (by kernel_rfl)) (fun _ _ _ h => h) (Or.inl ⟨by rfl, ?_⟩) ?_ ?_
                        rotate_left
                        · intro w'
                          go_simp
                          with_reducible rfl
                        rotate_left
                        · simp only [Act.put, List.setIfInBounds_toArray, List.set_cons_zero, List.set_cons_succ, i64_w, i32_w]
                          rfl
                        refine pure_ (i := 11) (N := some 48) (v := ?_) (a' := ?_) #[true, true, true, true, true, true, true, true, true, true, true, true, false, false, false] rfl rfl (any_of HT_.out (by kernel_rfl)) (fun _ _ _ h => h) (Or.inl ⟨by rfl, ?_⟩) ?_ ?_
                        rotate_left
                        · intro w'
                          go_simp
                          with_reducible rfl
                        rotate_left
                        · simp only [Act.put, List.setIfInBounds_toArray, List.set_cons_zero, List.set_cons_succ, i64_w, i32_w]
                          rfl
                        refine pure_ (i := 12) (N := some 49) (v := ?_) (a' := ?_) #[true, true, true, true, true, true, true, true, true, true, true, true, true, false, false] rfl rfl (any_of HT_.out (by kernel_rfl)) (fun _ _ _ h => h) (Or.inl ⟨by rfl, ?_⟩) ?_ ?_
                        rotate_left
                        · intro w'
                          go_simp
                          with_reducible rfl
                        rotate_left
                        · simp only [Act.put, List.setIfInBounds_toArray, List.set_cons_zero, List.set_cons_succ, i64_w, i32_w]
                          rfl
                        refine pure_ (i := 13) (N := some 6) (v := ?_) (a' := ?_) #[true, true, true, true, true, true, true, true, true, true, true, true, true, true, false] rfl rfl (any_of HT_.out (by kernel_rfl)) (fun _ _ _ h => h) (Or.inl ⟨by rfl, ?_⟩) ?_ ?_
                        rotate_left
                        · intro w'
                          go_simp
                          with_reducible rfl
                        rotate_left
                        · simp only [Act.put, List.setIfInBounds_toArray, List.set_cons_zero, List.set_cons_succ, i64_w, i32_w]
                          rfl
                        refine pure_ (i := 14) (N := some 7) (v := ?_) (a' := ?_) #[true, true, true, true, true, true, true, true, true, true, true, true, true, true, true] rfl rfl (any_of HT_.out (by kernel_rfl)) (fun _ _ _ h => h) (Or.inl ⟨by rfl, ?_⟩) ?_ ?_
                        rotate_left
                        · intro w'
                          go_simp
                          with_reducible rfl
                        rotate_left
                        · simp only [Act.put, List.setIfInBounds_toArray, List.set_cons_zero, List.set_cons_succ, i64_w, i32_w]
                          rfl
                        refine done_ (done_of HT_.out (by kernel_rfl)) ?_
                        try go_wp2
                        go_ret
                        exact ⟨by first | rfl | (simp [errW_none, errW_some] <;> rfl) | (simp [*, errW_none, errW_some] <;> rfl), by repeat (first | (with_reducible first | exact HB.out | apply below_alloc | apply pw_below_drewN | apply below_drew1 | refine below_set ?_ GE305.out) | exact HB.out)⟩
                    · rw [if_neg c15] at H
                      have c15b0 : (t310 == x4_1) = false := beq_eq_false_iff_ne.mpr c15
                      have c15b1 : (t310 != x4_1) = true := bne_iff_ne.mpr c15
                      obtain rfl := Option.some.inj H
                      have hcz23_0 : wr.cell? ⟨gb305, 0, none⟩ = some (.int .i64 a0_0) := (blk_cell BK305.out 0).trans rfl
                      have hcz23_1 : wr.cell? ⟨gb305, 1, none⟩ = some (.slice A0_1 l0_1.length c0_1) := (blk_cell BK305.out 1).trans rfl
                      have hcz23_2 : wr.cell? ⟨gb305, 2, none⟩ = some (.slice A0_2 l0_2.length c0_2) := (blk_cell BK305.out 2).trans rfl
                      have hfz23_0 := blk_frozen BK305.out 0
                      have hfz23_1 := blk_frozen BK305.out 1
                      have hfz23_2 := blk_frozen BK305.out 2
                      have p308 : 0 ≤ (x4_1 : Int) := of_decide_eq_true (by first | (with_reducible assumption) | assumption)
                      have q308 : x4_1 < (l0_2.length : Int) := of_decide_eq_true (by first | (with_reducible assumption) | assumption)
                      obtain ⟨ad308, e308, hx308_0, hx308_1⟩ := at_T32 HR0_2.out x4_1 p308 q308
                      cases e308
                      replace hx308_0 := (HB.out.cell (World.block_lt_of_cell? w _ hx308_0)).trans hx308_0
                      replace hx308_1 := (HB.out.cell (World.block_lt_of_cell? w _ hx308_1)).trans hx308_1
                      replace p308 := eq_true p308
                      replace q308 := eq_true q308
                      try go_wp2
                      have n0_ := Aside0.mk (blk_drew BK305.out)
                      have n1_ := Aside0.mk (below_drew1 HB.out)
                      clear BK305
                      clear HB
                      have BK305 := n0_
                      have HB := n1_
                      clear n0_ n1_
                      have p309 : 0 ≤ (x4_1 : Int) := of_decide_eq_true (by first | (with_reducible assumption) | assumption)
                      have q309 : x4_1 < (l0_2.length : Int) := of_decide_eq_true (by first | (with_reducible assumption) | assumption)
                      obtain ⟨ad309, e309, hx309_0, hx309_1⟩ := at_T32 HR0_2.out x4_1 p309 q309
                      have hw309_1 := hx309_1
                      have hw309_0 := hx309_0
                      obtain rfl : ad308 = ad309 := (by injection e309)
                      replace hx309_0 := (HB.out.cell (World.block_lt_of_cell? w _ hx309_0)).trans hx309_0
                      replace hx309_1 := (HB.out.cell (World.block_lt_of_cell? w _ hx309_1)).trans hx309_1
                      replace p309 := eq_true p309
                      replace q309 := eq_true q309
                      refine start_ (n := 15) (S := fun w' => w'.cell? ⟨gb305, 0, none⟩ = some (.int .i64 a0_0) ∧ w'.cell? ⟨gb305, 1, none⟩ = some (.slice A0_1 l0_1.length c0_1) ∧ w'.cell? ⟨gb305, 2, none⟩ = some (.slice (some ad308) l0_2.length c0_2) ∧ w'.cell? (ad308.add ((x4_1).toNat * 2)) = some (.int .i64 ((rd_T32 l0_2 x4_1).f0)) ∧ w'.cell? ⟨(ad308.add ((x4_1).toNat * 2)).block, (ad308.add ((x4_1).toNat * 2)).off + 1, none⟩ = some (.int .i64 ((rd_T32 l0_2 x4_1).f1))) (ds := []) #[false, false, false, false, false, false, false, false, false, false, false, false, false, false, false] (by kernel_rfl) rfl rfl ⟨(blk_cell BK305.out 0).trans rfl, (blk_cell BK305.out 1).trans rfl, (blk_cell BK305.out 2).trans rfl, ((HB.out.cell (World.block_lt_of_cell? w _ hw309_0)).trans hw309_0), ((HB.out.cell (World.block_lt_of_cell? w _ hw309_1)).trans hw309_1)⟩ (fun hHeld => ?_); refine with_tabW waymasterlaw08_TableOwners.tab11 waymasterlaw08_TableOwners.bits11 (fun HT_ HW_ => ?_)
                      generalize wr.drew = w24 at BK305 HB hx309_0 hx309_1 hHeld ⊢
                      refine pure_ (i := 1) (N := some 39) (v := ?_) (a' := ?_) #[false, true, false, false, false, false, false, false, false, false, false, false, false, false, false] rfl rfl (any_of HT_.out (by kernel_rfl)) (fun _ _ _ h => h) (Or.inl ⟨by rfl, ?_⟩) ?_ ?_
                      rotate_left
                      · intro w'
                        go_simp
                        with_reducible rfl
                      rotate_left
                      · simp only [Act.put, List.setIfInBounds_toArray, List.set_cons_zero, List.set_cons_succ, i64_w, i32_w]
                        rfl
                      refine pure_ (i := 3) (N := some 41) (v := ?_) (a' := ?_) #[false, true, false, true, false, false, false, false, false, false, false, false, false, false, false] rfl rfl (any_of HT_.out (by kernel_rfl)) (fun _ _ _ h => h) (Or.inl ⟨by rfl, ?_⟩) ?_ ?_
                      rotate_left
                      · intro w'
                        go_simp
                        with_reducible rfl
                      rotate_left
                      · simp only [Act.put, List.setIfInBounds_toArray, List.set_cons_zero, List.set_cons_succ, i64_w, i32_w]
                        rfl
                      refine pure_ (i := 7) (N := some 45) (v := ?_) (a' := ?_) #[false, true, false, true, false, false, false, true, false, false, false, false, false, false, false] rfl rfl (any_of HT_.out (by kernel_rfl)) (fun _ _ _ h => h) (Or.inl ⟨by rfl, ?_⟩) ?_ ?_
                      rotate_left
                      · intro w'
                        go_simp
                        with_reducible rfl
                      rotate_left
                      · simp only [Act.put, List.setIfInBounds_toArray, List.set_cons_zero, List.set_cons_succ, i64_w, i32_w]
                        rfl
                      refine take_ (i := 0) (N := some 38) (v := ?_) (a' := ?_) #[true, true, false, true, false, false, false, true, false, false, false, false, false, false, false] rfl rfl (take_ofW HT_.out HW_.out (by kernel_rfl)) (fun _ _ _ h => h) (Or.inl ⟨by rfl, ?_⟩) hHeld ?_ ?_
                      rotate_left
                      · rintro w' ⟨s0, s1, s2, s3, s4⟩
                        go_simp
                        with_reducible rfl
                      rotate_left
                      · simp only [Act.put, List.setIfInBounds_toArray, List.set_cons_zero, List.set_cons_succ, i64_w, i32_w]
                        rfl
                      refine take_ (i := 2) (N := some 40) (v := ?_) (a' := ?_) #[true, true, true, true, false, false, false, true, false, false, false, false, false, false, false] rfl rfl (take_ofW HT_.out HW_.out (by kernel_rfl)) (fun _ _ _ h => h) (Or.inl ⟨by rfl, ?_⟩) hHeld ?_ ?_
                      rotate_left
                      · rintro w' ⟨s0, s1, s2, s3, s4⟩
                        go_simp
                        with_reducible rfl
                      rotate_left
                      · simp only [Act.put, List.setIfInBounds_toArray, List.set_cons_zero, List.set_cons_succ, i64_w, i32_w]
                        rfl
                      refine pure_ (i := 4) (N := some 42) (v := ?_) (a' := ?_) #[true, true, true, true, true, false, false, true, false, false, false, false, false, false, false] rfl rfl (any_of HT_.out (by kernel_rfl)) (fun _ _ _ h => h) (Or.inl ⟨by rfl, ?_⟩) ?_ ?_
                      rotate_left
                      · intro w'
                        go_simp
                        with_reducible rfl
                      rotate_left
                      · simp only [Act.put, List.setIfInBounds_toArray, List.set_cons_zero, List.set_cons_succ, i64_w, i32_w]
                        rfl
                      refine pure_ (i := 5) (N := some 43) (v := ?_) (a' := ?_) #[true, true, true, true, true, true, false, true, false, false, false, false, false, false, false] rfl rfl (any_of HT_.out (by kernel_rfl)) (fun _ _ _ h => h) (Or.inl ⟨by rfl, ?_⟩) ?_ ?_
                      rotate_left
                      · intro w'
                        go_simp
                        with_reducible rfl
                      rotate_left
                      · simp only [Act.put, List.setIfInBounds_toArray, List.set_cons_zero, List.set_cons_succ, i64_w, i32_w]
                        rfl
                      refine take_ (i := 6) (N := some 44) (v := ?_) (a' := ?_) #[true, true, true, true, true, true, true, true, false, false, false, false, false, false, false] rfl rfl (take_ofW HT_.out HW_.out (by kernel_rfl)) (fun _ _ _ h => h) (Or.inl ⟨by rfl, ?_⟩) hHeld ?_ ?_
                      rotate_left
                      · rintro w' ⟨s0, s1, s2, s3, s4⟩
                        go_simp
                        with_reducible rfl
                      rotate_left
                      · simp only [Act.put, List.setIfInBounds_toArray, List.set_cons_zero, List.set_cons_succ, i64_w, i32_w]
                        rfl
                      refine pure_ (i := 8) (N := some 46) (v := ?_) (a' := ?_) #[true, true, true, true, true, true, true, true, true, false, false, false, false, false, false] rfl rfl (any_of HT_.out (by kernel_rfl)) (fun _ _ _ h => h) (Or.inl ⟨by rfl, ?_⟩) ?_ ?_
                      rotate_left
                      · intro w'
                        go_simp
                        with_reducible rfl
                      rotate_left
                      · simp only [Act.put, List.setIfInBounds_toArray, List.set_cons_zero, List.set_cons_succ, i64_w, i32_w]
                        rfl
                      refine one_ (i := 9) (N := some 47) #[true, true, true, true, true, true, true, true, true, true, false, false, false, false, false] rfl rfl (one_of HT_.out (by kernel_rfl)) (by decide) (fun K hK => ?_)
                      refine goes_ Try.func17 (by kernel_rfl) rfl #[.agg #[.int .i64 a0_0, .slice A0_1 l0_1.length c0_1, .slice (some ad308) l0_2.length c0_2], .int .i64 (wrap64 (((rd_T32 l0_2 x4_1).f0) + x5_2))] (by rfl) rfl rfl (by (try simp only [List.map_toArray, List.map_cons, List.map_nil]); first | done | rfl | (simp only [List.length_drop, List.length_take]; rfl)) ?_
                      with_reducible refine (table_Owner.calls a0_0 _ _ l0_1 _ _ l0_2 (wrap64 (((rd_T32 l0_2 x4_1).f0) + x5_2)) t310 t311 _ ?side1 ?side2 ?side3 ?side4 A14.out).mono ?_
                      (case side1 => repeat (first | exact (Kd.C_below HR0_1.out HB.out) | (with_reducible refine Kd.C_alloc ?_ _) | (with_reducible refine Kd.C_drewN ?_ _) | (with_reducible refine Kd.C_drew ?_)))
                      (case side2 => exact HC0_1.out)
                      (case side3 => repeat (first | exact (Kd.C_below HR0_2.out HB.out) | (with_reducible refine Kd.C_alloc ?_ _) | (with_reducible refine Kd.C_drewN ?_ _) | (with_reducible refine Kd.C_drew ?_)))
                      (case side4 => exact HC0_2.out)
                      rintro e w25 ⟨rfl, hb⟩
                      refine ⟨_, rfl, ?_⟩
                      have n0_ := Aside0.mk (blk_below (g := gb305) (o := .cells #[.int .i64 a0_0, .slice A0_1 l0_1.length c0_1, .slice (some ad308) l0_2.length c0_2] 25 (0, 0)) (by (with_reducible repeat (first | refine blk_drewN ?_ _ | refine blk_drew ?_ | refine blk_alloc ?_ _)); exact BK305.out) hb)
                      have n1_ := Aside0.mk (below_step (by repeat (first | (with_reducible first | exact HB.out | apply below_alloc | apply pw_below_drewN | apply below_drew1 | refine below_set ?_ GE305.out) | exact HB.out)) hb)
                      clear BK305
                      clear HB
                      have BK305 := n0_
                      have HB := n1_
                      clear n0_ n1_
                      (try clear hb)
                      (try clear hb2)
                      (try clear hk)
                      (try clear hi)
                      refine hK.out _ _ ⟨(blk_cell BK305.out 0).trans rfl, (blk_cell BK305.out 1).trans rfl, (blk_cell BK305.out 2).trans rfl, ((HB.out.cell (World.block_lt_of_cell? w _ hw309_0)).trans hw309_0), ((HB.out.cell (World.block_lt_of_cell? w _ hw309_1)).trans hw309_1)⟩ (fun hHeld => ?_)
                      clear hK K
                      refine norm_ (a' := ?_) ?_ ?_
                      rotate_left
                      · show Act.put _ (some 47) _ = _
                        simp only [Act.put, List.setIfInBounds_toArray, List.set_cons_zero, List.set_cons_succ, i64_w, i32_w]
                        rfl
                      refine pure_ (i := 10) (N := some 37) (v := ?_) (a' := ?_) #[true, true, true, true, true, true, true, true, true, true, true, false, false, false, false] rfl rfl (any_of HT_.out (by kernel_rfl)) (fun _ _ _ h => h) (Or.inl ⟨by rfl, ?_⟩) ?_ ?_
                      rotate_left
                      · intro w'
                        go_simp
                        with_reducible rfl
                      rotate_left
                      · simp only [Act.put, List.setIfInBounds_toArray, List.set_cons_zero, List.set_cons_succ, i64_w, i32_w]
                        rfl
                      refine pure_ (i := 11) (N := some 48) (v := ?_) (a' := ?_) #[true, true, true, true, true, true, true, true, true, true, true, true, false, false, false] rfl rfl (any_of HT_.out (by kernel_rfl)) (fun _ _ _ h => h) (Or.inl ⟨by rfl, ?_⟩) ?_ ?_
                      rotate_left
                      · intro w'
                        go_simp
                        with_reducible rfl
                      rotate_left
                      · simp only [Act.put, List.setIfInBounds_toArray, List.set_cons_zero, List.set_cons_succ, i64_w, i32_w]
                        rfl
                      refine pure_ (i := 12) (N := some 49) (v := ?_) (a' := ?_) #[true, true, true, true, true, true, true, true, true, true, true, true, true, false, false] rfl rfl (any_of HT_.out (by kernel_rfl)) (fun _ _ _ h => h) (Or.inl ⟨by rfl, ?_⟩) ?_ ?_
                      rotate_left
                      · intro w'
                        go_simp
                        with_reducible rfl
                      rotate_left
                      · simp only [Act.put, List.setIfInBounds_toArray, List.set_cons_zero, List.set_cons_succ, i64_w, i32_w]
                        rfl
                      refine pure_ (i := 13) (N := some 6) (v := ?_) (a' := ?_) #[true, true, true, true, true, true, true, true, true, true, true, true, true, true, false] rfl rfl (any_of HT_.out (by kernel_rfl)) (fun _ _ _ h => h) (Or.inl ⟨by rfl, ?_⟩) ?_ ?_
                      rotate_left
                      · intro w'
                        go_simp
                        with_reducible rfl
                      rotate_left
                      · simp only [Act.put, List.setIfInBounds_toArray, List.set_cons_zero, List.set_cons_succ, i64_w, i32_w]
                        rfl
                      refine pure_ (i := 14) (N := some 7) (v := ?_) (a' := ?_) #[true, true, true, true, true, true, true, true, true, true, true, true, true, true, true] rfl rfl (any_of HT_.out (by kernel_rfl)) (fun _ _ _ h => h) (Or.inl ⟨by rfl, ?_⟩) ?_ ?_
                      rotate_left
                      · intro w'
                        go_simp
                        with_reducible rfl
                      rotate_left
                      · simp only [Act.put, List.setIfInBounds_toArray, List.set_cons_zero, List.set_cons_succ, i64_w, i32_w]
                        rfl
                      refine done_ (done_of HT_.out (by kernel_rfl)) ?_
                      try go_wp2
                      go_ret
                      exact ⟨by first | rfl | (simp [errW_none, errW_some] <;> rfl) | (simp [*, errW_none, errW_some] <;> rfl), by repeat (first | (with_reducible first | exact HB.out | apply below_alloc | apply pw_below_drewN | apply below_drew1 | refine below_set ?_ GE305.out) | exact HB.out)⟩
                  · rw [if_neg c13] at H
                    have c13b0 : decide (x5_2 < ((rd_T32 l0_2 x4_1).f1)) = false := decide_eq_false c13
                    clear c13
                    have H' := Aside0.mk H
                    clear H
                    have hcz26_0 : wr.cell? ⟨gb305, 0, none⟩ = some (.int .i64 a0_0) := (blk_cell BK305.out 0).trans rfl
                    have hcz26_1 : wr.cell? ⟨gb305, 1, none⟩ = some (.slice A0_1 l0_1.length c0_1) := (blk_cell BK305.out 1).trans rfl
                    have hcz26_2 : wr.cell? ⟨gb305, 2, none⟩ = some (.slice A0_2 l0_2.length c0_2) := (blk_cell BK305.out 2).trans rfl
                    have hfz26_0 := blk_frozen BK305.out 0
                    have hfz26_1 := blk_frozen BK305.out 1
                    have hfz26_2 := blk_frozen BK305.out 2
                    have p308 : 0 ≤ (x4_1 : Int) := of_decide_eq_true (by first | (with_reducible assumption) | assumption)
                    have q308 : x4_1 < (l0_2.length : Int) := of_decide_eq_true (by first | (with_reducible assumption) | assumption)
                    obtain ⟨ad308, e308, hx308_0, hx308_1⟩ := at_T32 HR0_2.out x4_1 p308 q308
                    cases e308
                    replace hx308_0 := (HB.out.cell (World.block_lt_of_cell? w _ hx308_0)).trans hx308_0
                    replace hx308_1 := (HB.out.cell (World.block_lt_of_cell? w _ hx308_1)).trans hx308_1
                    replace p308 := eq_true p308
                    replace q308 := eq_true q308
                    go_wp2
                    go_roundg k2
                    case measure => have := HK1.out; have := HK2.out; omega
                    case rel => exact ⟨(wrap64 (x4_1 + 1)), (by first | rfl | (simp; done) | (simp [*]; done)), H', ⟨by have := HK1.out; have := HK2.out; omega⟩, ⟨by (with_reducible repeat (first | refine blk_drewN ?_ _ | refine blk_drew ?_ | refine blk_alloc ?_ _)); exact BK305.out⟩, ⟨by repeat (first | (with_reducible first | exact HB.out | apply below_alloc | apply pw_below_drewN | apply below_drew1 | refine below_set ?_ GE305.out) | exact HB.out)⟩⟩
                · rw [if_neg c12] at H
                  exact absurd H (by simp)
              · rw [if_neg c11] at H
                exact absurd H (by simp)
        · rw [if_neg c9] at H
          have c9b0 : decide (x4_1 < (l0_2.length : Int)) = false := decide_eq_false c9
          clear c9
          replace H := Option.bind_eq_some_iff.mp H
          obtain ⟨⟨t312, t315⟩, A270, H⟩ := H
          replace H : (waymasterlaw08_TableOwners.l2 k1 t306 t312 t315 0 a0_0 l0_1 l0_2) = some r := H
          have A27 := Aside0.mk A270
          clear A270
          have H' := Aside0.mk H
          clear H
          have hcz28_0 : wr.cell? ⟨gb305, 0, none⟩ = some (.int .i64 a0_0) := (blk_cell BK305.out 0).trans rfl
          have hcz28_1 : wr.cell? ⟨gb305, 1, none⟩ = some (.slice A0_1 l0_1.length c0_1) := (blk_cell BK305.out 1).trans rfl
          have hcz28_2 : wr.cell? ⟨gb305, 2, none⟩ = some (.slice A0_2 l0_2.length c0_2) := (blk_cell BK305.out 2).trans rfl
          have hfz28_0 := blk_frozen BK305.out 0
          have hfz28_1 := blk_frozen BK305.out 1
          have hfz28_2 := blk_frozen BK305.out 2
          go_wp2_with (first | ((with_reducible refine gate_callee (f := 26) rfl ?_); refine goesL_ (some 59) rfl rfl Try.func26 (by kernel_rfl) rfl #[.agg #[.int .i64 a0_0, .slice A0_1 l0_1.length c0_1, .slice A0_2 l0_2.length c0_2]] rfl (by (try simp only [List.map_toArray, List.map_cons, List.map_nil]); first | done | rfl | (simp only [List.length_drop, List.length_take]; rfl)) ?_; (with_reducible refine (table_Idle.calls a0_0 _ _ l0_1 _ _ l0_2 t312 t315 _ ?side1 ?side2 ?side3 ?side4 A27.out).mono ?_); (case side1 => repeat (first | exact (Kd.C_below HR0_1.out HB.out) | (with_reducible refine Kd.C_alloc ?_ _) | (with_reducible refine Kd.C_drewN ?_ _) | (with_reducible refine Kd.C_drew ?_))); (case side2 => exact HC0_1.out); (case side3 => repeat (first | exact (Kd.C_below HR0_2.out HB.out) | (with_reducible refine Kd.C_alloc ?_ _) | (with_reducible refine Kd.C_drewN ?_ _) | (with_reducible refine Kd.C_drew ?_))); (case side4 => exact HC0_2.out); rintro e w29 ⟨v313, rfl, ho0, hb⟩; refine ⟨_, rfl, ?_⟩; have n0_ := Aside0.mk (Kd.R_lower ho0 (below_size (by repeat (first | (with_reducible first | exact HB.out | apply below_alloc | apply pw_below_drewN | apply below_drew1 | refine below_set ?_ GE305.out) | exact HB.out)))); have n1_ := Aside0.mk (blk_below (g := gb305) (o := .cells #[.int .i64 a0_0, .slice A0_1 l0_1.length c0_1, .slice A0_2 l0_2.length c0_2] 25 (0, 0)) (by (with_reducible repeat (first | refine blk_drewN ?_ _ | refine blk_drew ?_ | refine blk_alloc ?_ _)); exact BK305.out) hb); have n2_ := Aside0.mk (below_step (by repeat (first | (with_reducible first | exact HB.out | apply below_alloc | apply pw_below_drewN | apply below_drew1 | refine below_set ?_ GE305.out) | exact HB.out)) hb); clear BK305; clear HB; have HO314 := n0_; have BK305 := n1_; have HB := n2_; clear n0_ n1_ n2_; (try clear hb); (try clear hb2); (try clear hk); (try clear hi); (try clear ho0)))
          go_loopg [10] k1 (fun kq v10 w' => ∃ (x10_2 : Int), v10 = .int .i64 x10_2 ∧ Aside0 (waymasterlaw08_TableOwners.l2 kq t306 t312 t315 x10_2 a0_0 l0_1 l0_2 = some r) ∧ Aside0 (kq ≤ k1) ∧ Aside0 (Kd.R (Kd.int .i64) 3 w' w.heap.size (fun _ => True) v313 t312) ∧ Aside0 (w'.heap[gb305]? = some (.cells #[.int .i64 a0_0, (.slice A0_1 l0_1.length c0_1), (.slice A0_2 l0_2.length c0_2)] 25 (0, 0))) ∧ Aside0 (Below w.heap.size w w'))
          case atStart => exact ⟨(0), (by first | rfl | (simp; done) | (simp [*]; done)), H', ⟨Nat.le_refl _⟩, ⟨by (with_reducible repeat (first | apply Kd.R_alloc | apply Kd.R_drewN | apply Kd.R_drew)); exact HO314.out⟩, ⟨by (with_reducible repeat (first | refine blk_drewN ?_ _ | refine blk_drew ?_ | refine blk_alloc ?_ _)); exact BK305.out⟩, ⟨by repeat (first | (with_reducible first | exact HB.out | apply below_alloc | apply pw_below_drewN | apply below_drew1 | refine below_set ?_ GE305.out) | exact HB.out)⟩⟩
          case round =>
            clear H'
            try clear c1
            try clear c2
            try clear p2
            try clear p3
            try clear q3
            try clear hx3
            try clear p6
            try clear c9
            try clear c9b0
            try clear c11
            try clear c12
            try clear c13
            try clear c13b0
            try clear c15
            try clear c15b0
            try clear c15b1
            try clear c16
            try clear c16b0
            try clear c16b1
            try clear c17
            try clear c26
            try clear hcz17_0
            try clear hcz17_1
            try clear hcz17_2
            try clear hcz20_0
            try clear hcz20_1
            try clear hcz20_2
            try clear hcz23_0
            try clear hcz23_1
            try clear hcz23_2
            try clear hcz26_0
            try clear hcz26_1
            try clear hcz26_2
            try clear hcz28_0
            try clear hcz28_1
            try clear hcz28_2
            try clear hfz17_0
            try clear hfz17_1
            try clear hfz17_2
            try clear hfz20_0
            try clear hfz20_1
            try clear hfz20_2
            try clear hfz23_0
            try clear hfz23_1
            try clear hfz23_2
            try clear hfz26_0
            try clear hfz26_1
            try clear hfz26_2
            try clear hfz28_0
            try clear hfz28_1
            try clear hfz28_2
            try clear hx308_0
            try clear hx308_1
            try clear hx309_0
            try clear hx309_1
            try clear p308
            try clear p309
            try clear q308
            try clear q309
            obtain ⟨x10_2, rfl, HA, HK2, HO_8, BK305, HB⟩ := hrel
            cases gk with
            | zero => exact absurd HA.out (by simp [waymasterlaw08_TableOwners.l2])
            | succ k2 =>
              have H := HA.out
              clear HA
              simp only [waymasterlaw08_TableOwners.l2] at H
              by_cases c30 : x10_2 < a0_0
              · rw [if_pos c30] at H
                have c30b0 : decide (x10_2 < a0_0) = true := decide_eq_true c30
                clear c30
                replace H := Option.bind_eq_some_iff.mp H
                obtain ⟨⟨t316, t317⟩, A310, H⟩ := H
                replace H : (if t317 = 0 then ((waymasterlaw08_has.f k2 t312 x10_2).bind fun t318 => (if ((t316 == (-1)) != t318) = true then (some false) else (waymasterlaw08_TableOwners.l2 k2 t306 t312 t315 (wrap64 (x10_2 + 1)) a0_0 l0_1 l0_2))) else (some false)) = some r := H
                have A31 := Aside0.mk A310
                clear A310
                by_cases c32 : t317 = 0
                · rw [if_pos c32] at H
                  have c32b0 : (t317 == 0) = true := beq_iff_eq.mpr c32
                  have c32b1 : (t317 != 0) = false := bne_eq_false_iff_eq.mpr c32
                  clear c32
                  replace H := Option.bind_eq_some_iff.mp H
                  obtain ⟨t318, A330, H⟩ := H
                  replace H : (if ((t316 == (-1)) != t318) = true then (some false) else (waymasterlaw08_TableOwners.l2 k2 t306 t312 t315 (wrap64 (x10_2 + 1)) a0_0 l0_1 l0_2)) = some r := H
                  have A33 := Aside0.mk A330
                  clear A330
                  by_cases c34 : ((t316 == (-1)) != t318) = true
                  · rw [if_pos c34] at H
                    have c34b0 : ((t316 == (-1)) != t318) = true := c34
                    (try (have c34b1 : decide ((t316 == (-1)) = t318) = false := by simpa using c34))
                    (try (have c34b2 : ((t316 == (-1)) == t318) = false := by simpa using c34))
                    (try (have c34b3 : ¬ ((t316 == (-1)) = t318) := by simpa using c34))
                    clear c34
                    obtain rfl := Option.some.inj H
                    have hcz35_0 : wr.cell? ⟨gb305, 0, none⟩ = some (.int .i64 a0_0) := (blk_cell BK305.out 0).trans rfl
                    have hcz35_1 : wr.cell? ⟨gb305, 1, none⟩ = some (.slice A0_1 l0_1.length c0_1) := (blk_cell BK305.out 1).trans rfl
                    have hcz35_2 : wr.cell? ⟨gb305, 2, none⟩ = some (.slice A0_2 l0_2.length c0_2) := (blk_cell BK305.out 2).trans rfl
                    have hfz35_0 := blk_frozen BK305.out 0
                    have hfz35_1 := blk_frozen BK305.out 1
                    have hfz35_2 := blk_frozen BK305.out 2
                    go_wp2_with (first | ((with_reducible refine gate_callee (f := 17) rfl ?_); refine goesL_ (some 71) rfl rfl Try.func17 (by kernel_rfl) rfl #[.agg #[.int .i64 a0_0, .slice A0_1 l0_1.length c0_1, .slice A0_2 l0_2.length c0_2], .int .i64 x10_2] rfl (by (try simp only [List.map_toArray, List.map_cons, List.map_nil]); first | done | rfl | (simp only [List.length_drop, List.length_take]; rfl)) ?_; (with_reducible refine (table_Owner.calls a0_0 _ _ l0_1 _ _ l0_2 x10_2 t316 t317 _ ?side1 ?side2 ?side3 ?side4 A31.out).mono ?_); (case side1 => repeat (first | exact (Kd.C_below HR0_1.out HB.out) | (with_reducible refine Kd.C_alloc ?_ _) | (with_reducible refine Kd.C_drewN ?_ _) | (with_reducible refine Kd.C_drew ?_))); (case side2 => exact HC0_1.out); (case side3 => repeat (first | exact (Kd.C_below HR0_2.out HB.out) | (with_reducible refine Kd.C_alloc ?_ _) | (with_reducible refine Kd.C_drewN ?_ _) | (with_reducible refine Kd.C_drew ?_))); (case side4 => exact HC0_2.out); rintro e w36 ⟨rfl, hb⟩; refine ⟨_, rfl, ?_⟩; have n0_ := Aside0.mk (Kd.R_below (by (with_reducible repeat (first | apply Kd.R_alloc | apply Kd.R_drewN | apply Kd.R_drew)); exact HO_8.out) hb); have n1_ := Aside0.mk (blk_below (g := gb305) (o := .cells #[.int .i64 a0_0, .slice A0_1 l0_1.length c0_1, .slice A0_2 l0_2.length c0_2] 25 (0, 0)) (by (with_reducible repeat (first | refine blk_drewN ?_ _ | refine blk_drew ?_ | refine blk_alloc ?_ _)); exact BK305.out) hb); have n2_ := Aside0.mk (below_step (by repeat (first | (with_reducible first | exact HB.out | apply below_alloc | apply pw_below_drewN | apply below_drew1 | refine below_set ?_ GE305.out) | exact HB.out)) hb); clear HO_8; clear BK305; clear HB; have HO_8 := n0_; have BK305 := n1_; have HB := n2_; clear n0_ n1_ n2_; (try clear hb); (try clear hb2); (try clear hk); (try clear hi); obtain ⟨Ao37, co37, eo37⟩ := Kd.R_slice HO_8.out; subst eo37) | (go_at_call 29; (with_reducible refine (waymasterlaw08_has.calls k2 _ _ t312 x10_2 t318 _ ?side1 ?side2 A33.out).mono ?_); (case side1 => repeat (first | exact (Kd.R_reads' HO_8.out).2.2 | (with_reducible refine Kd.C_alloc ?_ _) | (with_reducible refine Kd.C_drewN ?_ _) | (with_reducible refine Kd.C_drew ?_))); (case side2 => exact (Kd.R_reads' HO_8.out).2.1); rintro e w' ⟨rfl, ⟨nd, rfl⟩⟩))
                    go_ret
                    exact ⟨by first | rfl | (simp [errW_none, errW_some] <;> rfl) | (simp [*, errW_none, errW_some] <;> rfl), by repeat (first | (with_reducible first | exact HB.out | apply below_alloc | apply pw_below_drewN | apply below_drew1 | refine below_set ?_ GE305.out) | exact HB.out)⟩
                  · rw [if_neg c34] at H
                    have c34b0 : ((t316 == (-1)) != t318) = false := by simpa using c34
                    (try (have c34b1 : decide ((t316 == (-1)) = t318) = true := by simpa using c34))
                    (try (have c34b2 : ((t316 == (-1)) == t318) = true := by simpa using c34))
                    clear c34
                    have H' := Aside0.mk H
                    clear H
                    have hcz38_0 : wr.cell? ⟨gb305, 0, none⟩ = some (.int .i64 a0_0) := (blk_cell BK305.out 0).trans rfl
                    have hcz38_1 : wr.cell? ⟨gb305, 1, none⟩ = some (.slice A0_1 l0_1.length c0_1) := (blk_cell BK305.out 1).trans rfl
                    have hcz38_2 : wr.cell? ⟨gb305, 2, none⟩ = some (.slice A0_2 l0_2.length c0_2) := (blk_cell BK305.out 2).trans rfl
                    have hfz38_0 := blk_frozen BK305.out 0
                    have hfz38_1 := blk_frozen BK305.out 1
                    have hfz38_2 := blk_frozen BK305.out 2
                    go_wp2_with (first | ((with_reducible refine gate_callee (f := 17) rfl ?_); refine goesL_ (some 71) rfl rfl Try.func17 (by kernel_rfl) rfl #[.agg #[.int .i64 a0_0, .slice A0_1 l0_1.length c0_1, .slice A0_2 l0_2.length c0_2], .int .i64 x10_2] rfl (by (try simp only [List.map_toArray, List.map_cons, List.map_nil]); first | done | rfl | (simp only [List.length_drop, List.length_take]; rfl)) ?_; (with_reducible refine (table_Owner.calls a0_0 _ _ l0_1 _ _ l0_2 x10_2 t316 t317 _ ?side1 ?side2 ?side3 ?side4 A31.out).mono ?_); (case side1 => repeat (first | exact (Kd.C_below HR0_1.out HB.out) | (with_reducible refine Kd.C_alloc ?_ _) | (with_reducible refine Kd.C_drewN ?_ _) | (with_reducible refine Kd.C_drew ?_))); (case side2 => exact HC0_1.out); (case side3 => repeat (first | exact (Kd.C_below HR0_2.out HB.out) | (with_reducible refine Kd.C_alloc ?_ _) | (with_reducible refine Kd.C_drewN ?_ _) | (with_reducible refine Kd.C_drew ?_))); (case side4 => exact HC0_2.out); rintro e w39 ⟨rfl, hb⟩; refine ⟨_, rfl, ?_⟩; have n0_ := Aside0.mk (Kd.R_below (by (with_reducible repeat (first | apply Kd.R_alloc | apply Kd.R_drewN | apply Kd.R_drew)); exact HO_8.out) hb); have n1_ := Aside0.mk (blk_below (g := gb305) (o := .cells #[.int .i64 a0_0, .slice A0_1 l0_1.length c0_1, .slice A0_2 l0_2.length c0_2] 25 (0, 0)) (by (with_reducible repeat (first | refine blk_drewN ?_ _ | refine blk_drew ?_ | refine blk_alloc ?_ _)); exact BK305.out) hb); have n2_ := Aside0.mk (below_step (by repeat (first | (with_reducible first | exact HB.out | apply below_alloc | apply pw_below_drewN | apply below_drew1 | refine below_set ?_ GE305.out) | exact HB.out)) hb); clear HO_8; clear BK305; clear HB; have HO_8 := n0_; have BK305 := n1_; have HB := n2_; clear n0_ n1_ n2_; (try clear hb); (try clear hb2); (try clear hk); (try clear hi); obtain ⟨Ao40, co40, eo40⟩ := Kd.R_slice HO_8.out; subst eo40) | (go_at_call 29; (with_reducible refine (waymasterlaw08_has.calls k2 _ _ t312 x10_2 t318 _ ?side1 ?side2 A33.out).mono ?_); (case side1 => repeat (first | exact (Kd.R_reads' HO_8.out).2.2 | (with_reducible refine Kd.C_alloc ?_ _) | (with_reducible refine Kd.C_drewN ?_ _) | (with_reducible refine Kd.C_drew ?_))); (case side2 => exact (Kd.R_reads' HO_8.out).2.1); rintro e w' ⟨rfl, ⟨nd, rfl⟩⟩))
                    go_roundg k2
                    case measure => have := HK1.out; have := HK2.out; omega
                    case rel => exact ⟨(wrap64 (x10_2 + 1)), (by first | rfl | (simp; done) | (simp [*]; done)), H', ⟨by have := HK1.out; have := HK2.out; omega⟩, ⟨by (with_reducible repeat (first | apply Kd.R_alloc | apply Kd.R_drewN | apply Kd.R_drew)); exact HO_8.out⟩, ⟨by (with_reducible repeat (first | refine blk_drewN ?_ _ | refine blk_drew ?_ | refine blk_alloc ?_ _)); exact BK305.out⟩, ⟨by repeat (first | (with_reducible first | exact HB.out | apply below_alloc | apply pw_below_drewN | apply below_drew1 | refine below_set ?_ GE305.out) | exact HB.out)⟩⟩
                · rw [if_neg c32] at H
                  have c32b0 : (t317 == 0) = false := beq_eq_false_iff_ne.mpr c32
                  have c32b1 : (t317 != 0) = true := bne_iff_ne.mpr c32
                  obtain rfl := Option.some.inj H
                  have hcz41_0 : wr.cell? ⟨gb305, 0, none⟩ = some (.int .i64 a0_0) := (blk_cell BK305.out 0).trans rfl
                  have hcz41_1 : wr.cell? ⟨gb305, 1, none⟩ = some (.slice A0_1 l0_1.length c0_1) := (blk_cell BK305.out 1).trans rfl
                  have hcz41_2 : wr.cell? ⟨gb305, 2, none⟩ = some (.slice A0_2 l0_2.length c0_2) := (blk_cell BK305.out 2).trans rfl
                  have hfz41_0 := blk_frozen BK305.out 0
                  have hfz41_1 := blk_frozen BK305.out 1
                  have hfz41_2 := blk_frozen BK305.out 2
                  go_wp2_with (first | ((with_reducible refine gate_callee (f := 17) rfl ?_); refine goesL_ (some 71) rfl rfl Try.func17 (by kernel_rfl) rfl #[.agg #[.int .i64 a0_0, .slice A0_1 l0_1.length c0_1, .slice A0_2 l0_2.length c0_2], .int .i64 x10_2] rfl (by (try simp only [List.map_toArray, List.map_cons, List.map_nil]); first | done | rfl | (simp only [List.length_drop, List.length_take]; rfl)) ?_; (with_reducible refine (table_Owner.calls a0_0 _ _ l0_1 _ _ l0_2 x10_2 t316 t317 _ ?side1 ?side2 ?side3 ?side4 A31.out).mono ?_); (case side1 => repeat (first | exact (Kd.C_below HR0_1.out HB.out) | (with_reducible refine Kd.C_alloc ?_ _) | (with_reducible refine Kd.C_drewN ?_ _) | (with_reducible refine Kd.C_drew ?_))); (case side2 => exact HC0_1.out); (case side3 => repeat (first | exact (Kd.C_below HR0_2.out HB.out) | (with_reducible refine Kd.C_alloc ?_ _) | (with_reducible refine Kd.C_drewN ?_ _) | (with_reducible refine Kd.C_drew ?_))); (case side4 => exact HC0_2.out); rintro e w42 ⟨rfl, hb⟩; refine ⟨_, rfl, ?_⟩; have n0_ := Aside0.mk (Kd.R_below (by (with_reducible repeat (first | apply Kd.R_alloc | apply Kd.R_drewN | apply Kd.R_drew)); exact HO_8.out) hb); have n1_ := Aside0.mk (blk_below (g := gb305) (o := .cells #[.int .i64 a0_0, .slice A0_1 l0_1.length c0_1, .slice A0_2 l0_2.length c0_2] 25 (0, 0)) (by (with_reducible repeat (first | refine blk_drewN ?_ _ | refine blk_drew ?_ | refine blk_alloc ?_ _)); exact BK305.out) hb); have n2_ := Aside0.mk (below_step (by repeat (first | (with_reducible first | exact HB.out | apply below_alloc | apply pw_below_drewN | apply below_drew1 | refine below_set ?_ GE305.out) | exact HB.out)) hb); clear HO_8; clear BK305; clear HB; have HO_8 := n0_; have BK305 := n1_; have HB := n2_; clear n0_ n1_ n2_; (try clear hb); (try clear hb2); (try clear hk); (try clear hi)))
                  go_ret
                  exact ⟨by first | rfl | (simp [errW_none, errW_some] <;> rfl) | (simp [*, errW_none, errW_some] <;> rfl), by repeat (first | (with_reducible first | exact HB.out | apply below_alloc | apply pw_below_drewN | apply below_drew1 | refine below_set ?_ GE305.out) | exact HB.out)⟩
              · rw [if_neg c30] at H
                have c30b0 : decide (x10_2 < a0_0) = false := decide_eq_false c30
                clear c30
                by_cases c43 : t306 = true
                · subst c43
                  have H1 : (some (t315 == 0)) = some r := by rw [if_pos rfl] at H; exact H
                  clear H
                  have H := H1
                  clear H1
                  obtain rfl := Option.some.inj H
                  have hcz44_0 : wr.cell? ⟨gb305, 0, none⟩ = some (.int .i64 a0_0) := (blk_cell BK305.out 0).trans rfl
                  have hcz44_1 : wr.cell? ⟨gb305, 1, none⟩ = some (.slice A0_1 l0_1.length c0_1) := (blk_cell BK305.out 1).trans rfl
                  have hcz44_2 : wr.cell? ⟨gb305, 2, none⟩ = some (.slice A0_2 l0_2.length c0_2) := (blk_cell BK305.out 2).trans rfl
                  have hfz44_0 := blk_frozen BK305.out 0
                  have hfz44_1 := blk_frozen BK305.out 1
                  have hfz44_2 := blk_frozen BK305.out 2
                  go_wp2
                  go_ret
                  exact ⟨by first | rfl | (simp [errW_none, errW_some] <;> rfl) | (simp [*, errW_none, errW_some] <;> rfl), by repeat (first | (with_reducible first | exact HB.out | apply below_alloc | apply pw_below_drewN | apply below_drew1 | refine below_set ?_ GE305.out) | exact HB.out)⟩
                · replace c43 := Bool.eq_false_iff.mpr c43
                  subst c43
                  have H1 : (some false) = some r := by rw [if_neg (show ¬ (false = true) by decide)] at H; exact H
                  clear H
                  have H := H1
                  clear H1
                  obtain rfl := Option.some.inj H
                  have hcz45_0 : wr.cell? ⟨gb305, 0, none⟩ = some (.int .i64 a0_0) := (blk_cell BK305.out 0).trans rfl
                  have hcz45_1 : wr.cell? ⟨gb305, 1, none⟩ = some (.slice A0_1 l0_1.length c0_1) := (blk_cell BK305.out 1).trans rfl
                  have hcz45_2 : wr.cell? ⟨gb305, 2, none⟩ = some (.slice A0_2 l0_2.length c0_2) := (blk_cell BK305.out 2).trans rfl
                  have hfz45_0 := blk_frozen BK305.out 0
                  have hfz45_1 := blk_frozen BK305.out 1
                  have hfz45_2 := blk_frozen BK305.out 2
                  go_wp2
                  go_ret
                  exact ⟨by first | rfl | (simp [errW_none, errW_some] <;> rfl) | (simp [*, errW_none, errW_some] <;> rfl), by repeat (first | (with_reducible first | exact HB.out | apply below_alloc | apply pw_below_drewN | apply below_drew1 | refine below_set ?_ GE305.out) | exact HB.out)⟩
  · replace c4 := Bool.eq_false_iff.mpr c4
    subst c4
    have H1 : (some t306) = some r := by rw [if_neg (show ¬ (false = true) by decide)] at H; exact H
    clear H
    have H := H1
    clear H1
    obtain rfl := Option.some.inj H
    go_enter Try.func9, Try.ntmps9
    go_wp2_with (first | ((with_reducible refine gate_dst (N := 1) rfl ?_); refine box_event ?hg (N := 1) ?hd (cs := #[.int .i64 a0_0, .slice A0_1 N0_1 c0_1, .slice A0_2 N0_2 c0_2]) (t := 25) ?hr ?_; (case hd => rfl); (case hg => rfl); (case hr => first | (go_simp; done) | (go_simp; rfl)); intro gb305 hg w46 hbox hb; have n0_ := Aside0.mk (below_step (by repeat (first | (with_reducible first | exact HB.out | apply below_alloc | apply pw_below_drewN | apply below_drew1) | exact HB.out)) hb); have n1_ := Aside0.mk (hbox); have n2_ := Aside0.mk ((by rw [hg]; exact (below_size (by repeat (first | (with_reducible first | exact HB.out | apply below_alloc | apply pw_below_drewN | apply below_drew1) | exact HB.out))) : w.heap.size ≤ gb305)); have n3_ := Aside0.mk ((by rw [hg]; exact (below_size (by repeat (first | (with_reducible first | exact HB.out | apply below_alloc | apply pw_below_drewN | apply below_drew1) | exact HB.out))) : w.heap.size ≤ gb305)); clear HB; have HB := n0_; have BK305 := n1_; have GW305 := n2_; have GE305 := n3_; clear n0_ n1_ n2_ n3_; clear hb hbox hg) | ((with_reducible refine gate_callee (f := 11) rfl ?_); refine goesL_ (some 13) rfl rfl Try.func11 (by kernel_rfl) rfl #[] rfl (by (try simp only [List.map_toArray, List.map_cons, List.map_nil]); first | done | rfl | (simp only [List.length_drop, List.length_take]; rfl)) ?_; (with_reducible refine (waymasterlaw08_shown.calls k  t306 _ A2.out).mono ?_); rintro e w47 ⟨rfl, hb⟩; refine ⟨_, rfl, ?_⟩; have n0_ := Aside0.mk (blk_below (g := gb305) (o := .cells #[.int .i64 a0_0, .slice A0_1 N0_1 c0_1, .slice A0_2 N0_2 c0_2] 25 (0, 0)) (by (with_reducible repeat (first | refine blk_drewN ?_ _ | refine blk_drew ?_ | refine blk_alloc ?_ _)); exact BK305.out) hb); have n1_ := Aside0.mk (below_step (by repeat (first | (with_reducible first | exact HB.out | apply below_alloc | apply pw_below_drewN | apply below_drew1 | refine below_set ?_ GE305.out) | exact HB.out)) hb); clear BK305; clear HB; have BK305 := n0_; have HB := n1_; clear n0_ n1_; (try clear hb); (try clear hb2); (try clear hk); (try clear hi); have hcz48_0 : w47.cell? ⟨gb305, 0, none⟩ = some (.int .i64 a0_0) := (blk_cell BK305.out 0).trans rfl; have hcz48_1 : w47.cell? ⟨gb305, 1, none⟩ = some (.slice A0_1 N0_1 c0_1) := (blk_cell BK305.out 1).trans rfl; have hcz48_2 : w47.cell? ⟨gb305, 2, none⟩ = some (.slice A0_2 N0_2 c0_2) := (blk_cell BK305.out 2).trans rfl; have hfz48_0 := blk_frozen BK305.out 0; have hfz48_1 := blk_frozen BK305.out 1; have hfz48_2 := blk_frozen BK305.out 2) | (go_at_call 12; (with_reducible refine (Go.Proofs.Ytafmgnojlnkmjaa.H.cut_calls a0_0 A0_1 N0_1 l0_1.length c0_1 A0_2 N0_2 l0_2.length c0_2 HN0_1.out HN0_2.out HM0_1.out HM0_2.out _).mono ?_); rintro e w47 ⟨rfl, hb⟩; have n0_ := Aside0.mk (below_step (by repeat (first | (with_reducible first | exact HB.out | apply below_alloc | apply pw_below_drewN | apply below_drew1) | exact HB.out)) hb); have m0_ := Aside0.mk (blk_below (g := gb305) BK305.out hb); clear BK305; have BK305 := m0_; clear m0_; clear HB; have HB := n0_; clear n0_ hb; have hcc0_0 := (blk_cell (w := w47) BK305.out 0).trans rfl; have hcc0_1 := (blk_cell (w := w47) BK305.out 1).trans rfl; have hcc0_2 := (blk_cell (w := w47) BK305.out 2).trans rfl) | (refine Go.Proofs.Ytafmgnojlnkmjaa.H.gate_store (.tmp 1) rfl ?_; refine Go.Proofs.Ytafmgnojlnkmjaa.H.wpList_struct rfl (.tmp 1) _ rfl gb305 _ #[.int .i64 a0_0, .slice A0_1 l0_1.length c0_1, .slice A0_2 l0_2.length c0_2] rfl rfl BK305.out rfl rfl (by simp [Value.oneCell']) ?_; intro w47 hs1 hs2 hs3; have n0_ := Aside0.mk (HB.out.trans (hs3 _ GE305.out)); have n1_ := Aside0.mk hs1; clear HB; clear BK305; have HB := n0_; have BK305 := n1_; clear n0_ n1_ hs1 hs2 hs3; have hcs0_0 := (blk_cell (w := w47) BK305.out 0).trans rfl; have hcs0_1 := (blk_cell (w := w47) BK305.out 1).trans rfl; have hcs0_2 := (blk_cell (w := w47) BK305.out 2).trans rfl) | ((with_reducible refine gate_callee (f := 22) rfl ?_); refine goesL_ (some 17) rfl rfl Try.func22 (by kernel_rfl) rfl #[.agg #[.int .i64 a0_0, .slice A0_1 l0_1.length c0_1, .slice A0_2 l0_2.length c0_2]] rfl (by (try simp only [List.map_toArray, List.map_cons, List.map_nil]); first | done | rfl | (simp only [List.length_drop, List.length_take]; rfl)) ?_; (with_reducible refine (table_Right.calls a0_0 _ _ l0_1 _ _ l0_2 false _ ?side1 ?side2 ?side3 ?side4 A3.out).mono ?_); (case side1 => exact Kd.C_below HR0_1.out (by repeat (first | (with_reducible first | exact HB.out | apply below_alloc | apply pw_below_drewN | apply below_drew1 | refine below_set ?_ GE305.out) | exact HB.out))); (case side2 => exact HC0_1.out); (case side3 => exact Kd.C_below HR0_2.out (by repeat (first | (with_reducible first | exact HB.out | apply below_alloc | apply pw_below_drewN | apply below_drew1 | refine below_set ?_ GE305.out) | exact HB.out))); (case side4 => exact HC0_2.out); rintro e w49 ⟨rfl, hb⟩; refine ⟨_, rfl, ?_⟩; have n0_ := Aside0.mk (blk_below (g := gb305) (o := .cells #[.int .i64 a0_0, .slice A0_1 l0_1.length c0_1, .slice A0_2 l0_2.length c0_2] 25 (0, 0)) (by first | exact BK305.out | ((with_reducible repeat (first | refine blk_drewN ?_ _ | refine blk_drew ?_ | refine blk_alloc ?_ _)); refine blk_put (cs := #[.int .i64 a0_0, .slice A0_1 l0_1.length c0_1, .slice A0_2 l0_2.length c0_2]) ?_ 2 _ rfl; (with_reducible repeat (first | refine blk_drewN ?_ _ | refine blk_drew ?_ | refine blk_alloc ?_ _)); refine blk_put (cs := #[.int .i64 a0_0, .slice A0_1 l0_1.length c0_1, .slice A0_2 l0_2.length c0_2]) ?_ 1 _ rfl; (with_reducible repeat (first | refine blk_drewN ?_ _ | refine blk_drew ?_ | refine blk_alloc ?_ _)); refine blk_put (cs := #[.int .i64 a0_0, .slice A0_1 l0_1.length c0_1, .slice A0_2 l0_2.length c0_2]) ?_ 0 _ rfl; (with_reducible repeat (first | refine blk_drewN ?_ _ | refine blk_drew ?_ | refine blk_alloc ?_ _)); exact BK305.out)) hb); have n1_ := Aside0.mk (below_step (by repeat (first | (with_reducible first | exact HB.out | apply below_alloc | apply pw_below_drewN | apply below_drew1 | refine below_set ?_ GE305.out) | exact HB.out)) hb); clear BK305; clear HB; have BK305 := n0_; have HB := n1_; clear n0_ n1_; (try clear hb); (try clear hb2); (try clear hk); (try clear hi)))
    go_ret
    exact ⟨by first | rfl | (simp [errW_none, errW_some] <;> rfl) | (simp [*, errW_none, errW_some] <;> rfl), by repeat (first | (with_reducible first | exact HB.out | apply below_alloc | apply pw_below_drewN | apply below_drew1 | refine below_set ?_ GE305.out) | exact HB.out)⟩

end Go.Proofs.Ytafmgnojlnkmjaa.QL
