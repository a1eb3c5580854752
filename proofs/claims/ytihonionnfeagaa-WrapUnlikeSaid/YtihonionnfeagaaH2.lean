/- The slots of a range: the walk of Range, a range over a function, for any indexes and any size. -/
import Derived.Test.YtihonionnfeagaaQBx1
import Derived.Test.YtihonionnfeagaaRng
import Derived.Outline
import Derived.WalkMore
import Derived.Maps.AppendAt
import Derived.Sort.LoopGhostIn
namespace Go.Proofs.Ytihonionnfeagaa.H
open Go.RowKit Go.Shelf Go.Rg Go.Proofs.YtihonionnfeagaaW.PrintWords Go.Proofs.YtihonionnfeagaaW.PrintLast Go.Proofs.YtihonionnfeagaaW.PrintMore
open Go.Proofs.Ytihonionnfeagaa.QB
attribute [local go_sem] Oper.semAt_some
set_option linter.unusedVariables false
set_option linter.unusedSimpArgs false

set_option maxHeartbeats 400000 in
theorem c27 (a0 : Int) (w : World) : Calls Try.prog 27 #[.int .u32 a0] w fun e w' => e = .returned (.func (.func 32) #[] #[.pointer (some ⟨w.heap.size, 0, none⟩)]) ∧ w' = w.alloc (.cells #[.int .u32 a0] 22) := by
  go_enter Try.func27, Try.ntmps27
  go_wp2
  go_ret
  exact ⟨rfl, rfl⟩

def slotV (i s : Int) : Int := wrap64 (Go.bits .and .u32 i ((wrap64 (s - 1)) % 4294967296))
/-- index j behind a. -/
def idx (a : Int) (j : Nat) : Int := (a + j) % 4294967296
theorem idx_succ (a : Int) (j : Nat) : (idx a j + 1) % 4294967296 = idx a (j + 1) := by unfold idx; omega
def slots (a s : Int) (j : Nat) : List Int := (List.range j).map fun i => slotV (idx a i) s
theorem slots_succ (a s : Int) (j : Nat) : slots a s (j + 1) = slots a s j ++ [slotV (idx a j) s] := by
  simp [slots, List.range_succ]
theorem slots_length (a s : Int) (j : Nat) : (slots a s j).length = j := by simp [slots]
theorem slot_at (i s : Int) (h : isPow s = true) : wrap_Slot.f i s = some (slotV i s, 0) := by
  simp [wrap_Slot.f, wrap_IsSize.f, h, slotV]
def far (a b : Int) : Nat := ((b - a) % 4294967296).toNat
theorem idx_ne (a b : Int) (hb : 0 ≤ b ∧ b < 4294967296) (j : Nat) (h : j < far a b) : (idx a j == b) = false := by
  rw [beq_eq_false_iff_ne]; unfold idx; unfold far at h; omega
theorem idx_eq (a b : Int) (hb : 0 ≤ b ∧ b < 4294967296) : (idx a (far a b) == b) = true := by
  rw [beq_iff_eq]; unfold idx far; omega

theorem info3 : (Try.prog.info? 3).map (fun i => (i.zero, i.size, i.bytes)) = some (some (.int .i64 0), 1, 8) := by kernel_rfl

/-- Between two rounds. -/
structure JR (a s : Int) (bo bi : Nat) (W0 : World) (j i : Nat) (W : World) : Prop where
  below : Below bo W0 W
  box : Boxed W bi 22 (.int .u32 (idx a i))
  row : ∃ v, Boxed W bo 34 v ∧ W.ownsRow bo 3 1 v j (nums .i64 (slots a s j))
theorem JR.quiet {a s : Int} {bo bi : Nat} {W0 : World} {j i : Nat} {W W' : World} (h : JR a s bo bi W0 j i W) (q : Quiet bo W W') : JR a s bo bi W0 j i W' := by
  obtain ⟨h1, h2, v, h3, h4⟩ := h
  exact ⟨h1.trans q.below, q.block h2, v, q.block h3, q.ownsRow h4⟩

theorem JR.step {a s : Int} {bo bi : Nat} {W0 : World} {j i : Nat} {W : World} (h : JR a s bo bi W0 j i W) (hb : bo < bi) : JR a s bo bi W0 j (i + 1) (W.setCell ⟨bi, 0, none⟩ (.int .u32 ((idx a i + 1) % 4294967296))) := by
  obtain ⟨h1, h2, v, h3, h4⟩ := h
  rw [idx_succ]
  exact ⟨h1.setCell (p := ⟨bi, 0, none⟩) (by show bo ≤ bi; omega) _, h2.set _, v, h3.kept (grownBy_setCell' _ _ _) (by simp; omega), h4.kept (grownBy_setCell' _ _ _) (.inr (h2.not_row (by decide) h4).symm)⟩

set_option maxHeartbeats 1000000 in
theorem c32 (n : Nat) (a s : Int) (bo bi N : Nat) (hbi : bo < bi) (W0 : World) (l : Nat) (W : World) (Fr Fx : World → Prop) (hFr : ∀ W W', Fr W → KeepsOthers W W' → Fr W') (h0 : JR a s bo bi W0 0 0 W) (hF0 : Fr W)
    (hY : ∀ (j : Nat) W1, j ≤ N → JR a s bo bi W0 j j W1 → Fr W1 → YieldAt Fence.wide n Try.prog l #[.int .u32 (idx a j)] W1 fun e W' => (e = .returned (.bool true) ∧ (j < N ∧ JR a s bo bi W0 (j + 1) j W') ∧ Fr W') ∨ (e = .returned (.bool false) ∧ Fx W')) :
    CallsIn Fence.wide (n + 1) Try.prog 32 #[.func (.yield l) #[] #[], .pointer (some ⟨bi, 0, none⟩)] W fun e W' => (∃ v, e = .returned v) ∧ ((False ∧ Fr W') ∨ Fx W') := by
  refine callsIn_of_wp Try.func32 rfl trivial ?_ rfl
  simp only [Try.ntmps32, List.size_toArray, List.length_cons, List.length_nil, Nat.reduceAdd, Nat.reduceSub, Array.replicate_succ, Array.replicate_zero, List.push_toArray, List.append_toArray, List.nil_append, List.cons_append]
  gi_wp2
  gi_loopg [] N (fun (kq : Nat) (wr : World) => ∃ j, Aside0 (kq + j = N) ∧ Aside0 (JR a s bo bi W0 j j wr) ∧ Aside0 (Fr wr))
  case atStart => exact ⟨0, ⟨by omega⟩, ⟨h0⟩, ⟨hF0⟩⟩
  case round =>
    clear h0 hF0
    obtain ⟨j, ⟨hk⟩, ⟨hj⟩, ⟨hf⟩⟩ := hrel
    obtain ⟨fn, tmps, assign, body, hy, hR⟩ := hY j wr (by omega) hj hf
    have hc := hj.box.cell
    clear hY
    have hk' := Aside0.mk hk
    clear hk
    gi_wp2
    refine hR.mono ?_
    rintro e W3 (⟨rfl, ⟨hlt, hJ3⟩, hF3⟩ | ⟨rfl, hx⟩)
    · have hc3 := hJ3.box.cell
      have hf3 := hJ3.box.frozen
      gi_wp2
      obtain ⟨k1, rfl⟩ : ∃ k1, gk = k1 + 1 := ⟨gk - 1, by have := hk'.out; omega⟩
      gi_roundg k1
      case rel =>
        exact ⟨j + 1, ⟨by have := hk'.out; omega⟩, ⟨hJ3.step (by omega)⟩, ⟨hFr _ _ hF3 (KeepsOthers.setCell _ _ _)⟩⟩
      case measure => omega
    · gi_wp2
      go_end0
      exact ⟨⟨_, rfl⟩, .inr hx⟩

/-- The slots of a range, and OK. -/
def AnsR (xs : List Int) (w : World) (e : Ending) (w' : World) : Prop := ∃ v, e = .returned (.tuple #[v, .int .i64 0]) ∧ w'.ownsRow w.heap.size 3 1 v xs.length (nums .i64 xs) ∧ Below w.heap.size w w'

set_option maxHeartbeats 1000000 in
theorem c23 (a0 a1 a2 r1 : Int) (w : World) (hr : wrap_Room.f a1 a0 a2 = some (r1, 0)) (hs : isPow a2 = true) (h0 : idx a0 0 = a0) (h1 : 0 ≤ a1 ∧ a1 < 4294967296) : Calls Try.prog 23 #[.int .u32 a0, .int .u32 a1, .int .i64 a2] w (AnsR (slots a0 a2 (far a0 a1)) w) := by
  have HR := Aside0.mk hr
  have HS := Aside0.mk hs
  have H0 := Aside0.mk h0
  clear hr hs h0
  refine calls_marks Try.func23 rfl ?_
  simp only [Try.ntmps23, List.size_toArray, List.length_cons, List.length_nil, Nat.reduceAdd, Nat.reduceSub, Array.replicate_succ, Array.replicate_zero, List.push_toArray, List.append_toArray, List.nil_append, List.cons_append]
  repeat go_step3
  go_wp2_with (first | go_step3 | (go_at_call 13; refine (wrap_Room.calls a1 a0 a2 r1 0 _ HR.out).mono ?_; rintro e w1 ⟨rfl, hB⟩; have HB := Aside0.mk hB; clear hB) | (go_at_call 27; refine (c27 _ _).mono ?_; rintro e w2 ⟨rfl, rfl⟩))
  have hb := HB.out
  clear HB
  have b0 : Boxed w1 w.heap.size 22 (.int .u32 a1) := (hb.block _ (by simp only [World.size_alloc]; omega)).trans ((Boxed.new w 22 (.int .u32 a1)).alloc _)
  have b1 : Boxed w1 (w.heap.size + 1) 3 (.int .i64 a2) := (hb.block _ (by simp only [World.size_alloc]; omega)).trans (boxed_new2 w _ _ _)
  have hb' : Below w.heap.size w w1 := ((Below.refl w.heap.size w).alloc (Nat.le_refl _) _).trans (((Below.refl w.heap.size _).alloc (by simp) _).trans (hb.mono (by simp; omega)))
  clear hb
  obtain ⟨W0, hW0⟩ : ∃ W0, (w1.alloc (.cells #[.slice none 0 0] 34)).alloc (.cells #[.int .u32 a0] 22) = W0 := ⟨_, rfl⟩
  obtain ⟨bo, hbo⟩ : ∃ bo, bo = w1.heap.size := ⟨_, rfl⟩
  have hsz : W0.heap.size = bo + 2 := by rw [← hW0, hbo]; simp
  have B0 : Boxed W0 w.heap.size 22 (.int .u32 a1) := by rw [← hW0]; exact (b0.alloc _).alloc _
  have B1 : Boxed W0 (w.heap.size + 1) 3 (.int .i64 a2) := by rw [← hW0]; exact (b1.alloc _).alloc _
  have hlt1 : w.heap.size + 1 < bo := by rw [hbo]; exact b1.lt
  have hBW : Below w.heap.size w W0 := by rw [← hW0]; exact (hb'.alloc hb'.size _).alloc (by simp; have := hb'.size; omega) _
  have j0 : JR a0 a2 bo (bo + 1) W0 0 0 W0 := by
    refine ⟨Below.refl _ _, ?_, .slice none 0 0, ?_, own_nil _ _ _ _⟩
    · rw [H0.out, ← hW0, hbo]
      exact boxed_new2 _ _ _ _
    · rw [← hW0, hbo]
      exact (Boxed.new _ _ _).alloc _
  rw [← hbo]
  rw [hW0]
  clear b0 b1 hb' hbo hW0
  refine range_plain 5 (gf := 32) (lb := #[.pointer (some ⟨bo + 1, 0, none⟩)]) rfl (enters_of Try.func32 (by kernel_rfl) rfl) (fun (j : Fin (far a0 a1 + 1)) => #[.int .u32 (idx a0 j.1)]) (fun _ => rfl)
    (fun j W => JR a0 a2 bo (bo + 1) W0 j.1 j.1 W) (fun j W => j.1 < far a0 a1 ∧ JR a0 a2 bo (bo + 1) W0 (j.1 + 1) j.1 W) (fun _ => False)
    (fun c W => c = .exit 0 ∧ ∃ i, JR a0 a2 bo (bo + 1) W0 (far a0 a1) i W) bo (by omega)
    (fun _ _ _ h q => h.quiet q) (fun _ _ _ h q => ⟨h.1, h.2.quiet q⟩) (fun _ _ h _ => h) (fun _ _ _ h q => ⟨h.1, h.2.choose, h.2.choose_spec.quiet q⟩)
    ⟨0, by omega⟩ j0 ?iter ?body ?done ?stop
  case iter =>
    intro l W Fr Fx hFr hj hf hY
    exact c32 5 a0 a2 bo (bo + 1) (far a0 a1) (by omega) W0 l W Fr Fx hFr hj hf (fun j W1 hle h1 h2 => hY ⟨j, by omega⟩ W1 h1 h2)
  case body =>
    rintro l ⟨j, hjlt⟩ W hj
    gi_wp2
    refine ⟨KeepsOthers.refl _, Below.refl _ _, fun W2 q => ?_⟩
    have hj2 : JR a0 a2 bo (bo + 1) W0 j j W2 := hj.quiet q
    clear hj q
    have c0 : W2.cell? ⟨w.heap.size, 0, none⟩ = some (.int .u32 a1) := (Boxed.cell (B := w.heap.size) ((hj2.below.block _ (by omega)).trans B0))
    have c1 : W2.cell? ⟨w.heap.size + 1, 0, none⟩ = some (.int .i64 a2) := (Boxed.cell (B := w.heap.size + 1) ((hj2.below.block _ (by omega)).trans B1))
    by_cases hjf : j < far a0 a1
    · have he := idx_ne a0 a1 h1 j hjf
      have hJF := Aside0.mk hjf
      clear hjf
      obtain ⟨g1, g2, v, g3, g4⟩ := hj2
      have G1 := Aside0.mk g1
      have G2 := Aside0.mk g2
      have G3 := Aside0.mk g3
      have G4 := Aside0.mk g4
      clear g1 g2 g3 g4
      obtain ⟨i0, hi, hz0, hz1, hz2⟩ := info_parts info3
      have hfar : far a0 a1 < 4294967296 := by unfold far; omega
      gi_wp2_with (first | (refine ⟨trivial, ?_⟩; gi_at_call 11; refine (CallsIn.inRound l (callsIn_wide.2 (wrap_Slot.calls (idx a0 j) a2 (slotV (idx a0 j) a2) 0 _ (slot_at _ _ HS.out)))).mono ?_; rintro e w3 ⟨rfl, hB⟩; have hv := (boxed_below G3.out hB).cell; have HB := Aside0.mk hB; clear hB) | (gi_at_builtin; refine wpListIn_append_own _ rfl _ _ 34 rfl bo 3 i0 (.int .i64 0) 1 8 Try.underlying34 hi hz0 hz1 hz2 rfl (by decide) _ _ _ rfl ((row_below G4.out HB.out).alloc _) ⟨w3.heap.size, 0, none⟩ 1 1 [.int .i64 (slotV (idx a0 j) a2)] rfl rfl (cell_one_new _ _ _) (by simp [Value.oneCell']) (by have := hJF.out; unfold maxLen; omega) (by have := hJF.out; omega) (by have := HB.out.size; have := G1.out.size; simp; omega) ?_; intro v' w4 hown' hgrow _; obtain ⟨g', cap', rfl⟩ := ownsRow_succ hown'; obtain ⟨hv1, hv2, hr2, hk2, hb2⟩ := (boxed_below G3.out HB.out).appended (by decide) (row_below G4.out HB.out) (by have := HB.out.size; have := G1.out.size; omega) (Nat.le_refl _) hown' hgrow; have hc1 := hv1.cell; have hf1 := hv1.frozen; have H2 := Aside0.mk hv2; have H3 := Aside0.mk hr2; have H4 := Aside0.mk hk2; have H5 := Aside0.mk hb2; have H6 := Aside0.mk hgrow; clear hv1 hv2 hr2 hk2 hb2 hown' hgrow))
      have g2 : Boxed w3 (bo + 1) 22 (.int .u32 (idx a0 j)) := boxed_below G2.out HB.out
      have g2' : Boxed (w4.setCell ⟨bo, 0, none⟩ (.slice (some ⟨g', 0, none⟩) (j + 1) cap')) (bo + 1) 22 (.int .u32 (idx a0 j)) := ((g2.alloc _).kept H6.out (g2.not_row (by decide) (row_below G4.out HB.out))).kept (grownBy_setCell' _ _ _) (by simp)
      exact ⟨(keeps_below HB.out).trans H4.out, hJF.out, (G1.out.trans (HB.out.mono (by have := G1.out.size; omega))).trans H5.out, g2', _, H2.out, by rw [slots_succ, nums_append]; exact H3.out⟩
    · have hje : j = far a0 a1 := by omega
      subst hje
      have he := idx_eq a0 a1 h1
      have HJ := Aside0.mk hj2
      clear hj2 hjf
      gi_wp2
      exact ⟨KeepsOthers.refl _, rfl, _, HJ.out⟩
  case done =>
    intro D W h
    exact h.elim
  case stop =>
    rintro D c W ⟨rfl, i, hj⟩ hD hK
    obtain ⟨g1, g2, v, g3, g4⟩ := hj
    have hc := g3.cell
    have G1 := Aside0.mk g1
    have G4 := Aside0.mk g4
    have HK := Aside0.mk hK
    have HD := Aside0.mk hD
    clear g1 g2 g3 g4 hK hD
    go_wp2
    rw [Exit.noGoto_ret]
    refine leaves_one (n0 := bo) HD.out HK.out (v := .tuple #[v, .int .i64 0]) fun W' q => ⟨by simp [results, Try.results23, go_sem], v, rfl, ?_, ?_⟩
    · have h := own_weaken (base' := w.heap.size) (q.ownsRow G4.out) (by omega)
      rw [slots_length]
      exact h
    · exact hBW.trans ((G1.out.mono (by omega)).trans (q.below.mono (by omega)))

set_option maxHeartbeats 1000000 in
theorem c23e (a0 a1 a2 r1 r2 : Int) (w : World) (hr : wrap_Room.f a1 a0 a2 = some (r1, r2)) (h2 : (r2 != 0) = true) : Calls Try.prog 23 #[.int .u32 a0, .int .u32 a1, .int .i64 a2] w fun e w' => e = .returned (.tuple #[.slice none 0 0, .int .i64 r2]) ∧ Below w.heap.size w w' := by
  have HR := Aside0.mk hr
  clear hr
  refine calls_marks Try.func23 rfl ?_
  simp only [Try.ntmps23, List.size_toArray, List.length_cons, List.length_nil, Nat.reduceAdd, Nat.reduceSub, Array.replicate_succ, Array.replicate_zero, List.push_toArray, List.append_toArray, List.nil_append, List.cons_append]
  repeat go_step3
  go_wp2_with (first | go_step3 | (go_at_call 13; refine (wrap_Room.calls a1 a0 a2 r1 r2 _ HR.out).mono ?_; rintro e w1 ⟨rfl, hB⟩; have HB := Aside0.mk hB; clear hB))
  rw [Exit.noGoto_ret]
  refine leaves_none (v := .tuple #[.slice none 0 0, .int .i64 r2]) (by simp [results, Try.results23, go_sem]) ⟨rfl, ?_⟩
  exact ((Below.refl w.heap.size w).alloc (Nat.le_refl _) _).trans (((Below.refl w.heap.size _).alloc (by simp) _).trans (HB.out.mono (by simp; omega)))

def wrap_Range.f (a0 a1 a2 : Int) : Option (List Int × Int) := (wrap_Room.f a1 a0 a2).bind fun p => if p.2 = 0 then (if idx a0 0 = a0 ∧ 0 ≤ a1 ∧ a1 < 4294967296 ∧ isPow a2 = true then some (slots a0 a2 (far a0 a1), 0) else none) else some ([], p.2)
theorem wrap_Range.calls (a0 a1 a2 : Int) (r1 : List Int) (r2 : Int) (w : World) (h : wrap_Range.f a0 a1 a2 = some (r1, r2)) :
    Calls Try.prog 23 #[.int .u32 a0, .int .u32 a1, .int .i64 a2] w fun e w' => ∃ v0_ : Value, e = .returned (.tuple #[v0_, .int .i64 r2]) ∧ Kd.R (Kd.int .i64) 3 w' w.heap.size (fun _ => True) v0_ r1 ∧ Below w.heap.size w w' := by
  unfold wrap_Range.f at h
  obtain ⟨⟨x, y⟩, hp, h⟩ := Option.bind_eq_some_iff.mp h
  by_cases hy : y = 0
  · subst hy
    rw [if_pos rfl] at h
    by_cases hc : idx a0 0 = a0 ∧ 0 ≤ a1 ∧ a1 < 4294967296 ∧ isPow a2 = true
    · rw [if_pos hc] at h
      obtain ⟨rfl, rfl⟩ := Prod.mk.inj (Option.some.inj h)
      refine (c23 a0 a1 a2 x w hp hc.2.2.2 hc.1 ⟨hc.2.1, hc.2.2.1⟩).mono ?_
      rintro e w' ⟨v, rfl, ho, hb⟩
      exact ⟨v, rfl, Kd.R_of_own ho (fun _ _ => trivial), hb⟩
    · rw [if_neg hc] at h
      cases h
  · rw [if_neg hy] at h
    obtain ⟨rfl, rfl⟩ := Prod.mk.inj (Option.some.inj h)
    refine (c23e a0 a1 a2 x y w hp (by simpa using hy)).mono ?_
    rintro e w' ⟨rfl, hb⟩
    exact ⟨_, rfl, Kd.R_nil _ _ _ _ _, hb⟩
end Go.Proofs.Ytihonionnfeagaa.H
