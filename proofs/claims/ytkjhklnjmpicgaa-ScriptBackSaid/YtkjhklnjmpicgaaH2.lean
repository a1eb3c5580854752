/- A script's entries: the walk of Decode, a range over a function, for any text. -/
import Derived.Test.YtkjhklnjmpicgaaH1
import Derived.Sort.CutIn
namespace Go.Proofs.Ytkjhklnjmpicgaa.H
open Go.RowKit Go.Shelf Go.Rg Go.Proofs.YtkjhklnjmpicgaaW.PrintWords Go.Proofs.YtkjhklnjmpicgaaW.PrintLast Go.Proofs.YtkjhklnjmpicgaaW.PrintMore
open Go.Proofs.Ytkjhklnjmpicgaa.QL
attribute [local go_sem] Oper.semAt_some
set_option linter.unusedVariables false
set_option linter.unusedSimpArgs false

/-- How many entries count. -/
def cnt (s : ByteArray) : Nat := min (s.size / 6) 10000
def AnsD (s : ByteArray) (w : World) (e : Ending) (w' : World) : Prop := ∃ v, e = .returned v ∧ w'.ownsRow w.heap.size 29 5 v (cnt s) (cellsOf (ents s (cnt s))) ∧ Below w.heap.size w w'
theorem info29 : (Try.prog.info? 29).map (fun i => (i.zero, i.size, i.bytes)) = some (some (.agg #[.int .i64 0, .int .i64 0, .int .i64 0, .int .i64 0, .int .i64 0]), 5, 40) := by kernel_rfl
theorem cells_new (w : World) (l : List Value) (t : TypeId) : ∀ j u, l[j]? = some u → (w.alloc (.cells l.toArray t)).cell? ((⟨w.heap.size, 0, none⟩ : Addr).add j) = some u := by
  intro j u h
  rw [add_plain]
  simp [World.cell?_alloc_at, h]

def Box5 (W : World) (b : Nat) (x : S29) : Prop := W.heap[b]? = some (.cells (vals x).toArray 29 (0, 0))
theorem Box5.cells {W : World} {b : Nat} {x : S29} (h : Box5 W b x) : W.cell? ⟨b, 0, none⟩ = some (.int .i64 x.f0) ∧ W.cell? ⟨b, 1, none⟩ = some (.int .i64 x.f1) ∧ W.cell? ⟨b, 2, none⟩ = some (.int .i64 x.f2) ∧ W.cell? ⟨b, 3, none⟩ = some (.int .i64 x.f3) ∧ W.cell? ⟨b, 4, none⟩ = some (.int .i64 x.f4) := by
  have h' : W.heap[b]? = some (.cells (vals x).toArray 29 (0, 0)) := h
  refine ⟨?_, ?_, ?_, ?_, ?_⟩ <;> simp [World.cell?, h', vals]
theorem Box5.free {W : World} {b : Nat} {x : S29} (h : Box5 W b x) (k : Nat) : W.frozen? ⟨b, k, none⟩ = false := by
  have h' : W.heap[b]? = some (.cells (vals x).toArray 29 (0, 0)) := h
  simp [World.frozen?, h']
theorem Box5.lt {W : World} {b : Nat} {x : S29} (h : Box5 W b x) : b < W.heap.size := (Array.getElem?_eq_some_iff.1 h).1
theorem Box5.below {W W' : World} {b : Nat} {x : S29} (h : Box5 W b x) (hb : Below W.heap.size W W') : Box5 W' b x := (hb.block b h.lt).trans h
theorem set_block {W : World} {b k : Nat} {c : Array Value} {t : TypeId} (v : Value) (h : W.heap[b]? = some (.cells c t (0, 0))) : (W.setCell ⟨b, k, none⟩ v).heap[b]? = some (.cells (c.setIfInBounds k v) t (0, 0)) := by
  obtain ⟨hlt, hk⟩ := Array.getElem?_eq_some_iff.1 h
  show (W.heap.modify b _)[b]? = _
  rw [Array.getElem?_eq_getElem (by rw [Array.size_modify]; exact hlt), Array.getElem_modify_self, hk]
  rfl
/-- The world in which an entry's box has been made zero. -/
def zeroed (W : World) (b : Nat) : World := ((((W.setCell ⟨b, 0, none⟩ (.int .i64 0)).setCell ⟨b, 1, none⟩ (.int .i64 0)).setCell ⟨b, 2, none⟩ (.int .i64 0)).setCell ⟨b, 3, none⟩ (.int .i64 0)).setCell ⟨b, 4, none⟩ (.int .i64 0)
theorem zeroed_box {W : World} {b : Nat} {x : S29} (h : Box5 W b x) : Box5 (zeroed W b) b z29 := by
  unfold zeroed Box5
  rw [set_block _ (set_block _ (set_block _ (set_block _ (set_block _ h))))]
  rfl
theorem zeroed_other (W : World) {b k : Nat} (h : k ≠ b) : (zeroed W b).heap[k]? = W.heap[k]? := by
  unfold zeroed
  rw [Below.heap_setCell _ _ _ k h, Below.heap_setCell _ _ _ k h, Below.heap_setCell _ _ _ k h, Below.heap_setCell _ _ _ k h, Below.heap_setCell _ _ _ k h]
theorem zeroed_keeps (W : World) (b : Nat) : KeepsOthers W (zeroed W b) :=
  (KeepsOthers.setCell _ _ _).trans ((KeepsOthers.setCell _ _ _).trans ((KeepsOthers.setCell _ _ _).trans ((KeepsOthers.setCell _ _ _).trans (KeepsOthers.setCell _ _ _))))
theorem zeroed_below (W : World) {b n0 : Nat} (h : n0 ≤ b) : Below n0 W (zeroed W b) :=
  (((((Below.refl n0 W).setCell (p := ⟨b, 0, none⟩) h _).setCell (p := ⟨b, 1, none⟩) h _).setCell (p := ⟨b, 2, none⟩) h _).setCell (p := ⟨b, 3, none⟩) h _).setCell (p := ⟨b, 4, none⟩) h _
theorem zeroed_row {W : World} {b base : Nat} {e : TypeId} {size n : Nat} {v : Value} {xs : List Value} (h : W.ownsRow base e size v n xs) (hne : v.ownBlock ≠ some b) : (zeroed W b).ownsRow base e size v n xs := by
  unfold zeroed
  exact ownsRow_setCell_other (ownsRow_setCell_other (ownsRow_setCell_other (ownsRow_setCell_other (ownsRow_setCell_other h hne _) hne _) hne _) hne _) hne _

/-- Ahead of the append: the entry that counts lies in the box. -/
structure At5 (s : ByteArray) (bo be j : Nat) (A : Option Addr) (c : Nat) (y : S29) (W2 w4 : World) : Prop where
  box : Box5 w4 be y
  out : Boxed w4 bo 24 (.slice A j c)
  row : w4.ownsRow bo 29 5 (.slice A j c) j (cellsOf (ents s j))
  keeps : KeepsOthers W2 w4
  below : Below bo W2 w4
  it : Boxed w4 (bo + 1) 9 (.string (rest s j))
  ent : ent s j = y
  size : bo + 1 < be
theorem At5.plain {s : ByteArray} {bo be j : Nat} {A : Option Addr} {c : Nat} {x : S29} {W2 w3 : World} (hX : raw s j = x) (hr : rightB x = true) (hb : Below W2.heap.size W2 w3) (h5 : Box5 W2 be x) (g2 : Boxed W2 (bo + 1) 9 (.string (rest s j))) (g3 : Boxed W2 bo 24 (.slice A j c)) (g4 : W2.ownsRow bo 29 5 (.slice A j c) j (cellsOf (ents s j))) (hz : bo + 1 < be) : At5 s bo be j A c x W2 w3 :=
  ⟨h5.below hb, boxed_below g3 hb, row_below g4 hb, keeps_below hb, hb.mono (by have := g3.lt; omega), boxed_below g2 hb, by unfold H.ent; rw [hX, hr]; rfl, hz⟩
theorem At5.zero {s : ByteArray} {bo be j : Nat} {A : Option Addr} {c : Nat} {x : S29} {W2 w3 : World} (hX : raw s j = x) (hr : rightB x = false) (hb : Below W2.heap.size W2 w3) (h5 : Box5 W2 be x) (g2 : Boxed W2 (bo + 1) 9 (.string (rest s j))) (g3 : Boxed W2 bo 24 (.slice A j c)) (g4 : W2.ownsRow bo 29 5 (.slice A j c) j (cellsOf (ents s j))) (hz : bo + 1 < be)
    (hne : ∀ k, (Value.slice A j c).ownBlock = some k → k < be) : At5 s bo be j A c z29 W2 (zeroed w3 be) :=
  ⟨zeroed_box (h5.below hb), (zeroed_other w3 (by omega)).trans (boxed_below g3 hb), zeroed_row (row_below g4 hb) (fun e => by have := hne _ e; omega), (keeps_below hb).trans (zeroed_keeps _ _),
   (hb.mono (by have := g3.lt; omega)).trans (zeroed_below w3 (by omega)), (zeroed_other w3 (by omega)).trans (boxed_below g2 hb), by unfold H.ent; rw [hX, hr]; rfl, hz⟩

set_option maxHeartbeats 1000000 in
theorem c13 (s : ByteArray) (w : World) (hs : s.size ≤ 140737488351232) : Calls Try.prog 13 #[.string s] w (AnsD s w) := by
  refine calls_marks Try.func13 rfl ?_
  simp only [Try.ntmps13, List.size_toArray, List.length_cons, List.length_nil, Nat.reduceAdd, Nat.reduceSub, Array.replicate_succ, Array.replicate_zero, List.push_toArray, List.append_toArray, List.nil_append, List.cons_append]
  repeat go_step3
  go_wp2_with (first | go_step3 | (go_at_call 25; refine (c25 _ _).mono ?_; rintro e w2 ⟨rfl, rfl⟩))
  obtain ⟨W0, hW0⟩ : ∃ W0, (w.alloc (.cells #[.slice none 0 0] 24)).alloc (.cells #[.string s] 9) = W0 := ⟨_, rfl⟩
  obtain ⟨bo, hbo⟩ : ∃ bo, bo = w.heap.size := ⟨_, rfl⟩
  have hsz : W0.heap.size = bo + 2 := by rw [← hW0, hbo]; simp
  have hBW : Below w.heap.size w W0 := by rw [← hW0]; exact ((Below.refl _ w).alloc (Nat.le_refl _) _).alloc (by simp) _
  have hrest0 : rest s 0 = s := by unfold rest; simp
  have j0 : JD s bo (bo + 1) W0 0 0 W0 := by
    refine ⟨Below.refl _ _, ?_, .slice none 0 0, ?_, own_nil _ _ _ _⟩
    · rw [hrest0, ← hW0, hbo]
      exact boxed_new2 _ _ _ _
    · rw [← hW0, hbo]
      exact (Boxed.new _ _ _).alloc _
  rw [← hbo]
  rw [hW0]
  clear hW0
  have HBO := Aside0.mk hbo
  have HRW := Aside0.mk hrest0
  clear hbo hrest0
  refine range_plain 5 (gf := 32) (lb := #[.pointer (some ⟨bo + 1, 0, none⟩)]) rfl (enters_of Try.func32 (by kernel_rfl) rfl) (fun (j : Nat) => #[.agg (vals (raw s j)).toArray]) (fun _ => rfl)
    (fun j W => (j ≤ 10000 ∧ 6 * j ≤ s.size) ∧ JD s bo (bo + 1) W0 j j W) (fun j W => j < 10000 ∧ JD s bo (bo + 1) W0 (j + 1) j W) (fun W => ∃ j, j ≤ 10000 ∧ s.size / 6 = j ∧ JD s bo (bo + 1) W0 j j W)
    (fun c W => c = .exit 0 ∧ 60000 ≤ s.size ∧ ∃ i, JD s bo (bo + 1) W0 10000 i W) bo (by omega)
    (fun _ _ _ h q => ⟨h.1, h.2.quiet q⟩) (fun _ _ _ h q => ⟨h.1, h.2.quiet q⟩) (fun _ _ h q => ⟨h.choose, h.choose_spec.1, h.choose_spec.2.1, h.choose_spec.2.2.quiet q⟩) (fun _ _ _ h q => ⟨h.1, h.2.1, h.2.2.choose, h.2.2.choose_spec.quiet q⟩)
    0 ⟨by omega, j0⟩ ?iter ?body ?done ?stop
  case iter =>
    intro l W Fr Fx hFr hj hf hY
    exact c32 5 s bo (bo + 1) (by omega) W0 l W Fr Fx hFr hj.2 hf (fun j W1 h10 hle h1 h2 => hY j W1 ⟨⟨h10, by omega⟩, h1⟩ h2)
  case body =>
    rintro l j W ⟨⟨h10, hle⟩, hj⟩
    obtain ⟨x, hx⟩ : ∃ x, raw s j = x := ⟨_, rfl⟩
    have HX := Aside0.mk hx
    clear hx
    have HJ := Aside0.mk hj
    clear hj
    simp only [HX.out]
    unfold vals
    gi_wp2
    have hlw := HJ.out.box.lt
    refine ⟨KeepsOthers.alloc _ _, (Below.refl _ _).alloc (by omega) _, fun W2 q => ?_⟩
    have hj2 := HJ.out.quiet ((Quiet.alloc W _ (by omega)).trans q)
    have hbe : Box5 W2 W.heap.size x := q.block (World.alloc_heap_new W _)
    obtain ⟨be, hbee⟩ : ∃ be, W.heap.size = be := ⟨_, rfl⟩
    have hlt5 : ∀ k v, W.ownsRow bo 29 5 v j (cellsOf (ents s j)) → v.ownBlock = some k → k < be := fun k v ho hk => by rw [← hbee]; exact own_lt ho k hk
    obtain ⟨v0, hv0, hr0⟩ := HJ.out.row
    have hz5 : bo + 1 < W.heap.size := HJ.out.box.lt
    rw [hbee] at hbe hlw hz5 ⊢
    have hv0' : Boxed W2 bo 24 v0 := (((Quiet.alloc W _ (by have := HJ.out.below.size; omega)).trans q).block hv0)
    clear q HJ hbee
    obtain ⟨g1, g2, v, g3, g4⟩ := hj2
    obtain ⟨A, c, rfl⟩ := own_slice g4
    obtain rfl : v0 = .slice A j c := by
      have h1 := hv0'.cell
      rw [g3.cell] at h1
      exact (Option.some.inj h1).symm
    have hlt6 := fun k => hlt5 k _ hr0
    have HL := Aside0.mk hlt6
    have HZ := Aside0.mk hz5
    clear hlt5 hlt6 hr0 hv0 hv0' hz5
    have hv := g3.cell
    have G1 := Aside0.mk g1
    have G2 := Aside0.mk g2
    have G3 := Aside0.mk g3
    have G4 := Aside0.mk g4
    have HE := Aside0.mk hbe
    clear g1 g2 g3 g4
    by_cases hjf : j = 10000
    · subst hjf
      gi_wp2
      exact ⟨KeepsOthers.refl _, rfl, hle, 10000, G1.out, G2.out, _, G3.out, G4.out⟩
    · have hjb : ((j : Int) == 10000) = false := by rw [beq_eq_false_iff_ne]; omega
      have hJF := Aside0.mk hjf
      clear hjf
      obtain ⟨e0, e1, e2, e3, e4⟩ := hbe.cells
      clear hbe
      have hne : ∀ k, (Value.slice A j c).ownBlock = some k → k < be := HL.out
      have HN := Aside0.mk hne
      clear hne
      have arm : ∀ r, rightB x = r → Calls Try.prog 26 #[.agg #[.int .i64 x.f0, .int .i64 x.f1, .int .i64 x.f2, .int .i64 x.f3, .int .i64 x.f4]] W2 fun e w' => e = .returned (.bool r) ∧ Below W2.heap.size W2 w' := fun r h => script_isRight.calls 10 _ _ _ _ _ r _ (by rw [← h]; exact isRight_f x)
      have AR := Aside0.mk arm
      clear arm
      cases hrb : rightB x
      all_goals have HRB := Aside0.mk hrb
      all_goals clear hrb
      all_goals gi_upto_region 7 with (refine ⟨trivial, ?_⟩; gi_at_call 26; refine (CallsIn.inRound l (callsIn_wide.2 (AR.out _ HRB.out))).mono ?_; rintro e w3 ⟨rfl, hB⟩; have hb5 := HE.out.below hB; obtain ⟨d0, d1, d2, d3, d4⟩ := hb5.cells; have z0 := hb5.free 0; have z1 := hb5.free 1; have z2 := hb5.free 2; have z3 := hb5.free 3; have z4 := hb5.free 4; have HB5 := Aside0.mk hb5; have HB := Aside0.mk hB; clear hB hb5)
      · skip
        have hat := At5.zero HX.out HRB.out HB.out HE.out G2.out G3.out G4.out HZ.out HN.out
        have hwz : ((((w3.setCell ⟨be, 0, none⟩ (.int .i64 0)).setCell ⟨be, 1, none⟩ (.int .i64 0)).setCell ⟨be, 2, none⟩ (.int .i64 0)).setCell ⟨be, 3, none⟩ (.int .i64 0)).setCell ⟨be, 4, none⟩ (.int .i64 0) = zeroed w3 be := rfl
        rw [hwz]
        generalize zeroed w3 be = w4 at hat ⊢
        generalize z29 = y at hat
        clear hwz HB HB5 d0 d1 d2 d3 d4 z0 z1 z2 z3 z4 e0 e1 e2 e3 e4 AR HRB hv
        have c3 := hat.out.cell
        obtain ⟨d0, d1, d2, d3, d4⟩ := hat.box.cells
        have HAT := Aside0.mk hat
        clear hat
        obtain ⟨i0, hi, hz0, hz1, hz2⟩ := info_parts info29
        gi_wp2_with (gi_at_builtin; refine wpListIn_append_own _ rfl _ _ 24 rfl bo 29 i0 (.agg #[.int .i64 0, .int .i64 0, .int .i64 0, .int .i64 0, .int .i64 0]) 5 40 Try.underlying24 hi hz0 hz1 hz2 rfl (by decide) _ _ _ rfl (HAT.out.row.alloc _) ⟨w4.heap.size, 0, none⟩ 1 1 (vals y) rfl rfl (cells_new w4 (vals y) 29) (by simp [vals, Value.oneCell']) (by unfold maxLen; omega) (by omega) (by have := HAT.out.out.lt; simp; omega) ?_; intro v' w5 hown' hgrow _; obtain ⟨g', cap', rfl⟩ := ownsRow_succ hown'; obtain ⟨hv1, hv2, hr2, hk2, hb2⟩ := HAT.out.out.appended (by decide) HAT.out.row (by have := HAT.out.out.lt; omega) (Nat.le_refl _) hown' hgrow; have hc1 := hv1.cell; have hf1 := hv1.frozen; have H2 := Aside0.mk hv2; have H3 := Aside0.mk hr2; have H4 := Aside0.mk hk2; have H5 := Aside0.mk hb2; have H6 := Aside0.mk hgrow; clear hv1 hv2 hr2 hk2 hb2 hown' hgrow)
        have g2 := HAT.out.it
        have g2' : Boxed (w5.setCell ⟨bo, 0, none⟩ (.slice (some ⟨g', 0, none⟩) (j + 1) cap')) (bo + 1) 9 (.string (rest s j)) := ((g2.alloc _).kept H6.out (g2.not_row (by decide) HAT.out.row)).kept (grownBy_setCell' _ _ _) (by simp)
        have hj10 : j < 10000 := by have := hJF.out; omega
        exact ⟨HAT.out.keeps.trans H4.out, hj10, G1.out.trans (HAT.out.below.trans H5.out), g2', _, H2.out, by rw [ents_succ, cells_snoc, HAT.out.ent]; exact H3.out⟩
      · skip
        have hat := At5.plain HX.out HRB.out HB.out HE.out G2.out G3.out G4.out HZ.out
        obtain ⟨y, hy⟩ : ∃ y, x = y := ⟨_, rfl⟩
        rw [hy] at hat
        clear hy HB HB5 d0 d1 d2 d3 d4 z0 z1 z2 z3 z4 e0 e1 e2 e3 e4 AR HRB hv
        have c3 := hat.out.cell
        obtain ⟨d0, d1, d2, d3, d4⟩ := hat.box.cells
        have HAT := Aside0.mk hat
        clear hat
        obtain ⟨i0, hi, hz0, hz1, hz2⟩ := info_parts info29
        gi_wp2_with (gi_at_builtin; refine wpListIn_append_own _ rfl _ _ 24 rfl bo 29 i0 (.agg #[.int .i64 0, .int .i64 0, .int .i64 0, .int .i64 0, .int .i64 0]) 5 40 Try.underlying24 hi hz0 hz1 hz2 rfl (by decide) _ _ _ rfl (HAT.out.row.alloc _) ⟨w3.heap.size, 0, none⟩ 1 1 (vals y) rfl rfl (cells_new w3 (vals y) 29) (by simp [vals, Value.oneCell']) (by unfold maxLen; omega) (by omega) (by have := HAT.out.out.lt; simp; omega) ?_; intro v' w5 hown' hgrow _; obtain ⟨g', cap', rfl⟩ := ownsRow_succ hown'; obtain ⟨hv1, hv2, hr2, hk2, hb2⟩ := HAT.out.out.appended (by decide) HAT.out.row (by have := HAT.out.out.lt; omega) (Nat.le_refl _) hown' hgrow; have hc1 := hv1.cell; have hf1 := hv1.frozen; have H2 := Aside0.mk hv2; have H3 := Aside0.mk hr2; have H4 := Aside0.mk hk2; have H5 := Aside0.mk hb2; have H6 := Aside0.mk hgrow; clear hv1 hv2 hr2 hk2 hb2 hown' hgrow)
        have g2 := HAT.out.it
        have g2' : Boxed (w5.setCell ⟨bo, 0, none⟩ (.slice (some ⟨g', 0, none⟩) (j + 1) cap')) (bo + 1) 9 (.string (rest s j)) := ((g2.alloc _).kept H6.out (g2.not_row (by decide) HAT.out.row)).kept (grownBy_setCell' _ _ _) (by simp)
        have hj10 : j < 10000 := by have := hJF.out; omega
        exact ⟨HAT.out.keeps.trans H4.out, hj10, G1.out.trans (HAT.out.below.trans H5.out), g2', _, H2.out, by rw [ents_succ, cells_snoc, HAT.out.ent]; exact H3.out⟩
  case done =>
    rintro D W ⟨j, h10, hj6, hj⟩ hD hK
    have hcn : cnt s = j := by unfold cnt; omega
    have HCN := Aside0.mk hcn
    clear hcn
    obtain ⟨g1, g2, v, g3, g4⟩ := hj
    have hc := g3.cell
    have G1 := Aside0.mk g1
    have G4 := Aside0.mk g4
    have HK := Aside0.mk hK
    have HD := Aside0.mk hD
    clear g1 g2 g3 g4 hK hD
    go_wp2
    rw [Exit.noGoto_ret]
    refine leaves_one (n0 := bo) HD.out HK.out (v := v) fun W' q => ⟨by simp [results, Try.results13, go_sem], v, rfl, ?_, ?_⟩
    · have h := own_weaken (base' := w.heap.size) (q.ownsRow G4.out) (by have := HBO.out; omega)
      rw [HCN.out]
      exact h
    · exact hBW.trans ((G1.out.mono (by have := HBO.out; omega)).trans (q.below.mono (by have := HBO.out; omega)))
  case stop =>
    rintro D c W ⟨rfl, h60, i, hj⟩ hD hK
    have hcn : cnt s = 10000 := by unfold cnt; omega
    have HCN := Aside0.mk hcn
    clear hcn
    obtain ⟨g1, g2, v, g3, g4⟩ := hj
    have hc := g3.cell
    have G1 := Aside0.mk g1
    have G4 := Aside0.mk g4
    have HK := Aside0.mk hK
    have HD := Aside0.mk hD
    clear g1 g2 g3 g4 hK hD
    go_wp2
    rw [Exit.noGoto_ret]
    refine leaves_one (n0 := bo) HD.out HK.out (v := v) fun W' q => ⟨by simp [results, Try.results13, go_sem], v, rfl, ?_, ?_⟩
    · have h := own_weaken (base' := w.heap.size) (q.ownsRow G4.out) (by have := HBO.out; omega)
      rw [HCN.out]
      exact h
    · exact hBW.trans ((G1.out.mono (by have := HBO.out; omega)).trans (q.below.mono (by have := HBO.out; omega)))

theorem row29 {w : World} {base n : Nat} {ok : Nat → Prop} {v : Value} {xs : List S29} (hn : xs.length = n) (h : w.ownsRow base 29 5 v n (cellsOf xs)) (hok : ∀ k, v.ownBlock = some k → ok k) : Kd.R k29 29 w base ok v xs := by
  subst hn
  refine ⟨hok, cellsOf xs, h, ?_⟩
  have hl : ∀ ys : List S29, (cellsOf ys).length = ys.length * 5 := by
    intro ys
    induction ys with
    | nil => rfl
    | cons y ys ih => simp [cellsOf, vals] at ih ⊢; omega
  refine ⟨hl xs, ?_⟩
  have : ∀ (ys : List S29) (j : Nat) (p : S29), ys[j]? = some p → ((cellsOf ys).drop (j * 5)).take 5 = vals p := by
    intro ys
    induction ys with
    | nil => intro j p h; simp at h
    | cons y ys ih =>
      intro j p h
      cases j with
      | zero => simp at h; subst h; rfl
      | succ j =>
        have h' : ys[j]? = some p := by simpa using h
        have e : (cellsOf (y :: ys)).drop ((j + 1) * 5) = (cellsOf ys).drop (j * 5) := by
          show (vals y ++ cellsOf ys).drop ((j + 1) * 5) = _
          rw [show (j + 1) * 5 = (vals y).length + j * 5 by simp [vals]; omega, List.drop_append]
          simp [vals]
        rw [e]
        exact ih j p h'
  intro j p h
  have h5 : ((cellsOf xs).drop (j * k29.sz)).take k29.sz = vals p := this xs j p h
  rw [h5]
  exact k29_mkM w base _ p

def script_Decode.f (a0 : ByteArray) : Option (List S29) := if a0.size ≤ 140737488351232 then some (ents a0 (cnt a0)) else none
theorem script_Decode.calls (a0 : ByteArray) (r : List S29) (w : World) (h : script_Decode.f a0 = some r) :
    Calls Try.prog 13 #[.string a0] w fun e w' => ∃ v0_ : Value, e = .returned (v0_) ∧ Kd.R k29 29 w' w.heap.size (fun _ => True) v0_ r ∧ Below w.heap.size w w' := by
  unfold script_Decode.f at h
  by_cases hs : a0.size ≤ 140737488351232
  · rw [if_pos hs] at h
    obtain rfl := Option.some.inj h
    refine (c13 a0 w hs).mono ?_
    rintro e w' ⟨v, rfl, ho, hb⟩
    exact ⟨v, rfl, row29 (ents_length _ _) ho (fun _ _ => trivial), hb⟩
  · rw [if_neg hs] at h
    cases h
end Go.Proofs.Ytkjhklnjmpicgaa.H
