/- Who has queues: the walks of queues, a range over a function, and of owners. -/
import Derived.Test.YtafmgnojlnkmjaaH1
import Derived.Test.YtafmgnojlnkmjaaPA
import Derived.Test.YtafmgnojlnkmjaaRng
import Derived.Outline
import Derived.RegionTactic
import Derived.Laws.CopyRow
import Derived.Deep.MidRow
import Derived.Deep.RegionHeld3
import Derived.WalkMore
import Derived.Sort.LoopGhostIn
namespace Go.Proofs.Ytafmgnojlnkmjaa.H
open Go.RowKit Go.Shelf Go.Rg Go.Proofs.YtafmgnojlnkmjaaW.PrintWords Go.Proofs.YtafmgnojlnkmjaaW.PrintLast Go.Proofs.YtafmgnojlnkmjaaW.PrintMore
open Go.Proofs.Ytafmgnojlnkmjaa.QL
attribute [local go_sem] Oper.semAt_some
set_option linter.unusedVariables false
set_option linter.unusedSimpArgs false

theorem c35 (n : Int) (b : Nat) (w : World) (hb : w.cell? ⟨b, 0, none⟩ = some (.int .i64 n)) (hlt : b < w.heap.size) : GivesI 35 #[.pointer (some ⟨b, 0, none⟩)] (okC n) w := by
  intro W x hW
  have hc : W.cell? ⟨b, 0, none⟩ = some (.int .i64 n) := (hW.cell (p := ⟨b, 0, none⟩) hlt).trans hb
  clear hb hW hlt
  show Calls Try.prog 35 #[.int .i64 x, .pointer (some ⟨b, 0, none⟩)] W _
  unfold okC
  by_cases h1 : 0 ≤ x
  · by_cases h2 : x < n
    · rw [decide_eq_true h1, decide_eq_true h2]
      go_enter Try.func35, Try.ntmps35
      go_wp2
      go_ret
      exact ⟨rfl, Below.refl _ _⟩
    · rw [decide_eq_true h1, decide_eq_false h2]
      have h2' : decide (x < n) = false := decide_eq_false h2
      clear h2
      go_enter Try.func35, Try.ntmps35
      go_wp2
      go_ret
      exact ⟨rfl, Below.refl _ _⟩
  · rw [decide_eq_false h1]
    have h1' : decide (0 ≤ x) = false := decide_eq_false h1
    clear h1
    go_enter Try.func35, Try.ntmps35
    go_wp2
    go_ret
    exact ⟨rfl, Below.refl _ _⟩

set_option maxHeartbeats 1000000 in
theorem c32 (Q : Int) (hQ : Q ≤ 64) (b : Nat) (w : World) (hb : w.cell? ⟨b, 0, none⟩ = some (.int .i64 Q)) (hlt : b < w.heap.size) : GivesS 32 #[.pointer (some ⟨b, 0, none⟩)] (okS Q) w := by
  intro W x hW
  have hc : W.cell? ⟨b, 0, none⟩ = some (.int .i64 Q) := (hW.cell (p := ⟨b, 0, none⟩) hlt).trans hb
  have hltW : b < W.heap.size := Nat.lt_of_lt_of_le hlt hW.size
  clear hb hW hlt
  obtain ⟨x0, x1⟩ := x
  show Calls Try.prog 32 #[.agg #[.int .i64 x0, .int .i64 x1], .pointer (some ⟨b, 0, none⟩)] W _
  unfold okS
  show Calls Try.prog 32 #[.agg #[.int .i64 x0, .int .i64 x1], .pointer (some ⟨b, 0, none⟩)] W fun e W' => e = .returned (.bool (decide (0 ≤ x0) && (decide (x0 ≤ Q) && (decide (1 ≤ x1) && decide (x1 ≤ Q - x0))))) ∧ Below W.heap.size W W'
  have hB : Below W.heap.size W (W.alloc (.cells #[.int .i64 x0, .int .i64 x1] 32)) := (Below.refl _ W).alloc (Nat.le_refl _) _
  have HB := Aside0.mk hB
  clear hB
  by_cases h1 : 0 ≤ x0
  · have h1' : decide (0 ≤ x0) = true := decide_eq_true h1
    rw [h1']
    by_cases h2 : x0 ≤ Q
    · have h2' : decide (x0 ≤ Q) = true := decide_eq_true h2
      rw [h2']
      by_cases h3 : 1 ≤ x1
      · have h3' : decide (1 ≤ x1) = true := decide_eq_true h3
        rw [h3']
        have hw : wrap64 (Q - x0) = Q - x0 := by unfold wrap64; omega
        generalize hd : decide (x1 ≤ Q - x0) = d
        have HD := Aside0.mk hd
        have HW := Aside0.mk hw
        clear hd h2 h3 hw
        go_enter Try.func32, Try.ntmps32
        go_wp2
        go_ret
        refine ⟨?_, HB.out⟩
        rw [← HD.out]
        simp only [Bool.true_and]
        first | rfl | (rw [HW.out]; rfl) | (simp; rw [HW.out])
      · have h3' : decide (1 ≤ x1) = false := decide_eq_false h3
        rw [h3']
        clear h1 h2 h3
        go_enter Try.func32, Try.ntmps32
        go_wp2
        go_ret
        exact ⟨rfl, HB.out⟩
    · have h2' : decide (x0 ≤ Q) = false := decide_eq_false h2
      rw [h2']
      clear h1 h2
      go_enter Try.func32, Try.ntmps32
      go_wp2
      go_ret
      exact ⟨rfl, HB.out⟩
  · have h1' : decide (0 ≤ x0) = false := decide_eq_false h1
    rw [h1']
    clear h1
    go_enter Try.func32, Try.ntmps32
    go_wp2
    go_ret
    exact ⟨rfl, HB.out⟩

theorem c36 (Q : Int) (v1 v2 : Value) (w : World) (h1 : v1.oneCell' = true) (h2 : v2.oneCell' = true) : Calls Try.prog 36 #[.agg #[.int .i64 Q, v1, v2]] w fun e w' => e = .returned (.func (.func 42) #[] #[.pointer (some ⟨w.heap.size, 0, none⟩)]) ∧ w' = w.alloc (.cells #[.int .i64 Q, v1, v2] 25) := by
  go_enter Try.func36, Try.ntmps36
  go_wp2
  go_ret
  exact ⟨rfl, rfl⟩

/-- Whatever lies in neither of the two, and is no loop's record, lies as it lay. -/
def Keeps2 (b1 b2 : Nat) (V W : World) : Prop := ∀ k o, V.heap[k]? = some o → loopy o = false → k ≠ b1 → k ≠ b2 → W.heap[k]? = some o
theorem Keeps2.refl (b1 b2 : Nat) (W : World) : Keeps2 b1 b2 W W := fun _ _ h _ _ _ => h
theorem Keeps2.quiet {b1 b2 n0 : Nat} {V W W' : World} (h : Keeps2 b1 b2 V W) (q : Quiet n0 W W') : Keeps2 b1 b2 V W' := fun k o hk hl h1 h2 => q.same k o (h k o hk hl h1 h2) hl
theorem Keeps2.set1 {b1 b2 i : Nat} {V W : World} (h : Keeps2 b1 b2 V W) (v : Value) : Keeps2 b1 b2 V (W.setCell ⟨b1, i, none⟩ v) := fun k o hk hl h1 h2 => (Below.heap_setCell _ _ _ k h1).trans (h k o hk hl h1 h2)
theorem Keeps2.set2 {b1 b2 i : Nat} {V W : World} (h : Keeps2 b1 b2 V W) (v : Value) : Keeps2 b1 b2 V (W.setCell ⟨b2, i, none⟩ v) := fun k o hk hl h1 h2 => (Below.heap_setCell _ _ _ k h2).trans (h k o hk hl h1 h2)

/-- So many have been gone through, none had an owner; what lies where. -/
structure St (sp : List S32) (n0 bo b1 : Nat) (W0 V0 : World) (j : Nat) (W : World) : Prop where
  none_ : ∀ i, i < j → hits sp i = false
  below : Below n0 W0 W
  out : W.heap[bo]? = some (.cells (nums .i64 (outAt sp j)).toArray 46 (0, 0))
  one : Boxed W b1 4 (.bool true)
  kept : Keeps2 bo b1 V0 W
theorem St.quiet {sp : List S32} {n0 bo b1 : Nat} {W0 V0 : World} {j : Nat} {W W' : World} (h : St sp n0 bo b1 W0 V0 j W) (q : Quiet n0 W W') : St sp n0 bo b1 W0 V0 j W' :=
  ⟨h.none_, h.below.trans q.below, q.block h.out, q.block h.one, h.kept.quiet q⟩

theorem nums_get (l : List Int) (q : Int) (h0 : 0 ≤ q) (h1 : q < (l.length : Int)) : (nums .i64 l)[q.toNat]? = some (.int .i64 (rd l q)) := by
  have h : q.toNat < l.length := by omega
  simp [nums, rd, h]
theorem nums_set (l : List Int) (i : Nat) (v : Int) : nums .i64 (l.set i v) = (nums .i64 l).set i (.int .i64 v) := by simp [nums, List.map_set]
theorem St.cell {sp : List S32} {n0 bo b1 : Nat} {W0 V0 : World} {j : Nat} {W : World} (h : St sp n0 bo b1 W0 V0 j W) (q : Int) (h0 : 0 ≤ q) (h1 : q < 64) : W.cell? ⟨bo, q.toNat, none⟩ = some (.int .i64 (rd (outAt sp j) q)) := by
  have := nums_get (outAt sp j) q h0 (by rw [outAt_length]; omega)
  simp [World.cell?, h.out, this]
theorem St.free {sp : List S32} {n0 bo b1 : Nat} {W0 V0 : World} {j : Nat} {W : World} (h : St sp n0 bo b1 W0 V0 j W) (i : Nat) : W.frozen? ⟨bo, i, none⟩ = false := by simp [World.frozen?, h.out]
/-- The next one is laid. -/
theorem St.next {sp : List S32} {n0 bo b1 : Nat} {W0 V0 : World} {j : Nat} {W : World} (h : St sp n0 bo b1 W0 V0 j W) (hn : hits sp j = false) (hb : n0 ≤ bo) (hne : bo ≠ b1) : St sp n0 bo b1 W0 V0 (j + 1) (W.setCell ⟨bo, (qs sp j).1.toNat, none⟩ (.int .i64 ((qs sp j).2 + 1))) := by
  refine ⟨fun i hi => ?_, h.below.setCell (p := ⟨bo, _, none⟩) hb _, ?_, ?_, h.kept.set1 _⟩
  · by_cases e : i = j
    · subst e; exact hn
    · exact h.none_ i (by omega)
  · obtain ⟨hlt, hk⟩ := Array.getElem?_eq_some_iff.1 h.out
    show (W.heap.modify bo _)[bo]? = _
    rw [Array.getElem?_eq_getElem (by rw [Array.size_modify]; exact hlt), Array.getElem_modify_self, hk]
    simp only [outAt, nums_set]
    simp
  · exact (Below.heap_setCell _ _ _ _ (fun e => hne e.symm)).trans h.one

set_option maxHeartbeats 2000000 in
theorem c42 (n : Nat) (Q : Int) (v1 : Value) (A : Option Addr) (c : Nat) (sp : List S32) (n0 bo b1 bt : Nat) (hQ : Q ≤ 64) (hs : ∀ s ∈ sp, okS Q s = true) (hl : sp.length ≤ 1000) (hn1 : bo ≠ bt) (hn2 : b1 ≠ bt) (hbt : n0 ≤ bt) (W0 V0 : World) (lp : Nat) (W : World) (Fr Fx : World → Prop) (hFr : ∀ W W', Fr W → KeepsOthers W W' → Fr W') (h0 : St sp n0 bo b1 W0 V0 0 W) (hF0 : Fr W)
    (hC : Kd.C k32 W0 A sp.length sp) (hC0 : W0.heap.size = n0) (hbox : W.heap[bt]? = some (.cells #[.int .i64 Q, v1, .slice A sp.length c] 25 (0, 0)))
    (hY : ∀ (j : Nat) W1, j < max (pairs sp).length 1 → St sp n0 bo b1 W0 V0 j W1 → Fr W1 → YieldAt Fence.wide n Try.prog lp #[.int .i64 (qs sp j).1, .int .i64 (qs sp j).2] W1 fun e W' => (e = .returned (.bool true) ∧ (St sp n0 bo b1 W0 V0 (j + 1) W' ∧ Keeps2 bo b1 W1 W') ∧ Fr W') ∨ (e = .returned (.bool false) ∧ Fx W')) :
    CallsIn Fence.wide (n + 1) Try.prog 42 #[.func (.yield lp) #[] #[], .pointer (some ⟨bt, 0, none⟩)] W fun e W' => (∃ v, e = .returned v) ∧ ((St sp n0 bo b1 W0 V0 (pairs sp).length W' ∧ Fr W') ∨ Fx W') := by
  refine callsIn_of_wp Try.func42 rfl trivial ?_ rfl
  simp only [Try.ntmps42, List.size_toArray, List.length_cons, List.length_nil, Nat.reduceAdd, Nat.reduceSub, Array.replicate_succ, Array.replicate_zero, List.push_toArray, List.append_toArray, List.nil_append, List.cons_append]
  have hc0 : W.cell? ⟨bt, 2, none⟩ = some (.slice A sp.length c) := by simp [World.cell?, hbox]
  have HY := Aside0.mk hY
  have HC := Aside0.mk hC
  have HS := Aside0.mk hs
  have HZ := Aside0.mk hC0
  have H0 := Aside0.mk h0
  have HF := Aside0.mk hF0
  clear hY hC hs hC0 h0 hF0 hbox
  gi_wp2
  gi_loopg [9] sp.length (fun (kq : Nat) (v9 : Value) (wr : World) => ∃ i : Nat, Aside0 (kq + i = sp.length) ∧ v9 = .int .i64 i ∧ Aside0 (St sp n0 bo b1 W0 V0 (pos sp i) wr) ∧ Aside0 (Fr wr))
  case atStart => exact ⟨0, ⟨by omega⟩, rfl, by rw [pos_zero]; exact H0, HF⟩
  case round =>
    clear H0 HF hc0
    obtain ⟨i, ⟨hk⟩, rfl, ⟨hst⟩, ⟨hf⟩⟩ := hrel
    by_cases hlt : i < sp.length
    · obtain ⟨ad, rfl, hcell, hcell2⟩ := at_T32 (Kd.C_below HC.out (hst.below.mono (by rw [HZ.out]; exact Nat.le_refl _))) i (by omega) (by omega)
      have he := rdS_get sp i hlt
      have hok := (okS_iff Q _).1 (HS.out _ (List.getElem_mem hlt))
      rw [← he] at hok
      have hqs := fun k (hk : k < (sp[i].f1).toNat) => And.intro (qs_get sp i k hlt hk) (pos_lt sp i k hlt hk)
      have hps := pos_succ sp i hlt
      rw [← he] at hqs hps
      clear he
      rw [Int.toNat_natCast] at hcell hcell2
      generalize rd_T32 sp (i : Int) = x at hcell hcell2 hok hqs hps
      obtain ⟨x0, x1⟩ := x
      obtain ⟨o1, o2, o3, o4⟩ := hok
      dsimp only at hcell hcell2 o1 o2 o3 o4 hqs hps
      have hlb : decide ((i : Int) < (sp.length : Int)) = true := decide_eq_true (by omega)
      have hlz : (i : Int) < (sp.length : Int) := by omega
      have hz : (0 : Int) ≤ (i : Int) := by omega
      obtain ⟨k1, rfl⟩ : ∃ k1, gk = k1 + 1 := ⟨gk - 1, by omega⟩
      have HK := Aside0.mk hk
      have HT := Aside0.mk hst
      have HF := Aside0.mk hf
      have HQ := Aside0.mk hqs
      have HP := Aside0.mk hps
      have HL := Aside0.mk hlt
      clear hk hst hf hqs hps hlt
      gi_wp2
      have hq2 : Quiet n0 wr (wr.alloc (.cells #[.int .i64 x0, .int .i64 x1] 32)) := Quiet.alloc wr _ (by rw [← HZ.out]; exact HT.out.below.size)
      have HT2 := Aside0.mk (HT.out.quiet hq2)
      have HF2 := Aside0.mk (hFr _ (wr.alloc (.cells #[.int .i64 x0, .int .i64 x1] 32)) HF.out (KeepsOthers.alloc _ _))
      have hbs : (wr.alloc (.cells #[.int .i64 x0, .int .i64 x1] 32)).heap[wr.heap.size]? = some (.cells #[.int .i64 x0, .int .i64 x1] 32 (0, 0)) := World.alloc_heap_new wr _
      have HE1 := Aside0.mk (show bo ≠ wr.heap.size from fun e => by
        have := (Array.getElem?_eq_some_iff.1 HT.out.out).1
        omega)
      have HE2 := Aside0.mk (show b1 ≠ wr.heap.size from fun e => by
        have := HT.out.one.lt
        omega)
      have HBS := Aside0.mk hbs
      clear hbs hq2 hcell hcell2 HT HF
      generalize wr.alloc (.cells #[.int .i64 x0, .int .i64 x1] 32) = W2 at HT2 HF2 HBS ⊢
      generalize wr.heap.size = bs at HE1 HE2 HBS ⊢
      gi_loopg [16] x1.toNat (fun (kq : Nat) (v16 : Value) (wv : World) => ∃ k : Nat, Aside0 (kq + k = x1.toNat) ∧ v16 = .int .i64 k ∧ Aside0 (St sp n0 bo b1 W0 V0 (pos sp i + k) wv) ∧ Aside0 (Fr wv) ∧ Aside0 (wv.heap[bs]? = some (.cells #[.int .i64 x0, .int .i64 x1] 32 (0, 0))))
      case atStart => exact ⟨0, ⟨by omega⟩, rfl, HT2, HF2, HBS⟩
      case round =>
        clear HT2 HF2 HBS
        obtain ⟨k, ⟨hk2⟩, rfl, ⟨hst2⟩, ⟨hf2⟩, ⟨hbs2⟩⟩ := hrel
        by_cases hlt2 : k < x1.toNat
        · obtain ⟨hq1, hq2⟩ := HQ.out k hlt2
          have hw : wrap64 (x0 + (k : Int)) = x0 + (k : Int) := by unfold wrap64; omega
          have hlb2 : decide ((k : Int) < x1) = true := decide_eq_true (by omega)
          have hlz2 : (k : Int) < x1 := by omega
          have hz2 : (0 : Int) ≤ (k : Int) := by omega
          have hc1 : wr.cell? ⟨bs, 0, none⟩ = some (.int .i64 x0) := by simp [World.cell?, hbs2]
          obtain ⟨fn, tmps, assign, body, hy, hR⟩ := HY.out (pos sp i + k) wr (by omega) hst2 hf2
          rw [hq1] at hy
          dsimp only at hy
          have HK2 := Aside0.mk hk2
          have HB2 := Aside0.mk hbs2
          have HW := Aside0.mk hw
          clear hk2 hst2 hf2 hbs2 hlt2 hq1 hq2 hw
          gi_wp2
          refine hR.mono ?_
          rintro e W4 (⟨rfl, ⟨hst4, hkp4⟩, hf4⟩ | ⟨rfl, hx⟩)
          · have hbs4 := hkp4 bs _ HB2.out rfl (fun e => HE1.out e.symm) (fun e => HE2.out e.symm)
            have HB4 := Aside0.mk hbs4
            have HT4 := Aside0.mk hst4
            have HF4 := Aside0.mk hf4
            clear hbs4 hst4 hf4 hkp4
            gi_wp2
            obtain ⟨k2, rfl⟩ : ∃ k2, gk = k2 + 1 := ⟨gk - 1, by have := HK2.out; omega⟩
            gi_roundg k2
            case rel => exact ⟨k + 1, ⟨by have := HK2.out; omega⟩, by go_num, HT4, HF4, HB4⟩
            case measure => omega
          · gi_wp2
            refine bodyPost_ret (results_none rfl _ _ _) rfl ?_
            exact ⟨⟨_, rfl⟩, .inr hx⟩
        · have hlb2 : decide ((k : Int) < x1) = false := decide_eq_false (by omega)
          have HT3 := Aside0.mk (show St sp n0 bo b1 W0 V0 (pos sp (i + 1)) wr by
            have e : k = x1.toNat := by omega
            rw [HP.out, ← e]
            exact hst2)
          have HF3 := Aside0.mk hf2
          clear hk2 hst2 hf2 hbs2 hlt2
          gi_wp2
          gi_roundg k1
          case rel => exact ⟨i + 1, ⟨by have := HK.out; omega⟩, by go_num, HT3, HF3⟩
          case measure => omega
    · have hlb : decide (i < sp.length) = false := decide_eq_false (by omega)
      have hge : sp.length ≤ i := by omega
      have HT3 := Aside0.mk (show St sp n0 bo b1 W0 V0 (pairs sp).length wr by
        have e : i = sp.length := by omega
        rw [pairs_length, ← e]
        exact hst)
      have HF3 := Aside0.mk hf
      clear hk hst hf hlt
      gi_wp2
      go_end0
      exact ⟨⟨_, rfl⟩, .inl ⟨HT3.out, HF3.out⟩⟩

theorem heap_five (w : World) (o0 o1 o2 o3 o4 : Obj) : ((((((w.alloc o0).alloc o1).alloc o2).alloc o3).alloc o4).heap[w.heap.size + 1]? = some o1) ∧ ((((((w.alloc o0).alloc o1).alloc o2).alloc o3).alloc o4).heap[w.heap.size + 1 + 1]? = some o2) ∧ ((((((w.alloc o0).alloc o1).alloc o2).alloc o3).alloc o4).heap[w.heap.size + 1 + 1 + 1]? = some o3) ∧ ((((((w.alloc o0).alloc o1).alloc o2).alloc o3).alloc o4).heap[w.heap.size + 1 + 1 + 1 + 1]? = some o4) ∧ Below w.heap.size w (((((w.alloc o0).alloc o1).alloc o2).alloc o3).alloc o4) ∧ (((((w.alloc o0).alloc o1).alloc o2).alloc o3).alloc o4).heap.size = w.heap.size + 5 := by
  have s1 : (w.alloc o0).heap.size = w.heap.size + 1 := by simp
  have s2 : ((w.alloc o0).alloc o1).heap.size = w.heap.size + 1 + 1 := by simp
  have s3 : (((w.alloc o0).alloc o1).alloc o2).heap.size = w.heap.size + 1 + 1 + 1 := by simp
  have s4 : ((((w.alloc o0).alloc o1).alloc o2).alloc o3).heap.size = w.heap.size + 1 + 1 + 1 + 1 := by simp
  have e1 := World.alloc_heap_new (w.alloc o0) o1
  have e2 := World.alloc_heap_new ((w.alloc o0).alloc o1) o2
  have e3 := World.alloc_heap_new (((w.alloc o0).alloc o1).alloc o2) o3
  have e4 := World.alloc_heap_new ((((w.alloc o0).alloc o1).alloc o2).alloc o3) o4
  rw [s1] at e1
  rw [s2] at e2
  rw [s3] at e3
  rw [s4] at e4
  refine ⟨?_, ?_, ?_, e4, ((((((Below.refl _ w).alloc (Nat.le_refl _) _).alloc (by omega) _).alloc (by omega) _).alloc (by omega) _).alloc (by omega) _), by simp⟩
  · exact (Below.heap_alloc _ o4 _ (by omega)).trans ((Below.heap_alloc _ o3 _ (by omega)).trans ((Below.heap_alloc _ o2 _ (by omega)).trans e1))
  · exact (Below.heap_alloc _ o4 _ (by omega)).trans ((Below.heap_alloc _ o3 _ (by omega)).trans e2)
  · exact (Below.heap_alloc _ o4 _ (by omega)).trans e3

/-- Behind the loop: what was laid, and whether there was but one owner. -/
structure Fin (sp : List S32) (H : Nat) (w : World) (W : World) : Prop where
  below : Below H w W
  out : W.heap[H + 1 + 1]? = some (.cells (nums .i64 (ownOut sp)).toArray 46 (0, 0))
  one : Boxed W (H + 1 + 1 + 1) 4 (.bool (ownOne sp))
  res : W.heap[H + 1]? = some (.cells (nums .i64 (outAt sp 0)).toArray 46 (0, 0))

theorem nums_length (k : IntKind) (l : List Int) : (nums k l).length = l.length := by simp [nums]
theorem ownOut_length (sp : List S32) : (ownOut sp).length = 64 := by
  unfold ownOut
  split <;> exact outAt_length sp _
theorem range64 {W : World} {b : Nat} {l : List Int} {t : TypeId} {f : Nat × Nat} (h : W.heap[b]? = some (.cells (nums .i64 l).toArray t f)) : W.rangeAt b 0 (nums .i64 l) := fun j v hv => by
  rw [Nat.zero_add]
  simp [World.cell?, h, hv]
theorem below_setRow {B b : Nat} (h : B ≤ b) (w : World) (cs : Array Value) : Below B w (w.setRow b cs) := ⟨rfl, rfl, rfl, by simp, fun k hk => setRow_other w b k cs (by omega)⟩
/-- A whole row is stored. -/
theorem wp_store_row {P : Program} {op : Oper} {a : Act} {w : World} {K : Act → World → Prop} {Q : Exit → Act → World → Prop} (ty : TypeId) (x y : Operand) (ho : op.op = .store ty x y)
    (b : Nat) (t : TypeId) (old cells : Array Value) (hx : a.eval x = .pointer (some ⟨b, 0, none⟩)) (hy : a.eval y = .agg cells)
    (hg : w.heap[b]? = some (.cells old t (0, 0))) (hs : old.size = cells.size) (hi : (P.info? ty).map (·.size) = some cells.size) (h1 : cells.all (·.oneCell') = true)
    (h : K (a.put op.dst undef) (w.setRow b cells)) : op.wp P a w K Q := by
  unfold Oper.wp execOp
  simp only [ho, hx, hy, Instr.storeAt, Instr.sureAddr, Sem.run_bind, Sem.run_pure, Result.andThen_ok, run_storeVar_row w b t ty old cells hg hi hs h1]
  exact h
theorem noPanic_mk {Q : Exit → Act → World → Prop} {a : Act} {w : World} (h : Q .normal a w) : NoPanic Q .normal a w := h
theorem info46 : (Try.prog.info? 46).map (·.size) = some 64 := by kernel_rfl

/-- What owners hands back: sixty-four numbers, and whether each queue has but one owner. -/
def AnsO (sp : List S32) (w : World) (e : Ending) (w' : World) : Prop := e = .returned (.tuple #[.agg (nums .i64 (ownOut sp)).toArray, .bool (ownOne sp)]) ∧ Below w.heap.size w w'

set_option maxHeartbeats 2000000 in
set_option maxRecDepth 100000 in
theorem c30 (Q : Int) (A1 : Option Addr) (n1 c1 : Nat) (A : Option Addr) (c : Nat) (sp : List S32) (w : World) (hQ : Q ≤ 64) (hs : ∀ s ∈ sp, okS Q s = true) (hl : sp.length ≤ 1000) (hC : Kd.C k32 w A sp.length sp) :
    Calls Try.prog 30 #[.agg #[.int .i64 Q, .slice A1 n1 c1, .slice A sp.length c]] w (AnsO sp w) := by
  have HC := Aside0.mk hC
  have HS := Aside0.mk hs
  clear hC hs
  refine calls_marks Try.func30 rfl ?_
  simp only [Try.ntmps30, List.size_toArray, List.length_cons, List.length_nil, Nat.reduceAdd, Nat.reduceSub, Array.replicate_succ, Array.replicate_zero, List.push_toArray, List.append_toArray, List.nil_append, List.cons_append]
  repeat go_step3
  go_wp2_with (first | go_step3 | (go_at_call 36; refine (c36 _ _ _ _ rfl rfl).mono ?_; rintro e w1 ⟨rfl, rfl⟩))
  have ez : #[.int .i64 0, .int .i64 0, .int .i64 0, .int .i64 0, .int .i64 0, .int .i64 0, .int .i64 0, .int .i64 0, .int .i64 0, .int .i64 0, .int .i64 0, .int .i64 0, .int .i64 0, .int .i64 0, .int .i64 0, .int .i64 0, .int .i64 0, .int .i64 0, .int .i64 0, .int .i64 0, .int .i64 0, .int .i64 0, .int .i64 0, .int .i64 0, .int .i64 0, .int .i64 0, .int .i64 0, .int .i64 0, .int .i64 0, .int .i64 0, .int .i64 0, .int .i64 0, .int .i64 0, .int .i64 0, .int .i64 0, .int .i64 0, .int .i64 0, .int .i64 0, .int .i64 0, .int .i64 0, .int .i64 0, .int .i64 0, .int .i64 0, .int .i64 0, .int .i64 0, .int .i64 0, .int .i64 0, .int .i64 0, .int .i64 0, .int .i64 0, .int .i64 0, .int .i64 0, .int .i64 0, .int .i64 0, .int .i64 0, .int .i64 0, .int .i64 0, .int .i64 0, .int .i64 0, .int .i64 0, .int .i64 0, .int .i64 0, .int .i64 0, .int .i64 0] = (nums .i64 (outAt sp 0)).toArray := by kernel_rfl
  rw [ez]
  clear ez
  obtain ⟨V0, hV0⟩ : ∃ V0, (((((w.alloc (.cells #[.int .i64 Q, .slice A1 n1 c1, .slice A sp.length c] 25)).alloc (.cells (nums .i64 (outAt sp 0)).toArray 46)).alloc (.cells (nums .i64 (outAt sp 0)).toArray 46)).alloc (.cells #[.bool true] 4)).alloc (.cells #[.int .i64 Q, .slice A1 n1 c1, .slice A sp.length c] 25)) = V0 := ⟨_, rfl⟩
  rw [hV0]
  have h5 := heap_five w (.cells #[.int .i64 Q, .slice A1 n1 c1, .slice A sp.length c] 25) (.cells (nums .i64 (outAt sp 0)).toArray 46) (.cells (nums .i64 (outAt sp 0)).toArray 46) (.cells #[.bool true] 4) (.cells #[.int .i64 Q, .slice A1 n1 c1, .slice A sp.length c] 25)
  rw [hV0] at h5
  obtain ⟨g1, g2, g3, g4, hB, hsz⟩ := h5
  clear hV0
  obtain ⟨H, hH⟩ : ∃ H, w.heap.size = H := ⟨_, rfl⟩
  rw [hH] at g1 g2 g3 g4 hB hsz ⊢
  have st0 : St sp H (H + 1 + 1) (H + 1 + 1 + 1) w V0 0 V0 := ⟨fun i hi => absurd hi (by omega), hB, g2, g3, Keeps2.refl _ _ _⟩
  have G1 := Aside0.mk g1
  have G4 := Aside0.mk g4
  have HH := Aside0.mk hH
  have HQ0 := Aside0.mk hB
  clear g1 g2 g3 g4 hH hB
  have hex : ∀ (L : Nat) (W : World), L = (pairs sp).length → St sp H (H + 1 + 1) (H + 1 + 1 + 1) w V0 L W → Fin sp H w W := by
    intro L W hL h
    subst hL
    have hf := firstHit_none sp h.none_
    refine ⟨h.below, ?_, ?_, h.kept _ _ G1.out rfl (by omega) (by omega)⟩
    · have e : ownOut sp = outAt sp (pairs sp).length := by unfold ownOut; rw [hf]
      rw [e]; exact h.out
    · have e : ownOne sp = true := by unfold ownOne; rw [hf]; rfl
      rw [e]; exact h.one
  refine range_plain 5 (gf := 42) (lb := #[.pointer (some ⟨H + 1 + 1 + 1 + 1, 0, none⟩)]) rfl (enters_of Try.func42 (by kernel_rfl) rfl) (fun (s : Nat × World) => #[.int .i64 (qs sp s.1).1, .int .i64 (qs sp s.1).2]) (fun _ => rfl)
    (fun s W => s.1 < max (pairs sp).length 1 ∧ St sp H (H + 1 + 1) (H + 1 + 1 + 1) w V0 s.1 W ∧ Keeps2 (H + 1 + 1) (H + 1 + 1 + 1) s.2 W) (fun s W => St sp H (H + 1 + 1) (H + 1 + 1 + 1) w V0 (s.1 + 1) W ∧ Keeps2 (H + 1 + 1) (H + 1 + 1 + 1) s.2 W) (fun W => Fin sp H w W)
    (fun c W => c = .exit 0 ∧ Fin sp H w W) H (by omega)
    (fun _ _ _ h q => ⟨h.1, h.2.1.quiet q, h.2.2.quiet q⟩) (fun _ _ _ h q => ⟨h.1.quiet q, h.2.quiet q⟩) (fun _ _ h q => ⟨h.below.trans q.below, q.block h.out, q.block h.one, q.block h.res⟩) (fun _ _ _ h q => ⟨h.1, h.2.below.trans q.below, q.block h.2.out, q.block h.2.one, q.block h.2.res⟩)
    (0, V0) ⟨by show 0 < _; omega, st0, Keeps2.refl _ _ _⟩ ?iter ?body ?done ?stop
  case iter =>
    intro lp W Fr Fx hFr hj hf hY
    refine (c42 5 Q _ A c sp H (H + 1 + 1) (H + 1 + 1 + 1) (H + 1 + 1 + 1 + 1) hQ HS.out hl (by omega) (by omega) (by omega) w V0 lp W Fr Fx hFr hj.2.1 hf HC.out HH.out (hj.2.1.kept _ _ G4.out rfl (by omega) (by omega)) (fun j W1 hlt h1 h2 => hY (j, W1) W1 ⟨hlt, h1, Keeps2.refl _ _ _⟩ h2)).mono ?_
    rintro e W' ⟨hv, h | h⟩
    · exact ⟨hv, .inl ⟨hex _ _ rfl h.1, h.2⟩⟩
    · exact ⟨hv, .inr h⟩
  case body =>
    rintro lp ⟨j, V⟩ W ⟨hj, hst, hkp⟩
    gi_wp2
    refine ⟨KeepsOthers.refl _, Below.refl _ _, fun W2 q => ?_⟩
    have hst2 := hst.quiet q
    have hkp2 := hkp.quiet q
    clear hst hkp q
    have hr := qs_range sp Q hQ HS.out hl j
    have hcell := hst2.cell (qs sp j).1 hr.1 hr.2.1
    have hfz := hst2.free (qs sp j).1.toNat
    have hnx := fun hn => hst2.next (j := j) hn (by omega) (by omega)
    have hk1 := hkp2.set1 (i := (qs sp j).1.toNat) (.int .i64 ((qs sp j).2 + 1))
    have hone := hst2.one
    have hhit : hits sp j = decide (rd (outAt sp j) (qs sp j).1 > 0) := rfl
    obtain ⟨q0, hq0⟩ : ∃ q0, (qs sp j).1 = q0 := ⟨_, rfl⟩
    obtain ⟨cl, hcl⟩ : ∃ cl, (qs sp j).2 = cl := ⟨_, rfl⟩
    obtain ⟨v, hv⟩ : ∃ v, rd (outAt sp j) q0 = v := ⟨_, rfl⟩
    rw [hq0] at hr hcell hfz hnx hk1 hhit
    rw [hcl] at hr hnx hk1
    rw [hv] at hcell hhit
    obtain ⟨r0, r1, r2, r3⟩ := hr
    have HJ := Aside0.mk hj
    have HT := Aside0.mk hst2
    have HN := Aside0.mk hnx
    have HK := Aside0.mk hk1
    have HO := Aside0.mk hone
    have HHit := Aside0.mk hhit
    rw [hq0, hcl]
    clear hj hst2 hkp2 hnx hk1 hone hhit hq0 hcl hv
    have hw : wrap64 (cl + 1) = cl + 1 := by unfold wrap64; omega
    have c1 := HO.out.cell
    have f1 := HO.out.frozen
    by_cases hv : v > 0
    · have hb : decide (0 < v) = true := decide_eq_true hv
      have hh : hits sp j = true := by rw [HHit.out]; exact hb
      have hlt : j < (pairs sp).length := by
        rcases Nat.eq_zero_or_pos j with e | e
        · subst e; rw [hits_zero] at hh; cases hh
        · have := HJ.out; show j < _; omega
      have hf := firstHit_some sp j hlt hh HT.out.none_
      have HFin := Aside0.mk (show Fin sp H w (W2.setCell ⟨H + 1 + 1 + 1, 0, none⟩ (.bool false)) from by
        refine ⟨HT.out.below.setCell (p := ⟨H + 1 + 1 + 1, 0, none⟩) (by show H ≤ H + 1 + 1 + 1; omega) _, ?_, ?_, ?_⟩
        · have e : ownOut sp = outAt sp j := by unfold ownOut; rw [hf]
          rw [e]
          exact (Below.heap_setCell _ _ _ _ (by show H + 1 + 1 ≠ H + 1 + 1 + 1; omega)).trans HT.out.out
        · have e : ownOne sp = false := by unfold ownOne; rw [hf]; rfl
          rw [e]
          exact HT.out.one.set _
        · exact (Below.heap_setCell _ _ _ _ (by show H + 1 ≠ H + 1 + 1 + 1; omega)).trans (HT.out.kept _ _ G1.out rfl (by omega) (by omega)))
      clear hh hlt hf hw
      gi_wp2
      exact ⟨KeepsOthers.setCell _ _ _, rfl, HFin.out⟩
    · have hb : decide (0 < v) = false := decide_eq_false hv
      have hh : hits sp j = false := by rw [HHit.out]; exact hb
      have hn := HN.out hh
      have HH2 := Aside0.mk hn
      have hv' : v ≤ 0 := by omega
      clear hh hn hv
      gi_wp2
      exact ⟨KeepsOthers.setCell _ _ _, HH2.out, HK.out⟩
  case done =>
    intro D W h hD hK
    have c1 := h.one.cell
    have HF := Aside0.mk h
    have HK := Aside0.mk hK
    have HD := Aside0.mk hD
    clear h hK hD
    go_wp2
    have hra : W.drew.rangeAt (H + 1 + 1) 0 (nums .i64 (ownOut sp)) := range64 (W := W.drew) HF.out.out
    have c1' : W.drew.cell? ⟨H + 1 + 1 + 1, 0, none⟩ = some (.bool (ownOne sp)) := c1
    refine wp_region_noPanic ?_
    refine start_ (n := 4) (S := fun w' => w'.rangeAt (H + 1 + 1) 0 (nums .i64 (ownOut sp)) ∧ w'.cell? ⟨H + 1 + 1 + 1, 0, none⟩ = some (.bool (ownOne sp))) (ds := []) #[false, false, false, false] (by kernel_rfl) rfl rfl ⟨hra, c1'⟩ (fun hHeld => ?_)
    refine take_ (i := 0) (N := some 20) (v := .agg (nums .i64 (ownOut sp)).toArray) (a' := ?_) #[true, false, false, false] rfl rfl (by kernel_rfl) (fun _ _ _ h => h) (yieldsIf_load_mid (by rfl) 46 (.tmp 4) rfl (H + 1 + 1) 0 rfl (nums .i64 (ownOut sp)) _ (fun w' hs => hs.1) Try.underlying46 rfl (by rw [info46, nums_length, ownOut_length])) hHeld ?_ ?_
    rotate_left
    · simp only [Act.put, List.setIfInBounds_toArray, List.set_cons_zero, List.set_cons_succ]
      rfl
    refine take_ (i := 1) (N := some 21) (v := ?_) (a' := ?_) #[true, true, false, false] rfl rfl (by kernel_rfl) (fun _ _ _ h => h) (Or.inl ⟨by rfl, ?_⟩) hHeld ?_ ?_
    rotate_left
    · intro w' hs_
      have hs2 := hs_.2
      clear hs_
      go_simp
      with_reducible rfl
    rotate_left
    · simp only [Act.put, List.setIfInBounds_toArray, List.set_cons_zero, List.set_cons_succ]
      rfl
    refine one_ (i := 2) (N := none) #[true, true, true, false] rfl rfl (by kernel_rfl) (by decide) (fun K hK => ?_)
    rw [if_pos (by rfl)]
    refine wp_store_row 46 (.tmp 2) (.tmp 20) rfl (H + 1) 46 (nums .i64 (outAt sp 0)).toArray _ rfl rfl HF.out.res (by rw [List.size_toArray, List.size_toArray, nums_length, nums_length, ownOut_length, outAt_length]) (by rw [info46, List.size_toArray, nums_length, ownOut_length]) (by simp [nums, Value.oneCell']) ?_
    have ho5 : (W.drew.setRow (H + 1) (nums .i64 (ownOut sp)).toArray).heap[H + 1 + 1]? = some (.cells (nums .i64 (ownOut sp)).toArray 46 (0, 0)) := (setRow_other W.drew (H + 1) (H + 1 + 1) _ (by omega)).trans HF.out.out
    have hb5 : Boxed (W.drew.setRow (H + 1) (nums .i64 (ownOut sp)).toArray) (H + 1 + 1 + 1) 4 (.bool (ownOne sp)) := (setRow_other W.drew (H + 1) (H + 1 + 1 + 1) _ (by omega)).trans HF.out.one
    have hS2 : (W.drew.setRow (H + 1) (nums .i64 (ownOut sp)).toArray).rangeAt (H + 1 + 1) 0 (nums .i64 (ownOut sp)) ∧ (W.drew.setRow (H + 1) (nums .i64 (ownOut sp)).toArray).cell? ⟨H + 1 + 1 + 1, 0, none⟩ = some (.bool (ownOne sp)) := ⟨range64 ho5, hb5.cell⟩
    refine hK.out _ _ hS2 (fun hHeld2 => ?_)
    clear hK K
    refine one_ (i := 3) (N := some 3) #[true, true, true, true] rfl rfl (by kernel_rfl) (by decide) (fun K hK => ?_)
    refine value_ (v := .bool (ownOne sp)) (w1 := W.drew.setRow (H + 1) (nums .i64 (ownOut sp)).toArray) (by rfl) rfl (by go_simp) ?_
    refine hK.out _ _ hS2 (fun hHeld3 => ?_)
    clear hK K hHeld2 hHeld3
    refine done_ (by kernel_rfl) ?_
    have hB5 : Below H w (W.drew.setRow (H + 1) (nums .i64 (ownOut sp)).toArray) := (HF.out.below.drew).trans (below_setRow (by omega) _ _)
    have hk5 : (W.drew.setRow (H + 1) (nums .i64 (ownOut sp)).toArray).heap[D]? = some (.deferred (some [])) := by
      refine (setRow_other W.drew (H + 1) D _ (fun e => ?_)).trans HK.out
      have h1 := HF.out.res
      rw [← e] at h1
      have h2 := HK.out
      rw [h1] at h2
      cases h2
    have hr5 : (W.drew.setRow (H + 1) (nums .i64 (ownOut sp)).toArray).heap[H + 1]? = some (.cells (nums .i64 (ownOut sp)).toArray 46 (0, 0)) := setRow_heap W.drew (H + 1) _ _ 46 (0, 0) HF.out.res
    generalize W.drew.setRow (H + 1) (nums .i64 (ownOut sp)).toArray = W5 at hB5 hk5 hr5 ⊢
    clear hS2 hra c1' hHeld
    refine noPanic_mk ?_
    simp only [Act.put, List.getElem_toArray, List.getElem_cons_succ, List.getElem_cons_zero, List.setIfInBounds_toArray, List.set_cons_zero, List.set_cons_succ]
    have HK5 := Aside0.mk hk5
    have HR5 := Aside0.mk hr5
    clear hk5 hr5
    go_wp2
    rw [Exit.noGoto_ret]
    refine leaves_one (n0 := H) HD.out HK5.out (v := .tuple #[.agg (nums .i64 (ownOut sp)).toArray, .bool (ownOne sp)]) fun W' q => ⟨?_, rfl, ?_⟩
    · exact results_list (rs := [.cell 2 46, .tmp 3]) Try.results30 (by simp) (.cell (H + 1) 46 _ (0, 0) _ rfl (q.block HR5.out) Try.underlying46 rfl (by rw [info46, List.size_toArray, nums_length, ownOut_length]) (.tmp .nil))
    · rw [HH.out]
      exact hB5.trans q.below
  case stop =>
    rintro D cc W ⟨rfl, h⟩ hD hK
    have c1 := h.one.cell
    have HF := Aside0.mk h
    have HK := Aside0.mk hK
    have HD := Aside0.mk hD
    clear h hK hD
    go_wp2
    have hra : W.drew.rangeAt (H + 1 + 1) 0 (nums .i64 (ownOut sp)) := range64 (W := W.drew) HF.out.out
    have c1' : W.drew.cell? ⟨H + 1 + 1 + 1, 0, none⟩ = some (.bool (ownOne sp)) := c1
    refine wp_region_noPanic ?_
    refine start_ (n := 4) (S := fun w' => w'.rangeAt (H + 1 + 1) 0 (nums .i64 (ownOut sp)) ∧ w'.cell? ⟨H + 1 + 1 + 1, 0, none⟩ = some (.bool (ownOne sp))) (ds := []) #[false, false, false, false] (by kernel_rfl) rfl rfl ⟨hra, c1'⟩ (fun hHeld => ?_)
    refine take_ (i := 0) (N := some 20) (v := .agg (nums .i64 (ownOut sp)).toArray) (a' := ?_) #[true, false, false, false] rfl rfl (by kernel_rfl) (fun _ _ _ h => h) (yieldsIf_load_mid (by rfl) 46 (.tmp 4) rfl (H + 1 + 1) 0 rfl (nums .i64 (ownOut sp)) _ (fun w' hs => hs.1) Try.underlying46 rfl (by rw [info46, nums_length, ownOut_length])) hHeld ?_ ?_
    rotate_left
    · simp only [Act.put, List.setIfInBounds_toArray, List.set_cons_zero, List.set_cons_succ]
      rfl
    refine take_ (i := 1) (N := some 21) (v := ?_) (a' := ?_) #[true, true, false, false] rfl rfl (by kernel_rfl) (fun _ _ _ h => h) (Or.inl ⟨by rfl, ?_⟩) hHeld ?_ ?_
    rotate_left
    · intro w' hs_
      have hs2 := hs_.2
      clear hs_
      go_simp
      with_reducible rfl
    rotate_left
    · simp only [Act.put, List.setIfInBounds_toArray, List.set_cons_zero, List.set_cons_succ]
      rfl
    refine one_ (i := 2) (N := none) #[true, true, true, false] rfl rfl (by kernel_rfl) (by decide) (fun K hK => ?_)
    rw [if_pos (by rfl)]
    refine wp_store_row 46 (.tmp 2) (.tmp 20) rfl (H + 1) 46 (nums .i64 (outAt sp 0)).toArray _ rfl rfl HF.out.res (by rw [List.size_toArray, List.size_toArray, nums_length, nums_length, ownOut_length, outAt_length]) (by rw [info46, List.size_toArray, nums_length, ownOut_length]) (by simp [nums, Value.oneCell']) ?_
    have ho5 : (W.drew.setRow (H + 1) (nums .i64 (ownOut sp)).toArray).heap[H + 1 + 1]? = some (.cells (nums .i64 (ownOut sp)).toArray 46 (0, 0)) := (setRow_other W.drew (H + 1) (H + 1 + 1) _ (by omega)).trans HF.out.out
    have hb5 : Boxed (W.drew.setRow (H + 1) (nums .i64 (ownOut sp)).toArray) (H + 1 + 1 + 1) 4 (.bool (ownOne sp)) := (setRow_other W.drew (H + 1) (H + 1 + 1 + 1) _ (by omega)).trans HF.out.one
    have hS2 : (W.drew.setRow (H + 1) (nums .i64 (ownOut sp)).toArray).rangeAt (H + 1 + 1) 0 (nums .i64 (ownOut sp)) ∧ (W.drew.setRow (H + 1) (nums .i64 (ownOut sp)).toArray).cell? ⟨H + 1 + 1 + 1, 0, none⟩ = some (.bool (ownOne sp)) := ⟨range64 ho5, hb5.cell⟩
    refine hK.out _ _ hS2 (fun hHeld2 => ?_)
    clear hK K
    refine one_ (i := 3) (N := some 3) #[true, true, true, true] rfl rfl (by kernel_rfl) (by decide) (fun K hK => ?_)
    refine value_ (v := .bool (ownOne sp)) (w1 := W.drew.setRow (H + 1) (nums .i64 (ownOut sp)).toArray) (by rfl) rfl (by go_simp) ?_
    refine hK.out _ _ hS2 (fun hHeld3 => ?_)
    clear hK K hHeld2 hHeld3
    refine done_ (by kernel_rfl) ?_
    have hB5 : Below H w (W.drew.setRow (H + 1) (nums .i64 (ownOut sp)).toArray) := (HF.out.below.drew).trans (below_setRow (by omega) _ _)
    have hk5 : (W.drew.setRow (H + 1) (nums .i64 (ownOut sp)).toArray).heap[D]? = some (.deferred (some [])) := by
      refine (setRow_other W.drew (H + 1) D _ (fun e => ?_)).trans HK.out
      have h1 := HF.out.res
      rw [← e] at h1
      have h2 := HK.out
      rw [h1] at h2
      cases h2
    have hr5 : (W.drew.setRow (H + 1) (nums .i64 (ownOut sp)).toArray).heap[H + 1]? = some (.cells (nums .i64 (ownOut sp)).toArray 46 (0, 0)) := setRow_heap W.drew (H + 1) _ _ 46 (0, 0) HF.out.res
    generalize W.drew.setRow (H + 1) (nums .i64 (ownOut sp)).toArray = W5 at hB5 hk5 hr5 ⊢
    clear hS2 hra c1' hHeld
    refine noPanic_mk ?_
    simp only [Act.put, List.getElem_toArray, List.getElem_cons_succ, List.getElem_cons_zero, List.setIfInBounds_toArray, List.set_cons_zero, List.set_cons_succ]
    have HK5 := Aside0.mk hk5
    have HR5 := Aside0.mk hr5
    clear hk5 hr5
    go_wp2
    rw [Exit.noGoto_ret]
    refine leaves_one (n0 := H) HD.out HK5.out (v := .tuple #[.agg (nums .i64 (ownOut sp)).toArray, .bool (ownOne sp)]) fun W' q => ⟨?_, rfl, ?_⟩
    · exact results_list (rs := [.cell 2 46, .tmp 3]) Try.results30 (by simp) (.cell (H + 1) 46 _ (0, 0) _ rfl (q.block HR5.out) Try.underlying46 rfl (by rw [info46, List.size_toArray, nums_length, ownOut_length]) (.tmp .nil))
    · rw [HH.out]
      exact hB5.trans q.below
end Go.Proofs.Ytafmgnojlnkmjaa.H
