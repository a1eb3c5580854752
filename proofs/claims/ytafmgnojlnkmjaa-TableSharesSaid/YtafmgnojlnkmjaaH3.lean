/- Whether a table is right; who has a queue; which queues are idle: the walks of Right, Owner and Idle. -/
import Derived.Test.YtafmgnojlnkmjaaH2
namespace Go.Proofs.Ytafmgnojlnkmjaa.H
open Go.RowKit Go.Shelf Go.Rg Go.Proofs.YtafmgnojlnkmjaaW.PrintWords Go.Proofs.YtafmgnojlnkmjaaW.PrintLast Go.Proofs.YtafmgnojlnkmjaaW.PrintMore
open Go.Proofs.Ytafmgnojlnkmjaa.QL
set_option linter.unusedVariables false
set_option linter.unusedSimpArgs false

def guardB (Q : Int) (cls : List Int) (sp : List S32) : Bool := decide (1 ≤ Q ∧ Q ≤ 64 ∧ 1 ≤ sp.length ∧ sp.length ≤ 16 ∧ cls.length = 16)
def rightB (Q : Int) (cls : List Int) (sp : List S32) : Bool := guardB Q cls sp && (sp.all (okS Q) && (cls.all (okC sp.length) && ownOne sp))

theorem boxAlloc (w : World) (vs : Array Value) (t : TypeId) (o : Obj) : ((w.alloc (.cells vs t)).alloc o).heap[w.heap.size]? = some (.cells vs t (0, 0)) :=
  (Below.heap_alloc _ o _ (by simp)).trans (World.alloc_heap_new w _)

set_option maxHeartbeats 4000000 in
theorem c22_no (Q : Int) (A1 : Option Addr) (c1 : Nat) (cls : List Int) (A : Option Addr) (c : Nat) (sp : List S32) (w : World) (h : guardB Q cls sp = false) :
    Calls Try.prog 22 #[.agg #[.int .i64 Q, .slice A1 cls.length c1, .slice A sp.length c]] w (AnsB w false) := by
  have hg : ¬ (1 ≤ Q ∧ Q ≤ 64 ∧ 1 ≤ sp.length ∧ sp.length ≤ 16 ∧ cls.length = 16) := of_decide_eq_false h
  clear h
  have hB : Below w.heap.size w ((w.alloc (.cells #[.int .i64 Q, .slice A1 cls.length c1, .slice A sp.length c] 25)).alloc (.cells #[.int .i64 sp.length] 3)) := ((Below.refl _ w).alloc (Nat.le_refl _) _).alloc (by simp) _
  have HB := Aside0.mk hB
  clear hB
  obtain ⟨n, hn⟩ : ∃ n, sp.length = n := ⟨_, rfl⟩
  obtain ⟨m, hm⟩ : ∃ m, cls.length = m := ⟨_, rfl⟩
  rw [hn] at hg HB ⊢
  rw [hm] at hg HB ⊢
  clear hn hm
  by_cases h1 : Q < 1
  · have h1b : decide (Q < 1) = true := decide_eq_true h1
    clear hg
    go_enter Try.func22, Try.ntmps22
    go_wp2
    go_ret
    exact ⟨rfl, HB.out⟩
  have h1b : decide (Q < 1) = false := decide_eq_false h1
  by_cases h2 : 64 < Q
  · have h2b : decide (64 < Q) = true := decide_eq_true h2
    clear hg h1
    go_enter Try.func22, Try.ntmps22
    go_wp2
    go_ret
    exact ⟨rfl, HB.out⟩
  have h2b : decide (64 < Q) = false := decide_eq_false h2
  by_cases h3 : n = 0
  · subst h3
    clear hg h1 h2
    go_enter Try.func22, Try.ntmps22
    go_wp2
    go_ret
    exact ⟨rfl, HB.out⟩
  have h3b : ((n : Int) == 0) = false := by rw [beq_eq_false_iff_ne]; omega
  by_cases h4 : 16 < n
  · have h4b : decide ((16 : Int) < (n : Int)) = true := decide_eq_true (by omega)
    clear hg h1 h2
    go_enter Try.func22, Try.ntmps22
    go_wp2
    go_ret
    exact ⟨rfl, HB.out⟩
  have h4b : decide ((16 : Int) < (n : Int)) = false := decide_eq_false (by omega)
  have h5b : ((m : Int) != 16) = true := by rw [bne_iff_ne]; omega
  clear hg h1 h2 h3 h4
  go_enter Try.func22, Try.ntmps22
  go_wp2
  go_ret
  exact ⟨rfl, HB.out⟩

theorem cells3 {W : World} {b : Nat} {v0 v1 v2 : Value} {t : TypeId} {f : Nat × Nat} (h : W.heap[b]? = some (.cells #[v0, v1, v2] t f)) : W.cell? ⟨b, 0, none⟩ = some v0 ∧ W.cell? ⟨b, 1, none⟩ = some v1 ∧ W.cell? ⟨b, 2, none⟩ = some v2 := by
  refine ⟨?_, ?_, ?_⟩ <;> simp [World.cell?, h]
theorem cells1 {W : World} {b : Nat} {v0 : Value} {t : TypeId} {f : Nat × Nat} (h : W.heap[b]? = some (.cells #[v0] t f)) : W.cell? ⟨b, 0, none⟩ = some v0 := by simp [World.cell?, h]
/-- What is handed back as sixty-four numbers goes into a variable of its own. -/
theorem wpList_out {ops : Array Oper} {rest : List Oper} {o : Oper} {a : Act} {Q : Exit → Act → World → Prop} {w3 : World} {zs : Array Value} (l : List Int) (hgd : o.guard = none) (x y : Operand) (ho : o.op = .store 46 x y) (hx : a.eval x = .pointer (some ⟨w3.heap.size, 0, none⟩)) (hy : a.eval y = .agg (nums .i64 l).toArray) (hl : l.length = 64) (hz : zs.size = 64)
    (h : ∀ w4, Below w3.heap.size w3 w4 → w4.heap[w3.heap.size]? = some (.cells (nums .i64 l).toArray 46 (0, 0)) → wpList Try.prog ops Q rest (a.put o.dst undef) w4) : wpList Try.prog ops Q (o :: rest) a (w3.alloc (.cells zs 46)) := by
  refine wpList_plain hgd fun K hK => wp_store_row 46 x y ho w3.heap.size 46 zs (nums .i64 l).toArray hx hy (World.alloc_heap_new w3 _) ?_ ?_ ?_ (hK _ _ (h _ ?_ ?_))
  · rw [hz, List.size_toArray, nums_length, hl]
  · rw [info46, List.size_toArray, nums_length, hl]
  · simp [nums, Value.oneCell']
  · exact ((Below.refl _ w3).alloc (Nat.le_refl _) _).trans (below_setRow (Nat.le_refl _) _ _)
  · exact setRow_heap _ _ _ _ 46 (0, 0) (World.alloc_heap_new w3 _)

/-- The two boxes of the call, and what lay there. -/
structure Two (H : Nat) (v t : Array Value) (w W : World) : Prop where
  below : Below H w W
  size : H + 2 ≤ W.heap.size
  one : W.heap[H]? = some (.cells v 25 (0, 0))
  two : W.heap[H + 1]? = some (.cells t 3 (0, 0))
theorem Two.on {H : Nat} {v t : Array Value} {w W W' : World} (h : Two H v t w W) (hb : Below W.heap.size W W') : Two H v t w W' :=
  ⟨h.below.trans (hb.mono (by have := h.size; omega)), Nat.le_trans h.size hb.size, (hb.block _ (by have := h.size; omega)).trans h.one, (hb.block _ (by have := h.size; omega)).trans h.two⟩

set_option maxHeartbeats 4000000 in
theorem c22_yes (Q : Int) (A1 : Option Addr) (c1 : Nat) (cls : List Int) (A : Option Addr) (c : Nat) (sp : List S32) (w : World) (h : guardB Q cls sp = true) (hC1 : Kd.C (Kd.int .i64) w A1 cls.length cls) (hC : Kd.C k32 w A sp.length sp) :
    Calls Try.prog 22 #[.agg #[.int .i64 Q, .slice A1 cls.length c1, .slice A sp.length c]] w (AnsB w (sp.all (okS Q) && (cls.all (okC sp.length) && ownOne sp))) := by
  have hg : 1 ≤ Q ∧ Q ≤ 64 ∧ 1 ≤ sp.length ∧ sp.length ≤ 16 ∧ cls.length = 16 := of_decide_eq_true h
  clear h
  obtain ⟨g1, g2, g3, g4, g5⟩ := hg
  have h1b : decide (Q < 1) = false := decide_eq_false (by omega)
  have h2b : decide (64 < Q) = false := decide_eq_false (by omega)
  have h3b : ((sp.length : Int) == 0) = false := by rw [beq_eq_false_iff_ne]; omega
  have h4b : decide ((16 : Int) < (sp.length : Int)) = false := decide_eq_false (by omega)
  have h5b : ((cls.length : Int) != 16) = false := by rw [bne_eq_false_iff_eq]; omega
  have e32 := enters_of Try.func32 (by kernel_rfl) rfl
  have e35 := enters_of Try.func35 (by kernel_rfl) rfl
  obtain ⟨W0, hW0⟩ : ∃ W0, (w.alloc (.cells #[.int .i64 Q, .slice A1 cls.length c1, .slice A sp.length c] 25)).alloc (.cells #[.int .i64 sp.length] 3) = W0 := ⟨_, rfl⟩
  obtain ⟨H, hH⟩ : ∃ H, w.heap.size = H := ⟨_, rfl⟩
  have ht : Two H #[.int .i64 Q, .slice A1 cls.length c1, .slice A sp.length c] #[.int .i64 sp.length] w W0 := by
    rw [← hW0, ← hH]
    refine ⟨((Below.refl _ w).alloc (Nat.le_refl _) _).alloc (by simp) _, by simp, boxAlloc _ _ _ _, ?_⟩
    have := World.alloc_heap_new (w.alloc (.cells #[.int .i64 Q, .slice A1 cls.length c1, .slice A sp.length c] 25)) (.cells #[.int .i64 sp.length] 3)
    rwa [World.size_alloc] at this
  have HW0 := Aside0.mk hW0
  have HH := Aside0.mk hH
  have HT := Aside0.mk ht
  have HC := Aside0.mk hC
  have HC1 := Aside0.mk hC1
  have G5 := Aside0.mk g5
  clear hW0 hH ht hC hC1 g5
  have kC : ∀ W, Two H #[.int .i64 Q, .slice A1 cls.length c1, .slice A sp.length c] #[.int .i64 sp.length] w W → Kd.C k32 W A sp.length sp := fun W h => Kd.C_below HC.out (by rw [HH.out]; exact h.below)
  have kC1 : ∀ W, Two H #[.int .i64 Q, .slice A1 cls.length c1, .slice A sp.length c] #[.int .i64 sp.length] w W → Kd.C (Kd.int .i64) W A1 cls.length cls := fun W h => Kd.C_below HC1.out (by rw [HH.out]; exact h.below)
  have KC := Aside0.mk kC
  have KC1 := Aside0.mk kC1
  clear kC kC1 HC HC1
  go_enter Try.func22, Try.ntmps22
  cases ha : sp.all (okS Q) with
  | false =>
    have HA := Aside0.mk ha
    clear ha
    go_wp2_with (rw [HW0.out]; rw [HH.out]; go_at_call 33; refine (c33 32 #[.pointer (some ⟨H, 0, none⟩)] (okS Q) e32 A c sp _ (KC.out _ HT.out) (c32 Q g2 H _ (cells3 HT.out.one).1 (by have := HT.out.size; omega)) (by omega)).mono ?_; rw [HA.out]; rintro e w1 ⟨rfl, hb⟩; have HT1 := Aside0.mk (HT.out.on hb); clear hb)
    go_ret
    exact ⟨rfl, by rw [HH.out]; exact HT1.out.below⟩
  | true =>
    have hs : ∀ s ∈ sp, okS Q s = true := by simpa using ha
    have HA := Aside0.mk ha
    have HS := Aside0.mk hs
    clear ha hs
    cases hc : cls.all (okC sp.length) with
    | false =>
      have HA2 := Aside0.mk hc
      clear hc
      go_wp2_with (first | (rw [HW0.out]; rw [HH.out]; go_at_call 33; refine (c33 32 #[.pointer (some ⟨H, 0, none⟩)] (okS Q) e32 A c sp _ (KC.out _ HT.out) (c32 Q g2 H _ (cells3 HT.out.one).1 (by have := HT.out.size; omega)) (by omega)).mono ?_; rw [HA.out]; rintro e w1 ⟨rfl, hb⟩; have HT1 := Aside0.mk (HT.out.on hb); clear hb; obtain ⟨k0, k1, k2⟩ := cells3 HT1.out.one; have k3 := cells1 HT1.out.two) | (go_at_call 34; refine (c34 35 #[.pointer (some ⟨H + 1, 0, none⟩)] (okC sp.length) e35 A1 c1 cls _ (KC1.out _ HT1.out) (c35 sp.length (H + 1) _ (cells1 HT1.out.two) (by have := HT1.out.size; omega)) (by rw [G5.out]; omega)).mono ?_; rw [HA2.out]; rintro e w2 ⟨rfl, hb⟩; have HT2 := Aside0.mk (HT1.out.on hb); clear hb))
      go_ret
      exact ⟨rfl, by rw [HH.out]; exact HT2.out.below⟩
    | true =>
      have HA2 := Aside0.mk hc
      clear hc
      go_wp2_with (first | (rw [HW0.out]; rw [HH.out]; go_at_call 33; refine (c33 32 #[.pointer (some ⟨H, 0, none⟩)] (okS Q) e32 A c sp _ (KC.out _ HT.out) (c32 Q g2 H _ (cells3 HT.out.one).1 (by have := HT.out.size; omega)) (by omega)).mono ?_; rw [HA.out]; rintro e w1 ⟨rfl, hb⟩; have HT1 := Aside0.mk (HT.out.on hb); clear hb; obtain ⟨k0, k1, k2⟩ := cells3 HT1.out.one; have k3 := cells1 HT1.out.two) | (go_at_call 34; refine (c34 35 #[.pointer (some ⟨H + 1, 0, none⟩)] (okC sp.length) e35 A1 c1 cls _ (KC1.out _ HT1.out) (c35 sp.length (H + 1) _ (cells1 HT1.out.two) (by have := HT1.out.size; omega)) (by rw [G5.out]; omega)).mono ?_; rw [HA2.out]; rintro e w2 ⟨rfl, hb⟩; have HT2 := Aside0.mk (HT1.out.on hb); clear hb; clear k0 k1 k2 k3; obtain ⟨k0, k1, k2⟩ := cells3 HT2.out.one) | (go_at_call 30; refine (c30 Q A1 cls.length c1 A c sp _ g2 HS.out (by omega) (KC.out _ HT2.out)).mono ?_; rintro e w3 ⟨rfl, hb⟩; have HT3 := Aside0.mk (HT2.out.on hb); clear hb) | (refine gate_ (.store 46 (.tmp 5) (.tmp 48)) rfl ?_; refine wpList_out (ownOut sp) rfl (.tmp 5) (.tmp 48) rfl rfl rfl (ownOut_length sp) rfl ?_; intro w4 hb4 _; have HT4 := Aside0.mk (HT3.out.on hb4); clear hb4))
      go_ret
      exact ⟨rfl, by rw [HH.out]; exact HT4.out.below⟩

theorem c22 (Q : Int) (A1 : Option Addr) (c1 : Nat) (cls : List Int) (A : Option Addr) (c : Nat) (sp : List S32) (w : World) (hC1 : Kd.C (Kd.int .i64) w A1 cls.length cls) (hC : Kd.C k32 w A sp.length sp) :
    Calls Try.prog 22 #[.agg #[.int .i64 Q, .slice A1 cls.length c1, .slice A sp.length c]] w (AnsB w (rightB Q cls sp)) := by
  unfold rightB
  cases h : guardB Q cls sp with
  | false => exact c22_no Q A1 c1 cls A c sp w h
  | true => exact c22_yes Q A1 c1 cls A c sp w h hC1 hC

theorem right_parts {Q : Int} {cls : List Int} {sp : List S32} (h : rightB Q cls sp = true) : 1 ≤ Q ∧ Q ≤ 64 ∧ 1 ≤ sp.length ∧ sp.length ≤ 16 ∧ cls.length = 16 ∧ (∀ s ∈ sp, okS Q s = true) ∧ (∀ x ∈ cls, okC sp.length x = true) ∧ ownOne sp = true := by
  unfold rightB guardB at h
  simp only [Bool.and_eq_true, decide_eq_true_eq, List.all_eq_true] at h
  obtain ⟨⟨h1, h2, h3, h4, h5⟩, h6, h7, h8⟩ := h
  exact ⟨h1, h2, h3, h4, h5, h6, h7, h8⟩
def AnsP (x y : Int) (w : World) (e : Ending) (w' : World) : Prop := e = .returned (.tuple #[.int .i64 x, .int .i64 y]) ∧ Below w.heap.size w w'

set_option maxHeartbeats 4000000 in
theorem c17_no (Q : Int) (A1 : Option Addr) (c1 : Nat) (cls : List Int) (A : Option Addr) (c : Nat) (sp : List S32) (q : Int) (w : World) (hC1 : Kd.C (Kd.int .i64) w A1 cls.length cls) (hC : Kd.C k32 w A sp.length sp) (h : rightB Q cls sp = false) :
    Calls Try.prog 17 #[.agg #[.int .i64 Q, .slice A1 cls.length c1, .slice A sp.length c], .int .i64 q] w (AnsP 0 80 w) := by
  have hB : Below w.heap.size w (w.alloc (.cells #[.int .i64 Q, .slice A1 cls.length c1, .slice A sp.length c] 25)) := (Below.refl _ w).alloc (Nat.le_refl _) _
  have HC := Aside0.mk (Kd.C_below hC hB)
  have HC1 := Aside0.mk (Kd.C_below hC1 hB)
  have HB := Aside0.mk hB
  have HR := Aside0.mk h
  clear hC hC1 hB h
  go_enter Try.func17, Try.ntmps17
  go_wp2_with (go_at_call 22; refine (c22 Q A1 c1 cls A c sp _ HC1.out HC.out).mono ?_; rw [HR.out]; rintro e w1 ⟨rfl, hb⟩; have HB1 := Aside0.mk (HB.out.trans (hb.mono (by simp))); clear hb)
  go_ret2
  exact ⟨rfl, HB1.out⟩
set_option maxHeartbeats 4000000 in
theorem c17_arg (Q : Int) (A1 : Option Addr) (c1 : Nat) (cls : List Int) (A : Option Addr) (c : Nat) (sp : List S32) (q : Int) (w : World) (hC1 : Kd.C (Kd.int .i64) w A1 cls.length cls) (hC : Kd.C k32 w A sp.length sp) (h : rightB Q cls sp = true) (hq : ¬ (0 ≤ q ∧ q < Q)) :
    Calls Try.prog 17 #[.agg #[.int .i64 Q, .slice A1 cls.length c1, .slice A sp.length c], .int .i64 q] w (AnsP 0 2 w) := by
  have hB : Below w.heap.size w (w.alloc (.cells #[.int .i64 Q, .slice A1 cls.length c1, .slice A sp.length c] 25)) := (Below.refl _ w).alloc (Nat.le_refl _) _
  have HX := Aside0.mk (World.alloc_heap_new w (.cells #[.int .i64 Q, .slice A1 cls.length c1, .slice A sp.length c] 25))
  have HC := Aside0.mk (Kd.C_below hC hB)
  have HC1 := Aside0.mk (Kd.C_below hC1 hB)
  have HB := Aside0.mk hB
  have HR := Aside0.mk h
  clear hC hC1 hB h
  by_cases h0 : q < 0
  · have h0b : decide (q < 0) = true := decide_eq_true h0
    clear hq
    go_enter Try.func17, Try.ntmps17
    go_wp2_with (go_at_call 22; refine (c22 Q A1 c1 cls A c sp _ HC1.out HC.out).mono ?_; rw [HR.out]; rintro e w1 ⟨rfl, hb⟩; have HB1 := Aside0.mk (HB.out.trans (hb.mono (by simp))); clear hb)
    go_ret2
    exact ⟨rfl, HB1.out⟩
  · have h0b : decide (q < 0) = false := decide_eq_false h0
    have h1b : decide (Q ≤ q) = true := decide_eq_true (by omega)
    clear hq
    go_enter Try.func17, Try.ntmps17
    go_wp2_with (go_at_call 22; refine (c22 Q A1 c1 cls A c sp _ HC1.out HC.out).mono ?_; rw [HR.out]; rintro e w1 ⟨rfl, hb⟩; obtain ⟨k0, k1, k2⟩ := cells3 ((hb.block _ (by simp)).trans HX.out); have HB1 := Aside0.mk (HB.out.trans (hb.mono (by simp))); clear hb)
    go_ret2
    exact ⟨rfl, HB1.out⟩
set_option maxHeartbeats 4000000 in
theorem c17_yes (Q : Int) (A1 : Option Addr) (c1 : Nat) (cls : List Int) (A : Option Addr) (c : Nat) (sp : List S32) (q : Int) (w : World) (hC1 : Kd.C (Kd.int .i64) w A1 cls.length cls) (hC : Kd.C k32 w A sp.length sp) (h : rightB Q cls sp = true) (hq : 0 ≤ q ∧ q < Q) :
    Calls Try.prog 17 #[.agg #[.int .i64 Q, .slice A1 cls.length c1, .slice A sp.length c], .int .i64 q] w (AnsP (wrap64 (rd (ownOut sp) q - 1)) 0 w) := by
  obtain ⟨r1, r2, r3, r4, r5, r6, r7, r8⟩ := right_parts h
  have hB : Below w.heap.size w (w.alloc (.cells #[.int .i64 Q, .slice A1 cls.length c1, .slice A sp.length c] 25)) := (Below.refl _ w).alloc (Nat.le_refl _) _
  have HX := Aside0.mk (World.alloc_heap_new w (.cells #[.int .i64 Q, .slice A1 cls.length c1, .slice A sp.length c] 25))
  have HC := Aside0.mk (Kd.C_below hC hB)
  have HC1 := Aside0.mk (Kd.C_below hC1 hB)
  have HB := Aside0.mk hB
  have HR := Aside0.mk h
  have HS := Aside0.mk r6
  obtain ⟨q0, q1⟩ := hq
  have h0b : decide (q < 0) = false := decide_eq_false (by omega)
  have h1b : decide (Q ≤ q) = false := decide_eq_false (by omega)
  have hq64 : q < 64 := by omega
  have hget := nums_get (ownOut sp) q q0 (by rw [ownOut_length]; exact hq64)
  obtain ⟨v, hv⟩ : ∃ v, rd (ownOut sp) q = v := ⟨_, rfl⟩
  rw [hv] at hget ⊢
  have HG := Aside0.mk hget
  have H4 := Aside0.mk r4
  clear hC hC1 hB h r3 r4 r5 r6 r7 r8 hv hget
  go_enter Try.func17, Try.ntmps17
  go_wp2_with (first | (go_at_call 22; refine (c22 Q A1 c1 cls A c sp _ HC1.out HC.out).mono ?_; rw [HR.out]; rintro e w1 ⟨rfl, hb⟩; obtain ⟨k0, k1, k2⟩ := cells3 ((hb.block _ (by simp)).trans HX.out); have HB1 := Aside0.mk (HB.out.trans (hb.mono (by simp))); have HD1 := Aside0.mk (Kd.C_below HC.out hb); clear hb) | (go_at_call 30; refine (c30 Q A1 cls.length c1 A c sp _ r2 HS.out (by have := H4.out; omega) HD1.out).mono ?_; rintro e w3 ⟨rfl, hb⟩; have HB3 := Aside0.mk (HB1.out.trans (hb.mono HB1.out.size)); clear hb) | (refine gate_ (.store 46 (.tmp 6) (.tmp 24)) rfl ?_; refine wpList_out (ownOut sp) rfl (.tmp 6) (.tmp 24) rfl rfl rfl (ownOut_length sp) rfl ?_; intro w4 hb4 hc4; have hcell : w4.cell? ⟨w3.heap.size, q.toNat, none⟩ = some (.int .i64 v) := (by simp [World.cell?, hc4, HG.out]); have HB4 := Aside0.mk (HB3.out.trans (hb4.mono HB3.out.size)); clear hb4 hc4))
  go_ret2
  exact ⟨rfl, HB4.out⟩

/-- The queues below k that nobody has. -/
def idleTo (out : List Int) : Nat → List Int
  | 0 => []
  | k + 1 => if rd out (k : Int) = 0 then idleTo out k ++ [(k : Int)] else idleTo out k
theorem idleTo_length (out : List Int) : ∀ k, (idleTo out k).length ≤ k
  | 0 => by simp [idleTo]
  | k + 1 => by
    have := idleTo_length out k
    simp only [idleTo]
    split
    · rw [List.length_append, List.length_cons, List.length_nil]; omega
    · omega
def AnsI (l : List Int) (y : Int) (w : World) (e : Ending) (w' : World) : Prop := ∃ v0_ : Value, e = .returned (.tuple #[v0_, .int .i64 y]) ∧ Kd.R (Kd.int .i64) 3 w' w.heap.size (fun _ => True) v0_ l ∧ Below w.heap.size w w'
set_option maxHeartbeats 4000000 in
theorem c26_no (Q : Int) (A1 : Option Addr) (c1 : Nat) (cls : List Int) (A : Option Addr) (c : Nat) (sp : List S32) (w : World) (hC1 : Kd.C (Kd.int .i64) w A1 cls.length cls) (hC : Kd.C k32 w A sp.length sp) (h : rightB Q cls sp = false) :
    Calls Try.prog 26 #[.agg #[.int .i64 Q, .slice A1 cls.length c1, .slice A sp.length c]] w (AnsI [] 80 w) := by
  have hB : Below w.heap.size w (w.alloc (.cells #[.int .i64 Q, .slice A1 cls.length c1, .slice A sp.length c] 25)) := (Below.refl _ w).alloc (Nat.le_refl _) _
  have HC := Aside0.mk (Kd.C_below hC hB)
  have HC1 := Aside0.mk (Kd.C_below hC1 hB)
  have HB := Aside0.mk hB
  have HR := Aside0.mk h
  clear hC hC1 hB h
  go_enter Try.func26, Try.ntmps26
  go_wp2_with (go_at_call 22; refine (c22 Q A1 c1 cls A c sp _ HC1.out HC.out).mono ?_; rw [HR.out]; rintro e w1 ⟨rfl, hb⟩; have HB1 := Aside0.mk (HB.out.trans (hb.mono (by simp))); clear hb)
  go_ret2
  exact ⟨_, rfl, Kd.R_nil _ _ _ _ _, HB1.out⟩
set_option maxHeartbeats 4000000 in
theorem c26_yes (Q : Int) (A1 : Option Addr) (c1 : Nat) (cls : List Int) (A : Option Addr) (c : Nat) (sp : List S32) (w : World) (hC1 : Kd.C (Kd.int .i64) w A1 cls.length cls) (hC : Kd.C k32 w A sp.length sp) (h : rightB Q cls sp = true) :
    Calls Try.prog 26 #[.agg #[.int .i64 Q, .slice A1 cls.length c1, .slice A sp.length c]] w (AnsI (idleTo (ownOut sp) Q.toNat) 0 w) := by
  obtain ⟨r1, r2, r3, r4, r5, r6, r7, r8⟩ := right_parts h
  have hB : Below w.heap.size w (w.alloc (.cells #[.int .i64 Q, .slice A1 cls.length c1, .slice A sp.length c] 25)) := (Below.refl _ w).alloc (Nat.le_refl _) _
  have HX := Aside0.mk (World.alloc_heap_new w (.cells #[.int .i64 Q, .slice A1 cls.length c1, .slice A sp.length c] 25))
  have HC := Aside0.mk (Kd.C_below hC hB)
  have HC1 := Aside0.mk (Kd.C_below hC1 hB)
  have HB := Aside0.mk hB
  have HR := Aside0.mk h
  have HS := Aside0.mk r6
  have H4 := Aside0.mk r4
  clear hC hC1 hB h r3 r4 r5 r6 r7 r8
  go_enter Try.func26, Try.ntmps26
  go_wp2_with (first | (go_at_call 22; refine (c22 Q A1 c1 cls A c sp _ HC1.out HC.out).mono ?_; rw [HR.out]; rintro e w1 ⟨rfl, hb⟩; have HX1 := Aside0.mk ((hb.block _ (by simp)).trans HX.out); obtain ⟨k0, k1, k2⟩ := cells3 HX1.out; have HB1 := Aside0.mk (HB.out.trans (hb.mono (by simp))); have HD1 := Aside0.mk (Kd.C_below HC.out hb); have HZ1 := Aside0.mk (show w.heap.size < w1.heap.size from Nat.lt_of_lt_of_le (by simp) hb.size); clear hb) | (go_at_call 30; refine (c30 Q A1 cls.length c1 A c sp _ r2 HS.out (by have := H4.out; omega) HD1.out).mono ?_; rintro e w3 ⟨rfl, hb⟩; have HB3 := Aside0.mk (HB1.out.trans (hb.mono HB1.out.size)); have HX3 := Aside0.mk ((hb.block _ HZ1.out).trans HX1.out); have HZ3 := Aside0.mk (Nat.lt_of_lt_of_le HZ1.out hb.size); clear hb) | (refine gate_ (.store 46 (.tmp 5) (.tmp 14)) rfl ?_; refine wpList_out (ownOut sp) rfl (.tmp 5) (.tmp 14) rfl rfl rfl (ownOut_length sp) rfl ?_; intro w4 hb4 hc4; clear k0 k1 k2; obtain ⟨k0, k1, k2⟩ := cells3 ((hb4.block _ HZ3.out).trans HX3.out); have HL := Aside0.mk hc4; have HB4 := Aside0.mk (HB3.out.trans (hb4.mono HB3.out.size)); have HBL := Aside0.mk HB3.out.size; clear hb4 hc4))
  clear HX HC HC1 HB HR HS HD1 HB1 HX1 HX3 k0 k1 k2
  generalize w3.heap.size = bl at HL HBL ⊢
  go_loopg [4, 18] Q.toNat (fun kq v4 v18 wr => ∃ k : Nat, Aside0 (kq + k = Q.toNat) ∧ v18 = .int .i64 k ∧ Aside0 (Kd.R (Kd.int .i64) 3 wr w.heap.size (fun _ => True) v4 (idleTo (ownOut sp) k)) ∧ Aside0 (wr.heap[bl]? = some (.cells (nums .i64 (ownOut sp)).toArray 46 (0, 0))) ∧ Aside0 (Below w.heap.size w wr))
  case atStart => exact ⟨0, ⟨by omega⟩, rfl, ⟨Kd.R_nil _ _ _ _ _⟩, HL, HB4⟩
  case round =>
    clear HL HB4
    obtain ⟨k, ⟨hk⟩, rfl, ⟨hr⟩, ⟨hl⟩, ⟨hb⟩⟩ := hrel
    by_cases hlt : k < Q.toNat
    · have hlb : decide ((k : Int) < Q) = true := decide_eq_true (by omega)
      have hlz : (k : Int) < Q := by omega
      have hz : (0 : Int) ≤ (k : Int) := by omega
      have hq64 : (k : Int) < 64 := by omega
      obtain ⟨k1, rfl⟩ : ∃ k1, gk = k1 + 1 := ⟨gk - 1, by omega⟩
      have hget := nums_get (ownOut sp) (k : Int) hz (by rw [ownOut_length]; exact hq64)
      have hst : idleTo (ownOut sp) (k + 1) = if rd (ownOut sp) (k : Int) = 0 then idleTo (ownOut sp) k ++ [(k : Int)] else idleTo (ownOut sp) k := rfl
      have hll := idleTo_length (ownOut sp) k
      obtain ⟨v, hv⟩ : ∃ v, rd (ownOut sp) (k : Int) = v := ⟨_, rfl⟩
      rw [hv] at hget hst
      rw [Int.toNat_natCast] at hget
      have hcell : wr.cell? ⟨bl, k, none⟩ = some (.int .i64 v) := by simp [World.cell?, hl, hget]
      have HK := Aside0.mk hk
      have HO := Aside0.mk hr
      have HL := Aside0.mk hl
      have HB := Aside0.mk hb
      have HT := Aside0.mk hst
      have LM := Aside0.mk (show (idleTo (ownOut sp) k).length < 17592186044416 by omega)
      clear hk hr hl hb hst hll hget hv hlt
      by_cases hv0 : v = 0
      · have hvb : (v == 0) = true := beq_iff_eq.2 hv0
        have HT2 := Aside0.mk (show idleTo (ownOut sp) (k + 1) = idleTo (ownOut sp) k ++ [(k : Int)] by rw [HT.out, if_pos hv0])
        clear HT hv0
        go_wp2_with ((with_reducible refine gate_builtin (b := .append) (xs := #[.tmp 25, .tmp 27]) rfl ?_); at_builtin; refine Kd.R_append (Kd.int .i64) (w0 := w) w.heap.size rfl (.tmp 25) (.tmp 27) 22 3 (.int .i64 0) 8 rfl Try.underlying22 info3 rfl (by decide) (by omega) u4 (idleTo (ownOut sp) k) (k : Int) [.int .i64 (k : Int)] (fun _ => True) (fun _ => False) rfl rfl ?aP (fun _ hk => hk.elim) (fun _ _ => trivial) HO.out HB.out HB.out.size (by have := LM.out; omega) ?_; (case aP => exact rfl); intro v289 w13 ho hb hg hat; rw [← HT2.out] at ho; have HL2 := Aside0.mk (blk_grown (g := bl) (o := .cells (nums .i64 (ownOut sp)).toArray 46 (0, 0)) HL.out hg (Kd.R_ne HO.out HL.out (by decide))); have HB2 := Aside0.mk hb; have HO2 := Aside0.mk ho; clear ho hb hg hat)
        go_roundg k1
        case rel => exact ⟨k + 1, ⟨by have := HK.out; omega⟩, by go_num, HO2, HL2, HB2⟩
        case measure => omega
      · have hvb : (v == 0) = false := beq_eq_false_iff_ne.2 hv0
        have HT2 := Aside0.mk (show idleTo (ownOut sp) (k + 1) = idleTo (ownOut sp) k by rw [HT.out, if_neg hv0])
        clear HT hv0
        go_wp2
        go_roundg k1
        case rel => exact ⟨k + 1, ⟨by have := HK.out; omega⟩, by go_num, ⟨by rw [HT2.out]; exact HO.out⟩, HL, HB⟩
        case measure => omega
    · have hlb : decide ((k : Int) < Q) = false := decide_eq_false (by omega)
      have HO := Aside0.mk (show Kd.R (Kd.int .i64) 3 wr w.heap.size (fun _ => True) u4 (idleTo (ownOut sp) Q.toNat) by
        have e : k = Q.toNat := by omega
        rw [← e]; exact hr)
      have HB := Aside0.mk hb
      clear hk hr hl hb hlt
      go_wp2
      go_ret2
      exact ⟨_, rfl, HO.out, HB.out⟩

/-! The contracts in the printer's form. -/
def table_Right.f (a0_0 : Int) (l0_1 : List Int) (l0_2 : List S32) : Option Bool := some (rightB a0_0 l0_1 l0_2)
theorem table_Right.calls (a0_0 : Int) (A0_1 : Option Addr) (c0_1 : Nat) (l0_1 : List Int) (A0_2 : Option Addr) (c0_2 : Nat) (l0_2 : List (S32)) (r : Bool) (w : World) (hr0_1 : Kd.C (Kd.int .i64) w A0_1 l0_1.length l0_1) (hc0_1 : l0_1.length ≤ c0_1) (hr0_2 : Kd.C k32 w A0_2 l0_2.length l0_2) (hc0_2 : l0_2.length ≤ c0_2) (h : table_Right.f a0_0 l0_1 l0_2 = some r) :
    Calls Try.prog 22 #[.agg #[.int .i64 a0_0, .slice A0_1 l0_1.length c0_1, .slice A0_2 l0_2.length c0_2]] w fun e w' => e = .returned (.bool r) ∧ Below w.heap.size w w' := by
  obtain rfl := Option.some.inj h
  exact c22 a0_0 A0_1 c0_1 l0_1 A0_2 c0_2 l0_2 w hr0_1 hr0_2
def ownerP (Q : Int) (cls : List Int) (sp : List S32) (q : Int) : Int × Int := if rightB Q cls sp = true then (if 0 ≤ q ∧ q < Q then (wrap64 (rd (ownOut sp) q - 1), 0) else (0, 2)) else (0, 80)
def table_Owner.f (a0_0 : Int) (l0_1 : List Int) (l0_2 : List S32) (a1 : Int) : Option (Int × Int) := some (ownerP a0_0 l0_1 l0_2 a1)
theorem table_Owner.calls (a0_0 : Int) (A0_1 : Option Addr) (c0_1 : Nat) (l0_1 : List Int) (A0_2 : Option Addr) (c0_2 : Nat) (l0_2 : List (S32)) (a1 : Int) (r1 : Int) (r2 : Int) (w : World) (hr0_1 : Kd.C (Kd.int .i64) w A0_1 l0_1.length l0_1) (hc0_1 : l0_1.length ≤ c0_1) (hr0_2 : Kd.C k32 w A0_2 l0_2.length l0_2) (hc0_2 : l0_2.length ≤ c0_2) (h : table_Owner.f a0_0 l0_1 l0_2 a1 = some (r1, r2)) :
    Calls Try.prog 17 #[.agg #[.int .i64 a0_0, .slice A0_1 l0_1.length c0_1, .slice A0_2 l0_2.length c0_2], .int .i64 a1] w fun e w' => e = .returned (.tuple #[.int .i64 r1, .int .i64 r2]) ∧ Below w.heap.size w w' := by
  have h' : ownerP a0_0 l0_1 l0_2 a1 = (r1, r2) := Option.some.inj h
  unfold ownerP at h'
  cases hr : rightB a0_0 l0_1 l0_2 with
  | false =>
    rw [hr, if_neg (by decide)] at h'
    injection h' with h1 h2
    subst h1; subst h2
    exact c17_no a0_0 A0_1 c0_1 l0_1 A0_2 c0_2 l0_2 a1 w hr0_1 hr0_2 hr
  | true =>
    rw [hr, if_pos rfl] at h'
    by_cases hq : 0 ≤ a1 ∧ a1 < a0_0
    · rw [if_pos hq] at h'
      injection h' with h1 h2
      subst h1; subst h2
      exact c17_yes a0_0 A0_1 c0_1 l0_1 A0_2 c0_2 l0_2 a1 w hr0_1 hr0_2 hr hq
    · rw [if_neg hq] at h'
      injection h' with h1 h2
      subst h1; subst h2
      exact c17_arg a0_0 A0_1 c0_1 l0_1 A0_2 c0_2 l0_2 a1 w hr0_1 hr0_2 hr hq
def idleP (Q : Int) (cls : List Int) (sp : List S32) : List Int × Int := if rightB Q cls sp = true then (idleTo (ownOut sp) Q.toNat, 0) else ([], 80)
def table_Idle.f (a0_0 : Int) (l0_1 : List Int) (l0_2 : List S32) : Option (List Int × Int) := some (idleP a0_0 l0_1 l0_2)
theorem table_Idle.calls (a0_0 : Int) (A0_1 : Option Addr) (c0_1 : Nat) (l0_1 : List Int) (A0_2 : Option Addr) (c0_2 : Nat) (l0_2 : List (S32)) (r1 : List Int) (r2 : Int) (w : World) (hr0_1 : Kd.C (Kd.int .i64) w A0_1 l0_1.length l0_1) (hc0_1 : l0_1.length ≤ c0_1) (hr0_2 : Kd.C k32 w A0_2 l0_2.length l0_2) (hc0_2 : l0_2.length ≤ c0_2) (h : table_Idle.f a0_0 l0_1 l0_2 = some (r1, r2)) :
    Calls Try.prog 26 #[.agg #[.int .i64 a0_0, .slice A0_1 l0_1.length c0_1, .slice A0_2 l0_2.length c0_2]] w fun e w' => ∃ v0_ : Value, e = .returned (.tuple #[v0_, .int .i64 r2]) ∧ Kd.R (Kd.int .i64) 3 w' w.heap.size (fun _ => True) v0_ r1 ∧ Below w.heap.size w w' := by
  have h' : idleP a0_0 l0_1 l0_2 = (r1, r2) := Option.some.inj h
  unfold idleP at h'
  cases hr : rightB a0_0 l0_1 l0_2 with
  | false =>
    rw [hr, if_neg (by decide)] at h'
    injection h' with h1 h2
    subst h1; subst h2
    exact c26_no a0_0 A0_1 c0_1 l0_1 A0_2 c0_2 l0_2 w hr0_1 hr0_2 hr
  | true =>
    rw [hr, if_pos rfl] at h'
    injection h' with h1 h2
    subst h1; subst h2
    exact c26_yes a0_0 A0_1 c0_1 l0_1 A0_2 c0_2 l0_2 w hr0_1 hr0_2 hr
end Go.Proofs.Ytafmgnojlnkmjaa.H
