/- The number of some words: the walk of Words, a range over a function, for any salt and any words. -/
import Derived.Test.YtgemicgpaklmlaaQBx1
import Derived.Test.YtgemicgpaklmlaaRng
import Derived.Outline
import Derived.Lib.SliceRun
import Derived.WalkMore
import Derived.Maps.AppendAt
import Derived.Sort.LoopGhostIn
namespace Go.Proofs.Ytgemicgpaklmlaa.H
open Go.RowKit Go.Shelf Go.Rg Go.Proofs.YtgemicgpaklmlaaW.PrintWords Go.Proofs.YtgemicgpaklmlaaW.PrintLast Go.Proofs.YtgemicgpaklmlaaW.PrintMore
open Go.Proofs.Ytgemicgpaklmlaa.QB
attribute [local go_sem] Oper.semAt_some
set_option linter.unusedVariables false
set_option linter.unusedSimpArgs false

theorem info22 : (Try.prog.info? 22).map (fun i => (i.zero, i.size, i.bytes)) = some (some (.int .u32 0), 1, 4) := by kernel_rfl

theorem eql27 (w : World) (a : Option Addr) (n c : Nat) : (binOp .eql 27 (.slice a n c) (.slice none 0 0)).run Try.prog w = .ok (.bool a.isNone) w := Go.Lib.run_eql_slice_nil w 27 22 a n c 0 0 Try.underlying27
attribute [local go_sem] eql27

theorem c30a (c : Nat) (w : World) : Calls Try.prog 30 #[.slice none 0 c] w fun e w' => e = .returned (.slice none 0 0) ∧ Below w.heap.size w w' := by
  go_enter Try.func30, Try.ntmps30
  go_wp2
  go_ret
  exact ⟨rfl, Below.refl _ _⟩

theorem own_empty (w : World) : (w.alloc (.cells #[] 22)).ownsRow w.heap.size 22 1 (.slice (some ⟨w.heap.size, 0, none⟩) 0 0) 0 [] := by
  refine ⟨rfl, .inr ⟨w.heap.size, 0, #[], rfl, Nat.le_refl _, World.alloc_heap_new w _, ?_⟩⟩
  simp

theorem cells_of_C {w : World} {ad : Addr} {l : List Int} (h : Kd.C (Kd.int .u32) w (some ad) l.length l) : ∀ j u, (nums .u32 l)[j]? = some u → w.cell? (ad.add j) = some u := by
  intro j u hu
  have hj : j < l.length := by
    have := (List.getElem?_eq_some_iff.1 hu).1
    simpa [nums] using this
  obtain ⟨ad', he, hc⟩ := Kd.at_int h j (by omega) (by omega)
  cases he
  rw [Int.toNat_natCast] at hc
  rw [hc]
  rw [← hu]
  simp [nums, rd, hj]

set_option maxHeartbeats 1000000 in
theorem c30b (ad : Addr) (c : Nat) (l : List Int) (w : World) (hC : Kd.C (Kd.int .u32) w (some ad) l.length l) (hl : l.length ≤ 1000) : Calls Try.prog 30 #[.slice (some ad) l.length c] w fun e w' => ∃ v, e = .returned v ∧ w'.ownsRow w.heap.size 22 1 v l.length (nums .u32 l) ∧ Below w.heap.size w w' := by
  have HC := Aside0.mk hC
  clear hC
  obtain ⟨i0, hi, hz0, hz1, hz2⟩ := info_parts info22
  refine (callsIn_wide (n := 9)).1 (callsIn_of_wp Try.func30 rfl trivial ?_ rfl)
  simp only [Try.ntmps30, List.size_toArray, List.length_cons, List.length_nil, Nat.reduceAdd, Nat.reduceSub, Array.replicate_succ, Array.replicate_zero, List.push_toArray, List.append_toArray, List.nil_append, List.cons_append]
  gi_wp2_with (gi_at_builtin; refine wpListIn_append_own _ rfl _ _ 27 rfl w.heap.size 22 i0 (.int .u32 0) 1 4 Try.underlying27 hi hz0 hz1 hz2 rfl (by decide) _ 0 [] rfl (own_empty w) ad l.length c (nums .u32 l) rfl (by simp [nums]) (cells_of_C (Kd.C_below HC.out (below_alloc (Below.refl _ _) _))) (by simp [nums, Value.oneCell']) (by unfold maxLen; omega) (by omega) (by simp) ?_; intro v' w4 hown' hgrow _; have H2 := Aside0.mk hown'; have H3 := Aside0.mk hgrow; clear hown' hgrow)
  go_ret
  have h2 := H2.out
  rw [Nat.zero_add, List.nil_append] at h2
  exact ⟨_, rfl, h2, ((Below.refl _ w).alloc (Nat.le_refl _) _).grown H3.out (by simp) (fun k e => by
    have e' : some w.heap.size = some k := e
    injection e' with e'
    omega)⟩

theorem c29 (a0 : Int) (v : Value) (A : Option Addr) (n c : Nat) (w : World) : Calls Try.prog 29 #[.int .u32 a0, .slice A n c] w fun e w' => e = .returned (.func (.func 33) #[] #[.pointer (some ⟨w.heap.size, 0, none⟩), .pointer (some ⟨w.heap.size + 1, 0, none⟩)]) ∧ w' = (w.alloc (.cells #[.int .u32 a0] 22)).alloc (.cells #[.slice A n c] 27) := by
  go_enter Try.func29, Try.ntmps29
  go_wp2
  go_ret
  exact ⟨rfl, rfl⟩

theorem mix_some (a b : Int) : ∃ r, hash_Mix.f a b = some r := by
  have h15 : ∀ x, hash_Turn.f x 15 = some (Go.bits .or .u32 (shl .u32 x 15) (shr .u32 x 17)) := fun x => by
    unfold hash_Turn.f QA.bits_RotateLeft32.f
    have e1 : Go.bits .and .u64 (IntKind.u64.wrap ((15 : Int).tmod 32)) 31 = 15 := by decide +kernel
    have e2 : IntKind.u64.wrap (32 - 15) = 17 := by decide +kernel
    rw [e1, e2]
    simp
  have h13 : ∀ x, hash_Turn.f x 13 = some (Go.bits .or .u32 (shl .u32 x 13) (shr .u32 x 19)) := fun x => by
    unfold hash_Turn.f QA.bits_RotateLeft32.f
    have e1 : Go.bits .and .u64 (IntKind.u64.wrap ((13 : Int).tmod 32)) 31 = 13 := by decide +kernel
    have e2 : IntKind.u64.wrap (32 - 13) = 19 := by decide +kernel
    rw [e1, e2]
    simp
  unfold hash_Mix.f
  rw [h15, Option.bind_some, h13, Option.bind_some]
  exact ⟨_, rfl⟩
def mixI (a b : Int) : Int := (hash_Mix.f a b).getD 0
theorem mix_I (a b : Int) : hash_Mix.f a b = some (mixI a b) := by
  obtain ⟨r, hr⟩ := mix_some a b
  unfold mixI
  rw [hr]
  rfl
/-- The number behind the first j words. -/
def pre (salt : Int) (l : List Int) (j : Nat) : Int := (l.take j).foldl mixI salt
theorem pre_succ (salt : Int) (l : List Int) (j : Nat) (h : j < l.length) : mixI (pre salt l j) (rd l j) = pre salt l (j + 1) := by
  unfold pre rd
  rw [List.take_succ_eq_append_getElem h, List.foldl_append]
  simp [h]

/-- Between two rounds: j words are mixed, the last number is that of i words. -/
structure JR (salt : Int) (l : List Int) (bo bs bl : Nat) (v : Value) (W0 : World) (i : Nat) (W : World) : Prop where
  below : Below bo W0 W
  bs : Boxed W bs 22 (.int .u32 salt)
  bl : Boxed W bl 27 v
  row : W.ownsRow (bo + 1) 22 1 v l.length (nums .u32 l)
  last : Boxed W bo 22 (.int .u32 (pre salt l i))
theorem JR.quiet {salt : Int} {l : List Int} {bo bs bl : Nat} {v : Value} {W0 : World} {i : Nat} {W W' : World} (h : JR salt l bo bs bl v W0 i W) (q : Quiet bo W W') : JR salt l bo bs bl v W0 i W' := by
  obtain ⟨h1, h2, h3, h4, h5⟩ := h
  exact ⟨h1.trans q.below, q.block h2, q.block h3, q.ownsRow h4, q.block h5⟩
theorem JR.step {salt : Int} {l : List Int} {bo bs bl : Nat} {v : Value} {W0 : World} {i k : Nat} {W : World} (h : JR salt l bo bs bl v W0 i W) (hs : bo < bs) (hl : bo < bl) : JR salt l bo bs bl v W0 k (W.setCell ⟨bo, 0, none⟩ (.int .u32 (pre salt l k))) := by
  obtain ⟨h1, h2, h3, h4, h5⟩ := h
  exact ⟨h1.setCell (p := ⟨bo, 0, none⟩) (by show bo ≤ bo; omega) _, h2.kept (grownBy_setCell' _ _ _) (by simp; omega), h3.kept (grownBy_setCell' _ _ _) (by simp; omega), ownsRow_setCell_other h4 (fun e => by
    obtain ⟨_, (⟨rfl, _⟩ | ⟨g, cap, cur, rfl, hg, _⟩)⟩ := h4
    · cases e
    · injection e with e
      have : g = bo := e
      omega) _, h5.set _⟩
theorem JR.belowq {salt : Int} {l : List Int} {bo bs bl : Nat} {v : Value} {W0 : World} {i : Nat} {W W' : World} (h : JR salt l bo bs bl v W0 i W) (q : Below W.heap.size W W') : JR salt l bo bs bl v W0 i W' := by
  obtain ⟨h1, h2, h3, h4, h5⟩ := h
  exact ⟨h1.trans (q.mono (by have := h5.lt; omega)), boxed_below h2 q, boxed_below h3 q, row_below h4 q, boxed_below h5 q⟩

set_option maxHeartbeats 1000000 in
theorem c33 (n : Nat) (salt : Int) (l : List Int) (bo bs bl : Nat) (v : Value) (hl : l.length ≤ 1000) (W0 : World) (lp : Nat) (W : World) (Fr Fx : World → Prop) (hFr : ∀ W W', Fr W → KeepsOthers W W' → Fr W') (h0 : JR salt l bo bs bl v W0 0 W) (hF0 : Fr W)
    (hY : ∀ (j : Nat) W1, j ≤ l.length → JR salt l bo bs bl v W0 (j - 1) W1 → Fr W1 → YieldAt Fence.wide n Try.prog lp #[.int .i64 j, .int .u32 (pre salt l j)] W1 fun e W' => (e = .returned (.bool true) ∧ (j < l.length ∧ JR salt l bo bs bl v W0 j W') ∧ Fr W') ∨ (e = .returned (.bool false) ∧ Fx W')) :
    CallsIn Fence.wide (n + 1) Try.prog 33 #[.func (.yield lp) #[] #[], .pointer (some ⟨bs, 0, none⟩), .pointer (some ⟨bl, 0, none⟩)] W fun e W' => (∃ v, e = .returned v) ∧ ((False ∧ Fr W') ∨ Fx W') := by
  refine callsIn_of_wp Try.func33 rfl trivial ?_ rfl
  simp only [Try.ntmps33, List.size_toArray, List.length_cons, List.length_nil, Nat.reduceAdd, Nat.reduceSub, Array.replicate_succ, Array.replicate_zero, List.push_toArray, List.append_toArray, List.nil_append, List.cons_append]
  have hc := h0.bs.cell
  obtain ⟨fn, tmps, assign, body, hy, hR⟩ := hY 0 W (by omega) h0 hF0
  have e0 : pre salt l 0 = salt := rfl
  have e1 : ((0 : Nat) : Int) = 0 := rfl
  rw [e0, e1] at hy
  have HY := Aside0.mk hY
  clear hY h0 hF0 e0 e1
  gi_wp2
  refine hR.mono ?_
  rintro e W3 (⟨rfl, ⟨hlt, hJ3⟩, hF3⟩ | ⟨rfl, hx⟩)
  · have hc3 := hJ3.bl.cell
    have hR0 : Kd.R (Kd.int .u32) 22 W3 (bo + 1) (fun _ => True) v l := Kd.R_of_own hJ3.row (fun _ _ => trivial)
    obtain ⟨A, c, rfl, hle, hC⟩ := Kd.R_reads hR0
    clear hR0
    have HJ := Aside0.mk hJ3
    have HF := Aside0.mk hF3
    clear hJ3 hF3 hC hle
    gi_wp2
    gi_loopg [4, 14] l.length (fun (kq : Nat) (v4 v14 : Value) (wr : World) => ∃ j : Nat, Aside0 (kq + j = l.length) ∧ Aside0 (j < l.length) ∧ v4 = .int .u32 (pre salt l j) ∧ v14 = .int .i64 j ∧ Aside0 (JR salt l bo bs bl (.slice A l.length c) W0 j wr) ∧ Aside0 (Fr wr))
    case atStart => exact ⟨0, ⟨by omega⟩, ⟨hlt⟩, rfl, rfl, HJ, HF⟩
    case round =>
      clear HJ HF hc3 hlt
      obtain ⟨j, ⟨hk⟩, ⟨hj⟩, rfl, rfl, ⟨hJ⟩, ⟨hf⟩⟩ := hrel
      have hR0 : Kd.R (Kd.int .u32) 22 wr (bo + 1) (fun _ => True) (.slice A l.length c) l := Kd.R_of_own hJ.row (fun _ _ => trivial)
      obtain ⟨A', c', e', hle, hC⟩ := Kd.R_reads hR0
      clear hR0
      cases e'
      obtain ⟨ad, rfl, hcell⟩ := Kd.at_int hC j (by omega) (by omega)
      have hlt : ((j : Int) < (l.length : Int)) := by omega
      have hw : wrap64 ((j : Int) + 1) = ((j + 1 : Nat) : Int) := by unfold wrap64; omega
      have hmx := mix_I (pre salt l j) (rd l j)
      have h1 : pre salt l (j + 1) = mixI (pre salt l j) (rd l j) := (pre_succ salt l j hj).symm
      have HJ := Aside0.mk hJ
      have HF := Aside0.mk hf
      have HK := Aside0.mk hk
      have HL := Aside0.mk hlt
      have HM := Aside0.mk hmx
      have HN := Aside0.mk hj
      have H1 := Aside0.mk h1
      have HW := Aside0.mk hw
      have hln : (0 : Int) ≤ (j : Int) := by omega
      rw [Int.toNat_natCast] at hcell
      have hlb : decide ((j : Int) < (l.length : Int)) = true := decide_eq_true hlt
      clear hJ hf hk hmx hj h1 hC hle hw
      gi_wp2_with (refine ⟨trivial, ?_⟩; gi_at_call 12; refine (callsIn_wide.2 (hash_Mix.calls _ _ _ _ HM.out)).mono ?_; rintro e w3 ⟨rfl, hB⟩; have HB := Aside0.mk hB; clear hB; obtain ⟨fn2, tmps2, assign2, body2, hy2, hR2⟩ := HY.out (j + 1) w3 (by have := HN.out; omega) (by rw [Nat.add_sub_cancel]; exact HJ.out.belowq HB.out) (hFr _ _ HF.out (keeps_below HB.out)); have ec : ((j + 1 : Nat) : Int) = (j : Int) + 1 := rfl; rw [ec, H1.out] at hy2; clear ec)
      refine hR2.mono ?_
      rintro e W4 (⟨rfl, ⟨hlt4, hJ4⟩, hF4⟩ | ⟨rfl, hx⟩)
      · have HJ4 := Aside0.mk hJ4
        have HF4 := Aside0.mk hF4
        have HL4 := Aside0.mk hlt4
        clear hJ4 hF4 hlt4
        gi_wp2
        obtain ⟨k1, rfl⟩ : ∃ k1, gk = k1 + 1 := ⟨gk - 1, by have := HK.out; have := HN.out; omega⟩
        gi_roundg k1
        case rel => exact ⟨j + 1, ⟨by have := HK.out; omega⟩, HL4, by rw [H1.out], rfl, HJ4, HF4⟩
        case measure => omega
      · gi_wp2
        refine bodyPost_ret (results_none rfl _ _ _) rfl ?_
        exact ⟨⟨_, rfl⟩, .inr hx⟩
  · gi_wp2
    refine bodyPost_ret (results_none rfl _ _ _) rfl ?_
    exact ⟨⟨_, rfl⟩, .inr hx⟩

theorem c30 (A : Option Addr) (c : Nat) (l : List Int) (w : World) (hC : Kd.C (Kd.int .u32) w A l.length l) (hl : l.length ≤ 1000) : Calls Try.prog 30 #[.slice A l.length c] w fun e w' => ∃ A' c', e = .returned (.slice A' l.length c') ∧ w'.ownsRow w.heap.size 22 1 (.slice A' l.length c') l.length (nums .u32 l) ∧ Below w.heap.size w w' := by
  cases A with
  | none =>
    have h0 : l = [] := by
      cases l with
      | nil => rfl
      | cons x t =>
        obtain ⟨ad, h, _⟩ := Kd.at_int hC 0 (by omega) (by simp)
        cases h
    subst h0
    refine (c30a c w).mono ?_
    rintro e w' ⟨rfl, hb⟩
    exact ⟨none, 0, rfl, own_nil _ _ _ _, hb⟩
  | some ad =>
    refine (c30b ad c l w hC hl).mono ?_
    rintro e w' ⟨v, rfl, ho, hb⟩
    have hR0 : Kd.R (Kd.int .u32) 22 w' w.heap.size (fun _ => True) v l := Kd.R_of_own ho (fun _ _ => trivial)
    obtain ⟨A, c, rfl, hle, hC⟩ := Kd.R_reads hR0
    exact ⟨A, c, rfl, ho, hb⟩

set_option maxHeartbeats 1000000 in
theorem c18 (salt : Int) (A : Option Addr) (c : Nat) (l : List Int) (w : World) (hC : Kd.C (Kd.int .u32) w A l.length l) (hl : l.length ≤ 1000) : Calls Try.prog 18 #[.int .u32 salt, .slice A l.length c] w fun e w' => e = .returned (.int .u32 (e5 (Go.bits .xor .u32 (pre salt l l.length) (4 * (l.length : Int))))) ∧ Below w.heap.size w w' := by
  have HC := Aside0.mk hC
  clear hC
  refine calls_marks Try.func18 rfl ?_
  simp only [Try.ntmps18, List.size_toArray, List.length_cons, List.length_nil, Nat.reduceAdd, Nat.reduceSub, Array.replicate_succ, Array.replicate_zero, List.push_toArray, List.append_toArray, List.nil_append, List.cons_append]
  repeat go_step3
  go_wp2_with (first | go_step3 | (go_at_call 30; refine (c30 A c l _ (Kd.C_below HC.out (below_alloc (below_alloc (Below.refl _ _) _) _)) hl).mono ?_; rintro e w1 ⟨A', c', rfl, hO, hB⟩; have HO := Aside0.mk hO; have HB := Aside0.mk hB; clear hB hO) | (go_at_call 29; refine (c29 _ (.slice A' l.length c') _ _ _ _).mono ?_; rintro e w2 ⟨rfl, rfl⟩))
  have hb := HB.out
  have ho := HO.out
  clear HB HO
  have hsz : w.heap.size + 2 ≤ w1.heap.size := by have := hb.size; simp at this; omega
  have b0 : Boxed w1 w.heap.size 27 (.slice A l.length c) := (hb.block _ (by simp; omega)).trans ((Boxed.new w 27 (.slice A l.length c)).alloc _)
  have b1 : Boxed w1 (w.heap.size + 1) 22 (.int .u32 salt) := (hb.block _ (by simp)).trans (boxed_new2 w _ _ _)
  have hb' : Below w.heap.size w w1 := ((Below.refl w.heap.size w).alloc (Nat.le_refl _) _).trans (((Below.refl w.heap.size _).alloc (by simp) _).trans (hb.mono (by simp; omega)))
  clear hb
  obtain ⟨W0, hW0⟩ : ∃ W0, (w1.alloc (.cells #[.int .u32 salt] 22)).alloc (.cells #[.slice A' l.length c'] 27) = W0 := ⟨_, rfl⟩
  obtain ⟨bs, hbs⟩ : ∃ bs, bs = w1.heap.size := ⟨_, rfl⟩
  obtain ⟨bo, hbo⟩ : ∃ bo, bo = w.heap.size + 1 := ⟨_, rfl⟩
  have B0 : Boxed W0 w.heap.size 27 (.slice A l.length c) := by rw [← hW0]; exact (b0.alloc _).alloc _
  have hBW : Below w.heap.size w W0 := by rw [← hW0]; exact (hb'.alloc hb'.size _).alloc (by simp; have := hb'.size; omega) _
  have hs0 : bs + 2 = W0.heap.size := by rw [← hW0, hbs]; simp
  have j0 : JR salt l bo bs (bs + 1) (.slice A' l.length c') W0 0 W0 := by
    refine ⟨Below.refl _ _, ?_, ?_, ?_, ?_⟩
    · rw [← hW0, hbs]
      exact (Boxed.new _ _ _).alloc _
    · rw [← hW0, hbs]
      exact boxed_new2 _ _ _ _
    · rw [← hW0, hbo]
      refine ((own_weaken ho (by simp)).alloc _).alloc _
    · rw [← hW0, hbo]
      exact (b1.alloc _).alloc _
  rw [← hbs, ← hbo]
  rw [hW0]
  have hlb : bo < bs := by omega
  have hbw : w.heap.size < bo := by omega
  clear b0 b1 hb' hW0 ho hbs
  have HBO := Aside0.mk hbo
  clear hbo
  refine range_plain 5 (gf := 33) (lb := #[.pointer (some ⟨bs, 0, none⟩), .pointer (some ⟨bs + 1, 0, none⟩)]) rfl (enters_of Try.func33 (by kernel_rfl) rfl) (fun (j : Fin (l.length + 1)) => #[.int .i64 j.1, .int .u32 (pre salt l j.1)]) (fun _ => rfl)
    (fun j W => JR salt l bo bs (bs + 1) (.slice A' l.length c') W0 (j.1 - 1) W) (fun j W => j.1 < l.length ∧ JR salt l bo bs (bs + 1) (.slice A' l.length c') W0 j.1 W) (fun _ => False)
    (fun c W => c = .exit 0 ∧ JR salt l bo bs (bs + 1) (.slice A' l.length c') W0 l.length W) bo (by omega)
    (fun _ _ _ h q => h.quiet q) (fun _ _ _ h q => ⟨h.1, h.2.quiet q⟩) (fun _ _ h _ => h) (fun _ _ _ h q => ⟨h.1, h.2.quiet q⟩)
    ⟨0, by omega⟩ j0 ?iter ?body ?done ?stop
  case iter =>
    intro lp W Fr Fx hFr hj hf hY
    exact c33 5 salt l bo bs (bs + 1) _ hl W0 lp W Fr Fx hFr hj hf (fun j W1 hle h1 h2 => hY ⟨j, by omega⟩ W1 h1 h2)
  case body =>
    rintro lp ⟨j, hjlt⟩ W hj
    gi_wp2
    refine ⟨KeepsOthers.refl _, Below.refl _ _, fun W2 q => ?_⟩
    have hj2 := hj.quiet q
    clear hj q
    have c0 : W2.cell? ⟨w.heap.size, 0, none⟩ = some (.slice A l.length c) := (Boxed.cell (B := w.heap.size) ((hj2.below.block _ (by omega)).trans B0))
    have c1 := hj2.last.cell
    have f1 := hj2.last.frozen
    have hst := hj2.step (k := j) (by omega) (by omega)
    have hne : w.heap.size ≠ bo := by omega
    have HS := Aside0.mk hst
    have HJ := Aside0.mk hj2
    clear hj2 hst
    by_cases hjf : j = l.length
    · have hjb : (((j : Nat) : Int) == ((l.length : Nat) : Int)) = true := by rw [beq_iff_eq]; omega
      have HJF := Aside0.mk hjf
      clear hjf
      gi_wp2
      exact ⟨KeepsOthers.setCell _ _ _, rfl, HJF.out ▸ HS.out⟩
    · have hjb : (((j : Nat) : Int) == ((l.length : Nat) : Int)) = false := by rw [beq_eq_false_iff_ne]; omega
      have HJF := Aside0.mk hjf
      clear hjf
      gi_wp2
      exact ⟨KeepsOthers.setCell _ _ _, by have := HJF.out; show j < l.length; omega, HS.out⟩
  case done =>
    intro D W h
    exact h.elim
  case stop =>
    rintro D cc W ⟨rfl, hj⟩ hD hK
    have c0 : W.cell? ⟨w.heap.size, 0, none⟩ = some (.slice A l.length c) := (Boxed.cell (B := w.heap.size) ((hj.below.block _ (by omega)).trans B0))
    have c1 := hj.last.cell
    have HJ := Aside0.mk hj
    have HK := Aside0.mk hK
    have HD := Aside0.mk hD
    clear hj hK hD
    go_wp2_with (go_at_call 14; refine (c14 _ _ _).mono ?_; rintro e w3 ⟨rfl, hB⟩; have HB := Aside0.mk hB; clear hB)
    rw [Exit.noGoto_ret]
    have hk3 : w3.heap[D]? = some (.deferred (some [])) := (HB.out.block D (Array.getElem?_eq_some_iff.1 HK.out).1).trans HK.out
    refine leaves_one (n0 := bo) HD.out hk3 (v := .int .u32 (e5 (Go.bits .xor .u32 (pre salt l l.length) (4 * (l.length : Int))))) fun W' q => ⟨by simp [results, Try.results18, go_sem], rfl, ?_⟩
    have hj := HJ.out.below
    exact hBW.trans ((hj.mono (by omega)).trans ((HB.out.mono (by have := hj.size; omega)).trans (q.below.mono (by omega))))

def hash_Words.f (a0 : Int) (l1 : List Int) : Option Int := if l1.length ≤ 1000 then hash_End.f (pre a0 l1 l1.length) (4 * (l1.length : Int)) else none
theorem hash_Words.calls (a0 : Int) (A1 : Option Addr) (c1 : Nat) (l1 : List Int) (r : Int) (w : World) (hr1 : Kd.C (Kd.int .u32) w A1 l1.length l1) (hc1 : l1.length ≤ c1) (h : hash_Words.f a0 l1 = some r) :
    Calls Try.prog 18 #[.int .u32 a0, .slice A1 l1.length c1] w fun e w' => e = .returned (.int .u32 r) ∧ Below w.heap.size w w' := by
  unfold hash_Words.f at h
  by_cases hl : l1.length ≤ 1000
  · rw [if_pos hl] at h
    obtain rfl := Option.some.inj h
    exact c18 a0 A1 c1 l1 w hr1 hl
  · rw [if_neg hl] at h
    cases h
end Go.Proofs.Ytgemicgpaklmlaa.H
