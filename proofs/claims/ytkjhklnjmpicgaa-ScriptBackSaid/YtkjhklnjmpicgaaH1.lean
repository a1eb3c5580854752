/- A script's entries: the walk of Decode, a range over a function, for any text. -/
import Derived.Test.YtkjhklnjmpicgaaQLx0
import Derived.Test.YtkjhklnjmpicgaaQLx13
import Derived.Test.YtkjhklnjmpicgaaRng
import Derived.Outline
import Derived.WalkMore
import Derived.Maps.AppendAt
import Derived.Sort.LoopGhostIn
import Derived.BigRegion
namespace Go.Proofs.Ytkjhklnjmpicgaa.H
open Go.RowKit Go.Shelf Go.Rg Go.Proofs.YtkjhklnjmpicgaaW.PrintWords Go.Proofs.YtkjhklnjmpicgaaW.PrintLast Go.Proofs.YtkjhklnjmpicgaaW.PrintMore
open Go.Proofs.Ytkjhklnjmpicgaa.QL
attribute [local go_sem] Oper.semAt_some
set_option linter.unusedVariables false
set_option linter.unusedSimpArgs false

theorem c25 (s : ByteArray) (w : World) : Calls Try.prog 25 #[.string s] w fun e w' => e = .returned (.func (.func 32) #[] #[.pointer (some ⟨w.heap.size, 0, none⟩)]) ∧ w' = w.alloc (.cells #[.string s] 9) := by
  go_enter Try.func25, Try.ntmps25
  go_wp2
  go_ret
  exact ⟨rfl, rfl⟩

/-- The bytes from the entry j on. -/
def rest (s : ByteArray) (j : Nat) : ByteArray := s.extract (6 * j) s.size
/-- The first entry of bytes as it stands. -/
def raw0 (r : ByteArray) : S29 := ⟨bt r 0, bt r 1, Go.bits .or .i64 (bt r 2) (wrap64 (bt r 3 * 256)), bt r 4, bt r 5⟩
/-- The entry j as it stands. -/
def raw (s : ByteArray) (j : Nat) : S29 := raw0 (rest s j)
def vals (x : S29) : List Value := [.int .i64 x.f0, .int .i64 x.f1, .int .i64 x.f2, .int .i64 x.f3, .int .i64 x.f4]
def cellsOf (l : List S29) : List Value := l.flatMap vals
/-- May an entry be? -/
def rightB (x : S29) : Bool := decide (1 ≤ x.f0 ∧ x.f0 ≤ 11 ∧ 0 ≤ x.f2 ∧ x.f2 ≤ 65535 ∧ (0 ≤ x.f1 ∧ x.f1 ≤ 255) ∧ (0 ≤ x.f3 ∧ x.f3 ≤ 255) ∧ (0 ≤ x.f4 ∧ x.f4 ≤ 255))
/-- The entry j as it counts. -/
def ent (s : ByteArray) (j : Nat) : S29 := if rightB (raw s j) then raw s j else z29
def ents (s : ByteArray) (j : Nat) : List S29 := (List.range j).map (ent s)
theorem ents_succ (s : ByteArray) (j : Nat) : ents s (j + 1) = ents s j ++ [ent s j] := by simp [ents, List.range_succ]
theorem ents_length (s : ByteArray) (j : Nat) : (ents s j).length = j := by simp [ents]
theorem cells_snoc (l : List S29) (x : S29) : cellsOf (l ++ [x]) = cellsOf l ++ vals x := by simp [cellsOf]
theorem rest_size (s : ByteArray) (j : Nat) : (rest s j).size = s.size - 6 * j := by unfold rest; simp
theorem rest_succ (s : ByteArray) (j : Nat) : (rest s j).extract 6 (rest s j).size = rest s (j + 1) := by
  rw [rest_size]
  unfold rest
  rw [ByteArray.extract_extract]
  congr 1 <;> omega
theorem bt_get (r : ByteArray) (i : Nat) (h : i < r.size) : wrap64 ((r[i]'h).toNat : Int) = bt r (i : Int) := by
  have h1 : bt r (i : Int) = ((r[i]'h).toNat : Int) := by simp [bt, h]
  rw [h1]
  have := (r[i]'h).toNat_lt
  unfold wrap64; omega
theorem isRight_f (x : S29) : script_isRight.f 10 x.f0 x.f1 x.f2 x.f3 x.f4 = some (rightB x) := by
  have h3 : script_areBytes.f 10 [x.f1, x.f3, x.f4] = some (decide ((0 ≤ x.f1 ∧ x.f1 ≤ 255) ∧ (0 ≤ x.f3 ∧ x.f3 ≤ 255) ∧ (0 ≤ x.f4 ∧ x.f4 ≤ 255))) := by
    have w0 : wrap64 (0 + 1) = 1 := by decide +kernel
    have w1 : wrap64 (1 + 1) = 2 := by decide +kernel
    have w2 : wrap64 (2 + 1) = 3 := by decide +kernel
    have r0 : rd [x.f1, x.f3, x.f4] 0 = x.f1 := rfl
    have r1 : rd [x.f1, x.f3, x.f4] 1 = x.f3 := rfl
    have r2 : rd [x.f1, x.f3, x.f4] 2 = x.f4 := rfl
    have l3 : (([x.f1, x.f3, x.f4] : List Int).length : Int) = 3 := rfl
    unfold script_areBytes.f
    rw [l3]
    simp only [script_areBytes.l0, l3, w0, w1, w2, r0, r1, r2]
    simp only [Int.reduceLT, Int.reduceLE, if_true, if_false]
    by_cases a1 : x.f1 < 0
    · rw [if_pos a1]; congr 1; rw [eq_comm, decide_eq_false_iff_not]; omega
    by_cases a2 : x.f1 > 255
    · rw [if_neg a1, if_pos a2]; congr 1; rw [eq_comm, decide_eq_false_iff_not]; omega
    by_cases a3 : x.f3 < 0
    · rw [if_neg a1, if_neg a2, if_pos a3]; congr 1; rw [eq_comm, decide_eq_false_iff_not]; omega
    by_cases a4 : x.f3 > 255
    · rw [if_neg a1, if_neg a2, if_neg a3, if_pos a4]; congr 1; rw [eq_comm, decide_eq_false_iff_not]; omega
    by_cases a5 : x.f4 < 0
    · rw [if_neg a1, if_neg a2, if_neg a3, if_neg a4, if_pos a5]; congr 1; rw [eq_comm, decide_eq_false_iff_not]; omega
    by_cases a6 : x.f4 > 255
    · rw [if_neg a1, if_neg a2, if_neg a3, if_neg a4, if_neg a5, if_pos a6]; congr 1; rw [eq_comm, decide_eq_false_iff_not]; omega
    rw [if_neg a1, if_neg a2, if_neg a3, if_neg a4, if_neg a5, if_neg a6]; congr 1; rw [eq_comm, decide_eq_true_eq]; omega
  unfold script_isRight.f rightB
  rw [h3]
  simp only [Option.bind_some]
  repeat' split
  all_goals (congr 1; first | (rw [decide_eq_decide]; omega) | (rw [eq_comm, decide_eq_false_iff_not]; omega))

theorem quiet_new {n0 : Nat} (W : World) (o : Obj) (h : n0 ≤ W.heap.size) : Quiet n0 W (W.alloc o).drew :=
  (Quiet.alloc W o h).trans ⟨below_drew (Below.refl _ _), fun _ _ h _ => h⟩
theorem keeps_new (W : World) (o : Obj) : KeepsOthers W (W.alloc o).drew := (KeepsOthers.alloc W o).trans ⟨Nat.le_refl _, fun _ _ h _ => h⟩

/-- Between two rounds: j entries have been taken, the iterator stands at entry i. -/
structure JD (s : ByteArray) (bo bi : Nat) (W0 : World) (j i : Nat) (W : World) : Prop where
  below : Below bo W0 W
  box : Boxed W bi 9 (.string (rest s i))
  row : ∃ v, Boxed W bo 24 v ∧ W.ownsRow bo 29 5 v j (cellsOf (ents s j))
theorem JD.quiet {s : ByteArray} {bo bi : Nat} {W0 : World} {j i : Nat} {W W' : World} (h : JD s bo bi W0 j i W) (q : Quiet bo W W') : JD s bo bi W0 j i W' := by
  obtain ⟨h1, h2, v, h3, h4⟩ := h
  exact ⟨h1.trans q.below, q.block h2, v, q.block h3, q.ownsRow h4⟩
theorem JD.step {s : ByteArray} {bo bi : Nat} {W0 : World} {j i : Nat} {W : World} (h : JD s bo bi W0 j i W) (hb : bo < bi) (r : ByteArray) (hr : r = rest s (i + 1)) : JD s bo bi W0 j (i + 1) (W.setCell ⟨bi, 0, none⟩ (.string r)) := by
  obtain ⟨h1, h2, v, h3, h4⟩ := h
  subst hr
  exact ⟨h1.setCell (p := ⟨bi, 0, none⟩) (by show bo ≤ bi; omega) _, h2.set _, v, h3.kept (grownBy_setCell' _ _ _) (by simp; omega), h4.kept (grownBy_setCell' _ _ _) (.inr (h2.not_row (by decide) h4).symm)⟩

set_option maxHeartbeats 2000000 in
theorem c32 (n : Nat) (s : ByteArray) (bo bi : Nat) (hbi : bo < bi) (W0 : World) (l : Nat) (W : World) (Fr Fx : World → Prop) (hFr : ∀ W W', Fr W → KeepsOthers W W' → Fr W') (h0 : JD s bo bi W0 0 0 W) (hF0 : Fr W)
    (hY : ∀ (j : Nat) W1, j ≤ 10000 → 6 * j + 6 ≤ s.size → JD s bo bi W0 j j W1 → Fr W1 → YieldAt Fence.wide n Try.prog l #[.agg (vals (raw s j)).toArray] W1 fun e W' => (e = .returned (.bool true) ∧ (j < 10000 ∧ JD s bo bi W0 (j + 1) j W') ∧ Fr W') ∨ (e = .returned (.bool false) ∧ Fx W')) :
    CallsIn Fence.wide (n + 1) Try.prog 32 #[.func (.yield l) #[] #[], .pointer (some ⟨bi, 0, none⟩)] W fun e W' => (∃ v, e = .returned v) ∧ (((∃ j, j ≤ 10000 ∧ s.size / 6 = j ∧ JD s bo bi W0 j j W') ∧ Fr W') ∨ Fx W') := by
  refine callsIn_of_wp Try.func32 rfl trivial ?_ rfl
  simp only [Try.ntmps32, List.size_toArray, List.length_cons, List.length_nil, Nat.reduceAdd, Nat.reduceSub, Array.replicate_succ, Array.replicate_zero, List.push_toArray, List.append_toArray, List.nil_append, List.cons_append]
  gi_wp2
  gi_loopg [] 10001 (fun (kq : Nat) (wr : World) => ∃ j, Aside0 (kq + j = 10001) ∧ Aside0 (6 * j ≤ s.size) ∧ Aside0 (JD s bo bi W0 j j wr) ∧ Aside0 (Fr wr) ∧ Aside0 (j ≤ 10000))
  case atStart => exact ⟨0, ⟨by omega⟩, ⟨by omega⟩, ⟨h0⟩, ⟨hF0⟩, ⟨by omega⟩⟩
  case round =>
    clear h0 hF0
    obtain ⟨j, ⟨hk⟩, ⟨hle⟩, ⟨hj⟩, ⟨hf⟩, ⟨h10⟩⟩ := hrel
    have hsz := rest_size s j
    have c0 := hj.box.cell
    have hlt := hj.box.lt
    obtain ⟨r, hr⟩ : ∃ r, rest s j = r := ⟨_, rfl⟩
    rw [hr] at c0 hsz
    have HR := Aside0.mk hr
    have HK := Aside0.mk hk
    have HS := Aside0.mk hsz
    have HJ := Aside0.mk hj
    have HF := Aside0.mk hf
    clear hr hk hj hf
    by_cases hlen : 6 * j + 6 ≤ s.size
    · have hY' := Aside0.mk (hY j (((wr.alloc (.cells (vals (raw s j)).toArray 29)).drew)) h10 hlen (HJ.out.quiet (quiet_new _ _ (by have := HJ.out.box.lt; omega))) (hFr _ _ HF.out (keeps_new _ _)))
      clear hY
      have q0 : 0 < r.size := by omega
      have q1 : 1 < r.size := by omega
      have q2 : 2 < r.size := by omega
      have q3 : 3 < r.size := by omega
      have q4 : 4 < r.size := by omega
      have q5 : 5 < r.size := by omega
      have h6' : (6 : Int) ≤ (r.size : Int) := by omega
      have i1 : (1 : Int) < (r.size : Int) := by omega
      have i2 : (2 : Int) < (r.size : Int) := by omega
      have i3 : (3 : Int) < (r.size : Int) := by omega
      have i4 : (4 : Int) < (r.size : Int) := by omega
      have i5 : (5 : Int) < (r.size : Int) := by omega
      have e0 := bt_get r 0 q0
      have e1 := bt_get r 1 q1
      have e2 := bt_get r 2 q2
      have e3 := bt_get r 3 q3
      have e4 := bt_get r 4 q4
      have e5 := bt_get r 5 q5
      have E0 := Aside0.mk e0
      have E1 := Aside0.mk e1
      have E2 := Aside0.mk e2
      have E3 := Aside0.mk e3
      have E4 := Aside0.mk e4
      have E5 := Aside0.mk e5
      clear e0 e1 e2 e3 e4 e5 hsz
      gi_wp2
      refine wpIn_wide.2 ?_
      refine start_ (n := 23) (S := (fun w' => w'.cell? ⟨bi, 0, none⟩ = some (.string r))) (ds := []) #[false, false, false, false, false, false, false, false, false, false, false, false, false, false, false, false, false, false, false, false, false, false, false] (by kernel_rfl) rfl rfl ?startS (fun hHeld => ?_)
      case startS => first | trivial | assumption | (go_simp; done) | (simp [*]; done)
      refine take_ (i := 0) (N := some 7) (v := ?_) (a' := ?_) #[true, false, false, false, false, false, false, false, false, false, false, false, false, false, false, false, false, false, false, false, false, false, false] rfl rfl (by kernel_rfl) (fun _ _ _ h => h) (Or.inl ⟨by rfl, ?_⟩) hHeld ?_ ?_
      rotate_left
      · intro w' hs_; (try simp only [] at hs_)
        go_simp
        with_reducible rfl
      rotate_left
      · simp only [Act.put, List.setIfInBounds_toArray, List.set_cons_zero, List.set_cons_succ, i64_w, i32_w]
        rfl
      refine pure_ (i := 1) (N := some 8) (v := ?_) (a' := ?_) #[true, true, false, false, false, false, false, false, false, false, false, false, false, false, false, false, false, false, false, false, false, false, false] rfl rfl (by kernel_rfl) (fun _ _ _ h => h) (Or.inl ⟨by rfl, ?_⟩) ?_ ?_
      rotate_left
      · intro w'
        go_simp
        with_reducible rfl
      rotate_left
      · simp only [Act.put, List.setIfInBounds_toArray, List.set_cons_zero, List.set_cons_succ, i64_w, i32_w]
        rfl
      refine pure_ (i := 2) (N := some 9) (v := ?_) (a' := ?_) #[true, true, true, false, false, false, false, false, false, false, false, false, false, false, false, false, false, false, false, false, false, false, false] rfl rfl (by kernel_rfl) (fun _ _ _ h => h) (Or.inl ⟨by rfl, ?_⟩) ?_ ?_
      rotate_left
      · intro w'
        go_simp
        with_reducible rfl
      rotate_left
      · simp only [Act.put, List.setIfInBounds_toArray, List.set_cons_zero, List.set_cons_succ, i64_w, i32_w]
        rfl
      refine take_ (i := 3) (N := some 10) (v := ?_) (a' := ?_) #[true, true, true, true, false, false, false, false, false, false, false, false, false, false, false, false, false, false, false, false, false, false, false] rfl rfl (by kernel_rfl) (fun _ _ _ h => h) (Or.inl ⟨by rfl, ?_⟩) hHeld ?_ ?_
      rotate_left
      · intro w' hs_; (try simp only [] at hs_)
        go_simp
        with_reducible rfl
      rotate_left
      · simp only [Act.put, List.setIfInBounds_toArray, List.set_cons_zero, List.set_cons_succ, i64_w, i32_w]
        rfl
      refine pure_ (i := 4) (N := some 11) (v := ?_) (a' := ?_) #[true, true, true, true, true, false, false, false, false, false, false, false, false, false, false, false, false, false, false, false, false, false, false] rfl rfl (by kernel_rfl) (fun _ _ _ h => h) (Or.inl ⟨by rfl, ?_⟩) ?_ ?_
      rotate_left
      · intro w'
        go_simp
        with_reducible rfl
      rotate_left
      · simp only [Act.put, List.setIfInBounds_toArray, List.set_cons_zero, List.set_cons_succ, i64_w, i32_w]
        rfl
      refine pure_ (i := 5) (N := some 12) (v := ?_) (a' := ?_) #[true, true, true, true, true, true, false, false, false, false, false, false, false, false, false, false, false, false, false, false, false, false, false] rfl rfl (by kernel_rfl) (fun _ _ _ h => h) (Or.inl ⟨by rfl, ?_⟩) ?_ ?_
      rotate_left
      · intro w'
        go_simp
        with_reducible rfl
      rotate_left
      · simp only [Act.put, List.setIfInBounds_toArray, List.set_cons_zero, List.set_cons_succ, i64_w, i32_w]
        rfl
      refine take_ (i := 6) (N := some 13) (v := ?_) (a' := ?_) #[true, true, true, true, true, true, true, false, false, false, false, false, false, false, false, false, false, false, false, false, false, false, false] rfl rfl (by kernel_rfl) (fun _ _ _ h => h) (Or.inl ⟨by rfl, ?_⟩) hHeld ?_ ?_
      rotate_left
      · intro w' hs_; (try simp only [] at hs_)
        go_simp
        with_reducible rfl
      rotate_left
      · simp only [Act.put, List.setIfInBounds_toArray, List.set_cons_zero, List.set_cons_succ, i64_w, i32_w]
        rfl
      refine pure_ (i := 7) (N := some 14) (v := ?_) (a' := ?_) #[true, true, true, true, true, true, true, true, false, false, false, false, false, false, false, false, false, false, false, false, false, false, false] rfl rfl (by kernel_rfl) (fun _ _ _ h => h) (Or.inl ⟨by rfl, ?_⟩) ?_ ?_
      rotate_left
      · intro w'
        go_simp
        with_reducible rfl
      rotate_left
      · simp only [Act.put, List.setIfInBounds_toArray, List.set_cons_zero, List.set_cons_succ, i64_w, i32_w]
        rfl
      refine pure_ (i := 8) (N := some 15) (v := ?_) (a' := ?_) #[true, true, true, true, true, true, true, true, true, false, false, false, false, false, false, false, false, false, false, false, false, false, false] rfl rfl (by kernel_rfl) (fun _ _ _ h => h) (Or.inl ⟨by rfl, ?_⟩) ?_ ?_
      rotate_left
      · intro w'
        go_simp
        with_reducible rfl
      rotate_left
      · simp only [Act.put, List.setIfInBounds_toArray, List.set_cons_zero, List.set_cons_succ, i64_w, i32_w]
        rfl
      refine take_ (i := 9) (N := some 16) (v := ?_) (a' := ?_) #[true, true, true, true, true, true, true, true, true, true, false, false, false, false, false, false, false, false, false, false, false, false, false] rfl rfl (by kernel_rfl) (fun _ _ _ h => h) (Or.inl ⟨by rfl, ?_⟩) hHeld ?_ ?_
      rotate_left
      · intro w' hs_; (try simp only [] at hs_)
        go_simp
        with_reducible rfl
      rotate_left
      · simp only [Act.put, List.setIfInBounds_toArray, List.set_cons_zero, List.set_cons_succ, i64_w, i32_w]
        rfl
      refine pure_ (i := 10) (N := some 17) (v := ?_) (a' := ?_) #[true, true, true, true, true, true, true, true, true, true, true, false, false, false, false, false, false, false, false, false, false, false, false] rfl rfl (by kernel_rfl) (fun _ _ _ h => h) (Or.inl ⟨by rfl, ?_⟩) ?_ ?_
      rotate_left
      · intro w'
        go_simp
        with_reducible rfl
      rotate_left
      · simp only [Act.put, List.setIfInBounds_toArray, List.set_cons_zero, List.set_cons_succ, i64_w, i32_w]
        rfl
      refine pure_ (i := 11) (N := some 18) (v := ?_) (a' := ?_) #[true, true, true, true, true, true, true, true, true, true, true, true, false, false, false, false, false, false, false, false, false, false, false] rfl rfl (by kernel_rfl) (fun _ _ _ h => h) (Or.inl ⟨by rfl, ?_⟩) ?_ ?_
      rotate_left
      · intro w'
        go_simp
        with_reducible rfl
      rotate_left
      · simp only [Act.put, List.setIfInBounds_toArray, List.set_cons_zero, List.set_cons_succ, i64_w, i32_w]
        rfl
      refine pure_ (i := 12) (N := some 19) (v := ?_) (a' := ?_) #[true, true, true, true, true, true, true, true, true, true, true, true, true, false, false, false, false, false, false, false, false, false, false] rfl rfl (by kernel_rfl) (fun _ _ _ h => h) (Or.inl ⟨by rfl, ?_⟩) ?_ ?_
      rotate_left
      · intro w'
        go_simp
        with_reducible rfl
      rotate_left
      · simp only [Act.put, List.setIfInBounds_toArray, List.set_cons_zero, List.set_cons_succ, i64_w, i32_w]
        rfl
      refine pure_ (i := 13) (N := some 20) (v := ?_) (a' := ?_) #[true, true, true, true, true, true, true, true, true, true, true, true, true, true, false, false, false, false, false, false, false, false, false] rfl rfl (by kernel_rfl) (fun _ _ _ h => h) (Or.inl ⟨by rfl, ?_⟩) ?_ ?_
      rotate_left
      · intro w'
        go_simp
        with_reducible rfl
      rotate_left
      · simp only [Act.put, List.setIfInBounds_toArray, List.set_cons_zero, List.set_cons_succ, i64_w, i32_w]
        rfl
      refine take_ (i := 14) (N := some 21) (v := ?_) (a' := ?_) #[true, true, true, true, true, true, true, true, true, true, true, true, true, true, true, false, false, false, false, false, false, false, false] rfl rfl (by kernel_rfl) (fun _ _ _ h => h) (Or.inl ⟨by rfl, ?_⟩) hHeld ?_ ?_
      rotate_left
      · intro w' hs_; (try simp only [] at hs_)
        go_simp
        with_reducible rfl
      rotate_left
      · simp only [Act.put, List.setIfInBounds_toArray, List.set_cons_zero, List.set_cons_succ, i64_w, i32_w]
        rfl
      refine pure_ (i := 15) (N := some 22) (v := ?_) (a' := ?_) #[true, true, true, true, true, true, true, true, true, true, true, true, true, true, true, true, false, false, false, false, false, false, false] rfl rfl (by kernel_rfl) (fun _ _ _ h => h) (Or.inl ⟨by rfl, ?_⟩) ?_ ?_
      rotate_left
      · intro w'
        go_simp
        with_reducible rfl
      rotate_left
      · simp only [Act.put, List.setIfInBounds_toArray, List.set_cons_zero, List.set_cons_succ, i64_w, i32_w]
        rfl
      refine pure_ (i := 16) (N := some 23) (v := ?_) (a' := ?_) #[true, true, true, true, true, true, true, true, true, true, true, true, true, true, true, true, true, false, false, false, false, false, false] rfl rfl (by kernel_rfl) (fun _ _ _ h => h) (Or.inl ⟨by rfl, ?_⟩) ?_ ?_
      rotate_left
      · intro w'
        go_simp
        with_reducible rfl
      rotate_left
      · simp only [Act.put, List.setIfInBounds_toArray, List.set_cons_zero, List.set_cons_succ, i64_w, i32_w]
        rfl
      refine take_ (i := 17) (N := some 24) (v := ?_) (a' := ?_) #[true, true, true, true, true, true, true, true, true, true, true, true, true, true, true, true, true, true, false, false, false, false, false] rfl rfl (by kernel_rfl) (fun _ _ _ h => h) (Or.inl ⟨by rfl, ?_⟩) hHeld ?_ ?_
      rotate_left
      · intro w' hs_; (try simp only [] at hs_)
        go_simp
        with_reducible rfl
      rotate_left
      · simp only [Act.put, List.setIfInBounds_toArray, List.set_cons_zero, List.set_cons_succ, i64_w, i32_w]
        rfl
      refine pure_ (i := 18) (N := some 25) (v := ?_) (a' := ?_) #[true, true, true, true, true, true, true, true, true, true, true, true, true, true, true, true, true, true, true, false, false, false, false] rfl rfl (by kernel_rfl) (fun _ _ _ h => h) (Or.inl ⟨by rfl, ?_⟩) ?_ ?_
      rotate_left
      · intro w'
        go_simp
        with_reducible rfl
      rotate_left
      · simp only [Act.put, List.setIfInBounds_toArray, List.set_cons_zero, List.set_cons_succ, i64_w, i32_w]
        rfl
      refine pure_ (i := 19) (N := some 26) (v := ?_) (a' := ?_) #[true, true, true, true, true, true, true, true, true, true, true, true, true, true, true, true, true, true, true, true, false, false, false] rfl rfl (by kernel_rfl) (fun _ _ _ h => h) (Or.inl ⟨by rfl, ?_⟩) ?_ ?_
      rotate_left
      · intro w'
        go_simp
        with_reducible rfl
      rotate_left
      · simp only [Act.put, List.setIfInBounds_toArray, List.set_cons_zero, List.set_cons_succ, i64_w, i32_w]
        rfl
      refine pure_ (i := 20) (N := some 27) (v := ?_) (a' := ?_) #[true, true, true, true, true, true, true, true, true, true, true, true, true, true, true, true, true, true, true, true, true, false, false] rfl rfl (by kernel_rfl) (fun _ _ _ h => h) (Or.inl ⟨by rfl, ?_⟩) ?_ ?_
      rotate_left
      · intro w'
        go_simp
        with_reducible rfl
      rotate_left
      · simp only [Act.put, List.setIfInBounds_toArray, List.set_cons_zero, List.set_cons_succ, i64_w, i32_w]
        rfl
      refine one_ (i := 21) (N := some 3) #[true, true, true, true, true, true, true, true, true, true, true, true, true, true, true, true, true, true, true, true, true, true, false] rfl rfl (by kernel_rfl) (by decide) (fun K hK => ?_)
      refine value_ (v := .pointer (some ⟨wr.heap.size, 0, none⟩)) (w1 := (wr.alloc (.cells #[.int .i64 0, .int .i64 0, .int .i64 0, .int .i64 0, .int .i64 0] 29)).drew) (by rfl) rfl (by go_simp) ?_
      refine hK.out _ _ (by go_simp) (fun hHeld2 => ?_)
      clear hK K hHeld
      refine one_ (i := 22) (N := none) #[true, true, true, true, true, true, true, true, true, true, true, true, true, true, true, true, true, true, true, true, true, true, true] rfl rfl (by kernel_rfl) (by decide) (fun K hK => ?_)
      refine skip_ (w1 := ?_) (by rfl) rfl ?_ ?_
      rotate_left
      · go_simp
        rfl
      refine hK.out _ _ (by go_simp) (fun hHeld3 => ?_)
      clear hK K hHeld2
      refine done_ (by kernel_rfl) ?_
      obtain ⟨fn, tmps, assign, body, hy, hR⟩ := hY'.out
      clear hY'
      have ev : (vals (raw s j)).toArray = #[.int .i64 (bt r 0), .int .i64 (bt r 1), .int .i64 (Go.bits .or .i64 (bt r 2) (wrap64 (bt r 3 * 256))), .int .i64 (bt r 4), .int .i64 (bt r 5)] := by
        unfold raw raw0 vals; rw [HR.out]
      rw [ev] at hy hR
      clear ev
      simp only [E0.out, E1.out, E2.out, E3.out, E4.out, E5.out]
      gi_wp2
      clear E0 E1 E2 E3 E4 E5 hy c0 hHeld3 hlt
      refine hR.mono ?_
      rintro e W3 (⟨rfl, ⟨hlt, hJ3⟩, hF3⟩ | ⟨rfl, hx⟩)
      · have hc3 := hJ3.box.cell
        have hf3 := hJ3.box.frozen
        rw [HR.out] at hc3
        have HJ3 := Aside0.mk hJ3
        have HF3 := Aside0.mk hF3
        clear hJ3 hF3 hR
        have h6n : (6 : Nat) ≤ r.size := by omega
        gi_wp2
        obtain ⟨k1, rfl⟩ : ∃ k1, gk = k1 + 1 := ⟨gk - 1, by have := HK.out; omega⟩
        gi_roundg k1
        case rel => exact ⟨j + 1, ⟨by have := HK.out; omega⟩, ⟨by omega⟩, ⟨HJ3.out.step hbi _ (by rw [← HR.out]; exact rest_succ s j)⟩, ⟨hFr _ _ HF3.out (KeepsOthers.setCell _ _ _)⟩, ⟨by omega⟩⟩
        case measure => omega
      · gi_wp2
        refine bodyPost_ret (results_none rfl _ _ _) rfl ?_
        exact ⟨⟨_, rfl⟩, .inr hx⟩
    · have h6 : ¬ (6 : Int) ≤ (r.size : Int) := by omega
      clear hY
      gi_wp2
      go_end0
      exact ⟨⟨_, rfl⟩, .inl ⟨⟨j, h10, by omega, HJ.out⟩, HF.out⟩⟩
end Go.Proofs.Ytkjhklnjmpicgaa.H
