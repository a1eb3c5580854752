/- Even tables: their spans follow each other; which queues a table's spans have: plain facts on lists. -/
import Derived.Test.YtafmgnojlnkmjaaPD
import Derived.Test.YtafmgnojlnkmjaaQLx9
import Derived.Test.YtafmgnojlnkmjaaQLx20
namespace Go.Proofs.Ytafmgnojlnkmjaa.PB
open Go.RowKit Go.Proofs.YtafmgnojlnkmjaaW.PrintWords Go.Proofs.YtafmgnojlnkmjaaW.PrintLast Go.Proofs.YtafmgnojlnkmjaaW.PrintMore
open Go.Proofs.Ytafmgnojlnkmjaa.QL Go.Proofs.Ytafmgnojlnkmjaa.H
set_option linter.unusedVariables false
set_option linter.unusedSimpArgs false

/-- Spans from o on follow each other to n. -/
def chain : List S32 → Int → Int → Bool
  | [], o, n => o == n
  | s :: t, o, n => s.f0 == o && (decide (1 ≤ s.f1) && chain t (o + s.f1) n)
theorem lies_cons_zero {s : S32} {t : List S32} {q : Int} : lies (s :: t) q 0 ↔ inS q s := ⟨fun ⟨_, h⟩ => h, fun h => ⟨by simp, h⟩⟩
theorem lies_cons_succ {s : S32} {t : List S32} {q : Int} {a : Nat} : lies (s :: t) q (a + 1) ↔ lies t q a :=
  ⟨fun ⟨h, h2⟩ => ⟨by simpa using h, h2⟩, fun ⟨h, h2⟩ => ⟨by simpa using h, h2⟩⟩
theorem chain_spec : ∀ (sp : List S32) (o n : Int), chain sp o n = true → o ≤ n ∧ (∀ q, o ≤ q → q < n → ∃ a, lies sp q a) ∧ (∀ q a, lies sp q a → o ≤ q) ∧ apart sp
  | [], o, n, h => by
    have e : o = n := by simpa [chain] using h
    exact ⟨by omega, fun q h1 h2 => by omega, fun q a ⟨h1, _⟩ => by simp at h1, fun a b q ⟨h1, _⟩ => by simp at h1⟩
  | s :: t, o, n, h => by
    simp only [chain, Bool.and_eq_true, beq_iff_eq, decide_eq_true_eq] at h
    obtain ⟨h1, h2, h3⟩ := h
    obtain ⟨i0, i1, i2, i3⟩ := chain_spec t (o + s.f1) n h3
    refine ⟨by omega, fun q hq1 hq2 => ?_, fun q a hl => ?_, fun a b q ha hb => ?_⟩
    · by_cases hq : q < o + s.f1
      · exact ⟨0, lies_cons_zero.2 ⟨by omega, by omega⟩⟩
      · obtain ⟨a, ha⟩ := i1 q (by omega) hq2
        exact ⟨a + 1, lies_cons_succ.2 ha⟩
    · cases a with
      | zero => have := (lies_cons_zero.1 hl).1; omega
      | succ a => have := i2 q a (lies_cons_succ.1 hl); omega
    · cases a with
      | zero =>
        cases b with
        | zero => rfl
        | succ b => have h5 := (lies_cons_zero.1 ha).2; have := i2 q b (lies_cons_succ.1 hb); omega
      | succ a =>
        cases b with
        | zero => have h5 := (lies_cons_zero.1 hb).2; have := i2 q a (lies_cons_succ.1 ha); omega
        | succ b => rw [i3 a b q (lies_cons_succ.1 ha) (lies_cons_succ.1 hb)]

/-- No span is longer by more than one; none is longer than the one ahead of it. -/
def sharesB (lo : Int) : List S32 → Int → Int → Bool
  | [], _, _ => true
  | s :: t, o, last => s.f0 == o && (decide (lo ≤ s.f1) && (decide (s.f1 ≤ lo + 1) && (decide (s.f1 ≤ last) && sharesB lo t (o + s.f1) s.f1)))
def evOk (n m : Nat) : Bool :=
  match table_Even.f 60 n m, waymasterref08_Even.f 60 n m with
  | some (a, c, s, e), some (a', c', s', e') => (a == (n : Int)) && ((e == 0) && ((a' == a) && ((e' == 0) && (decide (c = c') && (decide ((s.map fun x => (x.f0, x.f1)) = (s'.map fun x => (x.f0, x.f1))) && (decide (c.length = 16) && (decide (s.length = m) && (s.all (okS n) && (c.all (okC m) && (chain s 0 n && sharesB (Int.tdiv n m) s 0 1000))))))))))
  | _, _ => false
theorem ev_all : ((List.range 65).all fun n => (List.range 17).all fun m => !(decide (1 ≤ n) && (decide (1 ≤ m) && decide (m ≤ n))) || evOk n m) = true := by decide +kernel
theorem map_inj : ∀ (s s' : List S32), (s.map fun x => (x.f0, x.f1)) = (s'.map fun x => (x.f0, x.f1)) → s = s'
  | [], [], _ => rfl
  | [], _ :: _, h => by simp at h
  | _ :: _, [], h => by simp at h
  | ⟨a, b⟩ :: t, ⟨c, d⟩ :: t', h => by
    simp only [List.map_cons, List.cons.injEq, Prod.mk.injEq] at h
    obtain ⟨⟨rfl, rfl⟩, h2⟩ := h
    rw [map_inj t t' h2]
theorem ev_ok {n m : Nat} (h1 : 1 ≤ n) (h2 : n ≤ 64) (h3 : 1 ≤ m) (h4 : m ≤ 16) (h5 : m ≤ n) : evOk n m = true := by
  have h := ev_all
  rw [List.all_eq_true] at h
  have h' := h n (by rw [List.mem_range]; omega)
  rw [List.all_eq_true] at h'
  have h'' := h' m (by rw [List.mem_range]; omega)
  rw [decide_eq_true h1, decide_eq_true h3, decide_eq_true h5] at h''
  simpa using h''
/-- What an even table is. -/
structure EvenT (n m : Int) (c : List Int) (s : List S32) : Prop where
  f : ∀ k, 60 ≤ k → table_Even.f k n m = some (n, c, s, 0)
  r : ∀ k, 60 ≤ k → waymasterref08_Even.f k n m = some (n, c, s, 0)
  len : c.length = 16
  cnt : (s.length : Int) = m
  ok : ∀ x ∈ s, okS n x = true
  cls : ∀ x ∈ c, okC s.length x = true
  follow : chain s 0 n = true
  shares : sharesB (Int.tdiv n m) s 0 1000 = true
theorem even_at (n m : Int) (k : Nat) (r) (h : table_Even.f 60 n m = some r) (hk : 60 ≤ k) : table_Even.f k n m = some r := by
  obtain ⟨d, rfl⟩ : ∃ d, k = 60 + d := ⟨k - 60, by omega⟩
  clear hk
  induction d with
  | zero => exact h
  | succ d ih => exact table_Even.mono n m (60 + d) _ ih
theorem reven_at (n m : Int) (k : Nat) (r) (h : waymasterref08_Even.f 60 n m = some r) (hk : 60 ≤ k) : waymasterref08_Even.f k n m = some r := by
  obtain ⟨d, rfl⟩ : ∃ d, k = 60 + d := ⟨k - 60, by omega⟩
  clear hk
  induction d with
  | zero => exact h
  | succ d ih => exact waymasterref08_Even.mono n m (60 + d) _ ih
theorem even_yes {n m : Int} (h1 : 1 ≤ n) (h2 : n ≤ 64) (h3 : 1 ≤ m) (h4 : m ≤ 16) (h5 : m ≤ n) : ∃ c s, EvenT n m c s := by
  obtain ⟨n, rfl⟩ : ∃ x : Nat, n = x := ⟨n.toNat, by omega⟩
  obtain ⟨m, rfl⟩ : ∃ x : Nat, m = x := ⟨m.toNat, by omega⟩
  have h := ev_ok (n := n) (m := m) (by omega) (by omega) (by omega) (by omega) (by omega)
  unfold evOk at h
  cases ht : table_Even.f 60 (n : Int) (m : Int) with
  | none => rw [ht] at h; cases h
  | some x =>
    cases hr : waymasterref08_Even.f 60 (n : Int) (m : Int) with
    | none => rw [ht, hr] at h; cases h
    | some y =>
      obtain ⟨a, c, s, e⟩ := x
      obtain ⟨a', c', s', e'⟩ := y
      rw [ht, hr] at h
      simp only [Bool.and_eq_true, beq_iff_eq, decide_eq_true_eq] at h
      obtain ⟨rfl, rfl, rfl, rfl, rfl, hs, g1, g2, g3, g4, g5, g6⟩ := h
      obtain rfl := map_inj _ _ hs
      exact ⟨c, s, fun k hk => even_at _ _ k _ ht hk, fun k hk => reven_at _ _ k _ hr hk, g1, by omega, by simpa using g3, by rw [g2]; simpa using g4, g5, g6⟩
theorem even_no {n m : Int} (h : ¬ (1 ≤ n ∧ n ≤ 64 ∧ 1 ≤ m ∧ m ≤ 16 ∧ m ≤ n)) {k : Nat} (hk : 1 ≤ k) : table_Even.f k n m = some (0, [], [], 2) ∧ waymasterref08_Even.f k n m = some (0, [], [], 2) := by
  obtain ⟨k, rfl⟩ : ∃ x, k = x + 1 := ⟨k - 1, by omega⟩
  have t : table_Even.j0 (k + 1) n m true = some (0, [], [], 2) := by rw [table_Even.j0, if_pos rfl]
  have r : waymasterref08_Even.j0 (k + 1) n m true = some (0, [], [], 2) := by rw [waymasterref08_Even.j0, if_pos rfl]
  have hmn : mn 16 n = if n < 16 then n else 16 := rfl
  unfold table_Even.f waymasterref08_Even.f
  by_cases h1 : n < 1
  · rw [if_pos h1, if_pos h1]; exact ⟨t, r⟩
  by_cases h2 : n > 64
  · rw [if_neg h1, if_pos h2, if_neg h1, if_pos h2]; exact ⟨t, r⟩
  by_cases h3 : m < 1
  · rw [if_neg h1, if_neg h2, if_pos h3, if_neg h1, if_neg h2, if_pos h3]; exact ⟨t, r⟩
  rw [if_neg h1, if_neg h2, if_neg h3, if_neg h1, if_neg h2, if_neg h3]
  have hm : m > mn 16 n := by rw [hmn]; split <;> omega
  rw [decide_eq_true hm]
  refine ⟨t, ?_⟩
  by_cases h4 : m > 16
  · rw [if_pos h4]; exact r
  · rw [if_neg h4, decide_eq_true (by omega)]; exact r
theorem even_right {n m : Int} {c : List Int} {s : List S32} (h1 : 1 ≤ n) (h2 : n ≤ 64) (h3 : 1 ≤ m) (h4 : m ≤ 16) (h : EvenT n m c s) : rightB n c s = true := by
  have hc := h.cnt
  unfold rightB guardB
  rw [decide_eq_true ⟨h1, h2, by omega, by omega, h.len⟩, (ownOne_iff h2 h.ok (by omega)).2 (chain_spec s 0 n h.follow).2.2.2]
  have e1 : s.all (okS n) = true := by rw [List.all_eq_true]; exact h.ok
  have e2 : c.all (okC s.length) = true := by rw [List.all_eq_true]; exact h.cls
  rw [e1, e2]
  rfl
/-- Each queue of an even table has an owner. -/
theorem even_idle {n m : Int} {c : List Int} {s : List S32} (h1 : 1 ≤ n) (h2 : n ≤ 64) (h3 : 1 ≤ m) (h4 : m ≤ 16) (h : EvenT n m c s) : ∀ k : Nat, (k : Int) ≤ n → idleTo (ownOut s) k = []
  | 0, _ => rfl
  | k + 1, hk => by
    have hr := even_right h1 h2 h3 h4 h
    obtain ⟨r1, r2, r3, r4, r5, r6, r7, r8⟩ := right_parts hr
    obtain ⟨a, ha⟩ := (chain_spec s 0 n h.follow).2.1 (k : Int) (by omega) (by omega)
    have hne : ¬ rd (ownOut s) (k : Int) = 0 := by
      rcases rd_ownOut r2 r6 (by omega) r8 (k : Int) (by omega) (by omega) with ⟨x, y⟩ | ⟨b, x, y⟩
      · exact absurd ha (y a)
      · omega
    simp only [idleTo]
    rw [if_neg hne]
    exact even_idle h1 h2 h3 h4 h k (by omega)

end Go.Proofs.Ytafmgnojlnkmjaa.PB
