/- The queues of spans in a line, and who has them: plain facts on lists. -/
import Derived.Test.YtafmgnojlnkmjaaQLx0
namespace Go.Proofs.Ytafmgnojlnkmjaa.H
open Go.RowKit Go.Proofs.YtafmgnojlnkmjaaW.PrintWords Go.Proofs.YtafmgnojlnkmjaaW.PrintLast Go.Proofs.YtafmgnojlnkmjaaW.PrintMore
open Go.Proofs.Ytafmgnojlnkmjaa.QL
set_option linter.unusedVariables false
set_option linter.unusedSimpArgs false

/-- A span is within so many queues. -/
def okS (Q : Int) (s : S32) : Bool := decide (0 ≤ s.f0) && (decide (s.f0 ≤ Q) && (decide (1 ≤ s.f1) && decide (s.f1 ≤ Q - s.f0)))
def okC (n : Int) (c : Int) : Bool := decide (0 ≤ c) && decide (c < n)
theorem okS_iff (Q : Int) (s : S32) : okS Q s = true ↔ 0 ≤ s.f0 ∧ s.f0 ≤ Q ∧ 1 ≤ s.f1 ∧ s.f1 ≤ Q - s.f0 := by simp [okS]

/-- The queues, each with its class, in the order in which they are gone through. -/
def pairsFrom : Nat → List S32 → List (Int × Int)
  | _, [] => []
  | c, s :: t => ((List.range s.f1.toNat).map fun (k : Nat) => (s.f0 + (k : Int), (c : Int))) ++ pairsFrom (c + 1) t
def pairs (sp : List S32) : List (Int × Int) := pairsFrom 0 sp
def pos (sp : List S32) (i : Nat) : Nat := ((sp.take i).map fun s => s.f1.toNat).sum
def qs (sp : List S32) (j : Nat) : Int × Int := (pairs sp).getD j (0, 0)

theorem pos_zero (sp : List S32) : pos sp 0 = 0 := by simp [pos]
theorem pos_succ (sp : List S32) (i : Nat) (h : i < sp.length) : pos sp (i + 1) = pos sp i + (sp[i].f1).toNat := by
  unfold pos
  rw [List.take_succ_eq_append_getElem h, List.map_append, List.sum_append]
  simp
theorem pairsFrom_length (sp : List S32) : ∀ c, (pairsFrom c sp).length = pos sp sp.length := by
  induction sp with
  | nil => intro c; rfl
  | cons s t ih =>
    intro c
    have := ih (c + 1)
    simp only [pairsFrom, List.length_append, List.length_map, List.length_range, this, pos, List.take_length, List.length_cons, List.map_cons, List.sum_cons, List.take_succ_cons]
theorem pairs_length (sp : List S32) : (pairs sp).length = pos sp sp.length := pairsFrom_length sp 0
theorem pairsFrom_get (sp : List S32) : ∀ (c i k : Nat) (h : i < sp.length), k < (sp[i].f1).toNat → (pairsFrom c sp).getD (pos sp i + k) (0, 0) = (sp[i].f0 + (k : Int), ((c + i : Nat) : Int)) := by
  induction sp with
  | nil => intro c i k h; exact absurd h (by simp)
  | cons s t ih =>
    intro c i k h hk
    cases i with
    | zero =>
      simp only [List.getElem_cons_zero] at hk ⊢
      rw [pos_zero, Nat.zero_add]
      simp only [pairsFrom]
      rw [List.getD_eq_getElem?_getD, List.getElem?_append_left (by simpa using hk), List.getElem?_map, List.getElem?_range hk]
      rfl
    | succ i =>
      simp only [List.getElem_cons_succ] at hk ⊢
      have hi : i < t.length := by simpa using h
      have hp : pos (s :: t) (i + 1) = s.f1.toNat + pos t i := by simp [pos, List.take_succ_cons]
      have h2 := ih (c + 1) i k hi hk
      simp only [pairsFrom]
      rw [List.getD_eq_getElem?_getD, List.getElem?_append_right (by simp [hp]; omega), ← List.getD_eq_getElem?_getD]
      have e1 : pos (s :: t) (i + 1) + k - ((List.range s.f1.toNat).map fun (k : Nat) => (s.f0 + (k : Int), (c : Int))).length = pos t i + k := by
        rw [List.length_map, List.length_range, hp]
        omega
      rw [e1, h2]
      have e2 : c + 1 + i = c + (i + 1) := by omega
      rw [e2]
theorem qs_get (sp : List S32) (i k : Nat) (h : i < sp.length) (hk : k < (sp[i].f1).toNat) : qs sp (pos sp i + k) = (sp[i].f0 + (k : Int), (i : Int)) := by
  have := pairsFrom_get sp 0 i k h hk
  rw [Nat.zero_add] at this
  exact this
theorem pos_le (sp : List S32) : ∀ (i : Nat), i ≤ sp.length → pos sp i ≤ (pairs sp).length := by
  intro i hi
  rw [pairs_length]
  unfold pos
  have e : sp.take sp.length = sp.take i ++ sp.drop i := by rw [List.take_append_drop, List.take_length]
  rw [e, List.map_append, List.sum_append]
  omega
theorem pos_lt (sp : List S32) (i k : Nat) (h : i < sp.length) (hk : k < (sp[i].f1).toNat) : pos sp i + k < (pairs sp).length := by
  have h1 := pos_succ sp i h
  have h2 := pos_le sp (i + 1) (by omega)
  omega

/-- Who has which queue when j of them have been gone through. -/
def outAt (sp : List S32) : Nat → List Int
  | 0 => List.replicate 64 0
  | j + 1 => (outAt sp j).set (qs sp j).1.toNat ((qs sp j).2 + 1)
theorem outAt_length (sp : List S32) : ∀ j, (outAt sp j).length = 64
  | 0 => by simp [outAt]
  | j + 1 => by simp [outAt, outAt_length sp j]
/-- The queue that comes next has an owner. -/
def hits (sp : List S32) (j : Nat) : Bool := decide (rd (outAt sp j) (qs sp j).1 > 0)
def firstHit (sp : List S32) : Option Nat := (List.range (pairs sp).length).find? (hits sp)
def ownOut (sp : List S32) : List Int := match firstHit sp with | some j => outAt sp j | none => outAt sp (pairs sp).length
def ownOne (sp : List S32) : Bool := (firstHit sp).isNone
theorem firstHit_none (sp : List S32) (h : ∀ i, i < (pairs sp).length → hits sp i = false) : firstHit sp = none := by
  unfold firstHit
  rw [List.find?_eq_none]
  intro i hi
  rw [h i (by simpa using hi)]
  decide
theorem firstHit_some (sp : List S32) (j : Nat) (hj : j < (pairs sp).length) (h : hits sp j = true) (hn : ∀ i, i < j → hits sp i = false) : firstHit sp = some j := by
  unfold firstHit
  rw [List.find?_range_eq_some]
  exact ⟨h, by simpa using hj, fun i hi => by rw [hn i hi]; rfl⟩
theorem hits_zero (sp : List S32) : hits sp 0 = false := by
  unfold hits
  refine decide_eq_false ?_
  have : rd (outAt sp 0) (qs sp 0).1 = 0 := by
    simp only [outAt, rd]
    rw [List.getD_eq_getElem?_getD, List.getElem?_replicate]
    split <;> rfl
  omega
/-- Every queue that is gone through is one of sixty-four. -/
theorem qs_range (sp : List S32) (Q : Int) (hQ : Q ≤ 64) (hs : ∀ s ∈ sp, okS Q s = true) (hlen : sp.length ≤ 1000) (j : Nat) : 0 ≤ (qs sp j).1 ∧ (qs sp j).1 < 64 ∧ 0 ≤ (qs sp j).2 ∧ (qs sp j).2 ≤ 2000 := by
  have hp : ∀ c (l : List S32), (∀ s ∈ l, okS Q s = true) → ∀ p ∈ pairsFrom c l, 0 ≤ p.1 ∧ p.1 < 64 ∧ 0 ≤ p.2 ∧ p.2 ≤ (c : Int) + l.length := by
    intro c l
    induction l generalizing c with
    | nil => intro _ p hp; exact absurd hp (by simp [pairsFrom])
    | cons s t ih =>
      intro hl p hp
      simp only [pairsFrom, List.mem_append, List.mem_map, List.mem_range] at hp
      have h1 := (okS_iff Q s).1 (hl s (by simp))
      rcases hp with ⟨k, hk, rfl⟩ | hp
      · simp only [List.length_cons]
        omega
      · have := ih (c + 1) (fun x hx => hl x (by simp [hx])) p hp
        simp only [List.length_cons]
        omega
  unfold qs
  rw [List.getD_eq_getElem?_getD]
  by_cases hj : j < (pairs sp).length
  · rw [List.getElem?_eq_getElem hj]
    have := hp 0 sp hs _ (List.getElem_mem hj)
    simp only [Option.getD_some]
    omega
  · rw [List.getElem?_eq_none (by omega)]
    simp
end Go.Proofs.Ytafmgnojlnkmjaa.H
