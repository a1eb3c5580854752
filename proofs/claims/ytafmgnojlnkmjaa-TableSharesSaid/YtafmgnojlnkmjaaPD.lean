/- A priority's class and span, what has moved: plain facts on lists. -/
import Derived.Test.YtafmgnojlnkmjaaPC
import Derived.Test.YtafmgnojlnkmjaaQLx4
import Derived.Test.YtafmgnojlnkmjaaQLx13
import Derived.Test.YtafmgnojlnkmjaaQLx14
namespace Go.Proofs.Ytafmgnojlnkmjaa.PB
open Go.RowKit Go.Proofs.YtafmgnojlnkmjaaW.PrintWords Go.Proofs.YtafmgnojlnkmjaaW.PrintLast Go.Proofs.YtafmgnojlnkmjaaW.PrintMore
open Go.Proofs.Ytafmgnojlnkmjaa.QL Go.Proofs.Ytafmgnojlnkmjaa.H
set_option linter.unusedVariables false
set_option linter.unusedSimpArgs false

theorem take_20 {α : Type} (l : List α) : (l.take 20).length ≤ 20 := by rw [List.length_take]; omega
theorem take_len {α : Type} (l : List α) : (l.take 20).length = min l.length 20 := by rw [List.length_take]; omega
theorem take_le {α : Type} {l : List α} {c : Nat} (h : l.length ≤ c) : (l.take 20).length ≤ c := by rw [List.length_take]; omega
theorem take_C {α : Type} {k : Kd α} {w : World} {A : Option Addr} {xs : List α} (h : k.C w A xs.length xs) : k.C w A (xs.take 20).length (xs.take 20) := by
  by_cases h2 : 20 ≤ xs.length
  · exact Kd.C_take h h2
  · rw [List.take_of_length_le (by omega)]
    exact h
theorem shown_d : ∀ d, waymasterlaw08_shown.f (40 + d) = some true
  | 0 => by decide +kernel
  | d + 1 => waymasterlaw08_shown.mono (40 + d) _ (shown_d d)
theorem shown_true {k : Nat} (hk : 40 ≤ k) : waymasterlaw08_shown.f k = some true := by
  obtain ⟨d, rfl⟩ : ∃ d, k = 40 + d := ⟨k - 40, by omega⟩
  exact shown_d d

def classP (Q : Int) (cls : List Int) (sp : List S32) (n : Int) : Int × Int := if rightB Q cls sp = true then (if 0 ≤ n ∧ n < 16 then (rd cls n, 0) else (0, 2)) else (0, 80)
def spanP (Q : Int) (cls : List Int) (sp : List S32) (n : Int) : Int × Int × Int := if rightB Q cls sp = true then (if 0 ≤ n ∧ n < 16 then ((rd_T32 sp (rd cls n)).f0, (rd_T32 sp (rd cls n)).f1, 0) else (0, 0, 2)) else (0, 0, 80)
theorem rdI_mem {l : List Int} {n : Int} (h0 : 0 ≤ n) (h1 : n < (l.length : Int)) : rd l n ∈ l := by
  have hn : n.toNat < l.length := by omega
  have e : rd l n = l[n.toNat] := by simp [rd, hn]
  rw [e]
  exact List.getElem_mem hn
theorem class_range {Q : Int} {cls : List Int} {sp : List S32} (hr : rightB Q cls sp = true) {n : Int} (h0 : 0 ≤ n) (h1 : n < 16) : 0 ≤ rd cls n ∧ rd cls n < (sp.length : Int) := by
  obtain ⟨r1, r2, r3, r4, r5, r6, r7, r8⟩ := right_parts hr
  have := r7 _ (rdI_mem (l := cls) h0 (by omega))
  unfold okC at this
  simp only [Bool.and_eq_true, decide_eq_true_eq] at this
  exact this
theorem class_f (Q : Int) (cls : List Int) (sp : List S32) (n : Int) : table_ClassOf.f Q cls sp n = some (classP Q cls sp n) := by
  unfold table_ClassOf.f classP
  have e : table_Right.f Q cls sp = some (rightB Q cls sp) := rfl
  rw [e, Option.bind_some]
  cases hr : rightB Q cls sp with
  | false => rw [if_neg (by decide), if_neg (by decide)]
  | true =>
    obtain ⟨r1, r2, r3, r4, r5, r6, r7, r8⟩ := right_parts hr
    rw [if_pos rfl, if_pos rfl]
    by_cases h1 : n < 0
    · rw [if_pos h1, if_neg (by omega)]
    by_cases h2 : n ≥ 16
    · rw [if_neg h1, if_pos h2, if_neg (by omega)]
    rw [if_neg h1, if_neg h2, if_pos (by omega), if_pos (by omega), if_pos (by omega)]
theorem rclass_f (Q : Int) (cls : List Int) (sp : List S32) (hc : cls.length ≤ 20) (hlen : sp.length ≤ 20) (n : Int) {k : Nat} (hk : 200 < k) : waymasterref08_ClassOf.f k Q cls sp n = some (classP Q cls sp n) := by
  rw [← class_f]
  unfold table_ClassOf.f waymasterref08_ClassOf.f
  rw [ref_right Q cls sp hc hlen hk]
  rfl
theorem span_f (Q : Int) (cls : List Int) (sp : List S32) (n : Int) : table_SpanOf.f Q cls sp n = some (spanP Q cls sp n) := by
  unfold table_SpanOf.f spanP
  rw [class_f, Option.bind_some]
  unfold classP
  cases hr : rightB Q cls sp with
  | false => rfl
  | true =>
    rw [if_pos rfl, if_pos rfl]
    by_cases h : 0 ≤ n ∧ n < 16
    · have h2 := class_range hr h.1 h.2
      rw [if_pos h, if_pos h, if_pos rfl, if_pos h2.1, if_pos h2.2]
    · rw [if_neg h, if_neg h]
      rfl
theorem rspan_f (Q : Int) (cls : List Int) (sp : List S32) (hc : cls.length ≤ 20) (hlen : sp.length ≤ 20) (n : Int) {k : Nat} (hk : 200 < k) : waymasterref08_SpanOf.f k Q cls sp n = some (spanP Q cls sp n) := by
  rw [← span_f]
  unfold table_SpanOf.f waymasterref08_SpanOf.f
  rw [rclass_f Q cls sp hc hlen n hk, class_f]
/-- The queue at which a span begins is its class's. -/
theorem owner_of {Q : Int} {cls : List Int} {sp : List S32} (hr : rightB Q cls sp = true) {a : Nat} {q : Int} (hl : lies sp q a) : ownerP Q cls sp q = ((a : Int), 0) := by
  obtain ⟨r1, r2, r3, r4, r5, r6, r7, r8⟩ := right_parts hr
  have hq := lies_range r6 hl
  have hap := (ownOne_iff r2 r6 (by omega)).1 r8
  have ha : a < sp.length := hl.1
  unfold ownerP
  rw [if_pos hr, if_pos hq]
  rcases rd_ownOut r2 r6 (by omega) r8 q hq.1 (by omega) with ⟨h1, h2⟩ | ⟨b, h1, h2⟩
  · exact absurd hl (h2 a)
  · have := hap a b q hl h1
    subst this
    rw [h2]
    congr 1
    unfold wrap64
    omega
theorem owner_none {Q : Int} {cls : List Int} {sp : List S32} (hr : rightB Q cls sp = true) {q : Int} (h0 : 0 ≤ q) (h1 : q < Q) : (ownerP Q cls sp q).2 = 0 ∧ (rd (ownOut sp) q = 0 ↔ (ownerP Q cls sp q).1 = -1) := by
  obtain ⟨r1, r2, r3, r4, r5, r6, r7, r8⟩ := right_parts hr
  unfold ownerP
  rw [if_pos hr, if_pos ⟨h0, h1⟩]
  refine ⟨rfl, ?_⟩
  dsimp only
  rcases rd_ownOut r2 r6 (by omega) r8 q h0 (by omega) with ⟨h2, h3⟩ | ⟨b, h2, h3⟩
  · rw [h2]; simp [wrap64]
  · have hb := h2.1
    rw [h3]
    have : wrap64 ((b : Int) + 1 - 1) = (b : Int) := by unfold wrap64; omega
    rw [this]
    omega

/-! What has moved. -/
def differ (s t : S32) : Bool := (!(s.f0 == t.f0) || (!(s.f1 == t.f1)))
def mv (c1 : List Int) (s1 : List S32) (c2 : List Int) (s2 : List S32) (p : Int) : Bool := differ (rd_T32 s1 (rd c1 p)) (rd_T32 s2 (rd c2 p))
def movedTo (c1 : List Int) (s1 : List S32) (c2 : List Int) (s2 : List S32) : Nat → List Int
  | 0 => []
  | k + 1 => if mv c1 s1 c2 s2 (k : Int) = true then movedTo c1 s1 c2 s2 k ++ [(k : Int)] else movedTo c1 s1 c2 s2 k
theorem movedTo_length (c1 : List Int) (s1 : List S32) (c2 : List Int) (s2 : List S32) : ∀ k, (movedTo c1 s1 c2 s2 k).length ≤ k
  | 0 => by simp [movedTo]
  | k + 1 => by
    have := movedTo_length c1 s1 c2 s2 k
    simp only [movedTo]
    split
    · rw [List.length_append, List.length_cons, List.length_nil]; omega
    · omega
theorem moved_l0 {Q1 Q2 : Int} {c1 c2 : List Int} {s1 s2 : List S32} (h1 : rightB Q1 c1 s1 = true) (h2 : rightB Q2 c2 s2 = true) : ∀ (d k p : Nat), p + d = 16 → d < k → table_Moved.l0 k (movedTo c1 s1 c2 s2 p) (p : Int) Q1 c1 s1 Q2 c2 s2 = some (movedTo c1 s1 c2 s2 16, 0)
  | d, 0, p, _, hk => absurd hk (by omega)
  | 0, k + 1, p, h, _ => by
    simp only [table_Moved.l0]
    have e : p = 16 := by omega
    subst e
    rw [if_neg (by decide)]
  | d + 1, k + 1, p, h, hk => by
    have hw : wrap64 ((p : Int) + 1) = ((p + 1 : Nat) : Int) := by unfold wrap64; omega
    have ih := moved_l0 h1 h2 d k (p + 1) (by omega) (by omega)
    have hp : (p : Int) < 16 := by omega
    have hz : (0 : Int) ≤ (p : Int) := by omega
    have a1 := class_range h1 hz hp
    have a2 := class_range h2 hz hp
    obtain ⟨_, _, _, _, e1, _⟩ := right_parts h1
    obtain ⟨_, _, _, _, e2, _⟩ := right_parts h2
    have hl := movedTo_length c1 s1 c2 s2 p
    have hst : movedTo c1 s1 c2 s2 (p + 1) = if mv c1 s1 c2 s2 (p : Int) = true then movedTo c1 s1 c2 s2 p ++ [(p : Int)] else movedTo c1 s1 c2 s2 p := rfl
    rw [hst] at ih
    simp only [table_Moved.l0]
    rw [if_pos hp, if_pos hz, if_pos (by omega), if_pos a1.1, if_pos a1.2, if_pos (by omega), if_pos a2.1, if_pos a2.2, hw]
    by_cases hm : mv c1 s1 c2 s2 (p : Int) = true
    · rw [if_pos hm] at ih
      have hm' := hm
      unfold mv differ at hm'
      rw [if_pos hm', if_pos (by omega)]
      exact ih
    · rw [if_neg hm] at ih
      have hm' := hm
      unfold mv differ at hm'
      rw [if_neg hm']
      exact ih
def movedP (Q1 : Int) (c1 : List Int) (s1 : List S32) (Q2 : Int) (c2 : List Int) (s2 : List S32) : List Int × Int := if rightB Q1 c1 s1 = true ∧ rightB Q2 c2 s2 = true then (movedTo c1 s1 c2 s2 16, 0) else ([], 80)
theorem moved_f (Q1 : Int) (c1 : List Int) (s1 : List S32) (Q2 : Int) (c2 : List Int) (s2 : List S32) {k : Nat} (hk : 40 < k) : table_Moved.f k Q1 c1 s1 Q2 c2 s2 = some (movedP Q1 c1 s1 Q2 c2 s2) := by
  obtain ⟨k, rfl⟩ : ∃ m, k = m + 1 := ⟨k - 1, by omega⟩
  have e1 : table_Right.f Q1 c1 s1 = some (rightB Q1 c1 s1) := rfl
  have e2 : table_Right.f Q2 c2 s2 = some (rightB Q2 c2 s2) := rfl
  unfold table_Moved.f movedP
  rw [e1, e2, Option.bind_some, Option.bind_some]
  cases h1 : rightB Q1 c1 s1 with
  | false => rw [if_neg (by decide), if_neg (by simp)]; simp only [table_Moved.j0]; rfl
  | true =>
    cases h2 : rightB Q2 c2 s2 with
    | false => rw [if_pos rfl, if_neg (by simp)]; simp only [table_Moved.j0]; rfl
    | true =>
      rw [if_pos rfl, if_pos ⟨rfl, rfl⟩]
      simp only [table_Moved.j0]
      rw [if_neg (by decide)]
      exact moved_l0 h1 h2 16 k 0 rfl (by omega)
theorem rmoved_same : ∀ (k : Nat) (x : List Int) (p Q1 : Int) (c1 : List Int) (s1 : List S32) (Q2 : Int) (c2 : List Int) (s2 : List S32), waymasterref08_Moved.l0 k x p Q1 c1 s1 Q2 c2 s2 = table_Moved.l0 k x p Q1 c1 s1 Q2 c2 s2
  | 0, _, _, _, _, _, _, _, _ => rfl
  | k + 1, x, p, Q1, c1, s1, Q2, c2, s2 => by
    simp only [waymasterref08_Moved.l0, table_Moved.l0, rmoved_same k]
theorem rmoved_f (Q1 : Int) (c1 : List Int) (s1 : List S32) (Q2 : Int) (c2 : List Int) (s2 : List S32) (l1 : c1.length ≤ 20) (l2 : s1.length ≤ 20) (l3 : c2.length ≤ 20) (l4 : s2.length ≤ 20) {k : Nat} (hk : 200 < k) : waymasterref08_Moved.f k Q1 c1 s1 Q2 c2 s2 = some (movedP Q1 c1 s1 Q2 c2 s2) := by
  obtain ⟨k, rfl⟩ : ∃ m, k = m + 1 := ⟨k - 1, by omega⟩
  unfold waymasterref08_Moved.f movedP
  rw [ref_right Q1 c1 s1 l1 l2 hk, ref_right Q2 c2 s2 l3 l4 hk, Option.bind_some, Option.bind_some]
  cases h1 : rightB Q1 c1 s1 with
  | false => rw [if_neg (by decide), if_neg (by simp)]; simp only [waymasterref08_Moved.j0]; rfl
  | true =>
    cases h2 : rightB Q2 c2 s2 with
    | false => rw [if_pos rfl, if_neg (by simp)]; simp only [waymasterref08_Moved.j0]; rfl
    | true =>
      rw [if_pos rfl, if_pos ⟨rfl, rfl⟩]
      simp only [waymasterref08_Moved.j0]
      rw [if_neg (by decide), rmoved_same]
      exact moved_l0 h1 h2 16 k 0 rfl (by omega)
theorem differ_comm (s t : S32) : differ s t = differ t s := by
  unfold differ
  rw [Bool.beq_comm (a := s.f0), Bool.beq_comm (a := s.f1)]
theorem differ_self (s : S32) : differ s s = false := by simp [differ]
theorem movedTo_comm (c1 : List Int) (s1 : List S32) (c2 : List Int) (s2 : List S32) : ∀ k, movedTo c1 s1 c2 s2 k = movedTo c2 s2 c1 s1 k
  | 0 => rfl
  | k + 1 => by
    have e : mv c1 s1 c2 s2 (k : Int) = mv c2 s2 c1 s1 (k : Int) := differ_comm _ _
    simp only [movedTo, movedTo_comm c1 s1 c2 s2 k, e]
theorem movedTo_self (c1 : List Int) (s1 : List S32) : ∀ k, movedTo c1 s1 c1 s1 k = []
  | 0 => rfl
  | k + 1 => by
    have e : mv c1 s1 c1 s1 (k : Int) = false := differ_self _
    simp only [movedTo, movedTo_self c1 s1 k, e]
    rfl
end Go.Proofs.Ytafmgnojlnkmjaa.PB
