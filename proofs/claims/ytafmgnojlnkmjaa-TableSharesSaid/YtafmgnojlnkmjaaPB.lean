/- Whether each queue has but one owner: by the list of queues, by the spans, and by the document: plain facts on lists. -/
import Derived.Test.YtafmgnojlnkmjaaH3
import Derived.Test.YtafmgnojlnkmjaaQLx5
namespace Go.Proofs.Ytafmgnojlnkmjaa.PB
open Go.RowKit Go.Proofs.YtafmgnojlnkmjaaW.PrintWords Go.Proofs.YtafmgnojlnkmjaaW.PrintLast Go.Proofs.YtafmgnojlnkmjaaW.PrintMore
open Go.Proofs.Ytafmgnojlnkmjaa.QL Go.Proofs.Ytafmgnojlnkmjaa.H
set_option linter.unusedVariables false
set_option linter.unusedSimpArgs false

/-- A queue lies in a span. -/
def inS (q : Int) (s : S32) : Prop := s.f0 ≤ q ∧ q - s.f0 < s.f1
instance (q : Int) (s : S32) : Decidable (inS q s) := by unfold inS; exact inferInstance
def lies (sp : List S32) (q : Int) (a : Nat) : Prop := ∃ h : a < sp.length, inS q sp[a]
/-- No queue lies in two. -/
def apart (sp : List S32) : Prop := ∀ a b q, lies sp q a → lies sp q b → a = b

theorem getD_set (l : List Int) (i j : Nat) (v : Int) (hi : i < l.length) : (l.set i v).getD j 0 = if i = j then v else l.getD j 0 := by
  rw [List.getD_eq_getElem?_getD, List.getD_eq_getElem?_getD, List.getElem?_set]
  by_cases h : i = j
  · subst h; simp [hi]
  · simp [h]
theorem pos_split (sp : List S32) : ∀ (n j : Nat), n ≤ sp.length → j < pos sp n → ∃ a k, ∃ h : a < sp.length, k < (sp[a].f1).toNat ∧ j = pos sp a + k
  | 0, j, _, h => by rw [pos_zero] at h; omega
  | n + 1, j, hn, h => by
    have hlt : n < sp.length := by omega
    rw [pos_succ sp n hlt] at h
    by_cases h2 : j < pos sp n
    · exact pos_split sp n j (by omega) h2
    · exact ⟨n, j - pos sp n, hlt, by omega, by omega⟩
theorem pos_mono (sp : List S32) (a b : Nat) (hab : a ≤ b) (hb : b ≤ sp.length) : pos sp a ≤ pos sp b := by
  induction b with
  | zero => have : a = 0 := by omega
            subst this; exact Nat.le_refl _
  | succ b ih =>
    by_cases e : a = b + 1
    · subst e; exact Nat.le_refl _
    · have := ih (by omega) (by omega)
      rw [pos_succ sp b (by omega)]
      omega

variable {sp : List S32} {Q : Int}
theorem rd_outAt (hQ : Q ≤ 64) (hs : ∀ s ∈ sp, okS Q s = true) (hlen : sp.length ≤ 1000) : ∀ (j : Nat) (q : Int), 0 ≤ q → q < 64 →
    (rd (outAt sp j) q = 0 ∧ ∀ i, i < j → (qs sp i).1 ≠ q) ∨ (∃ i, i < j ∧ (qs sp i).1 = q ∧ rd (outAt sp j) q = (qs sp i).2 + 1)
  | 0, q, h0, h1 => .inl ⟨by
      simp only [outAt, rd]
      rw [List.getD_eq_getElem?_getD, List.getElem?_replicate]
      split <;> rfl, fun i hi => absurd hi (by omega)⟩
  | j + 1, q, h0, h1 => by
    have hr := qs_range sp Q hQ hs hlen j
    have hl := outAt_length sp j
    have e : rd (outAt sp (j + 1)) q = if (qs sp j).1.toNat = q.toNat then (qs sp j).2 + 1 else rd (outAt sp j) q := by
      simp only [outAt, rd]
      exact getD_set _ _ _ _ (by rw [hl]; omega)
    by_cases hq : (qs sp j).1 = q
    · exact .inr ⟨j, by omega, hq, by rw [e, if_pos (by omega)]⟩
    · rw [e, if_neg (by omega)]
      rcases rd_outAt hQ hs hlen j q h0 h1 with ⟨h2, h3⟩ | ⟨i, h2, h3, h4⟩
      · exact .inl ⟨h2, fun i hi => by
          by_cases ei : i = j
          · subst ei; exact hq
          · exact h3 i (by omega)⟩
      · exact .inr ⟨i, by omega, h3, h4⟩
theorem hits_iff (hQ : Q ≤ 64) (hs : ∀ s ∈ sp, okS Q s = true) (hlen : sp.length ≤ 1000) (j : Nat) : hits sp j = true ↔ ∃ i, i < j ∧ (qs sp i).1 = (qs sp j).1 := by
  have hr := qs_range sp Q hQ hs hlen j
  unfold hits
  rw [decide_eq_true_iff]
  rcases rd_outAt hQ hs hlen j (qs sp j).1 hr.1 hr.2.1 with ⟨h1, h2⟩ | ⟨i, h1, h2, h3⟩
  · constructor
    · intro h; omega
    · rintro ⟨i, hi, he⟩; exact absurd he (h2 i hi)
  · have hi := qs_range sp Q hQ hs hlen i
    exact ⟨fun _ => ⟨i, h1, h2⟩, fun _ => by omega⟩
theorem lies_qs (hs : ∀ s ∈ sp, okS Q s = true) {j : Nat} (hj : j < (pairs sp).length) : ∃ a k, ∃ h : a < sp.length, k < (sp[a].f1).toNat ∧ j = pos sp a + k ∧ qs sp j = (sp[a].f0 + (k : Int), (a : Int)) ∧ lies sp (qs sp j).1 a := by
  rw [pairs_length] at hj
  obtain ⟨a, k, h, hk, rfl⟩ := pos_split sp sp.length j (Nat.le_refl _) hj
  have hq := qs_get sp a k h hk
  refine ⟨a, k, h, hk, rfl, hq, h, ?_⟩
  rw [hq]
  constructor <;> dsimp only <;> omega
theorem qs_lies (hs : ∀ s ∈ sp, okS Q s = true) {a : Nat} {q : Int} (hl : lies sp q a) : ∃ j, j < (pairs sp).length ∧ qs sp j = (q, (a : Int)) := by
  obtain ⟨h, h1, h2⟩ := hl
  have hk : (q - sp[a].f0).toNat < (sp[a].f1).toNat := by omega
  refine ⟨pos sp a + (q - sp[a].f0).toNat, pos_lt sp a _ h hk, ?_⟩
  rw [qs_get sp a _ h hk]
  congr 1
  omega
theorem ownOne_iff (hQ : Q ≤ 64) (hs : ∀ s ∈ sp, okS Q s = true) (hlen : sp.length ≤ 1000) : ownOne sp = true ↔ apart sp := by
  constructor
  · intro h a b q ha hb
    have hn : ∀ j, j < (pairs sp).length → hits sp j = false := by
      intro j hj
      have h' : firstHit sp = none := by simpa [ownOne] using h
      unfold firstHit at h'
      rw [List.find?_eq_none] at h'
      simpa using h' j (by simpa using hj)
    obtain ⟨i, hi, ei⟩ := qs_lies hs ha
    obtain ⟨j, hj, ej⟩ := qs_lies hs hb
    rcases Nat.lt_trichotomy i j with hij | hij | hij
    · have := (hits_iff hQ hs hlen j).2 ⟨i, hij, by rw [ei, ej]⟩
      rw [hn j hj] at this; cases this
    · subst hij
      rw [ei] at ej
      have := (Prod.mk.inj ej).2
      omega
    · have := (hits_iff hQ hs hlen i).2 ⟨j, hij, by rw [ei, ej]⟩
      rw [hn i hi] at this; cases this
  · intro h
    have hn : ∀ j, j < (pairs sp).length → hits sp j = false := by
      intro j hj
      cases hh : hits sp j with
      | false => rfl
      | true =>
        obtain ⟨i, hi, he⟩ := (hits_iff hQ hs hlen j).1 hh
        obtain ⟨a, k, ha, hk, rfl, e1, l1⟩ := lies_qs hs hj
        obtain ⟨b, l, hb, hl, rfl, e2, l2⟩ := lies_qs hs (show i < (pairs sp).length by omega)
        rw [he] at l2
        have := h a b _ l1 l2
        subst this
        rw [e1, e2] at he
        dsimp only at he
        omega
    unfold ownOne
    rw [firstHit_none sp hn]
    rfl
theorem rd_ownOut (hQ : Q ≤ 64) (hs : ∀ s ∈ sp, okS Q s = true) (hlen : sp.length ≤ 1000) (ho : ownOne sp = true) (q : Int) (h0 : 0 ≤ q) (h1 : q < 64) :
    (rd (ownOut sp) q = 0 ∧ ∀ a, ¬ lies sp q a) ∨ (∃ a, lies sp q a ∧ rd (ownOut sp) q = (a : Int) + 1) := by
  have e : ownOut sp = outAt sp (pairs sp).length := by
    have h' : firstHit sp = none := by simpa [ownOne] using ho
    unfold ownOut
    rw [h']
  rw [e]
  rcases rd_outAt hQ hs hlen (pairs sp).length q h0 h1 with ⟨h2, h3⟩ | ⟨i, h2, h3, h4⟩
  · exact .inl ⟨h2, fun a ha => by
      obtain ⟨j, hj, ej⟩ := qs_lies hs ha
      exact h3 j hj (by rw [ej])⟩
  · obtain ⟨a, k, ha, hk, rfl, e1, l1⟩ := lies_qs hs h2
    rw [h3] at l1
    exact .inr ⟨a, l1, by rw [h4, e1]⟩

/-- The first span from i on in which a queue lies; -1: none. -/
def firstIn (sp : List S32) (q : Int) : Nat → Nat → Int
  | 0, _ => -1
  | d + 1, i => if inS q (rd_T32 sp (i : Int)) then (i : Int) else firstIn sp q d (i + 1)
theorem firstIn_spec (sp : List S32) (q : Int) : ∀ (d i : Nat), i + d = sp.length → (firstIn sp q d i = -1 ∧ ∀ a, i ≤ a → ¬ lies sp q a) ∨ (∃ a, i ≤ a ∧ lies sp q a ∧ firstIn sp q d i = (a : Int) ∧ ∀ b, i ≤ b → b < a → ¬ lies sp q b)
  | 0, i, h => .inl ⟨rfl, fun a ha hl => by obtain ⟨h2, _⟩ := hl; omega⟩
  | d + 1, i, h => by
    have hi : i < sp.length := by omega
    have e := rdS_get sp i hi
    simp only [firstIn]
    by_cases hq : inS q (rd_T32 sp (i : Int))
    · rw [if_pos hq]
      exact .inr ⟨i, Nat.le_refl _, ⟨hi, e ▸ hq⟩, rfl, fun b h1 h2 => by omega⟩
    · rw [if_neg hq]
      have hn : ¬ lies sp q i := fun hl => by obtain ⟨h2, h3⟩ := hl; rw [e] at hq; exact hq h3
      rcases firstIn_spec sp q d (i + 1) (by omega) with ⟨h1, h2⟩ | ⟨a, h1, h2, h3, h4⟩
      · exact .inl ⟨h1, fun a ha => by
          by_cases ea : a = i
          · subst ea; exact hn
          · exact h2 a (by omega)⟩
      · exact .inr ⟨a, by omega, h2, h3, fun b hb1 hb2 => by
          by_cases eb : b = i
          · subst eb; exact hn
          · exact h4 b (by omega) hb2⟩
def ownerI (sp : List S32) (q : Int) : Int := firstIn sp q sp.length 0
theorem owner_eq (hQ : Q ≤ 64) (hs : ∀ s ∈ sp, okS Q s = true) (hlen : sp.length ≤ 1000) (ho : ownOne sp = true) (q : Int) (h0 : 0 ≤ q) (h1 : q < 64) : rd (ownOut sp) q - 1 = ownerI sp q := by
  have hap := (ownOne_iff hQ hs hlen).1 ho
  unfold ownerI
  rcases firstIn_spec sp q sp.length 0 (by omega) with ⟨h2, h3⟩ | ⟨a, h2, h3, h4, h5⟩
  · rcases rd_ownOut hQ hs hlen ho q h0 h1 with ⟨h6, h7⟩ | ⟨b, h6, h7⟩
    · omega
    · exact absurd h6 (h3 b (by omega))
  · rcases rd_ownOut hQ hs hlen ho q h0 h1 with ⟨h6, h7⟩ | ⟨b, h6, h7⟩
    · exact absurd h3 (h7 a)
    · have := hap a b q h3 h6
      omega

/-! The document's answers. -/
theorem in_eq (hQ : Q ≤ 64) {s : S32} (hs : okS Q s = true) {q : Int} (h0 : 0 ≤ q) (h1 : q < 64) : waymasterref08_in.f q s.f0 s.f1 = some (decide (inS q s)) := by
  obtain ⟨a, b, c, d⟩ := (okS_iff Q s).1 hs
  unfold waymasterref08_in.f
  have hw : wrap64 (q - s.f0) = q - s.f0 := by unfold wrap64; omega
  rw [hw]
  by_cases h : q ≥ s.f0
  · rw [if_pos h]
    exact congrArg some (decide_eq_decide.2 ⟨fun x => ⟨h, x⟩, fun x => x.2⟩)
  · rw [if_neg h]
    exact congrArg some (decide_eq_false (fun x : inS q s => h x.1)).symm
theorem rdS_mem {i : Nat} (h : i < sp.length) : rd_T32 sp (i : Int) ∈ sp := by
  rw [rdS_get sp i h]
  exact List.getElem_mem h
theorem owner_l0 (hQ : Q ≤ 64) (hs : ∀ s ∈ sp, okS Q s = true) (hlen : sp.length ≤ 20) (Q' : Int) (cls : List Int) {q : Int} (h0 : 0 ≤ q) (h1 : q < 64) : ∀ (d k i : Nat), i + d = sp.length → d < k → waymasterref08_owner.l0 k q (i : Int) Q' cls sp = some (firstIn sp q d i)
  | d, 0, i, _, hk => absurd hk (by omega)
  | 0, k + 1, i, h, _ => by
    simp only [waymasterref08_owner.l0]
    rw [if_neg (by omega)]
    rfl
  | d + 1, k + 1, i, h, hk => by
    have hi : i < sp.length := by omega
    simp only [waymasterref08_owner.l0, firstIn]
    rw [if_pos (by omega), if_pos (by omega), in_eq hQ (hs _ (rdS_mem hi)) h0 h1, Option.bind_some]
    by_cases hq : inS q (rd_T32 sp (i : Int))
    · rw [if_pos (decide_eq_true hq), if_pos hq]
    · rw [if_neg (by simpa using hq), if_neg hq]
      have hw : wrap64 ((i : Int) + 1) = ((i + 1 : Nat) : Int) := by unfold wrap64; omega
      rw [hw]
      exact owner_l0 hQ hs hlen Q' cls h0 h1 d k (i + 1) (by omega) (by omega)
end Go.Proofs.Ytafmgnojlnkmjaa.PB
