/- The document's Right, Owner and Idle are the program's: plain facts on lists. -/
import Derived.Test.YtafmgnojlnkmjaaPB
import Derived.Test.YtafmgnojlnkmjaaQLx6
import Derived.Test.YtafmgnojlnkmjaaQLx7
import Derived.Test.YtafmgnojlnkmjaaQLx18
import Derived.Test.YtafmgnojlnkmjaaQLx15
namespace Go.Proofs.Ytafmgnojlnkmjaa.PB
open Go.RowKit Go.Proofs.YtafmgnojlnkmjaaW.PrintWords Go.Proofs.YtafmgnojlnkmjaaW.PrintLast Go.Proofs.YtafmgnojlnkmjaaW.PrintMore
open Go.Proofs.Ytafmgnojlnkmjaa.QL Go.Proofs.Ytafmgnojlnkmjaa.H
set_option linter.unusedVariables false
set_option linter.unusedSimpArgs false

variable {sp : List S32} {Q : Int}
/-- The document's look for a second owner of a queue. -/
def twice (sp : List S32) (q : Int) : Bool := decide (0 ≤ firstIn sp q sp.length 0) && decide (0 ≤ firstIn sp q (sp.length - ((firstIn sp q sp.length 0).toNat + 1)) ((firstIn sp q sp.length 0).toNat + 1))
def noTwice (sp : List S32) : Nat → Nat → Bool
  | 0, _ => true
  | d + 1, q => !twice sp (q : Int) && noTwice sp d (q + 1)

theorem twice_iff (q : Int) : twice sp q = true ↔ ∃ a b, a ≠ b ∧ lies sp q a ∧ lies sp q b := by
  unfold twice
  rw [Bool.and_eq_true, decide_eq_true_iff, decide_eq_true_iff]
  rcases firstIn_spec sp q sp.length 0 (by omega) with ⟨h2, h3⟩ | ⟨a, h2, h3, h4, h5⟩
  · constructor
    · rintro ⟨h, _⟩; omega
    · rintro ⟨a, b, _, h, _⟩; exact absurd h (h3 a (by omega))
  · rw [h4, Int.toNat_natCast]
    have ha : a < sp.length := h3.1
    rcases firstIn_spec sp q (sp.length - (a + 1)) (a + 1) (by omega) with ⟨h6, h7⟩ | ⟨b, h6, h7, h8, h9⟩
    · rw [h6]
      constructor
      · rintro ⟨_, h⟩; omega
      · rintro ⟨x, y, hne, hx, hy⟩
        have k : ∀ z, lies sp q z → z = a := fun z hz => by
          rcases Nat.lt_trichotomy z a with e | e | e
          · exact absurd hz (h5 z (by omega) e)
          · exact e
          · exact absurd hz (h7 z (by omega))
        exact absurd ((k x hx).trans (k y hy).symm) hne
    · rw [h8]
      exact ⟨fun _ => ⟨a, b, by omega, h3, h7⟩, fun _ => ⟨by omega, by omega⟩⟩
theorem noTwice_iff : ∀ (d q : Nat), noTwice sp d q = true ↔ ∀ x : Nat, q ≤ x → x < q + d → twice sp (x : Int) = false
  | 0, q => ⟨fun _ x h1 h2 => by omega, fun _ => rfl⟩
  | d + 1, q => by
    simp only [noTwice, Bool.and_eq_true, Bool.not_eq_true', noTwice_iff d (q + 1)]
    constructor
    · rintro ⟨h1, h2⟩ x hx1 hx2
      by_cases e : x = q
      · subst e; exact h1
      · exact h2 x (by omega) (by omega)
    · intro h
      exact ⟨h q (by omega) (by omega), fun x h1 h2 => h x (by omega) (by omega)⟩
theorem lies_range (hs : ∀ s ∈ sp, okS Q s = true) {q : Int} {a : Nat} (h : lies sp q a) : 0 ≤ q ∧ q < Q := by
  obtain ⟨ha, h1, h2⟩ := h
  have := (okS_iff Q _).1 (hs _ (List.getElem_mem ha))
  omega
theorem noTwice_own (hQ : Q ≤ 64) (hs : ∀ s ∈ sp, okS Q s = true) (hlen : sp.length ≤ 1000) : noTwice sp Q.toNat 0 = ownOne sp := by
  rw [Bool.eq_iff_iff, noTwice_iff, ownOne_iff hQ hs hlen]
  constructor
  · intro h a b q ha hb
    have hr := lies_range hs ha
    have h2 := h q.toNat (by omega) (by omega)
    rw [Int.toNat_of_nonneg hr.1] at h2
    by_cases e : a = b
    · exact e
    · have := (twice_iff q).2 ⟨a, b, e, ha, hb⟩
      rw [h2] at this
      cases this
  · intro h x h1 h2
    cases ht : twice sp (x : Int) with
    | false => rfl
    | true =>
      obtain ⟨a, b, hne, ha, hb⟩ := (twice_iff _).1 ht
      exact absurd (h a b _ ha hb) hne

theorem right_l2 (Q' : Int) (cls : List Int) (sp : List S32) (hc : cls.length ≤ 20) (hlen : sp.length ≤ 20) : ∀ (d k j : Nat), j + d = cls.length → d < k → waymasterref08_Right.l2 k (j : Int) Q' cls sp = some ((cls.drop j).all (okC sp.length))
  | d, 0, j, _, hk => absurd hk (by omega)
  | 0, k + 1, j, h, _ => by
    simp only [waymasterref08_Right.l2]
    rw [if_neg (by omega), List.drop_of_length_le (by omega)]
    rfl
  | d + 1, k + 1, j, h, hk => by
    have hj : j < cls.length := by omega
    have e := rdI_get cls j hj
    simp only [waymasterref08_Right.l2]
    rw [if_pos (by omega), if_pos (by omega), List.drop_eq_getElem_cons hj, List.all_cons, ← e]
    unfold okC
    by_cases h1 : rd cls (j : Int) < 0
    · rw [if_pos h1, decide_eq_false (show ¬ 0 ≤ rd cls (j : Int) by omega)]
      rfl
    · rw [if_neg h1, decide_eq_true (show 0 ≤ rd cls (j : Int) by omega)]
      by_cases h2 : rd cls (j : Int) ≥ (sp.length : Int)
      · rw [if_pos h2, decide_eq_false (by omega)]
        rfl
      · have hw : wrap64 ((j : Int) + 1) = ((j + 1 : Nat) : Int) := by unfold wrap64; omega
        rw [if_neg h2, decide_eq_true (by omega), hw]
        exact right_l2 Q' cls sp hc hlen d k (j + 1) (by omega) (by omega)
theorem firstIn_range (sp : List S32) (q : Int) (d i : Nat) (h : i + d = sp.length) : -1 ≤ firstIn sp q d i ∧ firstIn sp q d i < sp.length := by
  rcases firstIn_spec sp q d i h with ⟨h1, _⟩ | ⟨a, _, h2, h3, _⟩
  · omega
  · have := h2.1; omega
theorem right_l1 (hQ : Q ≤ 64) (hs : ∀ s ∈ sp, okS Q s = true) (hlen : sp.length ≤ 20) (cls : List Int) (hc : cls.length ≤ 20) : ∀ (d k q : Nat), q + d = Q.toNat → d + 40 < k → waymasterref08_Right.l1 k (q : Int) Q cls sp = some (noTwice sp d q && cls.all (okC sp.length))
  | d, 0, q, _, hk => absurd hk (by omega)
  | 0, k + 1, q, h, hk => by
    simp only [waymasterref08_Right.l1]
    rw [if_neg (by omega)]
    have := right_l2 Q cls sp hc hlen cls.length k 0 (by omega) (by omega)
    exact this
  | d + 1, k + 1, q, h, hk => by
    have a1 : (q : Int) < Q := by omega
    have a2 : (0 : Int) ≤ (q : Int) := by omega
    have a3 : (q : Int) < 64 := by omega
    have a4 : sp.length < k := by omega
    have hw : wrap64 ((q : Int) + 1) = ((q + 1 : Nat) : Int) := by unfold wrap64; omega
    have ih := right_l1 hQ hs hlen cls hc d k (q + 1) (by omega) (by omega)
    have ho : waymasterref08_owner.f k Q cls sp (q : Int) 0 = some (firstIn sp (q : Int) sp.length 0) := owner_l0 hQ hs hlen Q cls (q := (q : Int)) a2 a3 sp.length k 0 (Nat.zero_add _) a4
    have hr := firstIn_range sp (q : Int) sp.length 0 (Nat.zero_add _)
    have ho2 : ∀ c, c + 1 ≤ sp.length → waymasterref08_owner.f k Q cls sp (q : Int) ((c + 1 : Nat) : Int) = some (firstIn sp (q : Int) (sp.length - (c + 1)) (c + 1)) := fun c hc2 => owner_l0 hQ hs hlen Q cls (q := (q : Int)) a2 a3 (sp.length - (c + 1)) k (c + 1) (Nat.add_sub_cancel' hc2) (Nat.lt_of_le_of_lt (Nat.sub_le _ _) a4)
    simp only [waymasterref08_Right.l1, noTwice]
    rw [if_pos a1, ho, Option.bind_some, hw]
    unfold twice
    generalize firstIn sp (q : Int) sp.length 0 = f at hr
    by_cases hf : f ≥ 0
    · obtain ⟨c, rfl⟩ : ∃ c : Nat, f = (c : Int) := ⟨f.toNat, by omega⟩
      have hc1 : c + 1 ≤ sp.length := by omega
      have hw2 : wrap64 ((c : Int) + 1) = ((c + 1 : Nat) : Int) := by unfold wrap64; omega
      rw [if_pos hf, hw2, ho2 c hc1, Option.bind_some, Int.toNat_natCast, decide_eq_true hf, Bool.true_and]
      generalize firstIn sp (q : Int) (sp.length - (c + 1)) (c + 1) = g
      by_cases hg : g ≥ 0
      · rw [if_pos hg, decide_eq_true hg]
        rfl
      · rw [if_neg hg, decide_eq_false hg, ih]
        rfl
    · rw [if_neg hf, decide_eq_false hf, ih]
      rfl
theorem right_l0 (hQ0 : 1 ≤ Q) (hQ : Q ≤ 64) (sp : List S32) (hlen : sp.length ≤ 20) (cls : List Int) (hc : cls.length ≤ 20) : ∀ (d k j : Nat), j + d = sp.length → (∀ i (h : i < sp.length), i < j → okS Q sp[i] = true) → d + 120 < k → waymasterref08_Right.l0 k (j : Int) Q cls sp = some ((sp.drop j).all (okS Q) && (cls.all (okC sp.length) && ownOne sp))
  | d, 0, j, _, _, hk => absurd hk (by omega)
  | 0, k + 1, j, h, hp, hk => by
    have hs : ∀ s ∈ sp, okS Q s = true := fun s hs => by
      obtain ⟨i, hi, rfl⟩ := List.mem_iff_getElem.1 hs
      exact hp i hi (by omega)
    simp only [waymasterref08_Right.l0]
    rw [if_neg (by omega), List.drop_of_length_le (by omega)]
    have := right_l1 hQ hs hlen cls hc Q.toNat k 0 (by omega) (by omega)
    rw [noTwice_own hQ hs (by omega), Bool.and_comm] at this
    rw [show ((0 : Int)) = ((0 : Nat) : Int) from rfl, this]
    rfl
  | d + 1, k + 1, j, h, hp, hk => by
    have hj : j < sp.length := by omega
    have e := rdS_get sp j hj
    simp only [waymasterref08_Right.l0]
    rw [if_pos (by omega), if_pos (by omega), List.drop_eq_getElem_cons hj, List.all_cons, ← e]
    have hno : okS Q (rd_T32 sp (j : Int)) = false → (some false : Option Bool) = some ((okS Q (rd_T32 sp (j : Int)) && (sp.drop (j + 1)).all (okS Q)) && (cls.all (okC sp.length) && ownOne sp)) := fun h => by rw [h]; rfl
    have hbad : ∀ x : Prop, x → (0 ≤ (rd_T32 sp (j : Int)).f0 ∧ (rd_T32 sp (j : Int)).f0 ≤ Q ∧ 1 ≤ (rd_T32 sp (j : Int)).f1 ∧ (rd_T32 sp (j : Int)).f1 ≤ Q - (rd_T32 sp (j : Int)).f0 → False) → okS Q (rd_T32 sp (j : Int)) = false := fun _ _ hf => by
      cases hh : okS Q (rd_T32 sp (j : Int)) with
      | false => rfl
      | true => exact (hf ((okS_iff Q _).1 hh)).elim
    by_cases h1 : (rd_T32 sp (j : Int)).f0 < 0
    · rw [if_pos h1]; exact hno (hbad _ h1 (fun x => by omega))
    by_cases h2 : (rd_T32 sp (j : Int)).f1 < 1
    · rw [if_neg h1, if_pos h2]; exact hno (hbad _ h2 (fun x => by omega))
    by_cases h3 : (rd_T32 sp (j : Int)).f0 > Q
    · rw [if_neg h1, if_neg h2, if_pos h3]; exact hno (hbad _ h3 (fun x => by omega))
    have hw : wrap64 (Q - (rd_T32 sp (j : Int)).f0) = Q - (rd_T32 sp (j : Int)).f0 := by unfold wrap64; omega
    by_cases h4 : (rd_T32 sp (j : Int)).f1 > Q - (rd_T32 sp (j : Int)).f0
    · rw [if_neg h1, if_neg h2, if_neg h3, hw, if_pos h4]; exact hno (hbad _ h4 (fun x => by omega))
    have hw2 : wrap64 ((j : Int) + 1) = ((j + 1 : Nat) : Int) := by unfold wrap64; omega
    have hok : okS Q (rd_T32 sp (j : Int)) = true := (okS_iff Q _).2 ⟨by omega, by omega, by omega, by omega⟩
    rw [if_neg h1, if_neg h2, if_neg h3, hw, if_neg h4, hw2, hok]
    refine right_l0 hQ0 hQ sp hlen cls hc d k (j + 1) (by omega) (fun i hi hij => ?_) (by omega)
    by_cases ei : i = j
    · subst ei; rw [← e]; exact hok
    · exact hp i hi (by omega)
theorem ref_right (Q : Int) (cls : List Int) (sp : List S32) (hc : cls.length ≤ 20) (hlen : sp.length ≤ 20) {k : Nat} (hk : 200 < k) : waymasterref08_Right.f k Q cls sp = some (rightB Q cls sp) := by
  obtain ⟨k, rfl⟩ : ∃ m, k = m + 1 := ⟨k - 1, by omega⟩
  have no : ∀ (x : Bool), x = true → guardB Q cls sp = false → waymasterref08_Right.j0 (k + 1) x Q cls sp = some (rightB Q cls sp) := fun x hx hg => by
    subst hx
    simp only [waymasterref08_Right.j0]
    rw [if_pos trivial]
    unfold rightB
    rw [hg]
    rfl
  unfold waymasterref08_Right.f
  by_cases h1 : Q < 1
  · rw [if_pos h1]; exact no _ rfl (decide_eq_false (by omega))
  by_cases h2 : Q > 64
  · rw [if_neg h1, if_pos h2]; exact no _ rfl (decide_eq_false (by omega))
  by_cases h3 : (sp.length : Int) < 1
  · rw [if_neg h1, if_neg h2, if_pos h3]; exact no _ rfl (decide_eq_false (by omega))
  by_cases h4 : (sp.length : Int) > 16
  · rw [if_neg h1, if_neg h2, if_neg h3, if_pos h4]; exact no _ rfl (decide_eq_false (by omega))
  rw [if_neg h1, if_neg h2, if_neg h3, if_neg h4]
  by_cases h5 : cls.length = 16
  · have e : ((cls.length : Int) != 16) = false := by rw [bne_eq_false_iff_eq]; omega
    have hg : guardB Q cls sp = true := decide_eq_true (by omega)
    rw [e]
    simp only [waymasterref08_Right.j0]
    rw [if_neg (by simp)]
    have := right_l0 (Q := Q) (by omega) (by omega) sp hlen cls hc sp.length k 0 (by omega) (fun i _ h => absurd h (by omega)) (by omega)
    unfold rightB
    rw [hg]
    exact this
  · have e : ((cls.length : Int) != 16) = true := by rw [bne_iff_ne]; omega
    rw [e]
    exact no _ rfl (decide_eq_false (by omega))
theorem ref_owner (Q : Int) (cls : List Int) (sp : List S32) (hc : cls.length ≤ 20) (hlen : sp.length ≤ 20) (q : Int) {k : Nat} (hk : 200 < k) : waymasterref08_Owner.f k Q cls sp q = some (ownerP Q cls sp q) := by
  unfold waymasterref08_Owner.f ownerP
  rw [ref_right Q cls sp hc hlen hk, Option.bind_some]
  cases hr : rightB Q cls sp with
  | false => rw [if_neg (by decide), if_neg (by decide)]
  | true =>
    obtain ⟨r1, r2, r3, r4, r5, r6, r7, r8⟩ := right_parts hr
    rw [if_pos rfl, if_pos rfl]
    by_cases h1 : q < 0
    · rw [if_pos h1, if_neg (by omega)]
    by_cases h2 : q ≥ Q
    · rw [if_neg h1, if_pos h2, if_neg (by omega)]
    have ho := owner_l0 r2 r6 hlen Q cls (q := q) (by omega) (by omega) sp.length k 0 (by omega) (by omega)
    have ho' : waymasterref08_owner.f k Q cls sp q 0 = some (ownerI sp q) := ho
    have hr := firstIn_range sp q sp.length 0 (by omega)
    have he := owner_eq r2 r6 (by omega) r8 q (by omega) (by omega)
    have hw : wrap64 (rd (ownOut sp) q - 1) = ownerI sp q := by rw [he]; unfold ownerI wrap64; omega
    rw [if_neg h1, if_neg h2, if_pos ⟨by omega, by omega⟩, ho', Option.bind_some, hw]
theorem idle_l0 (hQ : Q ≤ 64) (hs : ∀ s ∈ sp, okS Q s = true) (hlen : sp.length ≤ 20) (ho : ownOne sp = true) (cls : List Int) : ∀ (d k q : Nat), q + d = Q.toNat → d + 40 < k → waymasterref08_Idle.l0 k (idleTo (ownOut sp) q) (q : Int) Q cls sp = some (idleTo (ownOut sp) Q.toNat, 0)
  | d, 0, q, _, hk => absurd hk (by omega)
  | 0, k + 1, q, h, hk => by
    simp only [waymasterref08_Idle.l0]
    have e : q = Q.toNat := by omega
    rw [if_neg (by omega), e]
  | d + 1, k + 1, q, h, hk => by
    have ih := idle_l0 hQ hs hlen ho cls d k (q + 1) (by omega) (by omega)
    have hw : wrap64 ((q : Int) + 1) = ((q + 1 : Nat) : Int) := by unfold wrap64; omega
    have h1 := owner_l0 hQ hs hlen Q cls (q := (q : Int)) (by omega) (by omega) sp.length k 0 (by omega) (by omega)
    have h1' : waymasterref08_owner.f k Q cls sp (q : Int) 0 = some (ownerI sp (q : Int)) := h1
    have he := owner_eq hQ hs (by omega) ho (q : Int) (by omega) (by omega)
    have hl := idleTo_length (ownOut sp) q
    have hr := firstIn_range sp (q : Int) sp.length 0 (by omega)
    simp only [waymasterref08_Idle.l0]
    rw [if_pos (by omega), h1', Option.bind_some, hw]
    simp only [idleTo] at ih
    by_cases h0 : ownerI sp (q : Int) < 0
    · have hz : rd (ownOut sp) (q : Int) = 0 := by unfold ownerI at *; omega
      rw [if_pos hz] at ih
      rw [if_pos h0, if_pos (by omega)]
      exact ih
    · have hz : ¬ rd (ownOut sp) (q : Int) = 0 := by omega
      rw [if_neg hz] at ih
      rw [if_neg h0]
      exact ih
theorem ref_idle (Q : Int) (cls : List Int) (sp : List S32) (hc : cls.length ≤ 20) (hlen : sp.length ≤ 20) {k : Nat} (hk : 200 < k) : waymasterref08_Idle.f k Q cls sp = some (idleP Q cls sp) := by
  unfold waymasterref08_Idle.f idleP
  rw [ref_right Q cls sp hc hlen hk, Option.bind_some]
  cases hr : rightB Q cls sp with
  | false => rw [if_neg (by decide), if_neg (by decide)]
  | true =>
    obtain ⟨r1, r2, r3, r4, r5, r6, r7, r8⟩ := right_parts hr
    rw [if_pos rfl, if_pos rfl]
    exact idle_l0 r2 r6 hlen r8 cls Q.toNat k 0 (by omega) (by omega)
/-- Two lists that are one are the same. -/
theorem same_l0 (l : List Int) (hl : l.length ≤ 1000) : ∀ (d k j : Nat), j + d = l.length → d < k → waymasterref01_Same.l0 k l l (j : Int) = some true
  | d, 0, j, _, hk => absurd hk (by omega)
  | 0, k + 1, j, h, _ => by
    simp only [waymasterref01_Same.l0]
    rw [if_neg (by omega)]
  | d + 1, k + 1, j, h, hk => by
    have hw : wrap64 ((j : Int) + 1) = ((j + 1 : Nat) : Int) := by unfold wrap64; omega
    simp only [waymasterref01_Same.l0]
    rw [if_pos (by omega), if_pos (by omega), if_pos (by omega), if_pos trivial, hw]
    exact same_l0 l hl d k (j + 1) (by omega) (by omega)
theorem same_self (l : List Int) (hl : l.length ≤ 1000) {k : Nat} (hk : l.length < k) : waymasterref01_Same.f k l l = some true := by
  unfold waymasterref01_Same.f
  rw [if_pos rfl]
  exact same_l0 l hl l.length k 0 (by omega) hk
end Go.Proofs.Ytafmgnojlnkmjaa.PB
