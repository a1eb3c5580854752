/- Plain facts about entries' bytes, for the laws of layer 18: what was encoded is decoded to the same. -/
import Derived.Test.YtkjhklnjmpicgaaPE
namespace Go.Proofs.Ytkjhklnjmpicgaa.PB
open Go.RowKit Go.Proofs.Ytkjhklnjmpicgaa.H Go.Proofs.Ytkjhklnjmpicgaa.QL Go.Proofs.YtkjhklnjmpicgaaW.PrintWords Go.Proofs.YtkjhklnjmpicgaaW.PrintLast
set_option linter.unusedSimpArgs false
set_option linter.unusedVariables false

def okE (x : S29) : Bool := isZero x || rightB x
theorem encFrom_ok (l : List S29) (h : ∀ x ∈ l, okE x = true) : ∀ out, encFrom l out = (strOfNums (out ++ l.flatMap bytes6), 0) := by
  induction l with
  | nil => intro out; simp [encFrom]
  | cons x xs ih =>
    intro out
    unfold encFrom
    rw [if_pos (show (isZero x || rightB x) = true from h x List.mem_cons_self), ih (fun y hy => h y (List.mem_cons_of_mem _ hy))]
    simp
theorem encFrom_no (l : List S29) (h : ¬ ∀ x ∈ l, okE x = true) : ∀ out, encFrom l out = (⟨#[]⟩, 2) := by
  induction l with
  | nil => exact absurd (by simp) h
  | cons x xs ih =>
    intro out
    unfold encFrom
    by_cases hx : okE x = true
    · rw [if_pos (show (isZero x || rightB x) = true from hx)]
      refine ih (fun h' => h ?_) _
      intro y hy
      rcases List.mem_cons.1 hy with rfl | hy
      · exact hx
      · exact h' y hy
    · rw [if_neg (show ¬ (isZero x || rightB x) = true from hx)]
theorem bytes6_range (x : S29) : ∀ b ∈ bytes6 x, 0 ≤ b ∧ b < 256 := by
  intro b hb
  simp only [bytes6, List.mem_cons, List.not_mem_nil, or_false] at hb
  rcases hb with rfl | rfl | rfl | rfl | rfl | rfl <;> omega
theorem flat_length (l : List S29) : (l.flatMap bytes6).length = 6 * l.length := by
  induction l with
  | nil => rfl
  | cons x xs ih => simp only [List.flatMap_cons, List.length_append, List.length_cons, ih]; simp [bytes6]; omega
theorem flat_get (l : List S29) : ∀ (j i : Nat) (x : S29), l[j]? = some x → i < 6 → (l.flatMap bytes6)[6 * j + i]? = (bytes6 x)[i]? := by
  induction l with
  | nil => intro j i x h; simp at h
  | cons y ys ih =>
    intro j i x h hi
    have hly : (bytes6 y).length = 6 := by simp [bytes6]
    cases j with
    | zero =>
      obtain rfl : y = x := by simpa using h
      rw [List.flatMap_cons, List.getElem?_append_left (by omega)]
      simp
    | succ j =>
      rw [List.flatMap_cons, List.getElem?_append_right (by omega), hly, show 6 * (j + 1) + i - 6 = 6 * j + i by omega]
      exact ih j i x (by simpa using h) hi
theorem bt_nums (L : List Int) (i : Nat) (b : Int) (h : L[i]? = some b) (hr : 0 ≤ b ∧ b < 256) : bt (strOfNums L) (i : Int) = b := by
  obtain ⟨hl, hb⟩ := List.getElem?_eq_some_iff.1 h
  have hs : i < (strOfNums L).size := by rw [strOfNums_size]; exact hl
  have e1 : bt (strOfNums L) (i : Int) = (((strOfNums L)[i]'hs).toNat : Int) := by simp only [bt, Int.toNat_natCast]; rw [dif_pos hs]
  have e2 : ((strOfNums L)[i]'hs) = UInt8.ofNat (L[i]'hl).toNat := by
    show (strOfNums L).data[i] = _
    simp [strOfNums]
  rw [e1, e2, hb]
  simp only [UInt8.toNat_ofNat']
  omega
theorem raw_enc (l : List S29) (j : Nat) (x : S29) (h : l[j]? = some x) : raw (strOfNums (l.flatMap bytes6)) j = ⟨x.f0 % 256, x.f1 % 256, x.f2 % 256 + 256 * ((x.f2 / 256) % 256), x.f3 % 256, x.f4 % 256⟩ := by
  obtain ⟨hl, _⟩ := List.getElem?_eq_some_iff.1 h
  have hsz : (strOfNums (l.flatMap bytes6)).size = 6 * l.length := by rw [strOfNums_size, flat_length]
  have g : ∀ i : Nat, i < 6 → ∀ b, (bytes6 x)[i]? = some b → bt (rest (strOfNums (l.flatMap bytes6)) j) (i : Int) = b := by
    intro i hi b hb
    rw [bt_rest _ _ _ (by omega)]
    exact bt_nums _ _ _ (by rw [flat_get l j i x h hi]; exact hb) (bytes6_range x b (List.mem_of_getElem? hb))
  have g0 : bt (rest (strOfNums (l.flatMap bytes6)) j) 0 = x.f0 % 256 := g 0 (by decide) _ rfl
  have g1 : bt (rest (strOfNums (l.flatMap bytes6)) j) 1 = x.f1 % 256 := g 1 (by decide) _ rfl
  have g2 : bt (rest (strOfNums (l.flatMap bytes6)) j) 2 = x.f2 % 256 := g 2 (by decide) _ rfl
  have g3 : bt (rest (strOfNums (l.flatMap bytes6)) j) 3 = (x.f2 / 256) % 256 := g 3 (by decide) _ rfl
  have g4 : bt (rest (strOfNums (l.flatMap bytes6)) j) 4 = x.f3 % 256 := g 4 (by decide) _ rfl
  have g5 : bt (rest (strOfNums (l.flatMap bytes6)) j) 5 = x.f4 % 256 := g 5 (by decide) _ rfl
  unfold raw raw0
  rw [or_bytes _ _ (bt_range _ _) (bt_range _ _), g0, g1, g2, g3, g4, g5]
theorem ent_enc (l : List S29) (j : Nat) (x : S29) (h : l[j]? = some x) (hok : okE x = true) : ent (strOfNums (l.flatMap bytes6)) j = x := by
  unfold ent
  rw [raw_enc l j x h]
  unfold okE at hok
  obtain ⟨a, b, c, d, e⟩ := x
  rw [Bool.or_eq_true] at hok
  rcases hok with hz | hr
  · have hz' := of_decide_eq_true hz
    simp only at hz'
    obtain ⟨rfl, rfl, rfl, rfl, rfl⟩ := hz'
    rfl
  · have hr' := of_decide_eq_true hr
    simp only at hr'
    have e0 : a % 256 = a := by omega
    have e1 : b % 256 = b := by omega
    have e2 : c % 256 + 256 * ((c / 256) % 256) = c := by omega
    have e3 : d % 256 = d := by omega
    have e4 : e % 256 = e := by omega
    simp only [e0, e1, e2, e3, e4]
    rw [if_pos hr]
theorem decode_enc (l : List S29) (hl : l.length ≤ 10000) (hok : ∀ x ∈ l, okE x = true) : script_Decode.f (strOfNums (l.flatMap bytes6)) = some l := by
  have hsz : (strOfNums (l.flatMap bytes6)).size = 6 * l.length := by rw [strOfNums_size, flat_length]
  have hcnt : cnt (strOfNums (l.flatMap bytes6)) = l.length := by unfold cnt; omega
  unfold script_Decode.f
  rw [if_pos (by omega), hcnt]
  congr 1
  apply List.ext_getElem?
  intro j
  unfold ents
  rcases Nat.lt_or_ge j l.length with hj | hj
  · rw [List.getElem?_map, List.getElem?_range hj]
    have hx := List.getElem?_eq_getElem hj
    rw [hx, Option.map_some, ent_enc l j _ hx (hok _ (List.getElem_mem hj))]
  · rw [List.getElem?_eq_none (by simp; omega), List.getElem?_eq_none hj]
end Go.Proofs.Ytkjhklnjmpicgaa.PB
