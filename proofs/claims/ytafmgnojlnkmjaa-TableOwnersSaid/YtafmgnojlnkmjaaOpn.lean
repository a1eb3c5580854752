/- What an argument that reads as data looks like: whole numbers, bools, strings, slices of what can be opened, structs field by field. Not about any program. -/
import Derived.Test.YtafmgnojlnkmjaaWWords
import Derived.Deep.Slices
import Derived.ChangeSame
namespace Go.Proofs.Ytafmgnojlnkmjaa.Opn
open Go.RowKit Go.Deep Go.ChangeShapes Go.WideShapes Go.Proofs.YtafmgnojlnkmjaaW.PrintWords
set_option linter.unusedVariables false
section
variable {H : Type} {enc : TypeId × Value → H} {P : Program} {W : World} {base : Nat} {spare : Nat → Bool} {held : Bool}

/-- Whatever reads as type t is some x of which R holds with its cells. -/
def Gv (enc : TypeId × Value → H) (P : Program) (W : World) (base : Nat) (spare : Nat → Bool) (held : Bool) (t : TypeId) {α : Type} (R : α → List Value → Prop) : Prop :=
  ∀ n cs y, DataW.trod enc P W base spare held n t cs = some y → ∃ x, R x cs

theorem gv_int {t : TypeId} {k : IntKind} (h : P.underlying t = some (.int k)) : Gv enc P W base spare held t (fun (x : Int) cs => cs = [.int k x] ∧ (Lit.int k x).wf = true) := by
  intro n cs y hy
  obtain ⟨x, rfl, _, hw⟩ := DataW.trod_int h hy
  exact ⟨x, rfl, hw⟩
theorem gv_bool {t : TypeId} (h : P.underlying t = some .bool) : Gv enc P W base spare held t (fun (x : Bool) cs => cs = [.bool x] ∧ True) := by
  intro n cs y hy
  obtain ⟨x, rfl, _⟩ := DataW.trod_bool h hy
  exact ⟨x, rfl, trivial⟩
theorem gv_string {t : TypeId} (h : P.underlying t = some .string) : Gv enc P W base spare held t (fun (x : ByteArray) cs => cs = [.string x] ∧ x.size ≤ maxLen) := by
  intro n cs y hy
  obtain ⟨x, rfl, _, hw⟩ := DataW.trod_string h hy
  exact ⟨x, rfl, hw⟩
/-- A slice that came in. -/
structure Row (α : Type) where
  a : Option Addr
  cap : Nat
  l : List α
def RowOk {α : Type} (W : World) (R : α → List Value → Prop) (sz : Nat) (r : Row α) (cs : List Value) : Prop :=
  cs = [.slice r.a r.l.length r.cap] ∧ r.l.length ≤ r.cap ∧ r.cap ≤ maxLen ∧ ReadsRow R sz W r.a r.l.length r.l
theorem gv_slice {t e : TypeId} {α : Type} [Inhabited α] {R : α → List Value → Prop} {sz : Nat} (ht : P.underlying t = some (.slice e)) (hC : P.cellsOf e = sz) (hl : ∀ x cs, R x cs → cs.length = sz)
    (he : Gv enc P W base spare held e R) : Gv enc P W base spare held t (RowOk W R sz) := by
  intro n cs y hy
  rcases open_slice ht hy with ⟨rfl, _⟩ | ⟨a, len, cap, m, n', D, Pl, rfl, _, hlc, hcm, hm, _, hi⟩
  · exact ⟨⟨none, 0, []⟩, rfl, Nat.le_refl _, Nat.zero_le _, rfl, Nat.zero_le _, fun h => absurd h (by simp)⟩
  · have hlm : len ≤ m := by rw [hm]; split <;> omega
    have hx : ∀ i, i < len → ∃ x, ∃ cs', W.cells? base (a.add (i * P.cellsOf e)) (P.cellsOf e) = some cs' ∧ R x cs' := by
      intro i hil
      obtain ⟨cs', hc, ht'⟩ := hi i (by omega)
      obtain ⟨x, hr⟩ := he n' cs' _ ht'
      exact ⟨x, cs', hc, hr⟩
    obtain ⟨f, hf⟩ := choose_lt hx
    refine ⟨⟨some a, cap, (List.range len).map f⟩, by simp, by simpa using hlc, hcm, ?_⟩
    refine ⟨by simp, by simp; unfold maxLen at hcm; omega, fun _ => ⟨a, rfl, fun j p hp => ?_⟩⟩
    have hj : j < len := by
      have := (List.getElem?_eq_some_iff.1 hp).1
      simpa using this
    have hp' : f j = p := by
      rw [List.getElem?_map, List.getElem?_range hj] at hp
      exact Option.some.inj hp
    obtain ⟨cs', hc, hr⟩ := hf j hj
    rw [hp'] at hr
    rw [hC] at hc
    obtain ⟨_, hcl, hat⟩ := World.cells?_some hc
    refine ⟨cs', hl _ _ hr, hr, fun i u hu => ?_⟩
    have hil : i < sz := by
      have := (List.getElem?_eq_some_iff.1 hu).1
      rw [hl _ _ hr] at this
      exact this
    rw [← Go.Deep.add_add, hat i hil]
    exact hu
theorem RowOk.mono {α : Type} {W : World} {R R' : α → List Value → Prop} {sz : Nat} {r : Row α} {cs : List Value} (h : RowOk W R sz r cs) (hR : ∀ x cs, R x cs → R' x cs) : RowOk W R' sz r cs :=
  ⟨h.1, h.2.1, h.2.2.1, h.2.2.2.imp_ (Below.refl _ _) (fun _ _ hp => hR _ _ hp)⟩
/-- What is known of each element. -/
theorem RowOk.all {α : Type} {W : World} {R : α → List Value → Prop} {sz : Nat} {r : Row α} {cs : List Value} (h : RowOk W R sz r cs) {p : α → Prop} (hp : ∀ x cs, R x cs → p x) : ∀ x ∈ r.l, p x := by
  intro x hx
  obtain ⟨j, hj, hjx⟩ := List.mem_iff_getElem.1 hx
  obtain ⟨_, _, hr⟩ := h.2.2.2
  obtain ⟨ad, _, hr⟩ := hr (by omega)
  obtain ⟨c, _, hR, _⟩ := hr j x (by rw [List.getElem?_eq_getElem hj, hjx])
  exact hp _ _ hR
/-- A struct's fields, one after the other. -/
theorem fields {t : TypeId} {fs : Array Field} {n : Nat} {cs : List Value} {y : DataW H × List MemPlace} (ht : P.underlying t = some (.struct fs)) (h : DataW.trod enc P W base spare held n t cs = some y) :
    cs.length = P.cellsOf t ∧ ∀ (i : Nat) (f : Field), fs[i]? = some f → ∃ m z, DataW.trod enc P W base spare held m f.type ((cs.drop f.offset).take (P.cellsOf f.type)) = some z := by
  obtain ⟨xs, m, _, _, hlen, hxl, hf⟩ := DataW.trod_struct ht h
  refine ⟨hlen, fun i f hi => ?_⟩
  have hlt : i < xs.length := by rw [hxl]; exact (Array.getElem?_eq_some_iff.1 hi).1
  exact ⟨m, xs[i], by rw [hf i f hi]; exact List.getElem?_eq_getElem hlt⟩
end
end Go.Proofs.Ytafmgnojlnkmjaa.Opn
