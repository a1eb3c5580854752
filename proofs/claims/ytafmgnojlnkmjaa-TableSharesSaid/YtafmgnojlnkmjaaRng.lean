/- A law for a range over a function, with an invariant of the session's own: the iterator may keep state in cells; it is met inline. Not about any program. -/
import Derived.RangeFuncNested
import Derived.RangeFuncBound
import Derived.RangeFuncCalls
import Derived.RangeFuncLeaves
import Derived.Shelf.Abstract
import Derived.Shelf.RegionOpen
import Derived.WalkKit
import Derived.OwnWalkIn
import Derived.TacticsInMore
import Derived.LoopNIn
import Derived.LoopIn
set_option linter.unusedVariables false
namespace Go.Rg
open Go.RowKit Go.Shelf

def loopy : Obj → Bool
  | .loop _ => true
  | .deferred _ => true
  | _ => false

/-- What lay below n0 lies as it lay, and so does whatever is no loop's record. -/
structure Quiet (n0 : Nat) (W W' : World) : Prop where
  below : Below n0 W W'
  same : ∀ (k : Nat) (o : Obj), W.heap[k]? = some o → loopy o = false → W'.heap[k]? = some o

theorem Quiet.refl (n0 : Nat) (W : World) : Quiet n0 W W := ⟨Below.refl _ _, fun _ _ h _ => h⟩
theorem Quiet.trans {n0 : Nat} {A B C : World} (h : Quiet n0 A B) (k : Quiet n0 B C) : Quiet n0 A C :=
  ⟨h.below.trans k.below, fun i o hi ho => k.same i o (h.same i o hi ho) ho⟩
theorem Quiet.alloc {n0 : Nat} (W : World) (o : Obj) (h : n0 ≤ W.heap.size) : Quiet n0 W (W.alloc o) :=
  ⟨(Below.refl n0 W).alloc h o, fun k o' hk _ => (Below.heap_alloc W o k (Array.getElem?_eq_some_iff.1 hk).1).trans hk⟩
theorem Quiet.putObj {n0 : Nat} {W : World} {l : Nat} {o : Obj} (o' : Obj) (hl : n0 ≤ l) (h : W.heap[l]? = some o) (ho : loopy o = true) : Quiet n0 W (W.putObj l o') :=
  ⟨(Below.refl n0 W).grown (grownBy_putObj' W l o') (by have := (Array.getElem?_eq_some_iff.1 h).1; omega) (fun k e => by cases e; omega), fun k o'' hk hk' => by
    by_cases e : k = l
    · subst e; rw [h] at hk; cases hk; rw [ho] at hk'; cases hk'
    · exact (World.putObj_heap_other e).trans hk⟩
theorem Quiet.cell {n0 : Nat} {W W' : World} (h : Quiet n0 W W') {a : Addr} {v : Value} (hc : W.cell? a = some v) : W'.cell? a = some v := by
  unfold World.cell? at hc ⊢
  cases ho : W.heap[a.block]? with
  | none => rw [ho] at hc; simp at hc
  | some o => cases o <;> first | (rw [ho] at hc; simp at hc; done) | (rw [h.same _ _ ho rfl]; rw [ho] at hc; exact hc)
theorem Quiet.size {n0 : Nat} {W W' : World} (h : Quiet n0 W W') : W.heap.size ≤ W'.heap.size := h.below.size
theorem Quiet.ownsRow {n0 : Nat} {W W' : World} (h : Quiet n0 W W') {base : Nat} {e : TypeId} {size n : Nat} {v : Value} {xs : List Value} (ho : W.ownsRow base e size v n xs) : W'.ownsRow base e size v n xs := by
  obtain ⟨h1, h2⟩ := ho
  refine ⟨h1, ?_⟩
  rcases h2 with h2 | ⟨g, cap, cur, rfl, hg, hh, r⟩
  · exact .inl h2
  · exact .inr ⟨g, cap, cur, rfl, hg, h.same _ _ hh rfl, r⟩
theorem Quiet.block {n0 : Nat} {W W' : World} (h : Quiet n0 W W') {k : Nat} {c : Array Value} {t : TypeId} {f : Nat × Nat} (hb : W.heap[k]? = some (.cells c t f)) : W'.heap[k]? = some (.cells c t f) := h.same _ _ hb rfl

theorem keeps_below {W W' : World} (h : Below W.heap.size W W') : KeepsOthers W W' :=
  ⟨h.size, fun k o hk _ => (h.block k (Array.getElem?_eq_some_iff.1 hk).1).trans hk⟩
theorem boxed_below {W W' : World} {B : Nat} {t : TypeId} {v : Value} (h : Boxed W B t v) (hb : Below W.heap.size W W') : Boxed W' B t v := (hb.block B h.lt).trans h
theorem row_below {W W' : World} {base : Nat} {e : TypeId} {size n : Nat} {v : Value} {xs : List Value} (h : W.ownsRow base e size v n xs) (hb : Below W.heap.size W W') : W'.ownsRow base e size v n xs :=
  h.kept (row := none) ⟨hb.os, hb.tape, hb.output, hb.size, fun i hi _ => hb.block i hi⟩ (by cases v.ownBlock <;> simp)
theorem boxed_new2 (w : World) (o : Obj) (t : TypeId) (v : Value) : Boxed ((w.alloc o).alloc (.cells #[v] t)) (w.heap.size + 1) t v := by
  have := Boxed.new (w.alloc o) t v
  rwa [World.size_alloc] at this

def endPost {σ : Type} (K : σ → World → Prop) (Jx : Code → World → Prop) (s : σ) (W : World) : Exit → Act → World → Prop
  | .normal, _, W' => KeepsOthers W W' ∧ K s W'
  | .ret, _, W' => KeepsOthers W W' ∧ Jx .ret W'
  | .exit id, _, W' => KeepsOthers W W' ∧ Jx (.exit id) W'
  | .goto t, _, W' => KeepsOthers W W' ∧ Jx (.goto t) W'
  | .panic _, _, _ => False
  | .outgrown, _, _ => False

variable {P : Program} {n : Nat}

theorem range_law {σ : Type} {g : Operand} {ps : Array Tmp} {assign body : Code} {Q : Exit → Act → World → Prop} {a : Act} {w : World} {gf : Nat} {lb : Array Value}
    (hg : a.eval g = .func (.func gf) #[] lb) (eg : ∀ args w, (callFunc gf args).run P w = .ok (.enter gf args) w)
    (val : σ → Array Value) (hps : ∀ s, (val s).size = ps.size)
    (J K : σ → World → Prop) (JE : World → Prop) (Jx : Code → World → Prop) (n0 : Nat) (hn0 : n0 ≤ w.heap.size)
    (hJ : ∀ s W W', J s W → Quiet n0 W W' → J s W') (hK : ∀ s W W', K s W → Quiet n0 W W' → K s W') (hJE : ∀ W W', JE W → Quiet n0 W W' → JE W') (hJx : ∀ c W W', Jx c W → Quiet n0 W W' → Jx c W')
    (s0 : σ) (h0 : J s0 w)
    (hiter : ∀ (l : Nat) (W : World) (Fr Fx : World → Prop), (∀ W W', Fr W → KeepsOthers W W' → Fr W') → J s0 W → Fr W →
      (∀ s W1, J s W1 → Fr W1 → YieldAt Fence.wide (n - 1 - 1) P l (val s) W1 fun e W' => (e = .returned (.bool true) ∧ K s W' ∧ Fr W') ∨ (e = .returned (.bool false) ∧ Fx W')) →
      CallsIn Fence.wide (n - 1) P gf (#[.func (.yield l) #[] #[]] ++ lb) W fun e W' => (∃ v, e = .returned v) ∧ ((JE W' ∧ Fr W') ∨ Fx W'))
    (hbody : ∀ (l : Nat) (s : σ) (W : World), J s W → assign.wpIn (Fence.wide.inRound l) (n - 1 - 1) P
      (Exit.then (fun a₁ W₁ => KeepsOthers W W₁ ∧ Below n0 W W₁ ∧ ∀ W₂, Quiet n0 W₁ W₂ → body.wpIn (Fence.wide.inRound l) (n - 1 - 1) P (endPost K Jx s W₂) a₁ W₂) (fun _ _ _ => False))
      { tmps := (ps.zip (val s)).foldl (fun t (p, v) => t.setIfInBounds p v) a.tmps, defers := [] } W)
    (hdone : ∀ (D : Nat) (W : World), JE W → n0 ≤ D → W.heap[D]? = some (.deferred (some [])) → Q .normal { a with defers := { target := .collected D, args := #[] } :: a.defers } W)
    (hstop : ∀ (D : Nat) (c : Code) (W : World), Jx c W → n0 ≤ D → W.heap[D]? = some (.deferred (some [])) → c.wpIn Fence.wide n P Q { a with defers := { target := .collected D, args := #[] } :: a.defers } W) :
    (Code.rangeFunc g ps assign body).wpIn Fence.wide n P Q a w := by
  have hdep : ∀ {p : Prop}, Fence.wide.depth.isSome = true → p := fun h => by simp [Fence.wide] at h
  refine wpIn_rangeFunc ?_
  intro fn hfn
  show ∃ l mark w₁ d w₁' f args w₂, (Instr.enterLoop fn a.tmps ps assign body none).run P w = .ok (l, mark) w₁ ∧ _
  obtain ⟨rec, hrec⟩ : ∃ rec : LoopState → Option Code → Loop, rec = fun st pe => { state := st, pending := pe, fn, tmps := a.tmps, params := ps, assign, body, defers := w.heap.size } := ⟨_, rfl⟩
  obtain ⟨l, hl⟩ : ∃ l, l = w.heap.size + 1 := ⟨_, rfl⟩
  obtain ⟨D, hD⟩ : ∃ D, D = w.heap.size := ⟨_, rfl⟩
  obtain ⟨W1, hW1⟩ : ∃ W1, (w.alloc (.deferred (some []))).alloc (.loop (rec .ready none)) = W1 := ⟨_, rfl⟩
  have hL1 : W1.heap[l]? = some (.loop (rec .ready none)) := by
    rw [← hW1, hl]; have := World.alloc_heap_new (w.alloc (.deferred (some []))) (.loop (rec .ready none)); rwa [World.size_alloc] at this
  have hK1 : W1.heap[D]? = some (.deferred (some [])) := by
    rw [← hW1, hD]; exact (Below.heap_alloc _ _ _ (by simp)).trans (World.alloc_heap_new w _)
  have hq1 : Quiet n0 w W1 := by
    rw [← hW1]; exact (Quiet.alloc w _ hn0).trans (Quiet.alloc _ _ (by simp; omega))
  have hJ1 : J s0 W1 := hJ _ _ _ h0 hq1
  have hnl : n0 ≤ l := by omega
  have hnD : n0 ≤ D := by omega
  have hlD : D ≠ l := by omega
  refine ⟨l, [{ target := .collected D, args := #[] }], W1, { target := .fn (.func gf) lb, args := #[.func (.yield l) #[] #[]] }, W1, gf,
    #[.func (.yield l) #[] #[]] ++ lb, W1, ?_, ?_, ?_, ?_, hdep, ?_⟩
  · rw [← hW1, hrec, hl, hD]; exact run_enterLoop_outer _ _ _ _ _
  · simp only [resolve, hg]
    simp [go_sem]
  · intro f' _; trivial
  · simp [invoke, go_sem, eg]
  · refine (hiter l W1 (fun W => W.heap[l]? = some (.loop (rec .ready none)) ∧ W.heap[D]? = some (.deferred (some [])))
      (fun W => ∃ c, Jx c W ∧ W.heap[l]? = some (.loop (rec .done (some c))) ∧ W.heap[D]? = some (.deferred (some [])))
      (fun A B h k => ⟨k.same _ _ h.1 rfl, k.same _ _ h.2 rfl⟩) hJ1 ⟨hL1, hK1⟩ ?_).mono ?_
    · rintro s W hj ⟨hlW, hDW⟩
      have hy := run_yield (P := P) (args := val s) hlW (by rw [hrec]; exact hps s)
      rw [hrec] at hy
      refine ⟨fn, _, assign, body, hy, roundIn_of_wpIn trivial (wpIn_mono (hbody l s W hj) ?_)⟩
      rintro e a₁ W₁ hp
      cases e with
      | normal =>
        obtain ⟨hko, hb1, hbd⟩ := hp
        have hl1 : W₁.heap[l]? = some (.loop (rec .ready none)) := hko.same _ _ hlW rfl
        have hD1 : W₁.heap[D]? = some (.deferred (some [])) := hko.same _ _ hDW rfl
        have hlt : l < W₁.heap.size := (Array.getElem?_eq_some_iff.1 hl1).1
        refine ⟨_, run_beginRound hl1 (by rw [hrec]), ?_⟩
        have hl2 : (W₁.putObj l (.loop { rec .ready none with state := .busy })).heap[l]? = some (.loop { rec .ready none with state := .busy }) := World.putObj_heap_same hlt
        have hD2 : (W₁.putObj l (.loop { rec .ready none with state := .busy })).heap[D]? = some (.deferred (some [])) := (World.putObj_heap_other hlD).trans hD1
        refine wpIn_mono (hbd _ (Quiet.putObj _ hnl hl1 rfl)) ?_
        have fin : ∀ (jump : Option Code) (W3 : World), KeepsOthers (W₁.putObj l (.loop { rec .ready none with state := .busy })) W3 →
            (Instr.endRound l jump).run P W3 = .ok (.bool jump.isNone) (W3.putObj l (.loop (rec (if jump.isNone then .ready else .done) jump))) ∧
            W3.heap[l]? = some (.loop { rec .ready none with state := .busy }) ∧
            (W3.putObj l (.loop (rec (if jump.isNone then .ready else .done) jump))).heap[l]? = some (.loop (rec (if jump.isNone then .ready else .done) jump)) ∧
            (W3.putObj l (.loop (rec (if jump.isNone then .ready else .done) jump))).heap[D]? = some (.deferred (some [])) := fun jump W3 hk3 => by
          have hl3 := hk3.same _ _ hl2 rfl
          have := run_endRound (P := P) jump hl3
          rw [hrec] at this ⊢
          exact ⟨this, by rw [hrec] at hl3; exact hl3, World.putObj_heap_same (Array.getElem?_eq_some_iff.1 hl3).1, (World.putObj_heap_other hlD).trans (hk3.same _ _ hD2 rfl)⟩
        rintro e a3 W3 hp
        cases e with
        | normal =>
          obtain ⟨hk3, hi3⟩ := hp
          obtain ⟨hr, hl3, hl4, hk4⟩ := fin none W3 hk3
          exact ⟨_, _, hr, .inl ⟨rfl, hK _ _ _ hi3 (Quiet.putObj _ hnl hl3 rfl), hl4, hk4⟩⟩
        | ret =>
          obtain ⟨hk3, hi3⟩ := hp
          obtain ⟨hr, hl3, hl4, hk4⟩ := fin (some .ret) W3 hk3
          exact ⟨_, _, hr, .inr ⟨rfl, .ret, hJx _ _ _ hi3 (Quiet.putObj _ hnl hl3 rfl), hl4, hk4⟩⟩
        | exit id =>
          obtain ⟨hk3, hi3⟩ := hp
          obtain ⟨hr, hl3, hl4, hk4⟩ := fin (some (.exit id)) W3 hk3
          exact ⟨_, _, hr, .inr ⟨rfl, .exit id, hJx _ _ _ hi3 (Quiet.putObj _ hnl hl3 rfl), hl4, hk4⟩⟩
        | goto t =>
          obtain ⟨hk3, hi3⟩ := hp
          obtain ⟨hr, hl3, hl4, hk4⟩ := fin (some (.goto t)) W3 hk3
          exact ⟨_, _, hr, .inr ⟨rfl, .goto t, hJx _ _ _ hi3 (Quiet.putObj _ hnl hl3 rfl), hl4, hk4⟩⟩
        | panic chain => exact hp.elim
        | outgrown => exact hp.elim
      | ret => exact hp.elim
      | exit id => exact hp.elim
      | goto t => exact hp.elim
      | panic chain => exact hp.elim
      | outgrown => exact hp.elim
    · rintro e W ⟨⟨v, rfl⟩, (⟨hje, hlW, hDW⟩ | ⟨c, hx, hlW, hDW⟩)⟩
      · refine ⟨_, _, run_endLoop hlW (by rw [hrec]; simp), ?_⟩
        have hp : (rec .ready none).pending = none := by rw [hrec]
        rw [hp]
        exact hdone D _ (hJE _ _ hje (Quiet.putObj _ hnl hlW rfl)) hnD ((World.putObj_heap_other hlD).trans hDW)
      · refine ⟨_, _, run_endLoop hlW (by rw [hrec]; simp), ?_⟩
        have hp : (rec .done (some c)).pending = some c := by rw [hrec]
        rw [hp]
        exact hstop D c _ (hJx _ _ _ hx (Quiet.putObj _ hnl hlW rfl)) hnD ((World.putObj_heap_other hlD).trans hDW)

/-- The law where the caller is walked plainly (outside of every round). -/
theorem range_plain (n : Nat) {σ : Type} {g : Operand} {ps : Array Tmp} {assign body : Code} {Q : Exit → Act → World → Prop} {a : Act} {w : World} {gf : Nat} {lb : Array Value}
    (hg : a.eval g = .func (.func gf) #[] lb) (eg : ∀ args w, (callFunc gf args).run P w = .ok (.enter gf args) w)
    (val : σ → Array Value) (hps : ∀ s, (val s).size = ps.size)
    (J K : σ → World → Prop) (JE : World → Prop) (Jx : Code → World → Prop) (n0 : Nat) (hn0 : n0 ≤ w.heap.size)
    (hJ : ∀ s W W', J s W → Quiet n0 W W' → J s W') (hK : ∀ s W W', K s W → Quiet n0 W W' → K s W') (hJE : ∀ W W', JE W → Quiet n0 W W' → JE W') (hJx : ∀ c W W', Jx c W → Quiet n0 W W' → Jx c W')
    (s0 : σ) (h0 : J s0 w)
    (hiter : ∀ (l : Nat) (W : World) (Fr Fx : World → Prop), (∀ W W', Fr W → KeepsOthers W W' → Fr W') → J s0 W → Fr W →
      (∀ s W1, J s W1 → Fr W1 → YieldAt Fence.wide n P l (val s) W1 fun e W' => (e = .returned (.bool true) ∧ K s W' ∧ Fr W') ∨ (e = .returned (.bool false) ∧ Fx W')) →
      CallsIn Fence.wide (n + 1) P gf (#[.func (.yield l) #[] #[]] ++ lb) W fun e W' => (∃ v, e = .returned v) ∧ ((JE W' ∧ Fr W') ∨ Fx W'))
    (hbody : ∀ (l : Nat) (s : σ) (W : World), J s W → assign.wpIn (Fence.wide.inRound l) n P
      (Exit.then (fun a₁ W₁ => KeepsOthers W W₁ ∧ Below n0 W W₁ ∧ ∀ W₂, Quiet n0 W₁ W₂ → body.wpIn (Fence.wide.inRound l) n P (endPost K Jx s W₂) a₁ W₂) (fun _ _ _ => False))
      { tmps := (ps.zip (val s)).foldl (fun t (p, v) => t.setIfInBounds p v) a.tmps, defers := [] } W)
    (hdone : ∀ (D : Nat) (W : World), JE W → n0 ≤ D → W.heap[D]? = some (.deferred (some [])) → Q .normal { a with defers := { target := .collected D, args := #[] } :: a.defers } W)
    (hstop : ∀ (D : Nat) (c : Code) (W : World), Jx c W → n0 ≤ D → W.heap[D]? = some (.deferred (some [])) → c.wp P Q { a with defers := { target := .collected D, args := #[] } :: a.defers } W) :
    (Code.rangeFunc g ps assign body).wp P Q a w :=
  wpIn_wide.1 (range_law (n := n + 1 + 1) hg eg val hps J K JE Jx n0 hn0 hJ hK hJE hJx s0 h0 hiter hbody hdone (fun D c W h1 h2 h3 => wpIn_wide.2 (hstop D c W h1 h2 h3)))

/-- A function whose activation may leave with marks of loops. -/
theorem calls_marks {f : FuncId} {fn : Func} {c : Code} {args : Array Value} {w : World} {R : Ending → World → Prop}
    (hf : P.funcs[f]? = some fn) (hb : fn.body = some c)
    (h : c.wp P (bodyPostM Fence.wide 9 P fn R) { tmps := args ++ Array.replicate (fn.ntmps - args.size) undef, defers := [] } w) : Calls P f args w R :=
  (callsIn_wide (n := 9)).1 (callsIn_of_wp_marks (F := Fence.wide) hf hb trivial (wpIn_wide.2 h) rfl)

/-- One mark on the way out. -/
theorem leaves_one {fn : Func} {tmps : Array Value} {R : Ending → World → Prop} {D n0 : Nat} {w : World} {v : Value} (hD : n0 ≤ D) (h : w.heap[D]? = some (.deferred (some [])))
    (hr : ∀ W', Quiet n0 w W' → (results fn tmps).run P W' = .ok v W' ∧ R (.returned v) W') :
    LeavesInM Fence.wide 9 P fn tmps R [{ target := .collected D, args := #[] }] .returning w := by
  refine ⟨by simp, .inl ⟨_, _, rfl, run_takeDeferred h, ?_⟩⟩
  obtain ⟨h1, h2⟩ := hr _ (Quiet.putObj (.deferred none) hD h rfl)
  exact ⟨v, h1, h2⟩
theorem leaves_none {fn : Func} {tmps : Array Value} {R : Ending → World → Prop} {w : World} {v : Value}
    (h1 : (results fn tmps).run P w = .ok v w) (h2 : R (.returned v) w) :
    LeavesInM Fence.wide 9 P fn tmps R [] .returning w := ⟨v, h1, h2⟩

theorem wpIn_scope_w {c : Code} {Q : Exit → Act → World → Prop} {a : Act} {w : World} (h : c.wpIn Fence.wide n P (Exit.noGoto Q) a w) : (Code.scope c).wpIn Fence.wide n P Q a w :=
  wpIn_wide.2 (wp_scope_straight (wpIn_wide.1 h))
end Go.Rg
