/- The laws' cut: a table's first twenty classes and priorities. -/
import Derived.Test.YtafmgnojlnkmjaaH3
namespace Go.Proofs.Ytafmgnojlnkmjaa.H
open Go.RowKit Go.Shelf Go.Rg Go.Proofs.YtafmgnojlnkmjaaW.PrintWords Go.Proofs.YtafmgnojlnkmjaaW.PrintLast Go.Proofs.YtafmgnojlnkmjaaW.PrintMore
open Go.Proofs.Ytafmgnojlnkmjaa.QL
set_option linter.unusedVariables false
set_option linter.unusedSimpArgs false
attribute [local go_sem] max2_int min2_int max_two min_two

theorem cut_calls (Q : Int) (A1 : Option Addr) (N1 n1 c1 : Nat) (A2 : Option Addr) (N2 n2 c2 : Nat) (h1 : n1 = min N1 20) (h2 : n2 = min N2 20) (hc1 : N1 ≤ c1) (hc2 : N2 ≤ c2) (w : World) :
    Calls Try.prog 12 #[.agg #[.int .i64 Q, .slice A1 N1 c1, .slice A2 N2 c2]] w fun e w' => e = .returned (.agg #[.int .i64 Q, .slice A1 n1 c1, .slice A2 n2 c2]) ∧ Below w.heap.size w w' := by
  obtain ⟨i1, hi1, _, hsz1, _⟩ := info_parts info3
  obtain ⟨i2, hi2, _, hsz2, _⟩ := info_parts info32
  have k1 := cut_to (P := Try.prog) 22 3 .i64 Try.underlying22 hi1 A1 N1 c1 (n1 : Int) (by omega) (by omega) hc1
  have k2 := cut_to (P := Try.prog) 23 32 .i64 Try.underlying23 hi2 A2 N2 c2 (n2 : Int) (by omega) (by omega) hc2
  have m1 : mn (N1 : Int) 20 = (n1 : Int) := by unfold mn; omega
  have m2 : mn (N2 : Int) 20 = (n2 : Int) := by unfold mn; omega
  have m1' : (if 20 < (N1 : Int) then 20 else (N1 : Int)) = (n1 : Int) := m1
  have m2' : (if 20 < (N2 : Int) then 20 else (N2 : Int)) = (n2 : Int) := m2
  clear hi1 hi2 hsz1 hsz2 h1 h2 hc1 hc2 m1 m2
  go_enter Try.func12, Try.ntmps12
  go_wp2
  exact bodyPost_ret (v := .agg #[.int .i64 Q, .slice A1 n1 c1, .slice A2 n2 c2]) (by simp [results, Try.results12, go_sem]) rfl ⟨rfl, ((Below.refl _ _).alloc (Nat.le_refl _) _).alloc (by simp) _⟩

/-- A gate ahead of an arm: a store of a table into the box of a slot. -/
theorem gate_store {ops : Array Oper} {rest : List Oper} {o : Oper} {a : Act} {Q : Exit → Act → World → Prop} {W : World} (x : Operand) {y : Operand} (_ho : o.op = .store 25 x y) (h : wpList Try.prog ops Q (o :: rest) a W) : wpList Try.prog ops Q (o :: rest) a W := h
theorem info25 : (Try.prog.info? 25).map (·.size) = some 3 := by kernel_rfl
/-- A struct of three cells goes into a box of the call's own. -/
theorem wpList_struct {ops : Array Oper} {rest : List Oper} {o : Oper} {a : Act} {Q : Exit → Act → World → Prop} {W : World} (hgd : o.guard = none) (x y : Operand) (ho : o.op = .store 25 x y) (b : Nat) (old new : Array Value) (hx : a.eval x = .pointer (some ⟨b, 0, none⟩)) (hy : a.eval y = .agg new)
    (hg : W.heap[b]? = some (.cells old 25 (0, 0))) (hs : old.size = new.size) (h3 : new.size = 3) (h1 : new.all (·.oneCell') = true)
    (h : ∀ w', w'.heap[b]? = some (.cells new 25 (0, 0)) → (∀ k, k ≠ b → w'.heap[k]? = W.heap[k]?) → (∀ B, B ≤ b → Below B W w') → wpList Try.prog ops Q rest (a.put o.dst undef) w') : wpList Try.prog ops Q (o :: rest) a W :=
  wpList_plain hgd fun K hK => wp_store_row 25 x y ho b 25 old new hx hy hg hs (by rw [info25, h3]) h1 (hK _ _ (h _ (setRow_heap _ _ _ _ 25 (0, 0) hg) (fun k hk => setRow_other _ _ _ _ hk) (fun B hB => below_setRow hB _ _)))
end Go.Proofs.Ytafmgnojlnkmjaa.H
