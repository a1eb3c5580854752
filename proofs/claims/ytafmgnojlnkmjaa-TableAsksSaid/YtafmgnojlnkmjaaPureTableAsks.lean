/- The law TableAsks, over numbers and lists alone: a class, a span, an owner. -/
import Derived.Test.YtafmgnojlnkmjaaQLx8
import Derived.Test.YtafmgnojlnkmjaaPD
namespace Go.Proofs.Ytafmgnojlnkmjaa.QL
open Go.RowKit Go.Proofs.Ytafmgnojlnkmjaa.PB Go.Proofs.YtafmgnojlnkmjaaW.PrintWords Go.Proofs.YtafmgnojlnkmjaaW.PrintLast Go.Proofs.YtafmgnojlnkmjaaW.PrintMore
/-- The law's walk, told of the whole lists. -/
theorem waymasterlaw08_TableAsks_c.calls (k : Nat) (a0_0 : Int) (A0_1 : Option Addr) (c0_1 : Nat) (l0_1 : List Int) (A0_2 : Option Addr) (c0_2 : Nat) (l0_2 : List S32) (a1 : Int) (r : Bool) (w : World) (hr0_1 : Kd.C (Kd.int .i64) w A0_1 l0_1.length l0_1) (hc0_1 : l0_1.length ≤ c0_1) (hr0_2 : Kd.C k32 w A0_2 l0_2.length l0_2) (hc0_2 : l0_2.length ≤ c0_2) (h : waymasterlaw08_TableAsks.f k a0_0 (l0_1.take 20) (l0_2.take 20) a1 = some r) :
    Calls Try.prog 3 #[.agg #[.int .i64 a0_0, .slice A0_1 l0_1.length c0_1, .slice A0_2 l0_2.length c0_2], .int .i64 a1] w fun e w' => e = .returned (.bool r) ∧ Below w.heap.size w w' :=
  waymasterlaw08_TableAsks.calls k a0_0 A0_1 c0_1 (l0_1.take 20) A0_2 c0_2 (l0_2.take 20) a1 r l0_1.length l0_2.length (take_len _) (take_len _) hc0_1 hc0_2 w (take_C hr0_1) (take_le hc0_1) (take_C hr0_2) (take_le hc0_2) h
end Go.Proofs.Ytafmgnojlnkmjaa.QL
namespace Go.Proofs.Ytafmgnojlnkmjaa.Pure
open Go.RowKit Go.Proofs.Ytafmgnojlnkmjaa.QL Go.Proofs.Ytafmgnojlnkmjaa.H Go.Proofs.Ytafmgnojlnkmjaa.PB Go.Proofs.YtafmgnojlnkmjaaW.PrintWords Go.Proofs.YtafmgnojlnkmjaaW.PrintLast
set_option linter.unusedVariables false
set_option linter.unusedSimpArgs false

theorem TableAsks_cut (Q : Int) (cls : List Int) (sp : List S32) (n : Int) (h1 : cls.length ≤ 20) (h2 : sp.length ≤ 20) : ∃ k, waymasterlaw08_TableAsks.f k Q cls sp n = some true := by
  obtain ⟨K, hK⟩ : ∃ K, K = 300 := ⟨_, rfl⟩
  refine ⟨K, ?_⟩
  have e1 : table_Owner.f Q cls sp n = some (ownerP Q cls sp n) := rfl
  unfold waymasterlaw08_TableAsks.f
  rw [shown_true (by omega), Option.bind_some, class_f, Option.bind_some, rclass_f Q cls sp h1 h2 n (by omega), Option.bind_some, span_f, Option.bind_some, rspan_f Q cls sp h1 h2 n (by omega), Option.bind_some, e1, Option.bind_some, ref_owner Q cls sp h1 h2 n (by omega), Option.bind_some, if_pos rfl, if_pos rfl, if_pos rfl, if_pos (by simp), if_pos rfl, if_pos rfl, beq_self_eq_true]

theorem TableAsks (Q0 : Int) (c0 : List Int) (s0 : List S32) (n : Int) (_ : (Lit.int .i64 Q0).wf = true) (_ : c0.length ≤ maxLen) (_ : ∀ x ∈ c0, (Lit.int .i64 x).wf = true) (_ : s0.length ≤ maxLen) (_ : ∀ x ∈ s0, (Lit.int .i64 x.f0).wf = true ∧ (Lit.int .i64 x.f1).wf = true) (_ : (Lit.int .i64 n).wf = true) : ∃ k, waymasterlaw08_TableAsks.f k Q0 (c0.take 20) (s0.take 20) n = some true := TableAsks_cut Q0 (c0.take 20) (s0.take 20) n (take_20 _) (take_20 _)
end Go.Proofs.Ytafmgnojlnkmjaa.Pure
