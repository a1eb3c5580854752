/- The law TableSame, over numbers and lists alone: nothing has moved from a table to itself, as much to as fro. -/
import Derived.Test.YtafmgnojlnkmjaaQLx17
import Derived.Test.YtafmgnojlnkmjaaPD
namespace Go.Proofs.Ytafmgnojlnkmjaa.QL
open Go.RowKit Go.Proofs.Ytafmgnojlnkmjaa.PB Go.Proofs.YtafmgnojlnkmjaaW.PrintWords Go.Proofs.YtafmgnojlnkmjaaW.PrintLast Go.Proofs.YtafmgnojlnkmjaaW.PrintMore
/-- The law's walk, told of the whole lists. -/
theorem waymasterlaw08_TableSame_c.calls (k : Nat) (a0_0 : Int) (A0_1 : Option Addr) (c0_1 : Nat) (l0_1 : List Int) (A0_2 : Option Addr) (c0_2 : Nat) (l0_2 : List S32) (a1_0 : Int) (A1_1 : Option Addr) (c1_1 : Nat) (l1_1 : List Int) (A1_2 : Option Addr) (c1_2 : Nat) (l1_2 : List S32) (r : Bool) (w : World) (hr0_1 : Kd.C (Kd.int .i64) w A0_1 l0_1.length l0_1) (hc0_1 : l0_1.length ≤ c0_1) (hr0_2 : Kd.C k32 w A0_2 l0_2.length l0_2) (hc0_2 : l0_2.length ≤ c0_2) (hr1_1 : Kd.C (Kd.int .i64) w A1_1 l1_1.length l1_1) (hc1_1 : l1_1.length ≤ c1_1) (hr1_2 : Kd.C k32 w A1_2 l1_2.length l1_2) (hc1_2 : l1_2.length ≤ c1_2) (h : waymasterlaw08_TableSame.f k a0_0 (l0_1.take 20) (l0_2.take 20) a1_0 (l1_1.take 20) (l1_2.take 20) = some r) :
    Calls Try.prog 7 #[.agg #[.int .i64 a0_0, .slice A0_1 l0_1.length c0_1, .slice A0_2 l0_2.length c0_2], .agg #[.int .i64 a1_0, .slice A1_1 l1_1.length c1_1, .slice A1_2 l1_2.length c1_2]] w fun e w' => e = .returned (.bool r) ∧ Below w.heap.size w w' :=
  waymasterlaw08_TableSame.calls k a0_0 A0_1 c0_1 (l0_1.take 20) A0_2 c0_2 (l0_2.take 20) a1_0 A1_1 c1_1 (l1_1.take 20) A1_2 c1_2 (l1_2.take 20) r l0_1.length l0_2.length (take_len _) (take_len _) hc0_1 hc0_2 l1_1.length l1_2.length (take_len _) (take_len _) hc1_1 hc1_2 w (take_C hr0_1) (take_le hc0_1) (take_C hr0_2) (take_le hc0_2) (take_C hr1_1) (take_le hc1_1) (take_C hr1_2) (take_le hc1_2) h
end Go.Proofs.Ytafmgnojlnkmjaa.QL
namespace Go.Proofs.Ytafmgnojlnkmjaa.Pure
open Go.RowKit Go.Proofs.Ytafmgnojlnkmjaa.QL Go.Proofs.Ytafmgnojlnkmjaa.H Go.Proofs.Ytafmgnojlnkmjaa.PB Go.Proofs.YtafmgnojlnkmjaaW.PrintWords Go.Proofs.YtafmgnojlnkmjaaW.PrintLast
set_option linter.unusedVariables false
set_option linter.unusedSimpArgs false

theorem TableSame_cut (Q1 : Int) (c1 : List Int) (s1 : List S32) (Q2 : Int) (c2 : List Int) (s2 : List S32) (l1 : c1.length ≤ 20) (l2 : s1.length ≤ 20) (l3 : c2.length ≤ 20) (l4 : s2.length ≤ 20) : ∃ k, waymasterlaw08_TableSame.f k Q1 c1 s1 Q2 c2 s2 = some true := by
  obtain ⟨K, hK⟩ : ∃ K, K = 300 := ⟨_, rfl⟩
  refine ⟨K, ?_⟩
  have e1 : table_Right.f Q1 c1 s1 = some (rightB Q1 c1 s1) := rfl
  have e2 : table_Right.f Q2 c2 s2 = some (rightB Q2 c2 s2) := rfl
  have hc : movedP Q2 c2 s2 Q1 c1 s1 = movedP Q1 c1 s1 Q2 c2 s2 := by
    unfold movedP
    rw [movedTo_comm c2 s2 c1 s1 16]
    by_cases h : rightB Q1 c1 s1 = true ∧ rightB Q2 c2 s2 = true
    · rw [if_pos h, if_pos ⟨h.2, h.1⟩]
    · rw [if_neg h, if_neg (fun x => h ⟨x.2, x.1⟩)]
  have hs : movedP Q1 c1 s1 Q1 c1 s1 = ([], if rightB Q1 c1 s1 = true then 0 else 80) := by
    unfold movedP
    cases h : rightB Q1 c1 s1 with
    | true => rw [if_pos ⟨rfl, rfl⟩, if_pos rfl, movedTo_self]
    | false => rw [if_neg (by simp), if_neg (by decide)]
  have hl : (movedP Q1 c1 s1 Q2 c2 s2).1.length ≤ 16 := by
    unfold movedP
    split
    · exact movedTo_length c1 s1 c2 s2 16
    · simp
  have h2 : (movedP Q1 c1 s1 Q2 c2 s2).2 = if rightB Q1 c1 s1 = true ∧ rightB Q2 c2 s2 = true then 0 else 80 := by
    unfold movedP
    split <;> rfl
  unfold waymasterlaw08_TableSame.f
  rw [shown_true (by omega), Option.bind_some, moved_f _ _ _ _ _ _ (by omega), Option.bind_some, moved_f _ _ _ _ _ _ (by omega), Option.bind_some, moved_f _ _ _ _ _ _ (by omega), Option.bind_some, if_pos rfl, hc, hs, if_pos (by rfl), e1, e2]
  simp only [Option.bind_some]
  rw [same_self _ (by omega) (by omega), h2]
  cases hr1 : rightB Q1 c1 s1 <;> cases hr2 : rightB Q2 c2 s2 <;> rfl

theorem TableSame (Q0 : Int) (c0 : List Int) (s0 : List S32) (Q1 : Int) (c1 : List Int) (s1 : List S32) (_ : (Lit.int .i64 Q0).wf = true) (_ : c0.length ≤ maxLen) (_ : ∀ x ∈ c0, (Lit.int .i64 x).wf = true) (_ : s0.length ≤ maxLen) (_ : ∀ x ∈ s0, (Lit.int .i64 x.f0).wf = true ∧ (Lit.int .i64 x.f1).wf = true) (_ : (Lit.int .i64 Q1).wf = true) (_ : c1.length ≤ maxLen) (_ : ∀ x ∈ c1, (Lit.int .i64 x).wf = true) (_ : s1.length ≤ maxLen) (_ : ∀ x ∈ s1, (Lit.int .i64 x.f0).wf = true ∧ (Lit.int .i64 x.f1).wf = true) : ∃ k, waymasterlaw08_TableSame.f k Q0 (c0.take 20) (s0.take 20) Q1 (c1.take 20) (s1.take 20) = some true := TableSame_cut Q0 (c0.take 20) (s0.take 20) Q1 (c1.take 20) (s1.take 20) (take_20 _) (take_20 _) (take_20 _) (take_20 _)
end Go.Proofs.Ytafmgnojlnkmjaa.Pure
