/- The law TableSpans, over numbers and lists alone: a span is that of its class, within the queues. -/
import Derived.Test.YtafmgnojlnkmjaaQLx12
import Derived.Test.YtafmgnojlnkmjaaPD
namespace Go.Proofs.Ytafmgnojlnkmjaa.QL
open Go.RowKit Go.Proofs.Ytafmgnojlnkmjaa.PB Go.Proofs.YtafmgnojlnkmjaaW.PrintWords Go.Proofs.YtafmgnojlnkmjaaW.PrintLast Go.Proofs.YtafmgnojlnkmjaaW.PrintMore
/-- The law's walk, told of the whole lists. -/
theorem waymasterlaw08_TableSpans_c.calls (k : Nat) (a0_0 : Int) (A0_1 : Option Addr) (c0_1 : Nat) (l0_1 : List Int) (A0_2 : Option Addr) (c0_2 : Nat) (l0_2 : List S32) (a1 : Int) (r : Bool) (w : World) (hr0_1 : Kd.C (Kd.int .i64) w A0_1 l0_1.length l0_1) (hc0_1 : l0_1.length ≤ c0_1) (hr0_2 : Kd.C k32 w A0_2 l0_2.length l0_2) (hc0_2 : l0_2.length ≤ c0_2) (h : waymasterlaw08_TableSpans.f k a0_0 (l0_1.take 20) (l0_2.take 20) a1 = some r) :
    Calls Try.prog 5 #[.agg #[.int .i64 a0_0, .slice A0_1 l0_1.length c0_1, .slice A0_2 l0_2.length c0_2], .int .i64 a1] w fun e w' => e = .returned (.bool r) ∧ Below w.heap.size w w' :=
  waymasterlaw08_TableSpans.calls k a0_0 A0_1 c0_1 (l0_1.take 20) A0_2 c0_2 (l0_2.take 20) a1 r l0_1.length l0_2.length (take_len _) (take_len _) hc0_1 hc0_2 w (take_C hr0_1) (take_le hc0_1) (take_C hr0_2) (take_le hc0_2) h
end Go.Proofs.Ytafmgnojlnkmjaa.QL
namespace Go.Proofs.Ytafmgnojlnkmjaa.Pure
open Go.RowKit Go.Proofs.Ytafmgnojlnkmjaa.QL Go.Proofs.Ytafmgnojlnkmjaa.H Go.Proofs.Ytafmgnojlnkmjaa.PB Go.Proofs.YtafmgnojlnkmjaaW.PrintWords Go.Proofs.YtafmgnojlnkmjaaW.PrintLast
set_option linter.unusedVariables false
set_option linter.unusedSimpArgs false

theorem TableSpans_cut (Q : Int) (cls : List Int) (sp : List S32) (n : Int) (h1 : cls.length ≤ 20) (h2 : sp.length ≤ 20) : ∃ k, waymasterlaw08_TableSpans.f k Q cls sp n = some true := by
  obtain ⟨K, hK⟩ : ∃ K, K = 300 := ⟨_, rfl⟩
  refine ⟨K + 1, ?_⟩
  have e2 : table_Right.f Q cls sp = some (rightB Q cls sp) := rfl
  have yes : waymasterlaw08_TableSpans.j0 (K + 1) n true true Q cls sp = some true := by
    rw [waymasterlaw08_TableSpans.j0, if_pos rfl]
  unfold waymasterlaw08_TableSpans.f
  rw [shown_true (by omega), Option.bind_some, e2, Option.bind_some]
  cases hr : rightB Q cls sp with
  | false => rw [if_neg (by decide)]; exact yes
  | true =>
    rw [if_pos rfl]
    by_cases hn0 : n < 0
    · rw [if_pos hn0]; exact yes
    by_cases hn1 : n > 15
    · rw [if_neg hn0, decide_eq_true hn1]; exact yes
    rw [if_neg hn0, decide_eq_false hn1, waymasterlaw08_TableSpans.j0, if_neg (by decide), class_f, Option.bind_some, span_f, Option.bind_some]
    have hin : 0 ≤ n ∧ n < 16 := by omega
    have hcr := class_range hr hin.1 hin.2
    unfold classP spanP
    rw [if_pos hr, if_pos hin, if_pos hr, if_pos hin]
    obtain ⟨r1, r2, r3, r4, r5, r6, r7, r8⟩ := right_parts hr
    obtain ⟨c, hc⟩ : ∃ c : Nat, rd cls n = (c : Int) := ⟨(rd cls n).toNat, by omega⟩
    rw [hc] at hcr ⊢
    have hcl : c < sp.length := by omega
    have hm := (okS_iff Q _).1 (r6 _ (rdS_mem hcl))
    have hli : lies sp (rd_T32 sp (c : Int)).f0 c := ⟨hcl, by rw [rdS_get sp c hcl] at hm ⊢; exact ⟨Int.le_refl _, by omega⟩⟩
    have e3 : table_Owner.f Q cls sp (rd_T32 sp (c : Int)).f0 = some (ownerP Q cls sp (rd_T32 sp (c : Int)).f0) := rfl
    dsimp only
    rw [e3, Option.bind_some, owner_of hr hli, if_pos rfl, if_pos rfl, if_pos rfl, if_pos rfl, if_pos rfl, if_pos hm.1, if_pos hm.2.2.1]
    have hw : wrap64 ((rd_T32 sp (c : Int)).f0 + (rd_T32 sp (c : Int)).f1) = (rd_T32 sp (c : Int)).f0 + (rd_T32 sp (c : Int)).f1 := by unfold wrap64; omega
    rw [hw, decide_eq_true (by omega)]

theorem TableSpans (Q0 : Int) (c0 : List Int) (s0 : List S32) (n : Int) (_ : (Lit.int .i64 Q0).wf = true) (_ : c0.length ≤ maxLen) (_ : ∀ x ∈ c0, (Lit.int .i64 x).wf = true) (_ : s0.length ≤ maxLen) (_ : ∀ x ∈ s0, (Lit.int .i64 x.f0).wf = true ∧ (Lit.int .i64 x.f1).wf = true) (_ : (Lit.int .i64 n).wf = true) : ∃ k, waymasterlaw08_TableSpans.f k Q0 (c0.take 20) (s0.take 20) n = some true := TableSpans_cut Q0 (c0.take 20) (s0.take 20) n (take_20 _) (take_20 _)
end Go.Proofs.Ytafmgnojlnkmjaa.Pure
