/- The law TableOwners, over numbers and lists alone: who has a queue, and which queues have none. -/
import Derived.Test.YtafmgnojlnkmjaaQLx21
import Derived.Test.YtafmgnojlnkmjaaPE
namespace Go.Proofs.Ytafmgnojlnkmjaa.QL
open Go.RowKit Go.Proofs.Ytafmgnojlnkmjaa.PB Go.Proofs.YtafmgnojlnkmjaaW.PrintWords Go.Proofs.YtafmgnojlnkmjaaW.PrintLast Go.Proofs.YtafmgnojlnkmjaaW.PrintMore
/-- The law's walk, told of the whole lists. -/
theorem waymasterlaw08_TableOwners_c.calls (k : Nat) (a0_0 : Int) (A0_1 : Option Addr) (c0_1 : Nat) (l0_1 : List Int) (A0_2 : Option Addr) (c0_2 : Nat) (l0_2 : List S32) (r : Bool) (w : World) (hr0_1 : Kd.C (Kd.int .i64) w A0_1 l0_1.length l0_1) (hc0_1 : l0_1.length ≤ c0_1) (hr0_2 : Kd.C k32 w A0_2 l0_2.length l0_2) (hc0_2 : l0_2.length ≤ c0_2) (h : waymasterlaw08_TableOwners.f k a0_0 (l0_1.take 20) (l0_2.take 20) = some r) :
    Calls Try.prog 9 #[.agg #[.int .i64 a0_0, .slice A0_1 l0_1.length c0_1, .slice A0_2 l0_2.length c0_2]] w fun e w' => e = .returned (.bool r) ∧ Below w.heap.size w w' :=
  waymasterlaw08_TableOwners.calls k a0_0 A0_1 c0_1 (l0_1.take 20) A0_2 c0_2 (l0_2.take 20) r l0_1.length l0_2.length (take_len _) (take_len _) hc0_1 hc0_2 w (take_C hr0_1) (take_le hc0_1) (take_C hr0_2) (take_le hc0_2) h
end Go.Proofs.Ytafmgnojlnkmjaa.QL
namespace Go.Proofs.Ytafmgnojlnkmjaa.Pure
open Go.RowKit Go.Proofs.Ytafmgnojlnkmjaa.QL Go.Proofs.Ytafmgnojlnkmjaa.H Go.Proofs.Ytafmgnojlnkmjaa.PB Go.Proofs.YtafmgnojlnkmjaaW.PrintWords Go.Proofs.YtafmgnojlnkmjaaW.PrintLast
set_option linter.unusedVariables false
set_option linter.unusedSimpArgs false

theorem rdS_at (l : List S32) (j : Nat) (h : j < l.length) : rd_T32 l (j : Int) = l[j] := by
  unfold rd_T32
  simp [List.getD_eq_getElem?_getD, h]
theorem wrap_id {x : Int} (h1 : 0 ≤ x) (h2 : x ≤ 1000) : wrap64 x = x := by unfold wrap64; omega
theorem owners_l2 {Q : Int} {cls : List Int} {sp : List S32} (hr : rightB Q cls sp = true) : ∀ (d k q : Nat), q + d = Q.toNat → d + 70 < k → waymasterlaw08_TableOwners.l2 k true (idleTo (ownOut sp) Q.toNat) 0 (q : Int) Q cls sp = some true
  | d, 0, q, _, hk => absurd hk (by omega)
  | 0, k + 1, q, h, _ => by
    have hq := (right_parts hr).1
    simp only [waymasterlaw08_TableOwners.l2]
    rw [if_neg (by omega), if_pos trivial]
    rfl
  | d + 1, k + 1, q, h, hk => by
    obtain ⟨r1, r2, r3, r4, r5, r6, r7, r8⟩ := right_parts hr
    have hw : wrap64 ((q : Int) + 1) = ((q + 1 : Nat) : Int) := by unfold wrap64; omega
    obtain ⟨o1, o2⟩ := owner_none hr (q := (q : Int)) (by omega) (by omega)
    have hlen := idleTo_length (ownOut sp) Q.toNat
    have hmem := mem_idleTo (ownOut sp) (q : Int) Q.toNat
    have ih := owners_l2 hr d k (q + 1) (by omega) (by omega)
    have hb : (idleTo (ownOut sp) Q.toNat).length ≤ 64 := Nat.le_trans hlen (by omega)
    have hb2 : (idleTo (ownOut sp) Q.toNat).length < k := Nat.lt_of_le_of_lt hb (by omega)
    have hb1 : (idleTo (ownOut sp) Q.toNat).length ≤ 1000 := Nat.le_trans hb (by omega)
    clear hlen hb
    simp only [waymasterlaw08_TableOwners.l2]
    rw [if_pos (by omega)]
    show (some (ownerP Q cls sp (q : Int))).bind _ = _
    rw [Option.bind_some, if_pos o1, has_f _ _ hb1 hb2, Option.bind_some]
    have e : ((ownerP Q cls sp (q : Int)).1 == (-1)) = decide ((q : Int) ∈ idleTo (ownOut sp) Q.toNat) := by
      by_cases hz : rd (ownOut sp) (q : Int) = 0
      · rw [decide_eq_true (hmem.2 ⟨by omega, by omega, hz⟩), o2.1 hz]
        rfl
      · rw [decide_eq_false fun h => hz (hmem.1 h).2.2]
        exact beq_eq_false_iff_ne.2 fun h => hz (o2.2 h)
    rw [e, if_neg (by simp), hw]
    exact ih
theorem owners_l01 {Q : Int} {cls : List Int} {sp : List S32} (hr : rightB Q cls sp = true) : ∀ (k : Nat),
    (∀ d j : Nat, j + d = sp.length → d * 70 + 200 < k → waymasterlaw08_TableOwners.l0 k true (j : Int) Q cls sp = some true) ∧
    (∀ (d j i e : Nat) (hj : j < sp.length), j + d + 1 = sp.length → (i : Int) + e = sp[j].f1 → e + d * 70 + 202 < k → waymasterlaw08_TableOwners.l1 k true (j : Int) (i : Int) Q cls sp = some true)
  | 0 => ⟨fun _ _ _ h => absurd h (by omega), fun _ _ _ _ _ _ _ h => absurd h (by omega)⟩
  | k + 1 => by
    obtain ⟨ih0, ih1⟩ := owners_l01 hr k
    obtain ⟨r1, r2, r3, r4, r5, r6, r7, r8⟩ := right_parts hr
    refine ⟨fun d j h hk => ?_, fun d j i e hj h he hk => ?_⟩
    · simp only [waymasterlaw08_TableOwners.l0]
      by_cases hj : j < sp.length
      · obtain ⟨d, rfl⟩ : ∃ x, d = x + 1 := ⟨d - 1, by omega⟩
        have hm := r6 sp[j] (List.getElem_mem hj)
        rw [okS_iff] at hm
        rw [if_pos (by omega)]
        refine ih1 d j 0 (sp[j].f1).toNat hj (by omega) (by omega) ?_
        generalize sp[j].f1 = y at hm ⊢
        generalize sp[j].f0 = z at hm
        omega
      · rw [if_neg (by omega)]
        show (some (idleP Q cls sp)).bind _ = _
        rw [Option.bind_some]
        have hi : idleP Q cls sp = (idleTo (ownOut sp) Q.toNat, 0) := by unfold idleP; rw [if_pos hr]
        rw [hi]
        exact owners_l2 hr Q.toNat k 0 (by omega) (by omega)
    · have hm := r6 sp[j] (List.getElem_mem hj)
      rw [okS_iff] at hm
      have hj0 : (0 : Int) ≤ (j : Int) := Int.natCast_nonneg j
      have hj1 : (j : Int) < (sp.length : Int) := Int.ofNat_lt.2 hj
      have hi0 : (0 : Int) ≤ (i : Int) := Int.natCast_nonneg i
      have hl : e ≠ 0 → lies sp (sp[j].f0 + (i : Int)) j := fun hz => ⟨hj, by
        unfold inS
        clear hm hk ih0 ih1
        generalize sp[j].f0 = z
        generalize sp[j].f1 = y at he
        omega⟩
      have hb : 0 ≤ sp[j].f0 + (i : Int) ∧ sp[j].f0 + (i : Int) ≤ 1000 ∧ (i : Int) ≤ 900 := by
        clear hk ih0 ih1 hl
        generalize sp[j].f0 = z at *
        generalize sp[j].f1 = y at *
        omega
      have hw : wrap64 ((j : Int) + 1) = ((j + 1 : Nat) : Int) := wrap_id (by omega) (by omega)
      have hw1 : wrap64 ((i : Int) + 1) = ((i + 1 : Nat) : Int) := wrap_id (by omega) (by omega)
      have hw2 : wrap64 (sp[j].f0 + (i : Int)) = sp[j].f0 + (i : Int) := wrap_id hb.1 hb.2.1
      simp only [waymasterlaw08_TableOwners.l1]
      rw [if_pos hj0, if_pos hj1, rdS_at sp j hj]
      cases e with
      | zero =>
        have hn : ¬ (i : Int) < sp[j].f1 := by rw [← he]; simp
        rw [if_neg hn, hw]
        exact ih0 d (j + 1) (by omega) (by omega)
      | succ e =>
        have hn : (i : Int) < sp[j].f1 := by rw [← he]; omega
        have he' : ((i + 1 : Nat) : Int) + (e : Int) = sp[j].f1 := by rw [← he]; omega
        rw [if_pos hn, hw2]
        show (some (ownerP Q cls sp (sp[j].f0 + (i : Int)))).bind _ = _
        rw [owner_of hr (hl (by omega)), Option.bind_some, if_pos rfl, if_pos rfl, hw1]
        exact ih1 d j (i + 1) e hj h he' (by omega)
theorem TableOwners_cut (Q : Int) (cls : List Int) (sp : List S32) : ∃ k, waymasterlaw08_TableOwners.f k Q cls sp = some true := by
  obtain ⟨K, hK⟩ : ∃ K, K = 2000 := ⟨_, rfl⟩
  refine ⟨K, ?_⟩
  unfold waymasterlaw08_TableOwners.f
  rw [shown_true (by omega), Option.bind_some]
  show (some (rightB Q cls sp)).bind _ = _
  rw [Option.bind_some]
  cases hr : rightB Q cls sp with
  | false => rw [if_neg (by decide)]
  | true =>
    have hp := right_parts hr
    rw [if_pos rfl]
    exact (owners_l01 hr K).1 sp.length 0 (by omega) (by omega)

theorem TableOwners (Q0 : Int) (c0 : List Int) (s0 : List S32) (_ : (Lit.int .i64 Q0).wf = true) (_ : c0.length ≤ maxLen) (_ : ∀ x ∈ c0, (Lit.int .i64 x).wf = true) (_ : s0.length ≤ maxLen) (_ : ∀ x ∈ s0, (Lit.int .i64 x.f0).wf = true ∧ (Lit.int .i64 x.f1).wf = true) : ∃ k, waymasterlaw08_TableOwners.f k Q0 (c0.take 20) (s0.take 20) = some true := TableOwners_cut Q0 (c0.take 20) (s0.take 20)
end Go.Proofs.Ytafmgnojlnkmjaa.Pure
