/- The law HashFlows, over numbers alone: a flow's number is the document's. -/
import Derived.Test.YtgemicgpaklmlaaQLx20
import Derived.Test.YtgemicgpaklmlaaPF
namespace Go.Proofs.Ytgemicgpaklmlaa.QL
/-- A flow's numbers. -/
structure S39 where
  f0 : Int
  f1 : Int
  f2 : Int
  f3 : Int
  f4 : Int
end Go.Proofs.Ytgemicgpaklmlaa.QL
namespace Go.Proofs.Ytgemicgpaklmlaa.Pure
open Go.RowKit Go.Proofs.Ytgemicgpaklmlaa.QL Go.Proofs.YtgemicgpaklmlaaW.PrintWords Go.Proofs.YtgemicgpaklmlaaW.PrintLast
open Go.Proofs.Ytgemicgpaklmlaa.PB

theorem wf_u32 {x : Int} (h0 : 0 ≤ x) (h1 : x < 4294967296) : (Lit.int .u32 x).wf = true := by
  simp [Lit.wf, IntKind.min, IntKind.max, IntKind.bits, IntKind.signed]
  omega
theorem range_u16 {x : Int} (h : (Lit.int .u16 x).wf = true) : 0 ≤ x ∧ x < 65536 := by
  simp [Lit.wf, IntKind.min, IntKind.max, IntKind.bits, IntKind.signed] at h
  omega
theorem range_u8 {x : Int} (h : (Lit.int .u8 x).wf = true) : 0 ≤ x ∧ x < 256 := by
  simp [Lit.wf, IntKind.min, IntKind.max, IntKind.bits, IntKind.signed] at h
  omega
/-- Two halves side by side: or is plus. -/
theorem ports {a b : Int} (ha : 0 ≤ a ∧ a < 65536) (hb : 0 ≤ b ∧ b < 65536) : Go.bits .or .u32 ((a % 4294967296) * 65536 % 4294967296) (b % 4294967296) = 65536 * a + b := by
  obtain ⟨m, rfl⟩ : ∃ m : Nat, a = m := ⟨a.toNat, by omega⟩
  obtain ⟨n, rfl⟩ : ∃ n : Nat, b = n := ⟨b.toNat, by omega⟩
  have e1 : ((m : Int) % 4294967296) * 65536 % 4294967296 = I (BitVec.ofNat 32 (m * 65536)) := by unfold I; rw [BitVec.toNat_ofNat]; omega
  have e2 : (n : Int) % 4294967296 = I (BitVec.ofNat 32 n) := by unfold I; rw [BitVec.toNat_ofNat]; omega
  rw [e1, e2, orI]
  unfold I
  rw [BitVec.toNat_or, BitVec.toNat_ofNat, BitVec.toNat_ofNat]
  have h1 : m * 65536 % 2 ^ 32 = 2 ^ 16 * m := by omega
  have h2 : n % 2 ^ 32 = n := by omega
  have h3 := Nat.two_pow_add_eq_or_of_lt (i := 16) (b := n) (by omega) m
  rw [h1, h2, ← h3]
  omega
theorem flow_list {a b c d e : Int} (hc : 0 ≤ c ∧ c < 65536) (hd : 0 ≤ d ∧ d < 65536) :
    ([a, b, Go.bits .or .u32 ((c % 4294967296) * 65536 % 4294967296) (d % 4294967296), e] : List Int) = [a, b, ((65536 * (c % 4294967296)) % 4294967296 + d % 4294967296) % 4294967296, e] := by
  rw [ports hc hd]
  have : ((65536 * (c % 4294967296)) % 4294967296 + d % 4294967296) % 4294967296 = 65536 * c + d := by omega
  rw [this]
theorem HashFlows (x : S39) (a : Int) (h : (Lit.int .u32 x.f0).wf = true ∧ (Lit.int .u32 x.f1).wf = true ∧ (Lit.int .u16 x.f2).wf = true ∧ (Lit.int .u16 x.f3).wf = true ∧ (Lit.int .u8 x.f4).wf = true) (ha : (Lit.int .u32 a).wf = true) :
    ∃ k, waymasterlaw07_HashFlows.f k x.f0 x.f1 x.f2 x.f3 x.f4 a = some true := by
  obtain ⟨h0, h1, h2, h3, h4⟩ := h
  obtain ⟨s, rfl⟩ := of_wf ha
  have r2 := range_u16 h2
  have r3 := range_u16 h3
  have r4 := range_u8 h4
  obtain ⟨K, hK⟩ : ∃ K, K = 10 := ⟨_, rfl⟩
  refine ⟨K, ?_⟩
  unfold waymasterlaw07_HashFlows.f hash_Of.f waymasterref07_Of.f
  rw [shown, Option.bind_some, if_pos rfl, flow_list r2 r3]
  have hall : AllB [x.f0, x.f1, ((65536 * (x.f2 % 4294967296)) % 4294967296 + x.f3 % 4294967296) % 4294967296, x.f4 % 4294967296] := by
    intro y hy
    simp only [List.mem_cons, List.not_mem_nil, or_false] at hy
    rcases hy with rfl | rfl | rfl | rfl
    · exact h0
    · exact h1
    · exact wf_u32 (by omega) (by omega)
    · exact wf_u32 (by omega) (by omega)
  have hlen : [x.f0, x.f1, ((65536 * (x.f2 % 4294967296)) % 4294967296 + x.f3 % 4294967296) % 4294967296, x.f4 % 4294967296].length = 4 := rfl
  generalize [x.f0, x.f1, ((65536 * (x.f2 % 4294967296)) % 4294967296 + x.f3 % 4294967296) % 4294967296, x.f4 % 4294967296] = y at hall hlen ⊢
  obtain ⟨r, e1, e2⟩ := words_same s y hall (by omega) K (by omega)
  rw [e1, Option.bind_some, Option.bind_some, e2, Option.bind_some, Option.bind_some, beq_self_eq_true]

end Go.Proofs.Ytgemicgpaklmlaa.Pure
