/- Scaling: plain facts. -/
import Derived.Test.YtgemicgpaklmlaaPB
import Derived.Test.YtgemicgpaklmlaaQLx13
namespace Go.Proofs.Ytgemicgpaklmlaa.PB
open Go.RowKit Go.Proofs.Ytgemicgpaklmlaa.QL Go.Proofs.Ytgemicgpaklmlaa.QB Go.Proofs.Ytgemicgpaklmlaa.H Go.Proofs.YtgemicgpaklmlaaW.PrintWords Go.Proofs.YtgemicgpaklmlaaW.PrintLast Go.Proofs.YtgemicgpaklmlaaW.PrintMore

theorem u32_of {a : Int} (h : (Lit.int .u32 a).wf = true) : 0 ≤ a ∧ a < 4294967296 := by
  obtain ⟨b, rfl⟩ := of_wf h
  have := b.isLt
  unfold I
  omega
theorem prod_lt {a n : Int} (ha : 0 ≤ a ∧ a < 4294967296) (hn : 1 ≤ n ∧ n ≤ 65536) : 0 ≤ a * n ∧ a * n < 281474976710656 := by
  constructor
  · exact Int.mul_nonneg ha.1 (by omega)
  · have h1 : a * n ≤ 4294967295 * n := Int.mul_le_mul_of_nonneg_right (by omega) (by omega)
    generalize a * n = p at h1
    omega
def sc (a n : Int) : Int := a * n / 4294967296
theorem scale_bad {a n : Int} (h : ¬ (1 ≤ n ∧ n ≤ 65536)) : hash_Scale.f a n = some (0, 2) := by
  unfold hash_Scale.f
  by_cases h1 : n < 1
  · rw [if_pos h1]
  · rw [if_neg h1, if_pos (by omega)]
theorem scale_ok {a n : Int} (ha : 0 ≤ a ∧ a < 4294967296) (hn : 1 ≤ n ∧ n ≤ 65536) : hash_Scale.f a n = some (sc a n, 0) := by
  unfold hash_Scale.f bits_Mul32.f
  rw [if_neg (by omega), if_neg (by omega), Option.bind_some]
  have e1 : IntKind.u64.wrap a = a := by rw [wrap_u64]; omega
  have e2 : IntKind.u64.wrap (n % 4294967296) = n := by rw [wrap_u64]; omega
  have hp := prod_lt ha hn
  rw [e1, e2]
  unfold sc
  generalize a * n = p at hp
  have e3 : IntKind.u64.wrap p = p := by rw [wrap_u64]; omega
  rw [e3]
  have e4 : wrap64 (p / 4294967296 % 4294967296) = p / 4294967296 := by unfold wrap64; omega
  rw [e4]
theorem rscale_bad {a n : Int} (h : ¬ (1 ≤ n ∧ n ≤ 65536)) : waymasterref07_Scale.f a n = some (0, 2) := by
  unfold waymasterref07_Scale.f
  by_cases h1 : n < 1
  · rw [if_pos h1]
  · rw [if_neg h1, if_pos (by omega)]
theorem rscale_ok {a n : Int} (ha : 0 ≤ a ∧ a < 4294967296) (hn : 1 ≤ n ∧ n ≤ 65536) : waymasterref07_Scale.f a n = some (sc a n, 0) := by
  unfold waymasterref07_Scale.f
  rw [if_neg (by omega), if_neg (by omega)]
  have e1 : IntKind.u64.wrap a = a := by rw [wrap_u64]; omega
  have e2 : IntKind.u64.wrap n = n := by rw [wrap_u64]; omega
  have hp := prod_lt ha hn
  rw [e1, e2]
  unfold sc
  generalize a * n = p at hp
  have e3 : IntKind.u64.wrap p = p := by rw [wrap_u64]; omega
  rw [e3, Int.tdiv_eq_ediv_of_nonneg hp.1]
  have e5 : IntKind.u64.wrap (p / 4294967296) = p / 4294967296 := by rw [wrap_u64]; omega
  have e4 : wrap64 (p / 4294967296) = p / 4294967296 := by unfold wrap64; omega
  rw [e5, e4]
end Go.Proofs.Ytgemicgpaklmlaa.PB
