/- The reference's number of some words: plain facts. -/
import Derived.Test.YtgemicgpaklmlaaPB
import Derived.Test.YtgemicgpaklmlaaQLx10
namespace Go.Proofs.Ytgemicgpaklmlaa.PB
open Go.RowKit Go.Proofs.Ytgemicgpaklmlaa.QL Go.Proofs.Ytgemicgpaklmlaa.QB Go.Proofs.Ytgemicgpaklmlaa.H Go.Proofs.YtgemicgpaklmlaaW.PrintWords Go.Proofs.YtgemicgpaklmlaaW.PrintLast Go.Proofs.YtgemicgpaklmlaaW.PrintMore

def AllB (l : List Int) : Prop := ∀ x ∈ l, (Lit.int .u32 x).wf = true
theorem mixI_I (a b : BitVec 32) : mixI (I a) (I b) = I (mixB a b) := by
  unfold mixI
  rw [PB.mix_I]
  rfl
theorem pre_I (s : BitVec 32) (l : List Int) (hl : AllB l) (j : Nat) : ∃ b, pre (I s) l j = I b := by
  unfold pre
  have hl' : AllB (l.take j) := fun x hx => hl x (List.mem_of_mem_take hx)
  generalize l.take j = m at hl'
  induction m generalizing s with
  | nil => exact ⟨s, rfl⟩
  | cons x t ih =>
    obtain ⟨b, rfl⟩ := of_wf (hl' x (by simp))
    rw [List.foldl_cons, mixI_I]
    exact ih _ (fun y hy => hl' y (by simp [hy]))
theorem rd_mem {l : List Int} {j : Nat} (h : j < l.length) : rd l (j : Int) ∈ l := by
  unfold rd
  rw [Int.toNat_natCast, List.getD_eq_getElem?_getD, List.getElem?_eq_getElem h]
  exact List.getElem_mem h
theorem rwords (s : BitVec 32) (l : List Int) (hl : AllB l) (hn : l.length ≤ 1000) (d : Nat) : ∀ (k j : Nat), j ≤ l.length → l.length - j = d → d < k → waymasterref07_Words.l0 k l (pre (I s) l j) (j : Int) = hash_End.f (pre (I s) l l.length) (4 * (l.length : Int)) := by
  induction d with
  | zero =>
    intro k j hj hd hk
    obtain ⟨k, rfl⟩ : ∃ m, k = m + 1 := ⟨k - 1, by omega⟩
    obtain rfl : j = l.length := by omega
    obtain ⟨b, hb⟩ := pre_I s l hl l.length
    simp only [waymasterref07_Words.l0]
    rw [if_neg (by omega), hb]
    obtain ⟨c, hc⟩ : ∃ c : BitVec 32, 4 * (l.length : Int) = I c := ⟨BitVec.ofNat 32 (4 * l.length), by unfold I; rw [BitVec.toNat_ofNat]; omega⟩
    have e : (wrap64 (4 * (l.length : Int))) % 4294967296 = 4 * (l.length : Int) := by unfold wrap64; omega
    rw [e, hc]
    exact (congrArg (fun o => Option.bind o some) (rend_I b c)).trans (end_I b c).symm
  | succ d ih =>
    intro k j hj hd hk
    obtain ⟨k, rfl⟩ : ∃ m, k = m + 1 := ⟨k - 1, by omega⟩
    have hlt : j < l.length := by omega
    have hlt' : (j : Int) < (l.length : Int) := by omega
    have hz : (0 : Int) ≤ (j : Int) := by omega
    have i1 : j + 1 ≤ l.length := by omega
    have i2 : l.length - (j + 1) = d := by omega
    have i3 : d < k := by omega
    have hw : wrap64 ((j : Int) + 1) = ((j + 1 : Nat) : Int) := by unfold wrap64; omega
    obtain ⟨b, hb⟩ := pre_I s l hl j
    obtain ⟨x, hx⟩ := of_wf (hl _ (rd_mem hlt))
    simp only [waymasterref07_Words.l0]
    rw [if_pos hlt', if_pos hz]
    have hs := pre_succ (I s) l j hlt
    rw [hb, hx, rmix_I, Option.bind_some]
    rw [hb, hx, mixI_I] at hs
    rw [hs]
    rw [hw]
    exact ih k (j + 1) i1 i2 i3
/-- The two numbers of some words are one. -/
theorem words_same (s : BitVec 32) (l : List Int) (hl : AllB l) (hn : l.length ≤ 1000) (k : Nat) (hk : l.length < k) : ∃ r, hash_Words.f (I s) l = some r ∧ waymasterref07_Words.f k (I s) l = some r := by
  have h := rwords s l hl hn l.length k 0 (by omega) (by omega) hk
  have e0 : pre (I s) l 0 = I s := rfl
  rw [e0] at h
  have h1 : hash_Words.f (I s) l = hash_End.f (pre (I s) l l.length) (4 * (l.length : Int)) := by unfold hash_Words.f; rw [if_pos hn]
  obtain ⟨r, hr⟩ : ∃ r, hash_End.f (pre (I s) l l.length) (4 * (l.length : Int)) = some r := ⟨_, rfl⟩
  exact ⟨r, h1.trans hr, h.trans hr⟩
end Go.Proofs.Ytgemicgpaklmlaa.PB
