/- Whether all things are what is asked for: the walks of all, its closures and the library's ContainsFunc, at numbers and at spans. -/
import Derived.Test.YtafmgnojlnkmjaaQLx0
import Derived.Shelf.Abstract
import Derived.WalkKit
namespace Go.Proofs.Ytafmgnojlnkmjaa.H
open Go.RowKit Go.Proofs.YtafmgnojlnkmjaaW.PrintWords Go.Proofs.YtafmgnojlnkmjaaW.PrintLast Go.Proofs.YtafmgnojlnkmjaaW.PrintMore
open Go.Proofs.Ytafmgnojlnkmjaa.QL
set_option linter.unusedVariables false
set_option linter.unusedSimpArgs false

/-- A closure over numbers, over spans, tells p in whatever world comes behind w. -/
def GivesI (g : Nat) (lb : Array Value) (p : Int → Bool) (w : World) : Prop := ∀ W x, Below w.heap.size w W → Calls Try.prog g (#[.int .i64 x] ++ lb) W fun e W' => e = .returned (.bool (p x)) ∧ Below W.heap.size W W'
def GivesS (g : Nat) (lb : Array Value) (p : S32 → Bool) (w : World) : Prop := ∀ W (x : S32), Below w.heap.size w W → Calls Try.prog g (#[.agg #[.int .i64 x.f0, .int .i64 x.f1]] ++ lb) W fun e W' => e = .returned (.bool (p x)) ∧ Below W.heap.size W W'
/-- The place of the first one, or none. -/
def IdxP (b : Bool) (w : World) (e : Ending) (w' : World) : Prop := ∃ i : Int, e = .returned (.int .i64 i) ∧ decide (0 ≤ i) = b ∧ Below w.heap.size w w'
def AnsB (w : World) (b : Bool) (e : Ending) (w' : World) : Prop := e = .returned (.bool b) ∧ Below w.heap.size w w'

theorem rdI_get (l : List Int) (j : Nat) (h : j < l.length) : rd l (j : Int) = l[j] := by simp [rd, h]
theorem rdS_get (l : List S32) (j : Nat) (h : j < l.length) : rd_T32 l (j : Int) = l[j] := by simp [rd_T32, h]
theorem any_none {α : Type} (p : α → Bool) (l : List α) (h : ∀ j (hj : j < l.length), p l[j] = false) : l.any p = false := by
  rw [List.any_eq_false]
  intro x hx
  obtain ⟨j, hj, rfl⟩ := List.mem_iff_getElem.1 hx
  rw [h j hj]
  decide
theorem any_hit {α : Type} (p : α → Bool) (l : List α) (j : Nat) (hj : j < l.length) (h : p l[j] = true) : l.any p = true :=
  List.any_eq_true.2 ⟨_, List.getElem_mem hj, h⟩

set_option maxHeartbeats 1000000 in
theorem c44 (g : Nat) (lb : Array Value) (p : Int → Bool) (eg : ∀ args w, (callFunc g args).run Try.prog w = .ok (.enter g args) w) (A : Option Addr) (c : Nat) (l : List Int) (w : World) (hC : Kd.C (Kd.int .i64) w A l.length l) (hp : GivesI g lb p w) (hl : l.length ≤ 1000) :
    Calls Try.prog 44 #[.slice A l.length c, .func (.func g) #[] lb] w (IdxP (l.any p) w) := by
  have HC := Aside0.mk hC
  have HP := Aside0.mk hp
  clear hC hp
  go_enter Try.func44, Try.ntmps44
  go_wp2
  go_loopg [5, 8] l.length (fun kq _ v8 wr => ∃ j : Nat, Aside0 (kq + j = l.length) ∧ v8 = .int .i64 j ∧ Aside0 (Below w.heap.size w wr) ∧ Aside0 (∀ i (hi : i < l.length), i < j → p l[i] = false))
  case atStart => exact ⟨0, ⟨by omega⟩, rfl, ⟨Below.refl _ _⟩, ⟨fun i _ h => absurd h (by omega)⟩⟩
  case round =>
    obtain ⟨j, HJ, rfl, HB, HN⟩ := hrel
    by_cases hlt : j < l.length
    · obtain ⟨ad, rfl, hcell⟩ := Kd.at_int (Kd.C_below HC.out HB.out) j (by omega) (by omega)
      have hcall := HP.out wr (rd l j) HB.out
      have hlb : decide ((j : Int) < (l.length : Int)) = true := decide_eq_true (by omega)
      have hz : (0 : Int) ≤ (j : Int) := by omega
      have hlt' : (j : Int) < (l.length : Int) := by omega
      have he := rdI_get l j hlt
      rw [Int.toNat_natCast] at hcell
      generalize rd l (j : Int) = y at hcell hcall he
      have HE := Aside0.mk he
      have HL := Aside0.mk hlt
      clear he
      cases hq : p y with
      | true =>
        rw [hq] at hcall
        have HQ := Aside0.mk hq
        clear hq
        go_wp2_with (go_at_fn g; refine hcall.mono ?_; rintro e w' ⟨rfl, hb⟩)
        go_ret
        have h1 : decide (0 ≤ (j : Int)) = l.any p := by
          rw [any_hit p l j hlt (by rw [← HE.out]; exact HQ.out)]
          exact decide_eq_true hz
        exact ⟨(j : Int), rfl, h1, HB.out.trans (hb.mono HB.out.size)⟩
      | false =>
        rw [hq] at hcall
        have HQ := Aside0.mk hq
        clear hq
        go_wp2_with (go_at_fn g; refine hcall.mono ?_; rintro e w' ⟨rfl, hb⟩)
        obtain ⟨k1, rfl⟩ : ∃ k1, gk = k1 + 1 := ⟨gk - 1, by have := HJ.out; have := HL.out; omega⟩
        go_roundg k1
        case rel => exact ⟨j + 1, ⟨by have := HJ.out; omega⟩, by go_num, ⟨HB.out.trans (hb.mono HB.out.size)⟩, ⟨fun i hi h => by
          by_cases e : i = j
          · subst e
            rw [← HE.out]
            exact HQ.out
          · exact HN.out i hi (by omega)⟩⟩
        case measure => omega
    · have hlb : decide ((j : Int) < (l.length : Int)) = false := decide_eq_false (by omega)
      have hge : l.length ≤ j := by omega
      clear hlt
      go_wp2
      go_ret
      have h1 : decide (0 ≤ (-1 : Int)) = l.any p := by
        rw [any_none p l (fun i hi => HN.out i hi (by omega))]
        rfl
      exact ⟨-1, rfl, h1, HB.out⟩

set_option maxHeartbeats 1000000 in
theorem c43 (g : Nat) (lb : Array Value) (p : S32 → Bool) (eg : ∀ args w, (callFunc g args).run Try.prog w = .ok (.enter g args) w) (A : Option Addr) (c : Nat) (l : List S32) (w : World) (hC : Kd.C k32 w A l.length l) (hp : GivesS g lb p w) (hl : l.length ≤ 1000) :
    Calls Try.prog 43 #[.slice A l.length c, .func (.func g) #[] lb] w (IdxP (l.any p) w) := by
  have HC := Aside0.mk hC
  have HP := Aside0.mk hp
  clear hC hp
  go_enter Try.func43, Try.ntmps43
  go_wp2
  go_loopg [5, 8] l.length (fun kq _ v8 wr => ∃ j : Nat, Aside0 (kq + j = l.length) ∧ v8 = .int .i64 j ∧ Aside0 (Below w.heap.size w wr) ∧ Aside0 (∀ i (hi : i < l.length), i < j → p l[i] = false))
  case atStart => exact ⟨0, ⟨by omega⟩, rfl, ⟨Below.refl _ _⟩, ⟨fun i _ h => absurd h (by omega)⟩⟩
  case round =>
    obtain ⟨j, HJ, rfl, HB, HN⟩ := hrel
    by_cases hlt : j < l.length
    · obtain ⟨ad, rfl, hcell, hcell2⟩ := at_T32 (Kd.C_below HC.out HB.out) j (by omega) (by omega)
      have hcall := HP.out wr (rd_T32 l j) HB.out
      have hlb : decide ((j : Int) < (l.length : Int)) = true := decide_eq_true (by omega)
      have hz : (0 : Int) ≤ (j : Int) := by omega
      have hlt' : (j : Int) < (l.length : Int) := by omega
      have he := rdS_get l j hlt
      rw [Int.toNat_natCast] at hcell hcell2
      generalize rd_T32 l (j : Int) = y at hcell hcell2 hcall he
      have HE := Aside0.mk he
      have HL := Aside0.mk hlt
      clear he
      cases hq : p y with
      | true =>
        rw [hq] at hcall
        have HQ := Aside0.mk hq
        clear hq
        go_wp2_with (go_at_fn g; refine hcall.mono ?_; rintro e w' ⟨rfl, hb⟩)
        go_ret
        have h1 : decide (0 ≤ (j : Int)) = l.any p := by
          rw [any_hit p l j hlt (by rw [← HE.out]; exact HQ.out)]
          exact decide_eq_true hz
        exact ⟨(j : Int), rfl, h1, HB.out.trans (hb.mono HB.out.size)⟩
      | false =>
        rw [hq] at hcall
        have HQ := Aside0.mk hq
        clear hq
        go_wp2_with (go_at_fn g; refine hcall.mono ?_; rintro e w' ⟨rfl, hb⟩)
        obtain ⟨k1, rfl⟩ : ∃ k1, gk = k1 + 1 := ⟨gk - 1, by have := HJ.out; have := HL.out; omega⟩
        go_roundg k1
        case rel => exact ⟨j + 1, ⟨by have := HJ.out; omega⟩, by go_num, ⟨HB.out.trans (hb.mono HB.out.size)⟩, ⟨fun i hi h => by
          by_cases e : i = j
          · subst e
            rw [← HE.out]
            exact HQ.out
          · exact HN.out i hi (by omega)⟩⟩
        case measure => omega
    · have hlb : decide ((j : Int) < (l.length : Int)) = false := decide_eq_false (by omega)
      have hge : l.length ≤ j := by omega
      clear hlt
      go_wp2
      go_ret
      have h1 : decide (0 ≤ (-1 : Int)) = l.any p := by
        rw [any_none p l (fun i hi => HN.out i hi (by omega))]
        rfl
      exact ⟨-1, rfl, h1, HB.out⟩

theorem c40 (g : Nat) (lb : Array Value) (p : Int → Bool) (eg : ∀ args w, (callFunc g args).run Try.prog w = .ok (.enter g args) w) (A : Option Addr) (c : Nat) (l : List Int) (w : World) (hC : Kd.C (Kd.int .i64) w A l.length l) (hp : GivesI g lb p w) (hl : l.length ≤ 1000) :
    Calls Try.prog 40 #[.slice A l.length c, .func (.func g) #[] lb] w (AnsB w (l.any p)) := by
  have HC := Aside0.mk hC
  have HP := Aside0.mk hp
  clear hC hp
  go_enter Try.func40, Try.ntmps40
  go_wp2_with (go_at_call 44; refine (c44 g lb p eg A c l _ HC.out HP.out hl).mono ?_; rintro e w' ⟨i, rfl, hi, hb⟩)
  go_ret
  exact ⟨rfl, hb⟩
theorem c38 (g : Nat) (lb : Array Value) (p : S32 → Bool) (eg : ∀ args w, (callFunc g args).run Try.prog w = .ok (.enter g args) w) (A : Option Addr) (c : Nat) (l : List S32) (w : World) (hC : Kd.C k32 w A l.length l) (hp : GivesS g lb p w) (hl : l.length ≤ 1000) :
    Calls Try.prog 38 #[.slice A l.length c, .func (.func g) #[] lb] w (AnsB w (l.any p)) := by
  have HC := Aside0.mk hC
  have HP := Aside0.mk hp
  clear hC hp
  go_enter Try.func38, Try.ntmps38
  go_wp2_with (go_at_call 43; refine (c43 g lb p eg A c l _ HC.out HP.out hl).mono ?_; rintro e w' ⟨i, rfl, hi, hb⟩)
  go_ret
  exact ⟨rfl, hb⟩

/-- The closure that says no where another one says yes. -/
theorem c41 (g : Nat) (lb : Array Value) (p : Int → Bool) (eg : ∀ args w, (callFunc g args).run Try.prog w = .ok (.enter g args) w) (b : Nat) (w : World) (hb : w.cell? ⟨b, 0, none⟩ = some (.func (.func g) #[] lb)) (hlt : b < w.heap.size) (hp : GivesI g lb p w) :
    GivesI 41 #[.pointer (some ⟨b, 0, none⟩)] (fun x => !p x) w := by
  intro W x hW
  have hc : W.cell? ⟨b, 0, none⟩ = some (.func (.func g) #[] lb) := (hW.cell (p := ⟨b, 0, none⟩) hlt).trans hb
  have hcall := hp W x hW
  clear hp hb hW hlt
  show Calls Try.prog 41 #[.int .i64 x, .pointer (some ⟨b, 0, none⟩)] W _
  go_enter Try.func41, Try.ntmps41
  go_wp2_with (go_at_fn g; refine hcall.mono ?_; rintro e w' ⟨rfl, hb⟩)
  go_ret
  exact ⟨rfl, hb⟩
theorem c39 (g : Nat) (lb : Array Value) (p : S32 → Bool) (eg : ∀ args w, (callFunc g args).run Try.prog w = .ok (.enter g args) w) (b : Nat) (w : World) (hb : w.cell? ⟨b, 0, none⟩ = some (.func (.func g) #[] lb)) (hlt : b < w.heap.size) (hp : GivesS g lb p w) :
    GivesS 39 #[.pointer (some ⟨b, 0, none⟩)] (fun x => !p x) w := by
  intro W x hW
  have hc : W.cell? ⟨b, 0, none⟩ = some (.func (.func g) #[] lb) := (hW.cell (p := ⟨b, 0, none⟩) hlt).trans hb
  have hltW : b < W.heap.size := Nat.lt_of_lt_of_le hlt hW.size
  have hcall := hp (W.alloc (.cells #[.int .i64 x.f0, .int .i64 x.f1] 32)) x (hW.alloc hW.size _)
  clear hp hb hW hlt
  show Calls Try.prog 39 #[.agg #[.int .i64 x.f0, .int .i64 x.f1], .pointer (some ⟨b, 0, none⟩)] W _
  go_enter Try.func39, Try.ntmps39
  go_wp2_with (go_at_fn g; refine hcall.mono ?_; rintro e w' ⟨rfl, hb⟩)
  go_ret
  exact ⟨rfl, ((Below.refl _ W).alloc (Nat.le_refl _) _).trans (hb.mono (by simp))⟩

theorem any_not {α : Type} (p : α → Bool) (l : List α) : (!l.any fun x => !p x) = l.all p := by
  rw [Bool.eq_iff_iff]
  simp

theorem c34 (g : Nat) (lb : Array Value) (p : Int → Bool) (eg : ∀ args w, (callFunc g args).run Try.prog w = .ok (.enter g args) w) (A : Option Addr) (c : Nat) (l : List Int) (w : World) (hC : Kd.C (Kd.int .i64) w A l.length l) (hp : GivesI g lb p w) (hl : l.length ≤ 1000) :
    Calls Try.prog 34 #[.slice A l.length c, .func (.func g) #[] lb] w (AnsB w (l.all p)) := by
  rw [← any_not p l]
  have hB : Below w.heap.size w (w.alloc (.cells #[.func (.func g) #[] lb] 53)) := (Below.refl _ w).alloc (Nat.le_refl _) _
  have HB := Aside0.mk hB
  have hp2 : GivesI g lb p (w.alloc (.cells #[.func (.func g) #[] lb] 53)) := fun W x hW => hp W x (hB.trans (hW.mono (by simp)))
  have HG := Aside0.mk (c41 g lb p eg w.heap.size (w.alloc (.cells #[.func (.func g) #[] lb] 53)) (by simp) (by simp) hp2)
  have HC := Aside0.mk (Kd.C_below hC hB)
  clear hC hp hB hp2
  have e41 := enters_of Try.func41 (by kernel_rfl) rfl
  go_enter Try.func34, Try.ntmps34
  go_wp2_with (go_at_call 40; refine (c40 41 #[.pointer (some ⟨w.heap.size, 0, none⟩)] (fun x => !p x) e41 A c l _ HC.out HG.out hl).mono ?_; rintro e w' ⟨rfl, hb⟩)
  go_ret
  exact ⟨rfl, HB.out.trans (hb.mono (by simp))⟩
theorem c33 (g : Nat) (lb : Array Value) (p : S32 → Bool) (eg : ∀ args w, (callFunc g args).run Try.prog w = .ok (.enter g args) w) (A : Option Addr) (c : Nat) (l : List S32) (w : World) (hC : Kd.C k32 w A l.length l) (hp : GivesS g lb p w) (hl : l.length ≤ 1000) :
    Calls Try.prog 33 #[.slice A l.length c, .func (.func g) #[] lb] w (AnsB w (l.all p)) := by
  rw [← any_not p l]
  have hB : Below w.heap.size w (w.alloc (.cells #[.func (.func g) #[] lb] 50)) := (Below.refl _ w).alloc (Nat.le_refl _) _
  have HB := Aside0.mk hB
  have hp2 : GivesS g lb p (w.alloc (.cells #[.func (.func g) #[] lb] 50)) := fun W x hW => hp W x (hB.trans (hW.mono (by simp)))
  have HG := Aside0.mk (c39 g lb p eg w.heap.size (w.alloc (.cells #[.func (.func g) #[] lb] 50)) (by simp) (by simp) hp2)
  have HC := Aside0.mk (Kd.C_below hC hB)
  clear hC hp hB hp2
  have e39 := enters_of Try.func39 (by kernel_rfl) rfl
  go_enter Try.func33, Try.ntmps33
  go_wp2_with (go_at_call 38; refine (c38 39 #[.pointer (some ⟨w.heap.size, 0, none⟩)] (fun x => !p x) e39 A c l _ HC.out HG.out hl).mono ?_; rintro e w' ⟨rfl, hb⟩)
  go_ret
  exact ⟨rfl, HB.out.trans (hb.mono (by simp))⟩
end Go.Proofs.Ytafmgnojlnkmjaa.H
