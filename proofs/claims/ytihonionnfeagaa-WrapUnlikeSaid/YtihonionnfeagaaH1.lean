/- Whether a number is a size: the walk of IsSize and of what it calls: for any number it tells whether it is one of the thirteen powers. -/
import Derived.Test.YtihonionnfeagaaQAx1
namespace Go.Proofs.Ytihonionnfeagaa.H
open Go.RowKit Go.Proofs.YtihonionnfeagaaW.PrintWords Go.Proofs.YtihonionnfeagaaW.PrintLast Go.Proofs.YtihonionnfeagaaW.PrintMore
open Go.Proofs.Ytihonionnfeagaa.QA
set_option linter.unusedVariables false
set_option linter.unusedSimpArgs false

set_option maxHeartbeats 400000 in
theorem c30 (k : Nat) (b : Nat) (A : Option Addr) (c : Nat) (l : List Int) (n : Int) (r : Bool) (w : World) (hbox : w.cell? ⟨b, 0, none⟩ = some (.slice A l.length c))
    (hr : Kd.C (Kd.int .i64) w A l.length l) (hc : l.length ≤ c) (h : slices_Contains_int_int.f k l n = some r) :
    Calls Try.prog 30 #[.int .i64 n, .pointer (some ⟨b, 0, none⟩)] w fun e w' => e = .returned (.bool (!r)) ∧ Drawn0 w w' := by
  have HR := Aside0.mk hr
  clear hr
  have HH := Aside0.mk h
  clear h
  go_enter Try.func30, Try.ntmps30
  go_wp2_with (go_at_call 31; refine (slices_Contains_int_int.calls k A c l n r _ HR.out hc HH.out).mono ?_; rintro e w' ⟨rfl, ⟨nd, rfl⟩⟩)
  go_ret
  exact ⟨by simp, Drawn0.step (Drawn0.refl _) _⟩

set_option maxHeartbeats 400000 in
theorem c33 (k : Nat) (b : Nat) (A : Option Addr) (c : Nat) (l : List Int) (n : Int) (r : Bool) (w : World) (ad : Addr) (hbox : w.cell? ⟨b, 0, none⟩ = some (.slice A l.length c))
    (hr : Kd.C (Kd.int .i64) w A l.length l) (hc : l.length ≤ c) (h : slices_Contains_int_int.f k l n = some r) (hn : w.cell? ad = some (.int .i64 n)) :
    Calls Try.prog 33 #[.slice (some ad) 1 1, .func (.func 30) #[] #[.pointer (some ⟨b, 0, none⟩)]] w fun e w' => e = .returned (.int .i64 (if r then -1 else 0)) ∧ Drawn0 w w' := by
  have HR := Aside0.mk hr
  clear hr
  have HH := Aside0.mk h
  clear h
  go_enter Try.func33, Try.ntmps33
  go_wp2
  go_loopg [8] 1 (fun kq v8 w' => Drawn0 w w' ∧ ((kq = 1 ∧ v8 = .int .i64 0) ∨ (kq = 0 ∧ v8 = .int .i64 1 ∧ Aside0 (r = true))))
  case atStart => exact ⟨Drawn0.refl _, .inl ⟨rfl, rfl⟩⟩
  case round =>
    obtain ⟨⟨m1, rfl⟩, (⟨rfl, rfl⟩ | ⟨rfl, rfl, h1⟩)⟩ := hrel
    · cases r with
      | true =>
        go_wp2_with (go_at_call 30; refine (c30 k b A c l n true _ (by simpa using hbox) (Kd.C_below HR.out (Drawn0.below ⟨⟨m1, rfl⟩⟩)) hc HH.out).mono ?_; rintro e w' ⟨rfl, ⟨nd, rfl⟩⟩)
        go_roundg 0
        case rel => exact ⟨⟨⟨_, rfl⟩⟩, .inr ⟨rfl, rfl, ⟨trivial⟩⟩⟩
        case measure => omega
      | false =>
        go_wp2_with (go_at_call 30; refine (c30 k b A c l n false _ (by simpa using hbox) (Kd.C_below HR.out (Drawn0.below ⟨⟨m1, rfl⟩⟩)) hc HH.out).mono ?_; rintro e w' ⟨rfl, ⟨nd, rfl⟩⟩)
        go_ret
        exact ⟨rfl, ⟨⟨_, rfl⟩⟩⟩
    · have h1' : r = true := h1.out
      subst h1'
      clear h1
      go_wp2
      go_ret
      exact ⟨rfl, Drawn0.step (Drawn0.refl _) _⟩

/-- What makes memory: the answer b, and what lay there lies as it lay. -/
def AnsB (w : World) (b : Bool) (e : Ending) (w' : World) : Prop := e = .returned (.bool b) ∧ Below w.heap.size w w'

set_option maxHeartbeats 400000 in
theorem c29 (k : Nat) (b : Nat) (A : Option Addr) (c : Nat) (l : List Int) (n : Int) (r : Bool) (w : World) (ad : Addr) (hbox : w.cell? ⟨b, 0, none⟩ = some (.slice A l.length c))
    (hr : Kd.C (Kd.int .i64) w A l.length l) (hc : l.length ≤ c) (h : slices_Contains_int_int.f k l n = some r) (hn : w.cell? ad = some (.int .i64 n)) :
    Calls Try.prog 29 #[.slice (some ad) 1 1, .func (.func 30) #[] #[.pointer (some ⟨b, 0, none⟩)]] w fun e w' => e = .returned (.bool (!r)) ∧ Drawn0 w w' := by
  have HR := Aside0.mk hr
  clear hr
  have HH := Aside0.mk h
  clear h
  go_enter Try.func29, Try.ntmps29
  cases r with
  | true =>
    go_wp2_with (go_at_call 33; refine (c33 k b A c l n true _ ad (by simpa using hbox) HR.out hc HH.out (by simpa using hn)).mono ?_; rintro e w' ⟨rfl, ⟨nd, rfl⟩⟩)
    go_ret
    exact ⟨rfl, ⟨⟨_, rfl⟩⟩⟩
  | false =>
    go_wp2_with (go_at_call 33; refine (c33 k b A c l n false _ ad (by simpa using hbox) HR.out hc HH.out (by simpa using hn)).mono ?_; rintro e w' ⟨rfl, ⟨nd, rfl⟩⟩)
    go_ret
    exact ⟨rfl, ⟨⟨_, rfl⟩⟩⟩

/-- powers' list. -/
def pows : List Int := [1, 2, 4, 8, 16, 32, 64, 128, 256, 512, 1024, 2048, 4096]
theorem powers_pows : wrap_powers.f 14 = some pows := by decide +kernel

def isPow (n : Int) : Bool := pows.contains n
theorem index_pows (n : Int) : slices_Contains_int_int.f 20 pows n = some (isPow n) := by
  by_cases h : n ∈ pows
  · have h' := h
    simp only [pows, List.mem_cons, List.not_mem_nil, or_false] at h'
    rcases h' with rfl | rfl | rfl | rfl | rfl | rfl | rfl | rfl | rfl | rfl | rfl | rfl | rfl <;> decide +kernel
  · have e : isPow n = false := by simpa [isPow] using h
    rw [e]
    simp only [pows, List.mem_cons, List.not_mem_nil, or_false, not_or] at h
    obtain ⟨h0, h1, h2, h3, h4, h5, h6, h7, h8, h9, h10, h11, h12⟩ := h
    simp [slices_Contains_int_int.f, slices_Index_int_int.f, slices_Index_int_int.l0, pows, rd, wrap64, h0, h1, h2, h3, h4, h5, h6, h7, h8, h9, h10, h11, h12]

set_option maxHeartbeats 400000 in
theorem c26 (n : Int) (w : World) (ad : Addr) (hn : w.cell? ad = some (.int .i64 n)) :
    Calls Try.prog 26 #[.slice (some ad) 1 1] w (AnsB w (isPow n)) := by
  have hlt := World.block_lt_of_cell? w ad hn
  have HI := Aside0.mk (index_pows n)
  go_enter Try.func26, Try.ntmps26
  go_wp2_with (first
    | (go_at_call 28; refine (wrap_powers.calls 14 pows _ powers_pows).mono ?_; rintro e w1 ⟨v0, rfl, hR, hB⟩; obtain ⟨A, c, rfl, hle, hC⟩ := Kd.R_reads hR; have hn1 : w1.cell? ad = some (.int .i64 n) := (hB.cell hlt).trans hn; have hlt1 := World.block_lt_of_cell? w1 ad hn1; have HC := Aside0.mk hC; have HB := Aside0.mk hB; have HL := Aside0.mk hle; clear hR hC hB hle)
    | (go_at_call 29; refine (c29 20 w1.heap.size A c pows n (isPow n) _ ad (by simp) (Kd.C_below HC.out (below_alloc (Below.refl _ _) _)) HL.out HI.out (by rw [World.cell?_alloc_lt _ _ _ hlt1]; exact hn1)).mono ?_; rintro e w2 ⟨rfl, ⟨nd, rfl⟩⟩))
  go_ret
  exact ⟨by simp, pw_below_drewN (below_alloc HB.out _) _⟩

set_option maxHeartbeats 400000 in
theorem c15 (n : Int) (w : World) : Calls Try.prog 15 #[.int .i64 n] w (AnsB w (isPow n)) := by
  go_enter Try.func15, Try.ntmps15
  go_wp2_with (go_at_call 26; refine (c26 n _ ⟨w.heap.size, 0, none⟩ (by simp)).mono ?_; rintro e w2 ⟨rfl, hB⟩; have HB := Aside0.mk hB; clear hB)
  go_ret
  exact ⟨rfl, (Below.alloc (Below.refl _ _) (Nat.le_refl _) _).trans (HB.out.mono (by simp))⟩

def wrap_IsSize.f (a0 : Int) : Option Bool := some (isPow a0)
theorem wrap_IsSize.calls (a0 : Int) (r : Bool) (w : World) (h : wrap_IsSize.f a0 = some r) :
    Calls Try.prog 15 #[.int .i64 a0] w fun e w' => e = .returned (.bool r) ∧ Below w.heap.size w w' := by
  obtain rfl := Option.some.inj h
  exact c15 a0 w
end Go.Proofs.Ytihonionnfeagaa.H
