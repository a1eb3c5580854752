/- Turning and ending: the walks, for any numbers. -/
import Derived.Test.YtgemicgpaklmlaaQAx1
namespace Go.Proofs.Ytgemicgpaklmlaa.H
open Go.RowKit Go.Proofs.YtgemicgpaklmlaaW.PrintWords Go.Proofs.YtgemicgpaklmlaaW.PrintLast Go.Proofs.YtgemicgpaklmlaaW.PrintMore
open Go.Proofs.Ytgemicgpaklmlaa.QA
set_option linter.unusedVariables false
set_option linter.unusedSimpArgs false

theorem run_store_fn {P : Program} {w : World} {a : Addr} {m : Mode} (f : Fn) (x y : Array Value) : (store a (.func f x y) m).run P w = stored P w a (.func f x y) m := run_store P w a _ m rfl
attribute [local go_sem] run_store_fn
theorem c28 (a0 a1 r : Int) (w : World) (h : bits_RotateLeft32.f a0 (a1.tmod 32) = some r) : Calls Try.prog 28 #[.int .u32 a0, .int .i64 a1] w fun e w' => e = .returned (.int .u32 r) ∧ Drawn0 w w' := by
  have HH := Aside0.mk h
  clear h
  go_enter Try.func28, Try.ntmps28
  go_wp2_with (go_at_call 32; refine (bits_RotateLeft32.calls a0 (a1.tmod 32) r _ HH.out).mono ?_; rintro e w' ⟨rfl, ⟨nd, rfl⟩⟩)
  go_ret
  exact ⟨rfl, ⟨⟨_, rfl⟩⟩⟩

theorem c16 (a0 a1 r : Int) (w : World) (h : bits_RotateLeft32.f a0 (a1.tmod 32) = some r) : Calls Try.prog 16 #[.int .u32 a0, .int .i64 a1] w fun e w' => e = .returned (.int .u32 r) ∧ Below w.heap.size w w' := by
  have HH := Aside0.mk h
  clear h
  go_enter Try.func16, Try.ntmps16
  go_wp2_with (go_at_call 28; refine (c28 a0 a1 r _ HH.out).mono ?_; rintro e w' ⟨rfl, ⟨nd, rfl⟩⟩)
  go_ret
  exact ⟨rfl, Drawn0.below ⟨⟨_, rfl⟩⟩⟩
def hash_Turn.f (a0 a1 : Int) : Option Int := bits_RotateLeft32.f a0 (a1.tmod 32)
theorem hash_Turn.calls (a0 a1 r : Int) (w : World) (h : hash_Turn.f a0 a1 = some r) : Calls Try.prog 16 #[.int .u32 a0, .int .i64 a1] w fun e w' => e = .returned (.int .u32 r) ∧ Below w.heap.size w w' := c16 a0 a1 r w h

theorem c24 (by_ : Int) (w : World) : Calls Try.prog 24 #[.int .i64 by_] w fun e w' => e = .returned (.func (.func 25) #[] #[.pointer (some ⟨w.heap.size, 0, none⟩)]) ∧ w' = w.alloc (.cells #[.int .i64 by_] 3) := by
  go_enter Try.func24, Try.ntmps24
  go_wp2
  go_ret
  exact ⟨rfl, rfl⟩
theorem c26 (k : Int) (w : World) : Calls Try.prog 26 #[.int .u32 k] w fun e w' => e = .returned (.func (.func 27) #[] #[.pointer (some ⟨w.heap.size, 0, none⟩)]) ∧ w' = w.alloc (.cells #[.int .u32 k] 22) := by
  go_enter Try.func26, Try.ntmps26
  go_wp2
  go_ret
  exact ⟨rfl, rfl⟩
theorem c25 (h by_ : Int) (b : Nat) (w : World) (hb : 0 ≤ by_) (hc : w.cell? ⟨b, 0, none⟩ = some (.int .i64 by_)) : Calls Try.prog 25 #[.int .u32 h, .pointer (some ⟨b, 0, none⟩)] w fun e w' => e = .returned (.int .u32 (Go.bits .xor .u32 h (shr .u32 h by_))) ∧ w' = w := by
  go_enter Try.func25, Try.ntmps25
  go_wp2
  go_ret
  exact ⟨rfl, rfl⟩
theorem c27 (h k : Int) (b : Nat) (w : World) (hc : w.cell? ⟨b, 0, none⟩ = some (.int .u32 k)) : Calls Try.prog 27 #[.int .u32 h, .pointer (some ⟨b, 0, none⟩)] w fun e w' => e = .returned (.int .u32 ((h * k) % 4294967296)) ∧ w' = w := by
  go_enter Try.func27, Try.ntmps27
  go_wp2
  go_ret
  exact ⟨rfl, rfl⟩
/-- Behind the j-th step. -/
def foldV (h b : Int) : Int := Go.bits .xor .u32 h (shr .u32 h b)
def e1 (h : Int) : Int := foldV h 16
def e2 (h : Int) : Int := (e1 h * 2246822507) % 4294967296
def e3 (h : Int) : Int := foldV (e2 h) 13
def e4 (h : Int) : Int := (e3 h * 3266489909) % 4294967296
def e5 (h : Int) : Int := foldV (e4 h) 16

theorem ix0 (a b c d e : Value) (w : World) : (Instr.index 45 (.agg #[a, b, c, d, e]) (.int .i64 0)).run Try.prog w = .ok a w := by kernel_rfl
theorem ix1 (a b c d e : Value) (w : World) : (Instr.index 45 (.agg #[a, b, c, d, e]) (.int .i64 1)).run Try.prog w = .ok b w := by kernel_rfl
theorem ix2 (a b c d e : Value) (w : World) : (Instr.index 45 (.agg #[a, b, c, d, e]) (.int .i64 2)).run Try.prog w = .ok c w := by kernel_rfl
theorem ix3 (a b c d e : Value) (w : World) : (Instr.index 45 (.agg #[a, b, c, d, e]) (.int .i64 3)).run Try.prog w = .ok d w := by kernel_rfl
theorem ix4 (a b c d e : Value) (w : World) : (Instr.index 45 (.agg #[a, b, c, d, e]) (.int .i64 4)).run Try.prog w = .ok e w := by kernel_rfl
attribute [local go_sem] ix0 ix1 ix2 ix3 ix4

structure Steps (b : Nat) (W : World) : Prop where
  c0 : W.cell? ⟨b, 0, none⟩ = some (.int .i64 16)
  c1 : W.cell? ⟨b + 1, 0, none⟩ = some (.int .u32 2246822507)
  c2 : W.cell? ⟨b + 1 + 1, 0, none⟩ = some (.int .i64 13)
  c3 : W.cell? ⟨b + 1 + 1 + 1, 0, none⟩ = some (.int .u32 3266489909)
  c4 : W.cell? ⟨b + 1 + 1 + 1 + 1, 0, none⟩ = some (.int .i64 16)

set_option maxHeartbeats 4000000 in
theorem c14 (a0 a1 : Int) (w : World) : Calls Try.prog 14 #[.int .u32 a0, .int .u32 a1] w fun e w' => e = .returned (.int .u32 (e5 (Go.bits .xor .u32 a0 a1))) ∧ Below w.heap.size w w' := by
  go_enter Try.func14, Try.ntmps14
  go_wp2_with (first | (go_at_call 24; refine (c24 _ _).mono ?_; rintro e w1 ⟨rfl, rfl⟩) | (go_at_call 26; refine (c26 _ _).mono ?_; rintro e w1 ⟨rfl, rfl⟩))
  generalize hb : w.heap.size = b
  generalize hh : Go.bits .xor .u32 a0 a1 = h
  generalize hW : World.alloc _ _ = W
  have hs : Steps b W := by
    rw [← hW, ← hb]
    constructor <;> simp [go_sem]
  have hB : Below b w W := by
    rw [← hW, ← hb]
    refine Below.alloc (Below.alloc (Below.alloc (Below.alloc (Below.alloc (Below.alloc (Below.refl _ _) ?_ _) ?_ _) ?_ _) ?_ _) ?_ _) ?_ _ <;> simp <;> omega
  have HH := Aside0.mk hh
  have HZ := Aside0.mk hb
  clear hW hb hh
  have HS := Aside0.mk hs
  have HB := Aside0.mk hB
  clear hs hB
  go_loopg [0, 25] 5 (fun kq v0 v25 w' => w' = W ∧ ((kq = 5 ∧ v25 = .int .i64 0 ∧ v0 = .int .u32 h) ∨ (kq = 4 ∧ v25 = .int .i64 1 ∧ v0 = .int .u32 (e1 h)) ∨ (kq = 3 ∧ v25 = .int .i64 2 ∧ v0 = .int .u32 (e2 h)) ∨ (kq = 2 ∧ v25 = .int .i64 3 ∧ v0 = .int .u32 (e3 h)) ∨ (kq = 1 ∧ v25 = .int .i64 4 ∧ v0 = .int .u32 (e4 h)) ∨ (kq = 0 ∧ v25 = .int .i64 5 ∧ v0 = .int .u32 (e5 h))))
  case atStart => exact ⟨rfl, .inl ⟨rfl, rfl, rfl⟩⟩
  case round =>
    obtain ⟨rfl, (⟨rfl, rfl, rfl⟩ | ⟨rfl, rfl, rfl⟩ | ⟨rfl, rfl, rfl⟩ | ⟨rfl, rfl, rfl⟩ | ⟨rfl, rfl, rfl⟩ | ⟨rfl, rfl, rfl⟩)⟩ := hrel
    · go_wp2_with (go_at_call 25; refine (c25 _ 16 b _ (by decide) HS.out.c0).mono ?_; rintro e w1 ⟨rfl, rfl⟩)
      go_roundg 4
      case rel => exact ⟨rfl, .inr (.inl ⟨rfl, rfl, rfl⟩)⟩
      case measure => omega
    · go_wp2_with (go_at_call 27; refine (c27 _ _ (b + 1) _ HS.out.c1).mono ?_; rintro e w1 ⟨rfl, rfl⟩)
      go_roundg 3
      case rel => exact ⟨rfl, .inr (.inr (.inl ⟨rfl, rfl, rfl⟩))⟩
      case measure => omega
    · go_wp2_with (go_at_call 25; refine (c25 _ 13 _ _ (by decide) HS.out.c2).mono ?_; rintro e w1 ⟨rfl, rfl⟩)
      go_roundg 2
      case rel => exact ⟨rfl, .inr (.inr (.inr (.inl ⟨rfl, rfl, rfl⟩)))⟩
      case measure => omega
    · go_wp2_with (go_at_call 27; refine (c27 _ _ _ _ HS.out.c3).mono ?_; rintro e w1 ⟨rfl, rfl⟩)
      go_roundg 1
      case rel => exact ⟨rfl, .inr (.inr (.inr (.inr (.inl ⟨rfl, rfl, rfl⟩))))⟩
      case measure => omega
    · go_wp2_with (go_at_call 25; refine (c25 _ 16 _ _ (by decide) HS.out.c4).mono ?_; rintro e w1 ⟨rfl, rfl⟩)
      go_roundg 0
      case rel => exact ⟨rfl, .inr (.inr (.inr (.inr (.inr ⟨rfl, rfl, rfl⟩))))⟩
      case measure => omega
    · go_wp2
      go_ret
      rw [HH.out, HZ.out]
      exact ⟨rfl, HB.out⟩

def hash_End.f (a0 a1 : Int) : Option Int := some (e5 (Go.bits .xor .u32 a0 a1))
theorem hash_End.calls (a0 a1 r : Int) (w : World) (h : hash_End.f a0 a1 = some r) : Calls Try.prog 14 #[.int .u32 a0, .int .u32 a1] w fun e w' => e = .returned (.int .u32 r) ∧ Below w.heap.size w w' := by
  obtain rfl := Option.some.inj h
  exact c14 a0 a1 w
end Go.Proofs.Ytgemicgpaklmlaa.H
