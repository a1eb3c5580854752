/- Functions of the program as Lean functions, and the walks that show it, written by a program of this session on the base of the kit printer; Lean checks all of it. -/
import Derived.Test.YtgemicgpaklmlaaQBx0
import Derived.Test.YtgemicgpaklmlaaH1
namespace Go.Proofs.Ytgemicgpaklmlaa.QB
open Go.Proofs.Ytgemicgpaklmlaa.H
open Go.Proofs.Ytgemicgpaklmlaa.QA
open Go.RowKit Go.Proofs.YtgemicgpaklmlaaW.PrintWords Go.Proofs.YtgemicgpaklmlaaW.PrintLast Go.Proofs.YtgemicgpaklmlaaW.PrintMore
attribute [local go_sem] max2_int min2_int max_two min_two max_three min_three max_four min_four   -- for this text's walks alone
set_option linter.unusedVariables false
set_option linter.unusedSimpArgs false


/-! ### hash_Mix: function 12 -/
def hash_Mix.f (a0 : Int) (a1 : Int) : Option (Int) := (hash_Turn.f ((a1 * 3432918353) % 4294967296) 15).bind fun t101 => ((hash_Turn.f (Go.bits .xor .u32 a0 ((t101 * 461845907) % 4294967296)) 13).bind fun t102 => (some ((((t102 * 5) % 4294967296) + 3864292196) % 4294967296)))
set_option maxHeartbeats 8000000 in
set_option maxRecDepth 100000 in
theorem hash_Mix.calls (a0 : Int) (a1 : Int) (r : Int) (w : World) (h : hash_Mix.f a0 a1 = some r) :
    Calls Try.prog 12 #[.int .u32 a0, .int .u32 a1] w fun e w' => e = .returned (.int .u32 r) ∧ Below w.heap.size w w' := by
  have HB := Aside0.mk (Below.refl w.heap.size w)
  have H : ((hash_Turn.f ((a1 * 3432918353) % 4294967296) 15).bind fun t101 => ((hash_Turn.f (Go.bits .xor .u32 a0 ((t101 * 461845907) % 4294967296)) 13).bind fun t102 => (some ((((t102 * 5) % 4294967296) + 3864292196) % 4294967296)))) = some r := h
  clear h
  replace H := Option.bind_eq_some_iff.mp H
  obtain ⟨t101, A30, H⟩ := H
  replace H : ((hash_Turn.f (Go.bits .xor .u32 a0 ((t101 * 461845907) % 4294967296)) 13).bind fun t102 => (some ((((t102 * 5) % 4294967296) + 3864292196) % 4294967296))) = some r := H
  have A3 := Aside0.mk A30
  clear A30
  replace H := Option.bind_eq_some_iff.mp H
  obtain ⟨t102, A40, H⟩ := H
  replace H : (some ((((t102 * 5) % 4294967296) + 3864292196) % 4294967296)) = some r := H
  have A4 := Aside0.mk A40
  clear A40
  obtain rfl := Option.some.inj H
  go_enter Try.func12, Try.ntmps12
  go_wp2_with (first | ((with_reducible refine gate_callee (f := 16) rfl ?_); refine goesL_ (some 8) rfl rfl Try.func16 (by kernel_rfl) rfl #[.int .u32 ((a1 * 3432918353) % 4294967296), .int .i64 15] rfl (by (try simp only [List.map_toArray, List.map_cons, List.map_nil]); first | done | rfl | (simp only [List.length_drop, List.length_take]; rfl)) ?_; (with_reducible refine (hash_Turn.calls ((a1 * 3432918353) % 4294967296) 15 t101 _ A3.out).mono ?_); rintro e w5 ⟨rfl, hb⟩; refine ⟨_, rfl, ?_⟩; have n0_ := Aside0.mk (below_step (by repeat (first | (with_reducible first | exact HB.out | apply below_alloc | apply pw_below_drewN | apply below_drew1) | exact HB.out)) hb); clear HB; have HB := n0_; clear n0_; (try clear hb); (try clear hb2); (try clear hk); (try clear hi)) | ((with_reducible refine gate_callee (f := 16) rfl ?_); refine goesL_ (some 12) rfl rfl Try.func16 (by kernel_rfl) rfl #[.int .u32 (Go.bits .xor .u32 a0 ((t101 * 461845907) % 4294967296)), .int .i64 13] rfl (by (try simp only [List.map_toArray, List.map_cons, List.map_nil]); first | done | rfl | (simp only [List.length_drop, List.length_take]; rfl)) ?_; (with_reducible refine (hash_Turn.calls (Go.bits .xor .u32 a0 ((t101 * 461845907) % 4294967296)) 13 t102 _ A4.out).mono ?_); rintro e w6 ⟨rfl, hb⟩; refine ⟨_, rfl, ?_⟩; have n0_ := Aside0.mk (below_step (by repeat (first | (with_reducible first | exact HB.out | apply below_alloc | apply pw_below_drewN | apply below_drew1) | exact HB.out)) hb); clear HB; have HB := n0_; clear n0_; (try clear hb); (try clear hb2); (try clear hk); (try clear hi)))
  go_ret
  exact ⟨by first | rfl | (simp [errW_none, errW_some] <;> rfl) | (simp [*, errW_none, errW_some] <;> rfl), by repeat (first | (with_reducible first | exact HB.out | apply below_alloc | apply pw_below_drewN | apply below_drew1) | exact HB.out)⟩

end Go.Proofs.Ytgemicgpaklmlaa.QB
