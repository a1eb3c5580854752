/-
  No cell of these rows narrows 'for every input' (looked for: loops, veiled, ifaces, maps, wideKeys, modest, calm, conditions, laid).
  DERIVED. THE GIVEN ROWS OF THIS SEAT. 7 by the template 'for every input the law returns true; each argument reads behind the call as it read before'; 0 by the template 'total and deterministic' (their statements: YtihonionnfeagaaTotals.lean).
  GIVEN WITH THE SEED: the statements are not yours to turn. If you find one false, say at which input.
  Laid BY PROGRAM, IN A SANDBOX (cutbox-rows.mjs): the forced cells as the released guide's own fill.sh prints them over the translation 6f2af8e5f6c5aa2e… (all of the seat's roots in one cut). By AI agents, Wed Nov 11 2026. No macro, syntax, notation, axiom, sorry.
-/
import Derived.Test.YtihonionnfeagaaChecked
import GoSem.Claim
import GoSem.ClaimJoined
import GoSem.ClaimMapViews
import Derived.JoinedTies
import Derived.KernelRfl
namespace Go.Proofs.Ytihonionnfeagaa
/- THE CELL 'sum', in the pinned program and in every row, IS THE sha256 OF THE DUMP (.gsa) THAT YtihonionnfeagaaProg.lean LOADS. Nothing in Lean hashes anything: it is a label: what it is worth is what the hold of that sum in a sandbox is worth. -/
noncomputable def Try.pinned : Pinned := { name := "ytihonionnfeagaa", sum := "6f2af8e5f6c5aa2eaa615a0e8c57a79c6259007f363f314f13def78734367da1", checked := Try.checked }
namespace Rows
def none {H : Type} : Left H := { results := [], args := [] }

/-- 'waymasterlaw01.WrapSlots': WHATEVER THE INPUT: true; the input reads as it did. -/
def wrapSlotsSpec : ChangeSpec := { name := "wrapSlots", fn := fun _ => fun
  | [d1, d2, d3] => { results := [.lit (.bool true)], args := [d1, d2, d3] }
  | _ => none }
def wrapSlotsRow : OpenClaim := { program := "ytihonionnfeagaa", sum := "6f2af8e5f6c5aa2eaa615a0e8c57a79c6259007f363f314f13def78734367da1", func := "waymaster/waymasterlaw01.WrapSlots", spec := "wrapSlots", unfollowed := true, recurses := true, apart := false }
def WrapSlotsSaid : Prop := wrapSlotsRow.holds Try.pinned (OpenSpec.ofChange wrapSlotsSpec)

/-- ITS FALSE NEIGHBOUR: 'it returns false'. Refute it at one input. -/
def wrapSlotsWrong : ChangeSpec := { name := "wrapSlots", fn := fun _ => fun
  | [d1, d2, d3] => { results := [.lit (.bool false)], args := [d1, d2, d3] }
  | _ => none }
def WrapSlotsWrongFalsely : Prop := wrapSlotsRow.holds Try.pinned (OpenSpec.ofChange wrapSlotsWrong)

/-- 'waymasterlaw01.WrapRooms': WHATEVER THE INPUT: true; the input reads as it did. -/
def wrapRoomsSpec : ChangeSpec := { name := "wrapRooms", fn := fun _ => fun
  | [d1, d2, d3] => { results := [.lit (.bool true)], args := [d1, d2, d3] }
  | _ => none }
def wrapRoomsRow : OpenClaim := { program := "ytihonionnfeagaa", sum := "6f2af8e5f6c5aa2eaa615a0e8c57a79c6259007f363f314f13def78734367da1", func := "waymaster/waymasterlaw01.WrapRooms", spec := "wrapRooms", unfollowed := true, recurses := true, apart := false }
def WrapRoomsSaid : Prop := wrapRoomsRow.holds Try.pinned (OpenSpec.ofChange wrapRoomsSpec)

/-- ITS FALSE NEIGHBOUR: 'it returns false'. Refute it at one input. -/
def wrapRoomsWrong : ChangeSpec := { name := "wrapRooms", fn := fun _ => fun
  | [d1, d2, d3] => { results := [.lit (.bool false)], args := [d1, d2, d3] }
  | _ => none }
def WrapRoomsWrongFalsely : Prop := wrapRoomsRow.holds Try.pinned (OpenSpec.ofChange wrapRoomsWrong)

/-- 'waymasterlaw01.WrapFars': WHATEVER THE INPUT: true; the input reads as it did. -/
def wrapFarsSpec : ChangeSpec := { name := "wrapFars", fn := fun _ => fun
  | [d1, d2] => { results := [.lit (.bool true)], args := [d1, d2] }
  | _ => none }
def wrapFarsRow : OpenClaim := { program := "ytihonionnfeagaa", sum := "6f2af8e5f6c5aa2eaa615a0e8c57a79c6259007f363f314f13def78734367da1", func := "waymaster/waymasterlaw01.WrapFars", spec := "wrapFars", unfollowed := true, recurses := true, apart := false }
def WrapFarsSaid : Prop := wrapFarsRow.holds Try.pinned (OpenSpec.ofChange wrapFarsSpec)

/-- ITS FALSE NEIGHBOUR: 'it returns false'. Refute it at one input. -/
def wrapFarsWrong : ChangeSpec := { name := "wrapFars", fn := fun _ => fun
  | [d1, d2] => { results := [.lit (.bool false)], args := [d1, d2] }
  | _ => none }
def WrapFarsWrongFalsely : Prop := wrapFarsRow.holds Try.pinned (OpenSpec.ofChange wrapFarsWrong)

/-- 'waymasterlaw01.WrapMoves': WHATEVER THE INPUT: true; the input reads as it did. -/
def wrapMovesSpec : ChangeSpec := { name := "wrapMoves", fn := fun _ => fun
  | [d1, d2, d3, d4] => { results := [.lit (.bool true)], args := [d1, d2, d3, d4] }
  | _ => none }
def wrapMovesRow : OpenClaim := { program := "ytihonionnfeagaa", sum := "6f2af8e5f6c5aa2eaa615a0e8c57a79c6259007f363f314f13def78734367da1", func := "waymaster/waymasterlaw01.WrapMoves", spec := "wrapMoves", unfollowed := true, recurses := true, apart := false }
def WrapMovesSaid : Prop := wrapMovesRow.holds Try.pinned (OpenSpec.ofChange wrapMovesSpec)

/-- ITS FALSE NEIGHBOUR: 'it returns false'. Refute it at one input. -/
def wrapMovesWrong : ChangeSpec := { name := "wrapMoves", fn := fun _ => fun
  | [d1, d2, d3, d4] => { results := [.lit (.bool false)], args := [d1, d2, d3, d4] }
  | _ => none }
def WrapMovesWrongFalsely : Prop := wrapMovesRow.holds Try.pinned (OpenSpec.ofChange wrapMovesWrong)

/-- 'waymasterlaw01.WrapOrders': WHATEVER THE INPUT: true; the input reads as it did. -/
def wrapOrdersSpec : ChangeSpec := { name := "wrapOrders", fn := fun _ => fun
  | [d1, d2] => { results := [.lit (.bool true)], args := [d1, d2] }
  | _ => none }
def wrapOrdersRow : OpenClaim := { program := "ytihonionnfeagaa", sum := "6f2af8e5f6c5aa2eaa615a0e8c57a79c6259007f363f314f13def78734367da1", func := "waymaster/waymasterlaw01.WrapOrders", spec := "wrapOrders", unfollowed := true, recurses := true, apart := false }
def WrapOrdersSaid : Prop := wrapOrdersRow.holds Try.pinned (OpenSpec.ofChange wrapOrdersSpec)

/-- ITS FALSE NEIGHBOUR: 'it returns false'. Refute it at one input. -/
def wrapOrdersWrong : ChangeSpec := { name := "wrapOrders", fn := fun _ => fun
  | [d1, d2] => { results := [.lit (.bool false)], args := [d1, d2] }
  | _ => none }
def WrapOrdersWrongFalsely : Prop := wrapOrdersRow.holds Try.pinned (OpenSpec.ofChange wrapOrdersWrong)

/-- 'waymasterlaw01.WrapRanges': WHATEVER THE INPUT: true; the input reads as it did. -/
def wrapRangesSpec : ChangeSpec := { name := "wrapRanges", fn := fun _ => fun
  | [d1, d2, d3] => { results := [.lit (.bool true)], args := [d1, d2, d3] }
  | _ => none }
def wrapRangesRow : OpenClaim := { program := "ytihonionnfeagaa", sum := "6f2af8e5f6c5aa2eaa615a0e8c57a79c6259007f363f314f13def78734367da1", func := "waymaster/waymasterlaw01.WrapRanges", spec := "wrapRanges", unfollowed := true, recurses := true, apart := false }
def WrapRangesSaid : Prop := wrapRangesRow.holds Try.pinned (OpenSpec.ofChange wrapRangesSpec)

/-- ITS FALSE NEIGHBOUR: 'it returns false'. Refute it at one input. -/
def wrapRangesWrong : ChangeSpec := { name := "wrapRanges", fn := fun _ => fun
  | [d1, d2, d3] => { results := [.lit (.bool false)], args := [d1, d2, d3] }
  | _ => none }
def WrapRangesWrongFalsely : Prop := wrapRangesRow.holds Try.pinned (OpenSpec.ofChange wrapRangesWrong)

/-- 'waymasterlaw01.WrapUnlike': WHATEVER THE INPUT: true; the input reads as it did. -/
def wrapUnlikeSpec : ChangeSpec := { name := "wrapUnlike", fn := fun _ => fun
  | [d1, d2, d3] => { results := [.lit (.bool true)], args := [d1, d2, d3] }
  | _ => none }
def wrapUnlikeRow : OpenClaim := { program := "ytihonionnfeagaa", sum := "6f2af8e5f6c5aa2eaa615a0e8c57a79c6259007f363f314f13def78734367da1", func := "waymaster/waymasterlaw01.WrapUnlike", spec := "wrapUnlike", unfollowed := true, recurses := true, apart := false }
def WrapUnlikeSaid : Prop := wrapUnlikeRow.holds Try.pinned (OpenSpec.ofChange wrapUnlikeSpec)

/-- ITS FALSE NEIGHBOUR: 'it returns false'. Refute it at one input. -/
def wrapUnlikeWrong : ChangeSpec := { name := "wrapUnlike", fn := fun _ => fun
  | [d1, d2, d3] => { results := [.lit (.bool false)], args := [d1, d2, d3] }
  | _ => none }
def WrapUnlikeWrongFalsely : Prop := wrapUnlikeRow.holds Try.pinned (OpenSpec.ofChange wrapUnlikeWrong)

/- THE SECOND FORM. 'bulk': how many values and letters a reading holds, each counted each time it is reached (what is shared counts as often as it is met; a slice's spare places count too). A statement '..UptoSaid' is the law's where the arguments, and the package variables that the reading takes, are together of bulk at most 1048576: NARROWER than '..Said'. Prove '..Said' where nothing that the law and all that it calls make is longer than what came in: it says more and counts as full. Else prove '..UptoSaid'. A law counts once. -/
mutual
def uptoBulk {H : Type} : DataW H → Nat
  | .lit (.string bytes) => bytes.length + 1
  | .lit _ => 1
  | .nil => 1
  | .ptr d => uptoBulk d + 1
  | .slice elems spare => uptoBulkAll elems + uptoBulkAll spare + 1
  | .agg parts => uptoBulkAll parts + 1
  | .iface _ d => uptoBulk d + 1
  | .map entries => uptoBulkEntries entries + 1
  | .held _ => 1
def uptoBulkAll {H : Type} : List (DataW H) → Nat
  | [] => 0
  | d :: r => uptoBulk d + uptoBulkAll r
def uptoBulkEntries {H : Type} : List (Lit × DataW H) → Nat
  | [] => 0
  | x :: r => uptoBulkEntry x + uptoBulkEntries r
def uptoBulkEntry {H : Type} : Lit × DataW H → Nat
  | (.string bytes, d) => bytes.length + uptoBulk d + 1
  | (_, d) => uptoBulk d + 1
 end
def uptoSmall : (H : Type) → List (DataW H) → Bool := fun _ ds => decide (uptoBulkAll ds ≤ 1048576)
def OpenSpec.upto (s : _root_.Go.ChangeSpec) : _root_.Go.OpenSpec := { _root_.Go.OpenSpec.ofChange s with cond := some uptoSmall }

/-- 'waymasterlaw01.WrapSlots', WHERE WHAT IT READS IS OF BULK AT MOST 1048576: true; the input reads as it did. -/
def wrapSlotsUptoRow : OpenClaim := { program := "ytihonionnfeagaa", sum := "6f2af8e5f6c5aa2eaa615a0e8c57a79c6259007f363f314f13def78734367da1", func := "waymaster/waymasterlaw01.WrapSlots", spec := "wrapSlots", unfollowed := true, recurses := true, apart := false, narrowed := true }
def WrapSlotsUptoSaid : Prop := wrapSlotsUptoRow.holds Try.pinned (OpenSpec.upto wrapSlotsSpec)

/-- 'waymasterlaw01.WrapRooms', WHERE WHAT IT READS IS OF BULK AT MOST 1048576: true; the input reads as it did. -/
def wrapRoomsUptoRow : OpenClaim := { program := "ytihonionnfeagaa", sum := "6f2af8e5f6c5aa2eaa615a0e8c57a79c6259007f363f314f13def78734367da1", func := "waymaster/waymasterlaw01.WrapRooms", spec := "wrapRooms", unfollowed := true, recurses := true, apart := false, narrowed := true }
def WrapRoomsUptoSaid : Prop := wrapRoomsUptoRow.holds Try.pinned (OpenSpec.upto wrapRoomsSpec)

/-- 'waymasterlaw01.WrapFars', WHERE WHAT IT READS IS OF BULK AT MOST 1048576: true; the input reads as it did. -/
def wrapFarsUptoRow : OpenClaim := { program := "ytihonionnfeagaa", sum := "6f2af8e5f6c5aa2eaa615a0e8c57a79c6259007f363f314f13def78734367da1", func := "waymaster/waymasterlaw01.WrapFars", spec := "wrapFars", unfollowed := true, recurses := true, apart := false, narrowed := true }
def WrapFarsUptoSaid : Prop := wrapFarsUptoRow.holds Try.pinned (OpenSpec.upto wrapFarsSpec)

/-- 'waymasterlaw01.WrapMoves', WHERE WHAT IT READS IS OF BULK AT MOST 1048576: true; the input reads as it did. -/
def wrapMovesUptoRow : OpenClaim := { program := "ytihonionnfeagaa", sum := "6f2af8e5f6c5aa2eaa615a0e8c57a79c6259007f363f314f13def78734367da1", func := "waymaster/waymasterlaw01.WrapMoves", spec := "wrapMoves", unfollowed := true, recurses := true, apart := false, narrowed := true }
def WrapMovesUptoSaid : Prop := wrapMovesUptoRow.holds Try.pinned (OpenSpec.upto wrapMovesSpec)

/-- 'waymasterlaw01.WrapOrders', WHERE WHAT IT READS IS OF BULK AT MOST 1048576: true; the input reads as it did. -/
def wrapOrdersUptoRow : OpenClaim := { program := "ytihonionnfeagaa", sum := "6f2af8e5f6c5aa2eaa615a0e8c57a79c6259007f363f314f13def78734367da1", func := "waymaster/waymasterlaw01.WrapOrders", spec := "wrapOrders", unfollowed := true, recurses := true, apart := false, narrowed := true }
def WrapOrdersUptoSaid : Prop := wrapOrdersUptoRow.holds Try.pinned (OpenSpec.upto wrapOrdersSpec)

/-- 'waymasterlaw01.WrapRanges', WHERE WHAT IT READS IS OF BULK AT MOST 1048576: true; the input reads as it did. -/
def wrapRangesUptoRow : OpenClaim := { program := "ytihonionnfeagaa", sum := "6f2af8e5f6c5aa2eaa615a0e8c57a79c6259007f363f314f13def78734367da1", func := "waymaster/waymasterlaw01.WrapRanges", spec := "wrapRanges", unfollowed := true, recurses := true, apart := false, narrowed := true }
def WrapRangesUptoSaid : Prop := wrapRangesUptoRow.holds Try.pinned (OpenSpec.upto wrapRangesSpec)

/-- 'waymasterlaw01.WrapUnlike', WHERE WHAT IT READS IS OF BULK AT MOST 1048576: true; the input reads as it did. -/
def wrapUnlikeUptoRow : OpenClaim := { program := "ytihonionnfeagaa", sum := "6f2af8e5f6c5aa2eaa615a0e8c57a79c6259007f363f314f13def78734367da1", func := "waymaster/waymasterlaw01.WrapUnlike", spec := "wrapUnlike", unfollowed := true, recurses := true, apart := false, narrowed := true }
def WrapUnlikeUptoSaid : Prop := wrapUnlikeUptoRow.holds Try.pinned (OpenSpec.upto wrapUnlikeSpec)

end Rows
end Go.Proofs.Ytihonionnfeagaa
