/-
  No cell of these rows narrows 'for every input' (looked for: loops, veiled, ifaces, maps, wideKeys, modest, calm, conditions, laid).
  DERIVED. THE GIVEN ROWS OF THIS SEAT. 8 by the template 'for every input the law returns true; each argument reads behind the call as it read before'; 0 by the template 'total and deterministic' (their statements: YtafmgnojlnkmjaaTotals.lean).
  GIVEN WITH THE SEED: the statements are not yours to turn. If you find one false, say at which input.
  Laid BY PROGRAM, IN A SANDBOX (cutbox-rows.mjs): the forced cells as the released guide's own fill.sh prints them over the translation 86407e991556bd78… (all of the seat's roots in one cut). By AI agents, Wed Nov 11 2026. No macro, syntax, notation, axiom, sorry.
-/
import Derived.Test.YtafmgnojlnkmjaaChecked
import GoSem.Claim
import GoSem.ClaimJoined
import GoSem.ClaimMapViews
import Derived.JoinedTies
import Derived.KernelRfl
namespace Go.Proofs.Ytafmgnojlnkmjaa
/- THE CELL 'sum', in the pinned program and in every row, IS THE sha256 OF THE DUMP (.gsa) THAT YtafmgnojlnkmjaaProg.lean LOADS. Nothing in Lean hashes anything: it is a label: what it is worth is what the hold of that sum in a sandbox is worth. -/
noncomputable def Try.pinned : Pinned := { name := "ytafmgnojlnkmjaa", sum := "86407e991556bd7862349dc688aae18005d978b6e3071df7bcfc6294fcc758b3", checked := Try.checked }
namespace Rows
def none {H : Type} : Left H := { results := [], args := [] }

/-- 'waymasterlaw08.TableAsks': WHATEVER THE INPUT: true; the input reads as it did. -/
def tableAsksSpec : ChangeSpec := { name := "tableAsks", fn := fun _ => fun
  | [d1, d2] => { results := [.lit (.bool true)], args := [d1, d2] }
  | _ => none }
def tableAsksRow : OpenClaim := { program := "ytafmgnojlnkmjaa", sum := "86407e991556bd7862349dc688aae18005d978b6e3071df7bcfc6294fcc758b3", func := "waymaster/waymasterlaw08.TableAsks", spec := "tableAsks", unfollowed := true, recurses := true, apart := false }
def TableAsksSaid : Prop := tableAsksRow.holds Try.pinned (OpenSpec.ofChange tableAsksSpec)

/-- ITS FALSE NEIGHBOUR: 'it returns false'. Refute it at one input. -/
def tableAsksWrong : ChangeSpec := { name := "tableAsks", fn := fun _ => fun
  | [d1, d2] => { results := [.lit (.bool false)], args := [d1, d2] }
  | _ => none }
def TableAsksWrongFalsely : Prop := tableAsksRow.holds Try.pinned (OpenSpec.ofChange tableAsksWrong)

/-- 'waymasterlaw08.TableEven': WHATEVER THE INPUT: true; the input reads as it did. -/
def tableEvenSpec : ChangeSpec := { name := "tableEven", fn := fun _ => fun
  | [d1, d2] => { results := [.lit (.bool true)], args := [d1, d2] }
  | _ => none }
def tableEvenRow : OpenClaim := { program := "ytafmgnojlnkmjaa", sum := "86407e991556bd7862349dc688aae18005d978b6e3071df7bcfc6294fcc758b3", func := "waymaster/waymasterlaw08.TableEven", spec := "tableEven", unfollowed := true, recurses := true, apart := false }
def TableEvenSaid : Prop := tableEvenRow.holds Try.pinned (OpenSpec.ofChange tableEvenSpec)

/-- ITS FALSE NEIGHBOUR: 'it returns false'. Refute it at one input. -/
def tableEvenWrong : ChangeSpec := { name := "tableEven", fn := fun _ => fun
  | [d1, d2] => { results := [.lit (.bool false)], args := [d1, d2] }
  | _ => none }
def TableEvenWrongFalsely : Prop := tableEvenRow.holds Try.pinned (OpenSpec.ofChange tableEvenWrong)

/-- 'waymasterlaw08.TableSpans': WHATEVER THE INPUT: true; the input reads as it did. -/
def tableSpansSpec : ChangeSpec := { name := "tableSpans", fn := fun _ => fun
  | [d1, d2] => { results := [.lit (.bool true)], args := [d1, d2] }
  | _ => none }
def tableSpansRow : OpenClaim := { program := "ytafmgnojlnkmjaa", sum := "86407e991556bd7862349dc688aae18005d978b6e3071df7bcfc6294fcc758b3", func := "waymaster/waymasterlaw08.TableSpans", spec := "tableSpans", unfollowed := true, recurses := true, apart := false }
def TableSpansSaid : Prop := tableSpansRow.holds Try.pinned (OpenSpec.ofChange tableSpansSpec)

/-- ITS FALSE NEIGHBOUR: 'it returns false'. Refute it at one input. -/
def tableSpansWrong : ChangeSpec := { name := "tableSpans", fn := fun _ => fun
  | [d1, d2] => { results := [.lit (.bool false)], args := [d1, d2] }
  | _ => none }
def TableSpansWrongFalsely : Prop := tableSpansRow.holds Try.pinned (OpenSpec.ofChange tableSpansWrong)

/-- 'waymasterlaw08.TableMoves': WHATEVER THE INPUT: true; the input reads as it did. -/
def tableMovesSpec : ChangeSpec := { name := "tableMoves", fn := fun _ => fun
  | [d1, d2] => { results := [.lit (.bool true)], args := [d1, d2] }
  | _ => none }
def tableMovesRow : OpenClaim := { program := "ytafmgnojlnkmjaa", sum := "86407e991556bd7862349dc688aae18005d978b6e3071df7bcfc6294fcc758b3", func := "waymaster/waymasterlaw08.TableMoves", spec := "tableMoves", unfollowed := true, recurses := true, apart := false }
def TableMovesSaid : Prop := tableMovesRow.holds Try.pinned (OpenSpec.ofChange tableMovesSpec)

/-- ITS FALSE NEIGHBOUR: 'it returns false'. Refute it at one input. -/
def tableMovesWrong : ChangeSpec := { name := "tableMoves", fn := fun _ => fun
  | [d1, d2] => { results := [.lit (.bool false)], args := [d1, d2] }
  | _ => none }
def TableMovesWrongFalsely : Prop := tableMovesRow.holds Try.pinned (OpenSpec.ofChange tableMovesWrong)

/-- 'waymasterlaw08.TableSame': WHATEVER THE INPUT: true; the input reads as it did. -/
def tableSameSpec : ChangeSpec := { name := "tableSame", fn := fun _ => fun
  | [d1, d2] => { results := [.lit (.bool true)], args := [d1, d2] }
  | _ => none }
def tableSameRow : OpenClaim := { program := "ytafmgnojlnkmjaa", sum := "86407e991556bd7862349dc688aae18005d978b6e3071df7bcfc6294fcc758b3", func := "waymaster/waymasterlaw08.TableSame", spec := "tableSame", unfollowed := true, recurses := true, apart := false }
def TableSameSaid : Prop := tableSameRow.holds Try.pinned (OpenSpec.ofChange tableSameSpec)

/-- ITS FALSE NEIGHBOUR: 'it returns false'. Refute it at one input. -/
def tableSameWrong : ChangeSpec := { name := "tableSame", fn := fun _ => fun
  | [d1, d2] => { results := [.lit (.bool false)], args := [d1, d2] }
  | _ => none }
def TableSameWrongFalsely : Prop := tableSameRow.holds Try.pinned (OpenSpec.ofChange tableSameWrong)

/-- 'waymasterlaw08.TableRight': WHATEVER THE INPUT: true; the input reads as it did. -/
def tableRightSpec : ChangeSpec := { name := "tableRight", fn := fun _ => fun
  | [d] => { results := [.lit (.bool true)], args := [d] }
  | _ => none }
def tableRightRow : OpenClaim := { program := "ytafmgnojlnkmjaa", sum := "86407e991556bd7862349dc688aae18005d978b6e3071df7bcfc6294fcc758b3", func := "waymaster/waymasterlaw08.TableRight", spec := "tableRight", unfollowed := true, recurses := true, apart := false }
def TableRightSaid : Prop := tableRightRow.holds Try.pinned (OpenSpec.ofChange tableRightSpec)

/-- ITS FALSE NEIGHBOUR: 'it returns false'. Refute it at one input. -/
def tableRightWrong : ChangeSpec := { name := "tableRight", fn := fun _ => fun
  | [d] => { results := [.lit (.bool false)], args := [d] }
  | _ => none }
def TableRightWrongFalsely : Prop := tableRightRow.holds Try.pinned (OpenSpec.ofChange tableRightWrong)

/-- 'waymasterlaw08.TableOwners': WHATEVER THE INPUT: true; the input reads as it did. -/
def tableOwnersSpec : ChangeSpec := { name := "tableOwners", fn := fun _ => fun
  | [d] => { results := [.lit (.bool true)], args := [d] }
  | _ => none }
def tableOwnersRow : OpenClaim := { program := "ytafmgnojlnkmjaa", sum := "86407e991556bd7862349dc688aae18005d978b6e3071df7bcfc6294fcc758b3", func := "waymaster/waymasterlaw08.TableOwners", spec := "tableOwners", unfollowed := true, recurses := true, apart := false }
def TableOwnersSaid : Prop := tableOwnersRow.holds Try.pinned (OpenSpec.ofChange tableOwnersSpec)

/-- ITS FALSE NEIGHBOUR: 'it returns false'. Refute it at one input. -/
def tableOwnersWrong : ChangeSpec := { name := "tableOwners", fn := fun _ => fun
  | [d] => { results := [.lit (.bool false)], args := [d] }
  | _ => none }
def TableOwnersWrongFalsely : Prop := tableOwnersRow.holds Try.pinned (OpenSpec.ofChange tableOwnersWrong)

/-- 'waymasterlaw08.TableShares': WHATEVER THE INPUT: true; the input reads as it did. -/
def tableSharesSpec : ChangeSpec := { name := "tableShares", fn := fun _ => fun
  | [d1, d2] => { results := [.lit (.bool true)], args := [d1, d2] }
  | _ => none }
def tableSharesRow : OpenClaim := { program := "ytafmgnojlnkmjaa", sum := "86407e991556bd7862349dc688aae18005d978b6e3071df7bcfc6294fcc758b3", func := "waymaster/waymasterlaw08.TableShares", spec := "tableShares", unfollowed := true, recurses := true, apart := false }
def TableSharesSaid : Prop := tableSharesRow.holds Try.pinned (OpenSpec.ofChange tableSharesSpec)

/-- ITS FALSE NEIGHBOUR: 'it returns false'. Refute it at one input. -/
def tableSharesWrong : ChangeSpec := { name := "tableShares", fn := fun _ => fun
  | [d1, d2] => { results := [.lit (.bool false)], args := [d1, d2] }
  | _ => none }
def TableSharesWrongFalsely : Prop := tableSharesRow.holds Try.pinned (OpenSpec.ofChange tableSharesWrong)

/- THE SECOND FORM. 'bulk': how many values and letters a reading holds, each counted each time it is reached (what is shared counts as often as it is met; a slice's spare places count too). A statement '..UptoSaid' is the law's where the arguments, and the package variables that the reading takes, are together of bulk at most 1048576: NARROWER than '..Said'. Prove '..Said' where nothing that the law and all that it calls make is longer than what came in: it says more and counts as full. Else prove '..UptoSaid'. A law counts once. -/
mutual
def uptoBulk {H : Type} : DataW H → Nat
  | .lit (.string bytes) => bytes.length + 1
  | .lit _ => 1
  | .nil => 1
  | .ptr d => uptoBulk d + 1
  | .slice elems spare => uptoBulkAll elems + uptoBulkAll spare + 1
  | .agg parts => uptoBulkAll parts + 1
  | .iface _ d => uptoBulk d + 1
  | .map entries => uptoBulkEntries entries + 1
  | .held _ => 1
def uptoBulkAll {H : Type} : List (DataW H) → Nat
  | [] => 0
  | d :: r => uptoBulk d + uptoBulkAll r
def uptoBulkEntries {H : Type} : List (Lit × DataW H) → Nat
  | [] => 0
  | x :: r => uptoBulkEntry x + uptoBulkEntries r
def uptoBulkEntry {H : Type} : Lit × DataW H → Nat
  | (.string bytes, d) => bytes.length + uptoBulk d + 1
  | (_, d) => uptoBulk d + 1
 end
def uptoSmall : (H : Type) → List (DataW H) → Bool := fun _ ds => decide (uptoBulkAll ds ≤ 1048576)
def OpenSpec.upto (s : _root_.Go.ChangeSpec) : _root_.Go.OpenSpec := { _root_.Go.OpenSpec.ofChange s with cond := some uptoSmall }

/-- 'waymasterlaw08.TableAsks', WHERE WHAT IT READS IS OF BULK AT MOST 1048576: true; the input reads as it did. -/
def tableAsksUptoRow : OpenClaim := { program := "ytafmgnojlnkmjaa", sum := "86407e991556bd7862349dc688aae18005d978b6e3071df7bcfc6294fcc758b3", func := "waymaster/waymasterlaw08.TableAsks", spec := "tableAsks", unfollowed := true, recurses := true, apart := false, narrowed := true }
def TableAsksUptoSaid : Prop := tableAsksUptoRow.holds Try.pinned (OpenSpec.upto tableAsksSpec)

/-- 'waymasterlaw08.TableEven', WHERE WHAT IT READS IS OF BULK AT MOST 1048576: true; the input reads as it did. -/
def tableEvenUptoRow : OpenClaim := { program := "ytafmgnojlnkmjaa", sum := "86407e991556bd7862349dc688aae18005d978b6e3071df7bcfc6294fcc758b3", func := "waymaster/waymasterlaw08.TableEven", spec := "tableEven", unfollowed := true, recurses := true, apart := false, narrowed := true }
def TableEvenUptoSaid : Prop := tableEvenUptoRow.holds Try.pinned (OpenSpec.upto tableEvenSpec)

/-- 'waymasterlaw08.TableSpans', WHERE WHAT IT READS IS OF BULK AT MOST 1048576: true; the input reads as it did. -/
def tableSpansUptoRow : OpenClaim := { program := "ytafmgnojlnkmjaa", sum := "86407e991556bd7862349dc688aae18005d978b6e3071df7bcfc6294fcc758b3", func := "waymaster/waymasterlaw08.TableSpans", spec := "tableSpans", unfollowed := true, recurses := true, apart := false, narrowed := true }
def TableSpansUptoSaid : Prop := tableSpansUptoRow.holds Try.pinned (OpenSpec.upto tableSpansSpec)

/-- 'waymasterlaw08.TableMoves', WHERE WHAT IT READS IS OF BULK AT MOST 1048576: true; the input reads as it did. -/
def tableMovesUptoRow : OpenClaim := { program := "ytafmgnojlnkmjaa", sum := "86407e991556bd7862349dc688aae18005d978b6e3071df7bcfc6294fcc758b3", func := "waymaster/waymasterlaw08.TableMoves", spec := "tableMoves", unfollowed := true, recurses := true, apart := false, narrowed := true }
def TableMovesUptoSaid : Prop := tableMovesUptoRow.holds Try.pinned (OpenSpec.upto tableMovesSpec)

/-- 'waymasterlaw08.TableSame', WHERE WHAT IT READS IS OF BULK AT MOST 1048576: true; the input reads as it did. -/
def tableSameUptoRow : OpenClaim := { program := "ytafmgnojlnkmjaa", sum := "86407e991556bd7862349dc688aae18005d978b6e3071df7bcfc6294fcc758b3", func := "waymaster/waymasterlaw08.TableSame", spec := "tableSame", unfollowed := true, recurses := true, apart := false, narrowed := true }
def TableSameUptoSaid : Prop := tableSameUptoRow.holds Try.pinned (OpenSpec.upto tableSameSpec)

/-- 'waymasterlaw08.TableRight', WHERE WHAT IT READS IS OF BULK AT MOST 1048576: true; the input reads as it did. -/
def tableRightUptoRow : OpenClaim := { program := "ytafmgnojlnkmjaa", sum := "86407e991556bd7862349dc688aae18005d978b6e3071df7bcfc6294fcc758b3", func := "waymaster/waymasterlaw08.TableRight", spec := "tableRight", unfollowed := true, recurses := true, apart := false, narrowed := true }
def TableRightUptoSaid : Prop := tableRightUptoRow.holds Try.pinned (OpenSpec.upto tableRightSpec)

/-- 'waymasterlaw08.TableOwners', WHERE WHAT IT READS IS OF BULK AT MOST 1048576: true; the input reads as it did. -/
def tableOwnersUptoRow : OpenClaim := { program := "ytafmgnojlnkmjaa", sum := "86407e991556bd7862349dc688aae18005d978b6e3071df7bcfc6294fcc758b3", func := "waymaster/waymasterlaw08.TableOwners", spec := "tableOwners", unfollowed := true, recurses := true, apart := false, narrowed := true }
def TableOwnersUptoSaid : Prop := tableOwnersUptoRow.holds Try.pinned (OpenSpec.upto tableOwnersSpec)

/-- 'waymasterlaw08.TableShares', WHERE WHAT IT READS IS OF BULK AT MOST 1048576: true; the input reads as it did. -/
def tableSharesUptoRow : OpenClaim := { program := "ytafmgnojlnkmjaa", sum := "86407e991556bd7862349dc688aae18005d978b6e3071df7bcfc6294fcc758b3", func := "waymaster/waymasterlaw08.TableShares", spec := "tableShares", unfollowed := true, recurses := true, apart := false, narrowed := true }
def TableSharesUptoSaid : Prop := tableSharesUptoRow.holds Try.pinned (OpenSpec.upto tableSharesSpec)

end Rows
end Go.Proofs.Ytafmgnojlnkmjaa
