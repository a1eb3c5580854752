/-
  No cell of these rows narrows 'for every input' (looked for: loops, veiled, ifaces, maps, wideKeys, modest, calm, conditions, laid).
  DERIVED. THE GIVEN ROWS OF THIS SEAT. 8 by the template 'for every input the law returns true; each argument reads behind the call as it read before'; 0 by the template 'total and deterministic' (their statements: YtgemicgpaklmlaaTotals.lean).
  GIVEN WITH THE SEED: the statements are not yours to turn. If you find one false, say at which input.
  Laid BY PROGRAM, IN A SANDBOX (cutbox-rows.mjs): the forced cells as the released guide's own fill.sh prints them over the translation 824a2b050d4c60ff… (all of the seat's roots in one cut). By AI agents, Wed Nov 11 2026. No macro, syntax, notation, axiom, sorry.
-/
import Derived.Test.YtgemicgpaklmlaaChecked
import GoSem.Claim
import GoSem.ClaimJoined
import GoSem.ClaimMapViews
import Derived.JoinedTies
import Derived.KernelRfl
namespace Go.Proofs.Ytgemicgpaklmlaa
/- THE CELL 'sum', in the pinned program and in every row, IS THE sha256 OF THE DUMP (.gsa) THAT YtgemicgpaklmlaaProg.lean LOADS. Nothing in Lean hashes anything: it is a label: what it is worth is what the hold of that sum in a sandbox is worth. -/
noncomputable def Try.pinned : Pinned := { name := "ytgemicgpaklmlaa", sum := "824a2b050d4c60ff42a4470fcdefa38c301eef8fa161cde92d68c939c68d5f77", checked := Try.checked }
namespace Rows
def none {H : Type} : Left H := { results := [], args := [] }

/-- 'waymasterlaw07.HashSteps': WHATEVER THE INPUT: true; the input reads as it did. -/
def hashStepsSpec : ChangeSpec := { name := "hashSteps", fn := fun _ => fun
  | [d1, d2, d3] => { results := [.lit (.bool true)], args := [d1, d2, d3] }
  | _ => none }
def hashStepsRow : OpenClaim := { program := "ytgemicgpaklmlaa", sum := "824a2b050d4c60ff42a4470fcdefa38c301eef8fa161cde92d68c939c68d5f77", func := "waymaster/waymasterlaw07.HashSteps", spec := "hashSteps", unfollowed := true, recurses := true, apart := false }
def HashStepsSaid : Prop := hashStepsRow.holds Try.pinned (OpenSpec.ofChange hashStepsSpec)

/-- ITS FALSE NEIGHBOUR: 'it returns false'. Refute it at one input. -/
def hashStepsWrong : ChangeSpec := { name := "hashSteps", fn := fun _ => fun
  | [d1, d2, d3] => { results := [.lit (.bool false)], args := [d1, d2, d3] }
  | _ => none }
def HashStepsWrongFalsely : Prop := hashStepsRow.holds Try.pinned (OpenSpec.ofChange hashStepsWrong)

/-- 'waymasterlaw07.HashWords': WHATEVER THE INPUT: true; the input reads as it did. -/
def hashWordsSpec : ChangeSpec := { name := "hashWords", fn := fun _ => fun
  | [d1, d2] => { results := [.lit (.bool true)], args := [d1, d2] }
  | _ => none }
def hashWordsRow : OpenClaim := { program := "ytgemicgpaklmlaa", sum := "824a2b050d4c60ff42a4470fcdefa38c301eef8fa161cde92d68c939c68d5f77", func := "waymaster/waymasterlaw07.HashWords", spec := "hashWords", unfollowed := true, recurses := true, apart := false }
def HashWordsSaid : Prop := hashWordsRow.holds Try.pinned (OpenSpec.ofChange hashWordsSpec)

/-- ITS FALSE NEIGHBOUR: 'it returns false'. Refute it at one input. -/
def hashWordsWrong : ChangeSpec := { name := "hashWords", fn := fun _ => fun
  | [d1, d2] => { results := [.lit (.bool false)], args := [d1, d2] }
  | _ => none }
def HashWordsWrongFalsely : Prop := hashWordsRow.holds Try.pinned (OpenSpec.ofChange hashWordsWrong)

/-- 'waymasterlaw07.HashScales': WHATEVER THE INPUT: true; the input reads as it did. -/
def hashScalesSpec : ChangeSpec := { name := "hashScales", fn := fun _ => fun
  | [d1, d2] => { results := [.lit (.bool true)], args := [d1, d2] }
  | _ => none }
def hashScalesRow : OpenClaim := { program := "ytgemicgpaklmlaa", sum := "824a2b050d4c60ff42a4470fcdefa38c301eef8fa161cde92d68c939c68d5f77", func := "waymaster/waymasterlaw07.HashScales", spec := "hashScales", unfollowed := true, recurses := true, apart := false }
def HashScalesSaid : Prop := hashScalesRow.holds Try.pinned (OpenSpec.ofChange hashScalesSpec)

/-- ITS FALSE NEIGHBOUR: 'it returns false'. Refute it at one input. -/
def hashScalesWrong : ChangeSpec := { name := "hashScales", fn := fun _ => fun
  | [d1, d2] => { results := [.lit (.bool false)], args := [d1, d2] }
  | _ => none }
def HashScalesWrongFalsely : Prop := hashScalesRow.holds Try.pinned (OpenSpec.ofChange hashScalesWrong)

/-- 'waymasterlaw07.HashApart': WHATEVER THE INPUT: true; the input reads as it did. -/
def hashApartSpec : ChangeSpec := { name := "hashApart", fn := fun _ => fun
  | [d1, d2, d3] => { results := [.lit (.bool true)], args := [d1, d2, d3] }
  | _ => none }
def hashApartRow : OpenClaim := { program := "ytgemicgpaklmlaa", sum := "824a2b050d4c60ff42a4470fcdefa38c301eef8fa161cde92d68c939c68d5f77", func := "waymaster/waymasterlaw07.HashApart", spec := "hashApart", unfollowed := true, recurses := true, apart := false }
def HashApartSaid : Prop := hashApartRow.holds Try.pinned (OpenSpec.ofChange hashApartSpec)

/-- ITS FALSE NEIGHBOUR: 'it returns false'. Refute it at one input. -/
def hashApartWrong : ChangeSpec := { name := "hashApart", fn := fun _ => fun
  | [d1, d2, d3] => { results := [.lit (.bool false)], args := [d1, d2, d3] }
  | _ => none }
def HashApartWrongFalsely : Prop := hashApartRow.holds Try.pinned (OpenSpec.ofChange hashApartWrong)

/-- 'waymasterlaw07.HashRises': WHATEVER THE INPUT: true; the input reads as it did. -/
def hashRisesSpec : ChangeSpec := { name := "hashRises", fn := fun _ => fun
  | [d1, d2, d3] => { results := [.lit (.bool true)], args := [d1, d2, d3] }
  | _ => none }
def hashRisesRow : OpenClaim := { program := "ytgemicgpaklmlaa", sum := "824a2b050d4c60ff42a4470fcdefa38c301eef8fa161cde92d68c939c68d5f77", func := "waymaster/waymasterlaw07.HashRises", spec := "hashRises", unfollowed := true, recurses := true, apart := false }
def HashRisesSaid : Prop := hashRisesRow.holds Try.pinned (OpenSpec.ofChange hashRisesSpec)

/-- ITS FALSE NEIGHBOUR: 'it returns false'. Refute it at one input. -/
def hashRisesWrong : ChangeSpec := { name := "hashRises", fn := fun _ => fun
  | [d1, d2, d3] => { results := [.lit (.bool false)], args := [d1, d2, d3] }
  | _ => none }
def HashRisesWrongFalsely : Prop := hashRisesRow.holds Try.pinned (OpenSpec.ofChange hashRisesWrong)

/-- 'waymasterlaw07.HashTurns': WHATEVER THE INPUT: true; the input reads as it did. -/
def hashTurnsSpec : ChangeSpec := { name := "hashTurns", fn := fun _ => fun
  | [d1, d2, d3] => { results := [.lit (.bool true)], args := [d1, d2, d3] }
  | _ => none }
def hashTurnsRow : OpenClaim := { program := "ytgemicgpaklmlaa", sum := "824a2b050d4c60ff42a4470fcdefa38c301eef8fa161cde92d68c939c68d5f77", func := "waymaster/waymasterlaw07.HashTurns", spec := "hashTurns", unfollowed := true, recurses := true, apart := false }
def HashTurnsSaid : Prop := hashTurnsRow.holds Try.pinned (OpenSpec.ofChange hashTurnsSpec)

/-- ITS FALSE NEIGHBOUR: 'it returns false'. Refute it at one input. -/
def hashTurnsWrong : ChangeSpec := { name := "hashTurns", fn := fun _ => fun
  | [d1, d2, d3] => { results := [.lit (.bool false)], args := [d1, d2, d3] }
  | _ => none }
def HashTurnsWrongFalsely : Prop := hashTurnsRow.holds Try.pinned (OpenSpec.ofChange hashTurnsWrong)

/-- 'waymasterlaw07.HashSteps2': WHATEVER THE INPUT: true; the input reads as it did. -/
def hashSteps2Spec : ChangeSpec := { name := "hashSteps2", fn := fun _ => fun
  | [d1, d2, d3] => { results := [.lit (.bool true)], args := [d1, d2, d3] }
  | _ => none }
def hashSteps2Row : OpenClaim := { program := "ytgemicgpaklmlaa", sum := "824a2b050d4c60ff42a4470fcdefa38c301eef8fa161cde92d68c939c68d5f77", func := "waymaster/waymasterlaw07.HashSteps2", spec := "hashSteps2", unfollowed := true, recurses := true, apart := false }
def HashSteps2Said : Prop := hashSteps2Row.holds Try.pinned (OpenSpec.ofChange hashSteps2Spec)

/-- ITS FALSE NEIGHBOUR: 'it returns false'. Refute it at one input. -/
def hashSteps2Wrong : ChangeSpec := { name := "hashSteps2", fn := fun _ => fun
  | [d1, d2, d3] => { results := [.lit (.bool false)], args := [d1, d2, d3] }
  | _ => none }
def HashSteps2WrongFalsely : Prop := hashSteps2Row.holds Try.pinned (OpenSpec.ofChange hashSteps2Wrong)

/-- 'waymasterlaw07.HashFlows': WHATEVER THE INPUT: true; the input reads as it did. -/
def hashFlowsSpec : ChangeSpec := { name := "hashFlows", fn := fun _ => fun
  | [d1, d2] => { results := [.lit (.bool true)], args := [d1, d2] }
  | _ => none }
def hashFlowsRow : OpenClaim := { program := "ytgemicgpaklmlaa", sum := "824a2b050d4c60ff42a4470fcdefa38c301eef8fa161cde92d68c939c68d5f77", func := "waymaster/waymasterlaw07.HashFlows", spec := "hashFlows", unfollowed := true, recurses := true, apart := false }
def HashFlowsSaid : Prop := hashFlowsRow.holds Try.pinned (OpenSpec.ofChange hashFlowsSpec)

/-- ITS FALSE NEIGHBOUR: 'it returns false'. Refute it at one input. -/
def hashFlowsWrong : ChangeSpec := { name := "hashFlows", fn := fun _ => fun
  | [d1, d2] => { results := [.lit (.bool false)], args := [d1, d2] }
  | _ => none }
def HashFlowsWrongFalsely : Prop := hashFlowsRow.holds Try.pinned (OpenSpec.ofChange hashFlowsWrong)

/- THE SECOND FORM. 'bulk': how many values and letters a reading holds, each counted each time it is reached (what is shared counts as often as it is met; a slice's spare places count too). A statement '..UptoSaid' is the law's where the arguments, and the package variables that the reading takes, are together of bulk at most 1048576: NARROWER than '..Said'. Prove '..Said' where nothing that the law and all that it calls make is longer than what came in: it says more and counts as full. Else prove '..UptoSaid'. A law counts once. -/
mutual
def uptoBulk {H : Type} : DataW H → Nat
  | .lit (.string bytes) => bytes.length + 1
  | .lit _ => 1
  | .nil => 1
  | .ptr d => uptoBulk d + 1
  | .slice elems spare => uptoBulkAll elems + uptoBulkAll spare + 1
  | .agg parts => uptoBulkAll parts + 1
  | .iface _ d => uptoBulk d + 1
  | .map entries => uptoBulkEntries entries + 1
  | .held _ => 1
def uptoBulkAll {H : Type} : List (DataW H) → Nat
  | [] => 0
  | d :: r => uptoBulk d + uptoBulkAll r
def uptoBulkEntries {H : Type} : List (Lit × DataW H) → Nat
  | [] => 0
  | x :: r => uptoBulkEntry x + uptoBulkEntries r
def uptoBulkEntry {H : Type} : Lit × DataW H → Nat
  | (.string bytes, d) => bytes.length + uptoBulk d + 1
  | (_, d) => uptoBulk d + 1
 end
def uptoSmall : (H : Type) → List (DataW H) → Bool := fun _ ds => decide (uptoBulkAll ds ≤ 1048576)
def OpenSpec.upto (s : _root_.Go.ChangeSpec) : _root_.Go.OpenSpec := { _root_.Go.OpenSpec.ofChange s with cond := some uptoSmall }

/-- 'waymasterlaw07.HashSteps', WHERE WHAT IT READS IS OF BULK AT MOST 1048576: true; the input reads as it did. -/
def hashStepsUptoRow : OpenClaim := { program := "ytgemicgpaklmlaa", sum := "824a2b050d4c60ff42a4470fcdefa38c301eef8fa161cde92d68c939c68d5f77", func := "waymaster/waymasterlaw07.HashSteps", spec := "hashSteps", unfollowed := true, recurses := true, apart := false, narrowed := true }
def HashStepsUptoSaid : Prop := hashStepsUptoRow.holds Try.pinned (OpenSpec.upto hashStepsSpec)

/-- 'waymasterlaw07.HashWords', WHERE WHAT IT READS IS OF BULK AT MOST 1048576: true; the input reads as it did. -/
def hashWordsUptoRow : OpenClaim := { program := "ytgemicgpaklmlaa", sum := "824a2b050d4c60ff42a4470fcdefa38c301eef8fa161cde92d68c939c68d5f77", func := "waymaster/waymasterlaw07.HashWords", spec := "hashWords", unfollowed := true, recurses := true, apart := false, narrowed := true }
def HashWordsUptoSaid : Prop := hashWordsUptoRow.holds Try.pinned (OpenSpec.upto hashWordsSpec)

/-- 'waymasterlaw07.HashScales', WHERE WHAT IT READS IS OF BULK AT MOST 1048576: true; the input reads as it did. -/
def hashScalesUptoRow : OpenClaim := { program := "ytgemicgpaklmlaa", sum := "824a2b050d4c60ff42a4470fcdefa38c301eef8fa161cde92d68c939c68d5f77", func := "waymaster/waymasterlaw07.HashScales", spec := "hashScales", unfollowed := true, recurses := true, apart := false, narrowed := true }
def HashScalesUptoSaid : Prop := hashScalesUptoRow.holds Try.pinned (OpenSpec.upto hashScalesSpec)

/-- 'waymasterlaw07.HashApart', WHERE WHAT IT READS IS OF BULK AT MOST 1048576: true; the input reads as it did. -/
def hashApartUptoRow : OpenClaim := { program := "ytgemicgpaklmlaa", sum := "824a2b050d4c60ff42a4470fcdefa38c301eef8fa161cde92d68c939c68d5f77", func := "waymaster/waymasterlaw07.HashApart", spec := "hashApart", unfollowed := true, recurses := true, apart := false, narrowed := true }
def HashApartUptoSaid : Prop := hashApartUptoRow.holds Try.pinned (OpenSpec.upto hashApartSpec)

/-- 'waymasterlaw07.HashRises', WHERE WHAT IT READS IS OF BULK AT MOST 1048576: true; the input reads as it did. -/
def hashRisesUptoRow : OpenClaim := { program := "ytgemicgpaklmlaa", sum := "824a2b050d4c60ff42a4470fcdefa38c301eef8fa161cde92d68c939c68d5f77", func := "waymaster/waymasterlaw07.HashRises", spec := "hashRises", unfollowed := true, recurses := true, apart := false, narrowed := true }
def HashRisesUptoSaid : Prop := hashRisesUptoRow.holds Try.pinned (OpenSpec.upto hashRisesSpec)

/-- 'waymasterlaw07.HashTurns', WHERE WHAT IT READS IS OF BULK AT MOST 1048576: true; the input reads as it did. -/
def hashTurnsUptoRow : OpenClaim := { program := "ytgemicgpaklmlaa", sum := "824a2b050d4c60ff42a4470fcdefa38c301eef8fa161cde92d68c939c68d5f77", func := "waymaster/waymasterlaw07.HashTurns", spec := "hashTurns", unfollowed := true, recurses := true, apart := false, narrowed := true }
def HashTurnsUptoSaid : Prop := hashTurnsUptoRow.holds Try.pinned (OpenSpec.upto hashTurnsSpec)

/-- 'waymasterlaw07.HashSteps2', WHERE WHAT IT READS IS OF BULK AT MOST 1048576: true; the input reads as it did. -/
def hashSteps2UptoRow : OpenClaim := { program := "ytgemicgpaklmlaa", sum := "824a2b050d4c60ff42a4470fcdefa38c301eef8fa161cde92d68c939c68d5f77", func := "waymaster/waymasterlaw07.HashSteps2", spec := "hashSteps2", unfollowed := true, recurses := true, apart := false, narrowed := true }
def HashSteps2UptoSaid : Prop := hashSteps2UptoRow.holds Try.pinned (OpenSpec.upto hashSteps2Spec)

/-- 'waymasterlaw07.HashFlows', WHERE WHAT IT READS IS OF BULK AT MOST 1048576: true; the input reads as it did. -/
def hashFlowsUptoRow : OpenClaim := { program := "ytgemicgpaklmlaa", sum := "824a2b050d4c60ff42a4470fcdefa38c301eef8fa161cde92d68c939c68d5f77", func := "waymaster/waymasterlaw07.HashFlows", spec := "hashFlows", unfollowed := true, recurses := true, apart := false, narrowed := true }
def HashFlowsUptoSaid : Prop := hashFlowsUptoRow.holds Try.pinned (OpenSpec.upto hashFlowsSpec)

end Rows
end Go.Proofs.Ytgemicgpaklmlaa
