/-
  No cell of these rows narrows 'for every input' (looked for: loops, veiled, ifaces, maps, wideKeys, modest, calm, conditions, laid).
  DERIVED. THE GIVEN ROWS OF THIS SEAT. 8 by the template 'for every input the law returns true; each argument reads behind the call as it read before'; 0 by the template 'total and deterministic' (their statements: YtkjhklnjmpicgaaTotals.lean).
  GIVEN WITH THE SEED: the statements are not yours to turn. If you find one false, say at which input.
  Laid BY PROGRAM, IN A SANDBOX (cutbox-rows.mjs): the forced cells as the released guide's own fill.sh prints them over the translation ef40a1c42eca4e21… (all of the seat's roots in one cut). By AI agents, Wed Nov 11 2026. No macro, syntax, notation, axiom, sorry.
-/
import Derived.Test.YtkjhklnjmpicgaaChecked
import GoSem.Claim
import GoSem.ClaimJoined
import GoSem.ClaimMapViews
import Derived.JoinedTies
import Derived.KernelRfl
namespace Go.Proofs.Ytkjhklnjmpicgaa
/- THE CELL 'sum', in the pinned program and in every row, IS THE sha256 OF THE DUMP (.gsa) THAT YtkjhklnjmpicgaaProg.lean LOADS. Nothing in Lean hashes anything: it is a label: what it is worth is what the hold of that sum in a sandbox is worth. -/
noncomputable def Try.pinned : Pinned := { name := "ytkjhklnjmpicgaa", sum := "ef40a1c42eca4e21452f0634b907e8f904b6bfa45e162523fab1528d7f313710", checked := Try.checked }
namespace Rows
def none {H : Type} : Left H := { results := [], args := [] }

/-- 'waymasterlaw18.ScriptDecodes': WHATEVER THE INPUT: true; the input reads as it did. -/
def scriptDecodesSpec : ChangeSpec := { name := "scriptDecodes", fn := fun _ => fun
  | [d] => { results := [.lit (.bool true)], args := [d] }
  | _ => none }
def scriptDecodesRow : OpenClaim := { program := "ytkjhklnjmpicgaa", sum := "ef40a1c42eca4e21452f0634b907e8f904b6bfa45e162523fab1528d7f313710", func := "waymaster/waymasterlaw18.ScriptDecodes", spec := "scriptDecodes", unfollowed := true, recurses := true, apart := false }
def ScriptDecodesSaid : Prop := scriptDecodesRow.holds Try.pinned (OpenSpec.ofChange scriptDecodesSpec)

/-- ITS FALSE NEIGHBOUR: 'it returns false'. Refute it at one input. -/
def scriptDecodesWrong : ChangeSpec := { name := "scriptDecodes", fn := fun _ => fun
  | [d] => { results := [.lit (.bool false)], args := [d] }
  | _ => none }
def ScriptDecodesWrongFalsely : Prop := scriptDecodesRow.holds Try.pinned (OpenSpec.ofChange scriptDecodesWrong)

/-- 'waymasterlaw18.ScriptTimes': WHATEVER THE INPUT: true; the input reads as it did. -/
def scriptTimesSpec : ChangeSpec := { name := "scriptTimes", fn := fun _ => fun
  | [d] => { results := [.lit (.bool true)], args := [d] }
  | _ => none }
def scriptTimesRow : OpenClaim := { program := "ytkjhklnjmpicgaa", sum := "ef40a1c42eca4e21452f0634b907e8f904b6bfa45e162523fab1528d7f313710", func := "waymaster/waymasterlaw18.ScriptTimes", spec := "scriptTimes", unfollowed := true, recurses := true, apart := false }
def ScriptTimesSaid : Prop := scriptTimesRow.holds Try.pinned (OpenSpec.ofChange scriptTimesSpec)

/-- ITS FALSE NEIGHBOUR: 'it returns false'. Refute it at one input. -/
def scriptTimesWrong : ChangeSpec := { name := "scriptTimes", fn := fun _ => fun
  | [d] => { results := [.lit (.bool false)], args := [d] }
  | _ => none }
def ScriptTimesWrongFalsely : Prop := scriptTimesRow.holds Try.pinned (OpenSpec.ofChange scriptTimesWrong)

/-- 'waymasterlaw18.ScriptEncodes': WHATEVER THE INPUT: true; the input reads as it did. -/
def scriptEncodesSpec : ChangeSpec := { name := "scriptEncodes", fn := fun _ => fun
  | [d] => { results := [.lit (.bool true)], args := [d] }
  | _ => none }
def scriptEncodesRow : OpenClaim := { program := "ytkjhklnjmpicgaa", sum := "ef40a1c42eca4e21452f0634b907e8f904b6bfa45e162523fab1528d7f313710", func := "waymaster/waymasterlaw18.ScriptEncodes", spec := "scriptEncodes", unfollowed := true, recurses := true, apart := false }
def ScriptEncodesSaid : Prop := scriptEncodesRow.holds Try.pinned (OpenSpec.ofChange scriptEncodesSpec)

/-- ITS FALSE NEIGHBOUR: 'it returns false'. Refute it at one input. -/
def scriptEncodesWrong : ChangeSpec := { name := "scriptEncodes", fn := fun _ => fun
  | [d] => { results := [.lit (.bool false)], args := [d] }
  | _ => none }
def ScriptEncodesWrongFalsely : Prop := scriptEncodesRow.holds Try.pinned (OpenSpec.ofChange scriptEncodesWrong)

/-- 'waymasterlaw18.ScriptBack': WHATEVER THE INPUT: true; the input reads as it did. -/
def scriptBackSpec : ChangeSpec := { name := "scriptBack", fn := fun _ => fun
  | [d] => { results := [.lit (.bool true)], args := [d] }
  | _ => none }
def scriptBackRow : OpenClaim := { program := "ytkjhklnjmpicgaa", sum := "ef40a1c42eca4e21452f0634b907e8f904b6bfa45e162523fab1528d7f313710", func := "waymaster/waymasterlaw18.ScriptBack", spec := "scriptBack", unfollowed := true, recurses := true, apart := false }
def ScriptBackSaid : Prop := scriptBackRow.holds Try.pinned (OpenSpec.ofChange scriptBackSpec)

/-- ITS FALSE NEIGHBOUR: 'it returns false'. Refute it at one input. -/
def scriptBackWrong : ChangeSpec := { name := "scriptBack", fn := fun _ => fun
  | [d] => { results := [.lit (.bool false)], args := [d] }
  | _ => none }
def ScriptBackWrongFalsely : Prop := scriptBackRow.holds Try.pinned (OpenSpec.ofChange scriptBackWrong)

/-- 'waymasterlaw18.ScriptTells': WHATEVER THE INPUT: true; the input reads as it did. -/
def scriptTellsSpec : ChangeSpec := { name := "scriptTells", fn := fun _ => fun
  | [d1, d2] => { results := [.lit (.bool true)], args := [d1, d2] }
  | _ => none }
def scriptTellsRow : OpenClaim := { program := "ytkjhklnjmpicgaa", sum := "ef40a1c42eca4e21452f0634b907e8f904b6bfa45e162523fab1528d7f313710", func := "waymaster/waymasterlaw18.ScriptTells", spec := "scriptTells", unfollowed := true, recurses := true, apart := false }
def ScriptTellsSaid : Prop := scriptTellsRow.holds Try.pinned (OpenSpec.ofChange scriptTellsSpec)

/-- ITS FALSE NEIGHBOUR: 'it returns false'. Refute it at one input. -/
def scriptTellsWrong : ChangeSpec := { name := "scriptTells", fn := fun _ => fun
  | [d1, d2] => { results := [.lit (.bool false)], args := [d1, d2] }
  | _ => none }
def ScriptTellsWrongFalsely : Prop := scriptTellsRow.holds Try.pinned (OpenSpec.ofChange scriptTellsWrong)

/-- 'waymasterlaw18.ScriptLong': WHATEVER THE INPUT: true; the input reads as it did. -/
def scriptLongSpec : ChangeSpec := { name := "scriptLong", fn := fun _ => fun
  | [d] => { results := [.lit (.bool true)], args := [d] }
  | _ => none }
def scriptLongRow : OpenClaim := { program := "ytkjhklnjmpicgaa", sum := "ef40a1c42eca4e21452f0634b907e8f904b6bfa45e162523fab1528d7f313710", func := "waymaster/waymasterlaw18.ScriptLong", spec := "scriptLong", unfollowed := true, recurses := true, apart := false }
def ScriptLongSaid : Prop := scriptLongRow.holds Try.pinned (OpenSpec.ofChange scriptLongSpec)

/-- ITS FALSE NEIGHBOUR: 'it returns false'. Refute it at one input. -/
def scriptLongWrong : ChangeSpec := { name := "scriptLong", fn := fun _ => fun
  | [d] => { results := [.lit (.bool false)], args := [d] }
  | _ => none }
def ScriptLongWrongFalsely : Prop := scriptLongRow.holds Try.pinned (OpenSpec.ofChange scriptLongWrong)

/-- 'waymasterlaw18.ScriptAsks': WHATEVER THE INPUT: true; the input reads as it did. -/
def scriptAsksSpec : ChangeSpec := { name := "scriptAsks", fn := fun _ => fun
  | [d1, d2, d3] => { results := [.lit (.bool true)], args := [d1, d2, d3] }
  | _ => none }
def scriptAsksRow : OpenClaim := { program := "ytkjhklnjmpicgaa", sum := "ef40a1c42eca4e21452f0634b907e8f904b6bfa45e162523fab1528d7f313710", func := "waymaster/waymasterlaw18.ScriptAsks", spec := "scriptAsks", unfollowed := true, recurses := true, apart := false }
def ScriptAsksSaid : Prop := scriptAsksRow.holds Try.pinned (OpenSpec.ofChange scriptAsksSpec)

/-- ITS FALSE NEIGHBOUR: 'it returns false'. Refute it at one input. -/
def scriptAsksWrong : ChangeSpec := { name := "scriptAsks", fn := fun _ => fun
  | [d1, d2, d3] => { results := [.lit (.bool false)], args := [d1, d2, d3] }
  | _ => none }
def ScriptAsksWrongFalsely : Prop := scriptAsksRow.holds Try.pinned (OpenSpec.ofChange scriptAsksWrong)

/-- 'waymasterlaw18.ScriptTables': WHATEVER THE INPUT: true; the input reads as it did. -/
def scriptTablesSpec : ChangeSpec := { name := "scriptTables", fn := fun _ => fun
  | [d1, d2] => { results := [.lit (.bool true)], args := [d1, d2] }
  | _ => none }
def scriptTablesRow : OpenClaim := { program := "ytkjhklnjmpicgaa", sum := "ef40a1c42eca4e21452f0634b907e8f904b6bfa45e162523fab1528d7f313710", func := "waymaster/waymasterlaw18.ScriptTables", spec := "scriptTables", unfollowed := true, recurses := true, apart := false }
def ScriptTablesSaid : Prop := scriptTablesRow.holds Try.pinned (OpenSpec.ofChange scriptTablesSpec)

/-- ITS FALSE NEIGHBOUR: 'it returns false'. Refute it at one input. -/
def scriptTablesWrong : ChangeSpec := { name := "scriptTables", fn := fun _ => fun
  | [d1, d2] => { results := [.lit (.bool false)], args := [d1, d2] }
  | _ => none }
def ScriptTablesWrongFalsely : Prop := scriptTablesRow.holds Try.pinned (OpenSpec.ofChange scriptTablesWrong)

/- THE SECOND FORM. 'bulk': how many values and letters a reading holds, each counted each time it is reached (what is shared counts as often as it is met; a slice's spare places count too). A statement '..UptoSaid' is the law's where the arguments, and the package variables that the reading takes, are together of bulk at most 1048576: NARROWER than '..Said'. Prove '..Said' where nothing that the law and all that it calls make is longer than what came in: it says more and counts as full. Else prove '..UptoSaid'. A law counts once. -/
mutual
def uptoBulk {H : Type} : DataW H → Nat
  | .lit (.string bytes) => bytes.length + 1
  | .lit _ => 1
  | .nil => 1
  | .ptr d => uptoBulk d + 1
  | .slice elems spare => uptoBulkAll elems + uptoBulkAll spare + 1
  | .agg parts => uptoBulkAll parts + 1
  | .iface _ d => uptoBulk d + 1
  | .map entries => uptoBulkEntries entries + 1
  | .held _ => 1
def uptoBulkAll {H : Type} : List (DataW H) → Nat
  | [] => 0
  | d :: r => uptoBulk d + uptoBulkAll r
def uptoBulkEntries {H : Type} : List (Lit × DataW H) → Nat
  | [] => 0
  | x :: r => uptoBulkEntry x + uptoBulkEntries r
def uptoBulkEntry {H : Type} : Lit × DataW H → Nat
  | (.string bytes, d) => bytes.length + uptoBulk d + 1
  | (_, d) => uptoBulk d + 1
 end
def uptoSmall : (H : Type) → List (DataW H) → Bool := fun _ ds => decide (uptoBulkAll ds ≤ 1048576)
def OpenSpec.upto (s : _root_.Go.ChangeSpec) : _root_.Go.OpenSpec := { _root_.Go.OpenSpec.ofChange s with cond := some uptoSmall }

/-- 'waymasterlaw18.ScriptDecodes', WHERE WHAT IT READS IS OF BULK AT MOST 1048576: true; the input reads as it did. -/
def scriptDecodesUptoRow : OpenClaim := { program := "ytkjhklnjmpicgaa", sum := "ef40a1c42eca4e21452f0634b907e8f904b6bfa45e162523fab1528d7f313710", func := "waymaster/waymasterlaw18.ScriptDecodes", spec := "scriptDecodes", unfollowed := true, recurses := true, apart := false, narrowed := true }
def ScriptDecodesUptoSaid : Prop := scriptDecodesUptoRow.holds Try.pinned (OpenSpec.upto scriptDecodesSpec)

/-- 'waymasterlaw18.ScriptTimes', WHERE WHAT IT READS IS OF BULK AT MOST 1048576: true; the input reads as it did. -/
def scriptTimesUptoRow : OpenClaim := { program := "ytkjhklnjmpicgaa", sum := "ef40a1c42eca4e21452f0634b907e8f904b6bfa45e162523fab1528d7f313710", func := "waymaster/waymasterlaw18.ScriptTimes", spec := "scriptTimes", unfollowed := true, recurses := true, apart := false, narrowed := true }
def ScriptTimesUptoSaid : Prop := scriptTimesUptoRow.holds Try.pinned (OpenSpec.upto scriptTimesSpec)

/-- 'waymasterlaw18.ScriptEncodes', WHERE WHAT IT READS IS OF BULK AT MOST 1048576: true; the input reads as it did. -/
def scriptEncodesUptoRow : OpenClaim := { program := "ytkjhklnjmpicgaa", sum := "ef40a1c42eca4e21452f0634b907e8f904b6bfa45e162523fab1528d7f313710", func := "waymaster/waymasterlaw18.ScriptEncodes", spec := "scriptEncodes", unfollowed := true, recurses := true, apart := false, narrowed := true }
def ScriptEncodesUptoSaid : Prop := scriptEncodesUptoRow.holds Try.pinned (OpenSpec.upto scriptEncodesSpec)

/-- 'waymasterlaw18.ScriptBack', WHERE WHAT IT READS IS OF BULK AT MOST 1048576: true; the input reads as it did. -/
def scriptBackUptoRow : OpenClaim := { program := "ytkjhklnjmpicgaa", sum := "ef40a1c42eca4e21452f0634b907e8f904b6bfa45e162523fab1528d7f313710", func := "waymaster/waymasterlaw18.ScriptBack", spec := "scriptBack", unfollowed := true, recurses := true, apart := false, narrowed := true }
def ScriptBackUptoSaid : Prop := scriptBackUptoRow.holds Try.pinned (OpenSpec.upto scriptBackSpec)

/-- 'waymasterlaw18.ScriptTells', WHERE WHAT IT READS IS OF BULK AT MOST 1048576: true; the input reads as it did. -/
def scriptTellsUptoRow : OpenClaim := { program := "ytkjhklnjmpicgaa", sum := "ef40a1c42eca4e21452f0634b907e8f904b6bfa45e162523fab1528d7f313710", func := "waymaster/waymasterlaw18.ScriptTells", spec := "scriptTells", unfollowed := true, recurses := true, apart := false, narrowed := true }
def ScriptTellsUptoSaid : Prop := scriptTellsUptoRow.holds Try.pinned (OpenSpec.upto scriptTellsSpec)

/-- 'waymasterlaw18.ScriptLong', WHERE WHAT IT READS IS OF BULK AT MOST 1048576: true; the input reads as it did. -/
def scriptLongUptoRow : OpenClaim := { program := "ytkjhklnjmpicgaa", sum := "ef40a1c42eca4e21452f0634b907e8f904b6bfa45e162523fab1528d7f313710", func := "waymaster/waymasterlaw18.ScriptLong", spec := "scriptLong", unfollowed := true, recurses := true, apart := false, narrowed := true }
def ScriptLongUptoSaid : Prop := scriptLongUptoRow.holds Try.pinned (OpenSpec.upto scriptLongSpec)

/-- 'waymasterlaw18.ScriptAsks', WHERE WHAT IT READS IS OF BULK AT MOST 1048576: true; the input reads as it did. -/
def scriptAsksUptoRow : OpenClaim := { program := "ytkjhklnjmpicgaa", sum := "ef40a1c42eca4e21452f0634b907e8f904b6bfa45e162523fab1528d7f313710", func := "waymaster/waymasterlaw18.ScriptAsks", spec := "scriptAsks", unfollowed := true, recurses := true, apart := false, narrowed := true }
def ScriptAsksUptoSaid : Prop := scriptAsksUptoRow.holds Try.pinned (OpenSpec.upto scriptAsksSpec)

/-- 'waymasterlaw18.ScriptTables', WHERE WHAT IT READS IS OF BULK AT MOST 1048576: true; the input reads as it did. -/
def scriptTablesUptoRow : OpenClaim := { program := "ytkjhklnjmpicgaa", sum := "ef40a1c42eca4e21452f0634b907e8f904b6bfa45e162523fab1528d7f313710", func := "waymaster/waymasterlaw18.ScriptTables", spec := "scriptTables", unfollowed := true, recurses := true, apart := false, narrowed := true }
def ScriptTablesUptoSaid : Prop := scriptTablesUptoRow.holds Try.pinned (OpenSpec.upto scriptTablesSpec)

end Rows
end Go.Proofs.Ytkjhklnjmpicgaa
