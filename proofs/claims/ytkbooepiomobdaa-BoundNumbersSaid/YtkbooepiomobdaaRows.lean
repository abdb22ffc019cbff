/-
  No cell of these rows narrows 'for every input' (looked for: loops, veiled, ifaces, maps, wideKeys, modest, calm, conditions, laid).
  DERIVED. THE GIVEN ROWS OF THIS SEAT. 5 by the template 'for every input the law returns true; each argument reads behind the call as it read before'; 0 by the template 'total and deterministic' (their statements: YtkbooepiomobdaaTotals.lean).
  GIVEN WITH THE SEED: the statements are not yours to turn. If you find one false, say at which input.
  Laid BY PROGRAM, IN A SANDBOX (cutbox-rows.mjs): the forced cells as the released guide's own fill.sh prints them over the translation 47a23f1a5dfd80df… (all of the seat's roots in one cut). By AI agents, Wed Nov 11 2026. No macro, syntax, notation, axiom, sorry.
-/
import Derived.Test.YtkbooepiomobdaaChecked
import GoSem.Claim
import GoSem.ClaimJoined
import GoSem.ClaimMapViews
import Derived.JoinedTies
import Derived.KernelRfl
namespace Go.Proofs.Ytkbooepiomobdaa
/- THE CELL 'sum', in the pinned program and in every row, IS THE sha256 OF THE DUMP (.gsa) THAT YtkbooepiomobdaaProg.lean LOADS. Nothing in Lean hashes anything: it is a label: what it is worth is what the hold of that sum in a sandbox is worth. -/
noncomputable def Try.pinned : Pinned := { name := "ytkbooepiomobdaa", sum := "47a23f1a5dfd80df538ca07795c5508b15b8613426acb6bb06ac7f3fb200008b", checked := Try.checked }
namespace Rows
def none {H : Type} : Left H := { results := [], args := [] }

/-- 'limelightlaw13.BoundNumbers': WHATEVER THE INPUT: true; the input reads as it did. -/
def boundNumbersSpec : ChangeSpec := { name := "boundNumbers", fn := fun _ => fun
  | [] => { results := [.lit (.bool true)], args := [] }
  | _ => none }
def boundNumbersRow : OpenClaim := { program := "ytkbooepiomobdaa", sum := "47a23f1a5dfd80df538ca07795c5508b15b8613426acb6bb06ac7f3fb200008b", func := "limelight/limelightlaw13.BoundNumbers", spec := "boundNumbers", unfollowed := true, recurses := true, apart := false }
def BoundNumbersSaid : Prop := boundNumbersRow.holds Try.pinned (OpenSpec.ofChange boundNumbersSpec)

/-- ITS FALSE NEIGHBOUR: 'it returns false'. Refute it at one input. -/
def boundNumbersWrong : ChangeSpec := { name := "boundNumbers", fn := fun _ => fun
  | [] => { results := [.lit (.bool false)], args := [] }
  | _ => none }
def BoundNumbersWrongFalsely : Prop := boundNumbersRow.holds Try.pinned (OpenSpec.ofChange boundNumbersWrong)

/-- 'limelightlaw13.BoundTells': WHATEVER THE INPUT: true; the input reads as it did. -/
def boundTellsSpec : ChangeSpec := { name := "boundTells", fn := fun _ => fun
  | [d1, d2, d3, d4] => { results := [.lit (.bool true)], args := [d1, d2, d3, d4] }
  | _ => none }
def boundTellsRow : OpenClaim := { program := "ytkbooepiomobdaa", sum := "47a23f1a5dfd80df538ca07795c5508b15b8613426acb6bb06ac7f3fb200008b", func := "limelight/limelightlaw13.BoundTells", spec := "boundTells", unfollowed := true, recurses := true, apart := false }
def BoundTellsSaid : Prop := boundTellsRow.holds Try.pinned (OpenSpec.ofChange boundTellsSpec)

/-- ITS FALSE NEIGHBOUR: 'it returns false'. Refute it at one input. -/
def boundTellsWrong : ChangeSpec := { name := "boundTells", fn := fun _ => fun
  | [d1, d2, d3, d4] => { results := [.lit (.bool false)], args := [d1, d2, d3, d4] }
  | _ => none }
def BoundTellsWrongFalsely : Prop := boundTellsRow.holds Try.pinned (OpenSpec.ofChange boundTellsWrong)

/-- 'limelightlaw13.BoundHolds': WHATEVER THE INPUT: true; the input reads as it did. -/
def boundHoldsSpec : ChangeSpec := { name := "boundHolds", fn := fun _ => fun
  | [d1, d2, d3, d4] => { results := [.lit (.bool true)], args := [d1, d2, d3, d4] }
  | _ => none }
def boundHoldsRow : OpenClaim := { program := "ytkbooepiomobdaa", sum := "47a23f1a5dfd80df538ca07795c5508b15b8613426acb6bb06ac7f3fb200008b", func := "limelight/limelightlaw13.BoundHolds", spec := "boundHolds", unfollowed := true, recurses := true, apart := false }
def BoundHoldsSaid : Prop := boundHoldsRow.holds Try.pinned (OpenSpec.ofChange boundHoldsSpec)

/-- ITS FALSE NEIGHBOUR: 'it returns false'. Refute it at one input. -/
def boundHoldsWrong : ChangeSpec := { name := "boundHolds", fn := fun _ => fun
  | [d1, d2, d3, d4] => { results := [.lit (.bool false)], args := [d1, d2, d3, d4] }
  | _ => none }
def BoundHoldsWrongFalsely : Prop := boundHoldsRow.holds Try.pinned (OpenSpec.ofChange boundHoldsWrong)

/-- 'limelightlaw13.BoundMore': WHATEVER THE INPUT: true; the input reads as it did. -/
def boundMoreSpec : ChangeSpec := { name := "boundMore", fn := fun _ => fun
  | [d1, d2, d3] => { results := [.lit (.bool true)], args := [d1, d2, d3] }
  | _ => none }
def boundMoreRow : OpenClaim := { program := "ytkbooepiomobdaa", sum := "47a23f1a5dfd80df538ca07795c5508b15b8613426acb6bb06ac7f3fb200008b", func := "limelight/limelightlaw13.BoundMore", spec := "boundMore", unfollowed := true, recurses := true, apart := false }
def BoundMoreSaid : Prop := boundMoreRow.holds Try.pinned (OpenSpec.ofChange boundMoreSpec)

/-- ITS FALSE NEIGHBOUR: 'it returns false'. Refute it at one input. -/
def boundMoreWrong : ChangeSpec := { name := "boundMore", fn := fun _ => fun
  | [d1, d2, d3] => { results := [.lit (.bool false)], args := [d1, d2, d3] }
  | _ => none }
def BoundMoreWrongFalsely : Prop := boundMoreRow.holds Try.pinned (OpenSpec.ofChange boundMoreWrong)

/-- 'limelightlaw13.BoundTurned': WHATEVER THE INPUT: true; the input reads as it did. -/
def boundTurnedSpec : ChangeSpec := { name := "boundTurned", fn := fun _ => fun
  | [d1, d2, d3] => { results := [.lit (.bool true)], args := [d1, d2, d3] }
  | _ => none }
def boundTurnedRow : OpenClaim := { program := "ytkbooepiomobdaa", sum := "47a23f1a5dfd80df538ca07795c5508b15b8613426acb6bb06ac7f3fb200008b", func := "limelight/limelightlaw13.BoundTurned", spec := "boundTurned", unfollowed := true, recurses := true, apart := false }
def BoundTurnedSaid : Prop := boundTurnedRow.holds Try.pinned (OpenSpec.ofChange boundTurnedSpec)

/-- ITS FALSE NEIGHBOUR: 'it returns false'. Refute it at one input. -/
def boundTurnedWrong : ChangeSpec := { name := "boundTurned", fn := fun _ => fun
  | [d1, d2, d3] => { results := [.lit (.bool false)], args := [d1, d2, d3] }
  | _ => none }
def BoundTurnedWrongFalsely : Prop := boundTurnedRow.holds Try.pinned (OpenSpec.ofChange boundTurnedWrong)

/- THE SECOND FORM. 'bulk': how many values and letters a reading holds, each counted each time it is reached (what is shared counts as often as it is met; a slice's spare places count too). A statement '..UptoSaid' is the law's where the arguments, and the package variables that the reading takes, are together of bulk at most 1048576: NARROWER than '..Said'. Prove '..Said' where nothing that the law and all that it calls make is longer than what came in: it says more and counts as full. Else prove '..UptoSaid'. A law counts once. -/
mutual
def uptoBulk {H : Type} : DataW H → Nat
  | .lit (.string bytes) => bytes.length + 1
  | .lit _ => 1
  | .nil => 1
  | .ptr d => uptoBulk d + 1
  | .slice elems spare => uptoBulkAll elems + uptoBulkAll spare + 1
  | .agg parts => uptoBulkAll parts + 1
  | .iface _ d => uptoBulk d + 1
  | .map entries => uptoBulkEntries entries + 1
  | .held _ => 1
def uptoBulkAll {H : Type} : List (DataW H) → Nat
  | [] => 0
  | d :: r => uptoBulk d + uptoBulkAll r
def uptoBulkEntries {H : Type} : List (Lit × DataW H) → Nat
  | [] => 0
  | x :: r => uptoBulkEntry x + uptoBulkEntries r
def uptoBulkEntry {H : Type} : Lit × DataW H → Nat
  | (.string bytes, d) => bytes.length + uptoBulk d + 1
  | (_, d) => uptoBulk d + 1
 end
def uptoSmall : (H : Type) → List (DataW H) → Bool := fun _ ds => decide (uptoBulkAll ds ≤ 1048576)
def OpenSpec.upto (s : _root_.Go.ChangeSpec) : _root_.Go.OpenSpec := { _root_.Go.OpenSpec.ofChange s with cond := some uptoSmall }

/-- 'limelightlaw13.BoundNumbers', WHERE WHAT IT READS IS OF BULK AT MOST 1048576: true; the input reads as it did. -/
def boundNumbersUptoRow : OpenClaim := { program := "ytkbooepiomobdaa", sum := "47a23f1a5dfd80df538ca07795c5508b15b8613426acb6bb06ac7f3fb200008b", func := "limelight/limelightlaw13.BoundNumbers", spec := "boundNumbers", unfollowed := true, recurses := true, apart := false, narrowed := true }
def BoundNumbersUptoSaid : Prop := boundNumbersUptoRow.holds Try.pinned (OpenSpec.upto boundNumbersSpec)

/-- 'limelightlaw13.BoundTells', WHERE WHAT IT READS IS OF BULK AT MOST 1048576: true; the input reads as it did. -/
def boundTellsUptoRow : OpenClaim := { program := "ytkbooepiomobdaa", sum := "47a23f1a5dfd80df538ca07795c5508b15b8613426acb6bb06ac7f3fb200008b", func := "limelight/limelightlaw13.BoundTells", spec := "boundTells", unfollowed := true, recurses := true, apart := false, narrowed := true }
def BoundTellsUptoSaid : Prop := boundTellsUptoRow.holds Try.pinned (OpenSpec.upto boundTellsSpec)

/-- 'limelightlaw13.BoundHolds', WHERE WHAT IT READS IS OF BULK AT MOST 1048576: true; the input reads as it did. -/
def boundHoldsUptoRow : OpenClaim := { program := "ytkbooepiomobdaa", sum := "47a23f1a5dfd80df538ca07795c5508b15b8613426acb6bb06ac7f3fb200008b", func := "limelight/limelightlaw13.BoundHolds", spec := "boundHolds", unfollowed := true, recurses := true, apart := false, narrowed := true }
def BoundHoldsUptoSaid : Prop := boundHoldsUptoRow.holds Try.pinned (OpenSpec.upto boundHoldsSpec)

/-- 'limelightlaw13.BoundMore', WHERE WHAT IT READS IS OF BULK AT MOST 1048576: true; the input reads as it did. -/
def boundMoreUptoRow : OpenClaim := { program := "ytkbooepiomobdaa", sum := "47a23f1a5dfd80df538ca07795c5508b15b8613426acb6bb06ac7f3fb200008b", func := "limelight/limelightlaw13.BoundMore", spec := "boundMore", unfollowed := true, recurses := true, apart := false, narrowed := true }
def BoundMoreUptoSaid : Prop := boundMoreUptoRow.holds Try.pinned (OpenSpec.upto boundMoreSpec)

/-- 'limelightlaw13.BoundTurned', WHERE WHAT IT READS IS OF BULK AT MOST 1048576: true; the input reads as it did. -/
def boundTurnedUptoRow : OpenClaim := { program := "ytkbooepiomobdaa", sum := "47a23f1a5dfd80df538ca07795c5508b15b8613426acb6bb06ac7f3fb200008b", func := "limelight/limelightlaw13.BoundTurned", spec := "boundTurned", unfollowed := true, recurses := true, apart := false, narrowed := true }
def BoundTurnedUptoSaid : Prop := boundTurnedUptoRow.holds Try.pinned (OpenSpec.upto boundTurnedSpec)

end Rows
end Go.Proofs.Ytkbooepiomobdaa
