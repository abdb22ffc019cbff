/-
  No cell of these rows narrows 'for every input' (looked for: loops, veiled, ifaces, maps, wideKeys, modest, calm, conditions, laid).
  DERIVED. THE GIVEN ROWS OF THIS SEAT. 5 by the template 'for every input the law returns true; each argument reads behind the call as it read before'; 0 by the template 'total and deterministic' (their statements: YtanloaedpalblaaTotals.lean).
  GIVEN WITH THE SEED: the statements are not yours to turn. If you find one false, say at which input.
  Laid BY PROGRAM, IN A SANDBOX (cutbox-rows.mjs): the forced cells as the released guide's own fill.sh prints them over the translation 3d4759c2837bc493… (all of the seat's roots in one cut). By AI agents, Wed Nov 11 2026. No macro, syntax, notation, axiom, sorry.
-/
import Derived.Test.YtanloaedpalblaaChecked
import GoSem.Claim
import GoSem.ClaimJoined
import GoSem.ClaimMapViews
import Derived.JoinedTies
import Derived.KernelRfl
namespace Go.Proofs.Ytanloaedpalblaa
/- THE CELL 'sum', in the pinned program and in every row, IS THE sha256 OF THE DUMP (.gsa) THAT YtanloaedpalblaaProg.lean LOADS. Nothing in Lean hashes anything: it is a label: what it is worth is what the hold of that sum in a sandbox is worth. -/
noncomputable def Try.pinned : Pinned := { name := "ytanloaedpalblaa", sum := "3d4759c2837bc493b77eae68eaec81eaecfeaa7577a7940b941ba8fbb33699d3", checked := Try.checked }
namespace Rows
def none {H : Type} : Left H := { results := [], args := [] }

/-- 'limelightlaw15.SeqNumbers': WHATEVER THE INPUT: true; the input reads as it did. -/
def seqNumbersSpec : ChangeSpec := { name := "seqNumbers", fn := fun _ => fun
  | [] => { results := [.lit (.bool true)], args := [] }
  | _ => none }
def seqNumbersRow : OpenClaim := { program := "ytanloaedpalblaa", sum := "3d4759c2837bc493b77eae68eaec81eaecfeaa7577a7940b941ba8fbb33699d3", func := "limelight/limelightlaw15.SeqNumbers", spec := "seqNumbers", apart := false }
def SeqNumbersSaid : Prop := seqNumbersRow.holds Try.pinned (OpenSpec.ofChange seqNumbersSpec)

/-- ITS FALSE NEIGHBOUR: 'it returns false'. Refute it at one input. -/
def seqNumbersWrong : ChangeSpec := { name := "seqNumbers", fn := fun _ => fun
  | [] => { results := [.lit (.bool false)], args := [] }
  | _ => none }
def SeqNumbersWrongFalsely : Prop := seqNumbersRow.holds Try.pinned (OpenSpec.ofChange seqNumbersWrong)

/-- 'limelightlaw15.SeqTells': WHATEVER THE INPUT: true; the input reads as it did. -/
def seqTellsSpec : ChangeSpec := { name := "seqTells", fn := fun _ => fun
  | [d1, d2, d3, d4, d5] => { results := [.lit (.bool true)], args := [d1, d2, d3, d4, d5] }
  | _ => none }
def seqTellsRow : OpenClaim := { program := "ytanloaedpalblaa", sum := "3d4759c2837bc493b77eae68eaec81eaecfeaa7577a7940b941ba8fbb33699d3", func := "limelight/limelightlaw15.SeqTells", spec := "seqTells", apart := false }
def SeqTellsSaid : Prop := seqTellsRow.holds Try.pinned (OpenSpec.ofChange seqTellsSpec)

/-- ITS FALSE NEIGHBOUR: 'it returns false'. Refute it at one input. -/
def seqTellsWrong : ChangeSpec := { name := "seqTells", fn := fun _ => fun
  | [d1, d2, d3, d4, d5] => { results := [.lit (.bool false)], args := [d1, d2, d3, d4, d5] }
  | _ => none }
def SeqTellsWrongFalsely : Prop := seqTellsRow.holds Try.pinned (OpenSpec.ofChange seqTellsWrong)

/-- 'limelightlaw15.SeqNear': WHATEVER THE INPUT: true; the input reads as it did. -/
def seqNearSpec : ChangeSpec := { name := "seqNear", fn := fun _ => fun
  | [d1, d2] => { results := [.lit (.bool true)], args := [d1, d2] }
  | _ => none }
def seqNearRow : OpenClaim := { program := "ytanloaedpalblaa", sum := "3d4759c2837bc493b77eae68eaec81eaecfeaa7577a7940b941ba8fbb33699d3", func := "limelight/limelightlaw15.SeqNear", spec := "seqNear", apart := false }
def SeqNearSaid : Prop := seqNearRow.holds Try.pinned (OpenSpec.ofChange seqNearSpec)

/-- ITS FALSE NEIGHBOUR: 'it returns false'. Refute it at one input. -/
def seqNearWrong : ChangeSpec := { name := "seqNear", fn := fun _ => fun
  | [d1, d2] => { results := [.lit (.bool false)], args := [d1, d2] }
  | _ => none }
def SeqNearWrongFalsely : Prop := seqNearRow.holds Try.pinned (OpenSpec.ofChange seqNearWrong)

/-- 'limelightlaw15.SeqOnce': WHATEVER THE INPUT: true; the input reads as it did. -/
def seqOnceSpec : ChangeSpec := { name := "seqOnce", fn := fun _ => fun
  | [d1, d2] => { results := [.lit (.bool true)], args := [d1, d2] }
  | _ => none }
def seqOnceRow : OpenClaim := { program := "ytanloaedpalblaa", sum := "3d4759c2837bc493b77eae68eaec81eaecfeaa7577a7940b941ba8fbb33699d3", func := "limelight/limelightlaw15.SeqOnce", spec := "seqOnce", apart := false }
def SeqOnceSaid : Prop := seqOnceRow.holds Try.pinned (OpenSpec.ofChange seqOnceSpec)

/-- ITS FALSE NEIGHBOUR: 'it returns false'. Refute it at one input. -/
def seqOnceWrong : ChangeSpec := { name := "seqOnce", fn := fun _ => fun
  | [d1, d2] => { results := [.lit (.bool false)], args := [d1, d2] }
  | _ => none }
def SeqOnceWrongFalsely : Prop := seqOnceRow.holds Try.pinned (OpenSpec.ofChange seqOnceWrong)

/-- 'limelightlaw15.SeqStamps': WHATEVER THE INPUT: true; the input reads as it did. -/
def seqStampsSpec : ChangeSpec := { name := "seqStamps", fn := fun _ => fun
  | [d1, d2] => { results := [.lit (.bool true)], args := [d1, d2] }
  | _ => none }
def seqStampsRow : OpenClaim := { program := "ytanloaedpalblaa", sum := "3d4759c2837bc493b77eae68eaec81eaecfeaa7577a7940b941ba8fbb33699d3", func := "limelight/limelightlaw15.SeqStamps", spec := "seqStamps", apart := false }
def SeqStampsSaid : Prop := seqStampsRow.holds Try.pinned (OpenSpec.ofChange seqStampsSpec)

/-- ITS FALSE NEIGHBOUR: 'it returns false'. Refute it at one input. -/
def seqStampsWrong : ChangeSpec := { name := "seqStamps", fn := fun _ => fun
  | [d1, d2] => { results := [.lit (.bool false)], args := [d1, d2] }
  | _ => none }
def SeqStampsWrongFalsely : Prop := seqStampsRow.holds Try.pinned (OpenSpec.ofChange seqStampsWrong)

/- THE SECOND FORM. 'bulk': how many values and letters a reading holds, each counted each time it is reached (what is shared counts as often as it is met; a slice's spare places count too). A statement '..UptoSaid' is the law's where the arguments, and the package variables that the reading takes, are together of bulk at most 1048576: NARROWER than '..Said'. Prove '..Said' where nothing that the law and all that it calls make is longer than what came in: it says more and counts as full. Else prove '..UptoSaid'. A law counts once. -/
mutual
def uptoBulk {H : Type} : DataW H → Nat
  | .lit (.string bytes) => bytes.length + 1
  | .lit _ => 1
  | .nil => 1
  | .ptr d => uptoBulk d + 1
  | .slice elems spare => uptoBulkAll elems + uptoBulkAll spare + 1
  | .agg parts => uptoBulkAll parts + 1
  | .iface _ d => uptoBulk d + 1
  | .map entries => uptoBulkEntries entries + 1
  | .held _ => 1
def uptoBulkAll {H : Type} : List (DataW H) → Nat
  | [] => 0
  | d :: r => uptoBulk d + uptoBulkAll r
def uptoBulkEntries {H : Type} : List (Lit × DataW H) → Nat
  | [] => 0
  | x :: r => uptoBulkEntry x + uptoBulkEntries r
def uptoBulkEntry {H : Type} : Lit × DataW H → Nat
  | (.string bytes, d) => bytes.length + uptoBulk d + 1
  | (_, d) => uptoBulk d + 1
 end
def uptoSmall : (H : Type) → List (DataW H) → Bool := fun _ ds => decide (uptoBulkAll ds ≤ 1048576)
def OpenSpec.upto (s : _root_.Go.ChangeSpec) : _root_.Go.OpenSpec := { _root_.Go.OpenSpec.ofChange s with cond := some uptoSmall }

/-- 'limelightlaw15.SeqNumbers', WHERE WHAT IT READS IS OF BULK AT MOST 1048576: true; the input reads as it did. -/
def seqNumbersUptoRow : OpenClaim := { program := "ytanloaedpalblaa", sum := "3d4759c2837bc493b77eae68eaec81eaecfeaa7577a7940b941ba8fbb33699d3", func := "limelight/limelightlaw15.SeqNumbers", spec := "seqNumbers", apart := false, narrowed := true }
def SeqNumbersUptoSaid : Prop := seqNumbersUptoRow.holds Try.pinned (OpenSpec.upto seqNumbersSpec)

/-- 'limelightlaw15.SeqTells', WHERE WHAT IT READS IS OF BULK AT MOST 1048576: true; the input reads as it did. -/
def seqTellsUptoRow : OpenClaim := { program := "ytanloaedpalblaa", sum := "3d4759c2837bc493b77eae68eaec81eaecfeaa7577a7940b941ba8fbb33699d3", func := "limelight/limelightlaw15.SeqTells", spec := "seqTells", apart := false, narrowed := true }
def SeqTellsUptoSaid : Prop := seqTellsUptoRow.holds Try.pinned (OpenSpec.upto seqTellsSpec)

/-- 'limelightlaw15.SeqNear', WHERE WHAT IT READS IS OF BULK AT MOST 1048576: true; the input reads as it did. -/
def seqNearUptoRow : OpenClaim := { program := "ytanloaedpalblaa", sum := "3d4759c2837bc493b77eae68eaec81eaecfeaa7577a7940b941ba8fbb33699d3", func := "limelight/limelightlaw15.SeqNear", spec := "seqNear", apart := false, narrowed := true }
def SeqNearUptoSaid : Prop := seqNearUptoRow.holds Try.pinned (OpenSpec.upto seqNearSpec)

/-- 'limelightlaw15.SeqOnce', WHERE WHAT IT READS IS OF BULK AT MOST 1048576: true; the input reads as it did. -/
def seqOnceUptoRow : OpenClaim := { program := "ytanloaedpalblaa", sum := "3d4759c2837bc493b77eae68eaec81eaecfeaa7577a7940b941ba8fbb33699d3", func := "limelight/limelightlaw15.SeqOnce", spec := "seqOnce", apart := false, narrowed := true }
def SeqOnceUptoSaid : Prop := seqOnceUptoRow.holds Try.pinned (OpenSpec.upto seqOnceSpec)

/-- 'limelightlaw15.SeqStamps', WHERE WHAT IT READS IS OF BULK AT MOST 1048576: true; the input reads as it did. -/
def seqStampsUptoRow : OpenClaim := { program := "ytanloaedpalblaa", sum := "3d4759c2837bc493b77eae68eaec81eaecfeaa7577a7940b941ba8fbb33699d3", func := "limelight/limelightlaw15.SeqStamps", spec := "seqStamps", apart := false, narrowed := true }
def SeqStampsUptoSaid : Prop := seqStampsUptoRow.holds Try.pinned (OpenSpec.upto seqStampsSpec)

end Rows
end Go.Proofs.Ytanloaedpalblaa
