/-
  No cell of these rows narrows 'for every input' (looked for: loops, veiled, ifaces, maps, wideKeys, modest, calm, conditions, laid).
  DERIVED. THE GIVEN ROWS OF THIS SEAT. 3 by the template 'for every input the law returns true; each argument reads behind the call as it read before'; 0 by the template 'total and deterministic' (their statements: YtinnclcheekhpaaTotals.lean).
  GIVEN WITH THE SEED: the statements are not yours to turn. If you find one false, say at which input.
  Laid BY PROGRAM, IN A SANDBOX (cutbox-rows.mjs): the forced cells as the released guide's own fill.sh prints them over the translation f59101a0347d8285… (all of the seat's roots in one cut). By AI agents, Wed Nov 11 2026. No macro, syntax, notation, axiom, sorry.
-/
import Derived.Test.YtinnclcheekhpaaChecked
import GoSem.Claim
import GoSem.ClaimJoined
import GoSem.ClaimMapViews
import Derived.JoinedTies
import Derived.KernelRfl
namespace Go.Proofs.Ytinnclcheekhpaa
/- THE CELL 'sum', in the pinned program and in every row, IS THE sha256 OF THE DUMP (.gsa) THAT YtinnclcheekhpaaProg.lean LOADS. Nothing in Lean hashes anything: it is a label: what it is worth is what the hold of that sum in a sandbox is worth. -/
noncomputable def Try.pinned : Pinned := { name := "ytinnclcheekhpaa", sum := "f59101a0347d82853d960dd43469974e98abc240e5122a4344682abc9335d2da", checked := Try.checked }
namespace Rows
def none {H : Type} : Left H := { results := [], args := [] }

/-- 'limelightlaw16.MeterNumbers': WHATEVER THE INPUT: true; the input reads as it did. -/
def meterNumbersSpec : ChangeSpec := { name := "meterNumbers", fn := fun _ => fun
  | [] => { results := [.lit (.bool true)], args := [] }
  | _ => none }
def meterNumbersRow : OpenClaim := { program := "ytinnclcheekhpaa", sum := "f59101a0347d82853d960dd43469974e98abc240e5122a4344682abc9335d2da", func := "limelight/limelightlaw16.MeterNumbers", spec := "meterNumbers", apart := false }
def MeterNumbersSaid : Prop := meterNumbersRow.holds Try.pinned (OpenSpec.ofChange meterNumbersSpec)

/-- ITS FALSE NEIGHBOUR: 'it returns false'. Refute it at one input. -/
def meterNumbersWrong : ChangeSpec := { name := "meterNumbers", fn := fun _ => fun
  | [] => { results := [.lit (.bool false)], args := [] }
  | _ => none }
def MeterNumbersWrongFalsely : Prop := meterNumbersRow.holds Try.pinned (OpenSpec.ofChange meterNumbersWrong)

/-- 'limelightlaw16.MeterWindow': WHATEVER THE INPUT: true; the input reads as it did. -/
def meterWindowSpec : ChangeSpec := { name := "meterWindow", fn := fun _ => fun
  | [d1, d2] => { results := [.lit (.bool true)], args := [d1, d2] }
  | _ => none }
def meterWindowRow : OpenClaim := { program := "ytinnclcheekhpaa", sum := "f59101a0347d82853d960dd43469974e98abc240e5122a4344682abc9335d2da", func := "limelight/limelightlaw16.MeterWindow", spec := "meterWindow", apart := false }
def MeterWindowSaid : Prop := meterWindowRow.holds Try.pinned (OpenSpec.ofChange meterWindowSpec)

/-- ITS FALSE NEIGHBOUR: 'it returns false'. Refute it at one input. -/
def meterWindowWrong : ChangeSpec := { name := "meterWindow", fn := fun _ => fun
  | [d1, d2] => { results := [.lit (.bool false)], args := [d1, d2] }
  | _ => none }
def MeterWindowWrongFalsely : Prop := meterWindowRow.holds Try.pinned (OpenSpec.ofChange meterWindowWrong)

/-- 'limelightlaw16.MeterParts': WHATEVER THE INPUT: true; the input reads as it did. -/
def meterPartsSpec : ChangeSpec := { name := "meterParts", fn := fun _ => fun
  | [d1, d2] => { results := [.lit (.bool true)], args := [d1, d2] }
  | _ => none }
def meterPartsRow : OpenClaim := { program := "ytinnclcheekhpaa", sum := "f59101a0347d82853d960dd43469974e98abc240e5122a4344682abc9335d2da", func := "limelight/limelightlaw16.MeterParts", spec := "meterParts", apart := false }
def MeterPartsSaid : Prop := meterPartsRow.holds Try.pinned (OpenSpec.ofChange meterPartsSpec)

/-- ITS FALSE NEIGHBOUR: 'it returns false'. Refute it at one input. -/
def meterPartsWrong : ChangeSpec := { name := "meterParts", fn := fun _ => fun
  | [d1, d2] => { results := [.lit (.bool false)], args := [d1, d2] }
  | _ => none }
def MeterPartsWrongFalsely : Prop := meterPartsRow.holds Try.pinned (OpenSpec.ofChange meterPartsWrong)

/- THE SECOND FORM. 'bulk': how many values and letters a reading holds, each counted each time it is reached (what is shared counts as often as it is met; a slice's spare places count too). A statement '..UptoSaid' is the law's where the arguments, and the package variables that the reading takes, are together of bulk at most 1048576: NARROWER than '..Said'. Prove '..Said' where nothing that the law and all that it calls make is longer than what came in: it says more and counts as full. Else prove '..UptoSaid'. A law counts once. -/
mutual
def uptoBulk {H : Type} : DataW H → Nat
  | .lit (.string bytes) => bytes.length + 1
  | .lit _ => 1
  | .nil => 1
  | .ptr d => uptoBulk d + 1
  | .slice elems spare => uptoBulkAll elems + uptoBulkAll spare + 1
  | .agg parts => uptoBulkAll parts + 1
  | .iface _ d => uptoBulk d + 1
  | .map entries => uptoBulkEntries entries + 1
  | .held _ => 1
def uptoBulkAll {H : Type} : List (DataW H) → Nat
  | [] => 0
  | d :: r => uptoBulk d + uptoBulkAll r
def uptoBulkEntries {H : Type} : List (Lit × DataW H) → Nat
  | [] => 0
  | x :: r => uptoBulkEntry x + uptoBulkEntries r
def uptoBulkEntry {H : Type} : Lit × DataW H → Nat
  | (.string bytes, d) => bytes.length + uptoBulk d + 1
  | (_, d) => uptoBulk d + 1
 end
def uptoSmall : (H : Type) → List (DataW H) → Bool := fun _ ds => decide (uptoBulkAll ds ≤ 1048576)
def OpenSpec.upto (s : _root_.Go.ChangeSpec) : _root_.Go.OpenSpec := { _root_.Go.OpenSpec.ofChange s with cond := some uptoSmall }

/-- 'limelightlaw16.MeterNumbers', WHERE WHAT IT READS IS OF BULK AT MOST 1048576: true; the input reads as it did. -/
def meterNumbersUptoRow : OpenClaim := { program := "ytinnclcheekhpaa", sum := "f59101a0347d82853d960dd43469974e98abc240e5122a4344682abc9335d2da", func := "limelight/limelightlaw16.MeterNumbers", spec := "meterNumbers", apart := false, narrowed := true }
def MeterNumbersUptoSaid : Prop := meterNumbersUptoRow.holds Try.pinned (OpenSpec.upto meterNumbersSpec)

/-- 'limelightlaw16.MeterWindow', WHERE WHAT IT READS IS OF BULK AT MOST 1048576: true; the input reads as it did. -/
def meterWindowUptoRow : OpenClaim := { program := "ytinnclcheekhpaa", sum := "f59101a0347d82853d960dd43469974e98abc240e5122a4344682abc9335d2da", func := "limelight/limelightlaw16.MeterWindow", spec := "meterWindow", apart := false, narrowed := true }
def MeterWindowUptoSaid : Prop := meterWindowUptoRow.holds Try.pinned (OpenSpec.upto meterWindowSpec)

/-- 'limelightlaw16.MeterParts', WHERE WHAT IT READS IS OF BULK AT MOST 1048576: true; the input reads as it did. -/
def meterPartsUptoRow : OpenClaim := { program := "ytinnclcheekhpaa", sum := "f59101a0347d82853d960dd43469974e98abc240e5122a4344682abc9335d2da", func := "limelight/limelightlaw16.MeterParts", spec := "meterParts", apart := false, narrowed := true }
def MeterPartsUptoSaid : Prop := meterPartsUptoRow.holds Try.pinned (OpenSpec.upto meterPartsSpec)

end Rows
end Go.Proofs.Ytinnclcheekhpaa
