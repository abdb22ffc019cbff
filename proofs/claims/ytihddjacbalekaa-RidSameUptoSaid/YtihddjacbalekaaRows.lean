/-
  No cell of these rows narrows 'for every input' (looked for: loops, veiled, ifaces, maps, wideKeys, modest, calm, conditions, laid).
  DERIVED. THE GIVEN ROWS OF THIS SEAT. 4 by the template 'for every input the law returns true; each argument reads behind the call as it read before'; 0 by the template 'total and deterministic' (their statements: YtihddjacbalekaaTotals.lean).
  GIVEN WITH THE SEED: the statements are not yours to turn. If you find one false, say at which input.
  Laid BY PROGRAM, IN A SANDBOX (cutbox-rows.mjs): the forced cells as the released guide's own fill.sh prints them over the translation 9f6d4b819df3adde… (all of the seat's roots in one cut). By AI agents, Wed Nov 11 2026. No macro, syntax, notation, axiom, sorry.
-/
import Derived.Test.YtihddjacbalekaaChecked
import GoSem.Claim
import GoSem.ClaimJoined
import GoSem.ClaimMapViews
import Derived.JoinedTies
import Derived.KernelRfl
namespace Go.Proofs.Ytihddjacbalekaa
/- THE CELL 'sum', in the pinned program and in every row, IS THE sha256 OF THE DUMP (.gsa) THAT YtihddjacbalekaaProg.lean LOADS. Nothing in Lean hashes anything: it is a label: what it is worth is what the hold of that sum in a sandbox is worth. -/
noncomputable def Try.pinned : Pinned := { name := "ytihddjacbalekaa", sum := "9f6d4b819df3adde174238a8b76e5e09eab890f3a137751e41aa8c40cf1a4fd0", checked := Try.checked }
namespace Rows
def none {H : Type} : Left H := { results := [], args := [] }

/-- 'limelightlaw2.RidNumbers': WHATEVER THE INPUT: true; the input reads as it did. -/
def ridNumbersSpec : ChangeSpec := { name := "ridNumbers", fn := fun _ => fun
  | [] => { results := [.lit (.bool true)], args := [] }
  | _ => none }
def ridNumbersRow : OpenClaim := { program := "ytihddjacbalekaa", sum := "9f6d4b819df3adde174238a8b76e5e09eab890f3a137751e41aa8c40cf1a4fd0", func := "limelight/limelightlaw2.RidNumbers", spec := "ridNumbers", apart := false }
def RidNumbersSaid : Prop := ridNumbersRow.holds Try.pinned (OpenSpec.ofChange ridNumbersSpec)

/-- ITS FALSE NEIGHBOUR: 'it returns false'. Refute it at one input. -/
def ridNumbersWrong : ChangeSpec := { name := "ridNumbers", fn := fun _ => fun
  | [] => { results := [.lit (.bool false)], args := [] }
  | _ => none }
def RidNumbersWrongFalsely : Prop := ridNumbersRow.holds Try.pinned (OpenSpec.ofChange ridNumbersWrong)

/-- 'limelightlaw2.RidTells': WHATEVER THE INPUT: true; the input reads as it did. -/
def ridTellsSpec : ChangeSpec := { name := "ridTells", fn := fun _ => fun
  | [d1, d2, d3] => { results := [.lit (.bool true)], args := [d1, d2, d3] }
  | _ => none }
def ridTellsRow : OpenClaim := { program := "ytihddjacbalekaa", sum := "9f6d4b819df3adde174238a8b76e5e09eab890f3a137751e41aa8c40cf1a4fd0", func := "limelight/limelightlaw2.RidTells", spec := "ridTells", apart := false }
def RidTellsSaid : Prop := ridTellsRow.holds Try.pinned (OpenSpec.ofChange ridTellsSpec)

/-- ITS FALSE NEIGHBOUR: 'it returns false'. Refute it at one input. -/
def ridTellsWrong : ChangeSpec := { name := "ridTells", fn := fun _ => fun
  | [d1, d2, d3] => { results := [.lit (.bool false)], args := [d1, d2, d3] }
  | _ => none }
def RidTellsWrongFalsely : Prop := ridTellsRow.holds Try.pinned (OpenSpec.ofChange ridTellsWrong)

/-- 'limelightlaw2.RidParts': WHATEVER THE INPUT: true; the input reads as it did. -/
def ridPartsSpec : ChangeSpec := { name := "ridParts", fn := fun _ => fun
  | [d1, d2] => { results := [.lit (.bool true)], args := [d1, d2] }
  | _ => none }
def ridPartsRow : OpenClaim := { program := "ytihddjacbalekaa", sum := "9f6d4b819df3adde174238a8b76e5e09eab890f3a137751e41aa8c40cf1a4fd0", func := "limelight/limelightlaw2.RidParts", spec := "ridParts", apart := false }
def RidPartsSaid : Prop := ridPartsRow.holds Try.pinned (OpenSpec.ofChange ridPartsSpec)

/-- ITS FALSE NEIGHBOUR: 'it returns false'. Refute it at one input. -/
def ridPartsWrong : ChangeSpec := { name := "ridParts", fn := fun _ => fun
  | [d1, d2] => { results := [.lit (.bool false)], args := [d1, d2] }
  | _ => none }
def RidPartsWrongFalsely : Prop := ridPartsRow.holds Try.pinned (OpenSpec.ofChange ridPartsWrong)

/-- 'limelightlaw2.RidSame': WHATEVER THE INPUT: true; the input reads as it did. -/
def ridSameSpec : ChangeSpec := { name := "ridSame", fn := fun _ => fun
  | [d1, d2, d3] => { results := [.lit (.bool true)], args := [d1, d2, d3] }
  | _ => none }
def ridSameRow : OpenClaim := { program := "ytihddjacbalekaa", sum := "9f6d4b819df3adde174238a8b76e5e09eab890f3a137751e41aa8c40cf1a4fd0", func := "limelight/limelightlaw2.RidSame", spec := "ridSame", apart := false }
def RidSameSaid : Prop := ridSameRow.holds Try.pinned (OpenSpec.ofChange ridSameSpec)

/-- ITS FALSE NEIGHBOUR: 'it returns false'. Refute it at one input. -/
def ridSameWrong : ChangeSpec := { name := "ridSame", fn := fun _ => fun
  | [d1, d2, d3] => { results := [.lit (.bool false)], args := [d1, d2, d3] }
  | _ => none }
def RidSameWrongFalsely : Prop := ridSameRow.holds Try.pinned (OpenSpec.ofChange ridSameWrong)

/- THE SECOND FORM. 'bulk': how many values and letters a reading holds, each counted each time it is reached (what is shared counts as often as it is met; a slice's spare places count too). A statement '..UptoSaid' is the law's where the arguments, and the package variables that the reading takes, are together of bulk at most 1048576: NARROWER than '..Said'. Prove '..Said' where nothing that the law and all that it calls make is longer than what came in: it says more and counts as full. Else prove '..UptoSaid'. A law counts once. -/
mutual
def uptoBulk {H : Type} : DataW H → Nat
  | .lit (.string bytes) => bytes.length + 1
  | .lit _ => 1
  | .nil => 1
  | .ptr d => uptoBulk d + 1
  | .slice elems spare => uptoBulkAll elems + uptoBulkAll spare + 1
  | .agg parts => uptoBulkAll parts + 1
  | .iface _ d => uptoBulk d + 1
  | .map entries => uptoBulkEntries entries + 1
  | .held _ => 1
def uptoBulkAll {H : Type} : List (DataW H) → Nat
  | [] => 0
  | d :: r => uptoBulk d + uptoBulkAll r
def uptoBulkEntries {H : Type} : List (Lit × DataW H) → Nat
  | [] => 0
  | x :: r => uptoBulkEntry x + uptoBulkEntries r
def uptoBulkEntry {H : Type} : Lit × DataW H → Nat
  | (.string bytes, d) => bytes.length + uptoBulk d + 1
  | (_, d) => uptoBulk d + 1
 end
def uptoSmall : (H : Type) → List (DataW H) → Bool := fun _ ds => decide (uptoBulkAll ds ≤ 1048576)
def OpenSpec.upto (s : _root_.Go.ChangeSpec) : _root_.Go.OpenSpec := { _root_.Go.OpenSpec.ofChange s with cond := some uptoSmall }

/-- 'limelightlaw2.RidNumbers', WHERE WHAT IT READS IS OF BULK AT MOST 1048576: true; the input reads as it did. -/
def ridNumbersUptoRow : OpenClaim := { program := "ytihddjacbalekaa", sum := "9f6d4b819df3adde174238a8b76e5e09eab890f3a137751e41aa8c40cf1a4fd0", func := "limelight/limelightlaw2.RidNumbers", spec := "ridNumbers", apart := false, narrowed := true }
def RidNumbersUptoSaid : Prop := ridNumbersUptoRow.holds Try.pinned (OpenSpec.upto ridNumbersSpec)

/-- 'limelightlaw2.RidTells', WHERE WHAT IT READS IS OF BULK AT MOST 1048576: true; the input reads as it did. -/
def ridTellsUptoRow : OpenClaim := { program := "ytihddjacbalekaa", sum := "9f6d4b819df3adde174238a8b76e5e09eab890f3a137751e41aa8c40cf1a4fd0", func := "limelight/limelightlaw2.RidTells", spec := "ridTells", apart := false, narrowed := true }
def RidTellsUptoSaid : Prop := ridTellsUptoRow.holds Try.pinned (OpenSpec.upto ridTellsSpec)

/-- 'limelightlaw2.RidParts', WHERE WHAT IT READS IS OF BULK AT MOST 1048576: true; the input reads as it did. -/
def ridPartsUptoRow : OpenClaim := { program := "ytihddjacbalekaa", sum := "9f6d4b819df3adde174238a8b76e5e09eab890f3a137751e41aa8c40cf1a4fd0", func := "limelight/limelightlaw2.RidParts", spec := "ridParts", apart := false, narrowed := true }
def RidPartsUptoSaid : Prop := ridPartsUptoRow.holds Try.pinned (OpenSpec.upto ridPartsSpec)

/-- 'limelightlaw2.RidSame', WHERE WHAT IT READS IS OF BULK AT MOST 1048576: true; the input reads as it did. -/
def ridSameUptoRow : OpenClaim := { program := "ytihddjacbalekaa", sum := "9f6d4b819df3adde174238a8b76e5e09eab890f3a137751e41aa8c40cf1a4fd0", func := "limelight/limelightlaw2.RidSame", spec := "ridSame", apart := false, narrowed := true }
def RidSameUptoSaid : Prop := ridSameUptoRow.holds Try.pinned (OpenSpec.upto ridSameSpec)

end Rows
end Go.Proofs.Ytihddjacbalekaa
