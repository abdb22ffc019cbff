/-
  No cell of these rows narrows 'for every input' (looked for: loops, veiled, ifaces, maps, wideKeys, modest, calm, conditions, laid).
  DERIVED. THE GIVEN ROWS OF THIS SEAT. 5 by the template 'for every input the law returns true; each argument reads behind the call as it read before'; 0 by the template 'total and deterministic' (their statements: YtdppaegnmdiheaaTotals.lean).
  GIVEN WITH THE SEED: the statements are not yours to turn. If you find one false, say at which input.
  Laid BY PROGRAM, IN A SANDBOX (cutbox-rows.mjs): the forced cells as the released guide's own fill.sh prints them over the translation 4c02ae31de1c7f2b… (all of the seat's roots in one cut). By AI agents, Wed Nov 11 2026. No macro, syntax, notation, axiom, sorry.
-/
import Derived.Test.YtdppaegnmdiheaaChecked
import GoSem.Claim
import GoSem.ClaimJoined
import GoSem.ClaimMapViews
import Derived.JoinedTies
import Derived.KernelRfl
namespace Go.Proofs.Ytdppaegnmdiheaa
/- THE CELL 'sum', in the pinned program and in every row, IS THE sha256 OF THE DUMP (.gsa) THAT YtdppaegnmdiheaaProg.lean LOADS. Nothing in Lean hashes anything: it is a label: what it is worth is what the hold of that sum in a sandbox is worth. -/
noncomputable def Try.pinned : Pinned := { name := "ytdppaegnmdiheaa", sum := "4c02ae31de1c7f2bc2f0f0d32df7d4679b23c3bb44d6efa4d3c63b961c04dd0f", checked := Try.checked }
namespace Rows
def none {H : Type} : Left H := { results := [], args := [] }

/-- 'limelightlaw21.WriteRises': WHATEVER THE INPUT: true; the input reads as it did. -/
def writeRisesSpec : ChangeSpec := { name := "writeRises", fn := fun _ => fun
  | [d1, d2] => { results := [.lit (.bool true)], args := [d1, d2] }
  | _ => none }
def writeRisesRow : OpenClaim := { program := "ytdppaegnmdiheaa", sum := "4c02ae31de1c7f2bc2f0f0d32df7d4679b23c3bb44d6efa4d3c63b961c04dd0f", func := "limelight/limelightlaw21.WriteRises", spec := "writeRises", apart := false }
def WriteRisesSaid : Prop := writeRisesRow.holds Try.pinned (OpenSpec.ofChange writeRisesSpec)

/-- ITS FALSE NEIGHBOUR: 'it returns false'. Refute it at one input. -/
def writeRisesWrong : ChangeSpec := { name := "writeRises", fn := fun _ => fun
  | [d1, d2] => { results := [.lit (.bool false)], args := [d1, d2] }
  | _ => none }
def WriteRisesWrongFalsely : Prop := writeRisesRow.holds Try.pinned (OpenSpec.ofChange writeRisesWrong)

/-- 'limelightlaw21.WriteLayers': WHATEVER THE INPUT: true; the input reads as it did. -/
def writeLayersSpec : ChangeSpec := { name := "writeLayers", fn := fun _ => fun
  | [d1, d2, d3, d4] => { results := [.lit (.bool true)], args := [d1, d2, d3, d4] }
  | _ => none }
def writeLayersRow : OpenClaim := { program := "ytdppaegnmdiheaa", sum := "4c02ae31de1c7f2bc2f0f0d32df7d4679b23c3bb44d6efa4d3c63b961c04dd0f", func := "limelight/limelightlaw21.WriteLayers", spec := "writeLayers", apart := false }
def WriteLayersSaid : Prop := writeLayersRow.holds Try.pinned (OpenSpec.ofChange writeLayersSpec)

/-- ITS FALSE NEIGHBOUR: 'it returns false'. Refute it at one input. -/
def writeLayersWrong : ChangeSpec := { name := "writeLayers", fn := fun _ => fun
  | [d1, d2, d3, d4] => { results := [.lit (.bool false)], args := [d1, d2, d3, d4] }
  | _ => none }
def WriteLayersWrongFalsely : Prop := writeLayersRow.holds Try.pinned (OpenSpec.ofChange writeLayersWrong)

/-- 'limelightlaw21.WriteNumbers': WHATEVER THE INPUT: true; the input reads as it did. -/
def writeNumbersSpec : ChangeSpec := { name := "writeNumbers", fn := fun _ => fun
  | [] => { results := [.lit (.bool true)], args := [] }
  | _ => none }
def writeNumbersRow : OpenClaim := { program := "ytdppaegnmdiheaa", sum := "4c02ae31de1c7f2bc2f0f0d32df7d4679b23c3bb44d6efa4d3c63b961c04dd0f", func := "limelight/limelightlaw21.WriteNumbers", spec := "writeNumbers", apart := false }
def WriteNumbersSaid : Prop := writeNumbersRow.holds Try.pinned (OpenSpec.ofChange writeNumbersSpec)

/-- ITS FALSE NEIGHBOUR: 'it returns false'. Refute it at one input. -/
def writeNumbersWrong : ChangeSpec := { name := "writeNumbers", fn := fun _ => fun
  | [] => { results := [.lit (.bool false)], args := [] }
  | _ => none }
def WriteNumbersWrongFalsely : Prop := writeNumbersRow.holds Try.pinned (OpenSpec.ofChange writeNumbersWrong)

/-- 'limelightlaw21.WritePlays': WHATEVER THE INPUT: true; the input reads as it did. -/
def writePlaysSpec : ChangeSpec := { name := "writePlays", fn := fun _ => fun
  | [d1, d2] => { results := [.lit (.bool true)], args := [d1, d2] }
  | _ => none }
def writePlaysRow : OpenClaim := { program := "ytdppaegnmdiheaa", sum := "4c02ae31de1c7f2bc2f0f0d32df7d4679b23c3bb44d6efa4d3c63b961c04dd0f", func := "limelight/limelightlaw21.WritePlays", spec := "writePlays", apart := false }
def WritePlaysSaid : Prop := writePlaysRow.holds Try.pinned (OpenSpec.ofChange writePlaysSpec)

/-- ITS FALSE NEIGHBOUR: 'it returns false'. Refute it at one input. -/
def writePlaysWrong : ChangeSpec := { name := "writePlays", fn := fun _ => fun
  | [d1, d2] => { results := [.lit (.bool false)], args := [d1, d2] }
  | _ => none }
def WritePlaysWrongFalsely : Prop := writePlaysRow.holds Try.pinned (OpenSpec.ofChange writePlaysWrong)

/-- 'limelightlaw21.WriteLost': WHATEVER THE INPUT: true; the input reads as it did. -/
def writeLostSpec : ChangeSpec := { name := "writeLost", fn := fun _ => fun
  | [d1, d2, d3] => { results := [.lit (.bool true)], args := [d1, d2, d3] }
  | _ => none }
def writeLostRow : OpenClaim := { program := "ytdppaegnmdiheaa", sum := "4c02ae31de1c7f2bc2f0f0d32df7d4679b23c3bb44d6efa4d3c63b961c04dd0f", func := "limelight/limelightlaw21.WriteLost", spec := "writeLost", apart := false }
def WriteLostSaid : Prop := writeLostRow.holds Try.pinned (OpenSpec.ofChange writeLostSpec)

/-- ITS FALSE NEIGHBOUR: 'it returns false'. Refute it at one input. -/
def writeLostWrong : ChangeSpec := { name := "writeLost", fn := fun _ => fun
  | [d1, d2, d3] => { results := [.lit (.bool false)], args := [d1, d2, d3] }
  | _ => none }
def WriteLostWrongFalsely : Prop := writeLostRow.holds Try.pinned (OpenSpec.ofChange writeLostWrong)

/- THE SECOND FORM. 'bulk': how many values and letters a reading holds, each counted each time it is reached (what is shared counts as often as it is met; a slice's spare places count too). A statement '..UptoSaid' is the law's where the arguments, and the package variables that the reading takes, are together of bulk at most 1048576: NARROWER than '..Said'. Prove '..Said' where nothing that the law and all that it calls make is longer than what came in: it says more and counts as full. Else prove '..UptoSaid'. A law counts once. -/
mutual
def uptoBulk {H : Type} : DataW H → Nat
  | .lit (.string bytes) => bytes.length + 1
  | .lit _ => 1
  | .nil => 1
  | .ptr d => uptoBulk d + 1
  | .slice elems spare => uptoBulkAll elems + uptoBulkAll spare + 1
  | .agg parts => uptoBulkAll parts + 1
  | .iface _ d => uptoBulk d + 1
  | .map entries => uptoBulkEntries entries + 1
  | .held _ => 1
def uptoBulkAll {H : Type} : List (DataW H) → Nat
  | [] => 0
  | d :: r => uptoBulk d + uptoBulkAll r
def uptoBulkEntries {H : Type} : List (Lit × DataW H) → Nat
  | [] => 0
  | x :: r => uptoBulkEntry x + uptoBulkEntries r
def uptoBulkEntry {H : Type} : Lit × DataW H → Nat
  | (.string bytes, d) => bytes.length + uptoBulk d + 1
  | (_, d) => uptoBulk d + 1
 end
def uptoSmall : (H : Type) → List (DataW H) → Bool := fun _ ds => decide (uptoBulkAll ds ≤ 1048576)
def OpenSpec.upto (s : _root_.Go.ChangeSpec) : _root_.Go.OpenSpec := { _root_.Go.OpenSpec.ofChange s with cond := some uptoSmall }

/-- 'limelightlaw21.WriteRises', WHERE WHAT IT READS IS OF BULK AT MOST 1048576: true; the input reads as it did. -/
def writeRisesUptoRow : OpenClaim := { program := "ytdppaegnmdiheaa", sum := "4c02ae31de1c7f2bc2f0f0d32df7d4679b23c3bb44d6efa4d3c63b961c04dd0f", func := "limelight/limelightlaw21.WriteRises", spec := "writeRises", apart := false, narrowed := true }
def WriteRisesUptoSaid : Prop := writeRisesUptoRow.holds Try.pinned (OpenSpec.upto writeRisesSpec)

/-- 'limelightlaw21.WriteLayers', WHERE WHAT IT READS IS OF BULK AT MOST 1048576: true; the input reads as it did. -/
def writeLayersUptoRow : OpenClaim := { program := "ytdppaegnmdiheaa", sum := "4c02ae31de1c7f2bc2f0f0d32df7d4679b23c3bb44d6efa4d3c63b961c04dd0f", func := "limelight/limelightlaw21.WriteLayers", spec := "writeLayers", apart := false, narrowed := true }
def WriteLayersUptoSaid : Prop := writeLayersUptoRow.holds Try.pinned (OpenSpec.upto writeLayersSpec)

/-- 'limelightlaw21.WriteNumbers', WHERE WHAT IT READS IS OF BULK AT MOST 1048576: true; the input reads as it did. -/
def writeNumbersUptoRow : OpenClaim := { program := "ytdppaegnmdiheaa", sum := "4c02ae31de1c7f2bc2f0f0d32df7d4679b23c3bb44d6efa4d3c63b961c04dd0f", func := "limelight/limelightlaw21.WriteNumbers", spec := "writeNumbers", apart := false, narrowed := true }
def WriteNumbersUptoSaid : Prop := writeNumbersUptoRow.holds Try.pinned (OpenSpec.upto writeNumbersSpec)

/-- 'limelightlaw21.WritePlays', WHERE WHAT IT READS IS OF BULK AT MOST 1048576: true; the input reads as it did. -/
def writePlaysUptoRow : OpenClaim := { program := "ytdppaegnmdiheaa", sum := "4c02ae31de1c7f2bc2f0f0d32df7d4679b23c3bb44d6efa4d3c63b961c04dd0f", func := "limelight/limelightlaw21.WritePlays", spec := "writePlays", apart := false, narrowed := true }
def WritePlaysUptoSaid : Prop := writePlaysUptoRow.holds Try.pinned (OpenSpec.upto writePlaysSpec)

/-- 'limelightlaw21.WriteLost', WHERE WHAT IT READS IS OF BULK AT MOST 1048576: true; the input reads as it did. -/
def writeLostUptoRow : OpenClaim := { program := "ytdppaegnmdiheaa", sum := "4c02ae31de1c7f2bc2f0f0d32df7d4679b23c3bb44d6efa4d3c63b961c04dd0f", func := "limelight/limelightlaw21.WriteLost", spec := "writeLost", apart := false, narrowed := true }
def WriteLostUptoSaid : Prop := writeLostUptoRow.holds Try.pinned (OpenSpec.upto writeLostSpec)

end Rows
end Go.Proofs.Ytdppaegnmdiheaa
