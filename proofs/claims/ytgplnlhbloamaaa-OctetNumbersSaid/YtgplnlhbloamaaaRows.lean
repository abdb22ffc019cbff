/-
  No cell of these rows narrows 'for every input' (looked for: loops, veiled, ifaces, maps, wideKeys, modest, calm, conditions, laid).
  DERIVED. THE GIVEN ROWS OF THIS SEAT. 5 by the template 'for every input the law returns true; each argument reads behind the call as it read before'; 0 by the template 'total and deterministic' (their statements: YtgplnlhbloamaaaTotals.lean).
  GIVEN WITH THE SEED: the statements are not yours to turn. If you find one false, say at which input.
  Laid BY PROGRAM, IN A SANDBOX (cutbox-rows.mjs): the forced cells as the released guide's own fill.sh prints them over the translation 2adb3f1a66a0e793… (all of the seat's roots in one cut). By AI agents, Wed Nov 11 2026. No macro, syntax, notation, axiom, sorry.
-/
import Derived.Test.YtgplnlhbloamaaaChecked
import GoSem.Claim
import GoSem.ClaimJoined
import GoSem.ClaimMapViews
import Derived.JoinedTies
import Derived.KernelRfl
namespace Go.Proofs.Ytgplnlhbloamaaa
/- THE CELL 'sum', in the pinned program and in every row, IS THE sha256 OF THE DUMP (.gsa) THAT YtgplnlhbloamaaaProg.lean LOADS. Nothing in Lean hashes anything: it is a label: what it is worth is what the hold of that sum in a sandbox is worth. -/
noncomputable def Try.pinned : Pinned := { name := "ytgplnlhbloamaaa", sum := "2adb3f1a66a0e793573c3e6af140863be62f95e0b586031165386b75a2e93a77", checked := Try.checked }
namespace Rows
def none {H : Type} : Left H := { results := [], args := [] }

/-- 'limelightlaw1.OctetNumbers': WHATEVER THE INPUT: true; the input reads as it did. -/
def octetNumbersSpec : ChangeSpec := { name := "octetNumbers", fn := fun _ => fun
  | [] => { results := [.lit (.bool true)], args := [] }
  | _ => none }
def octetNumbersRow : OpenClaim := { program := "ytgplnlhbloamaaa", sum := "2adb3f1a66a0e793573c3e6af140863be62f95e0b586031165386b75a2e93a77", func := "limelight/limelightlaw1.OctetNumbers", spec := "octetNumbers", apart := false }
def OctetNumbersSaid : Prop := octetNumbersRow.holds Try.pinned (OpenSpec.ofChange octetNumbersSpec)

/-- ITS FALSE NEIGHBOUR: 'it returns false'. Refute it at one input. -/
def octetNumbersWrong : ChangeSpec := { name := "octetNumbers", fn := fun _ => fun
  | [] => { results := [.lit (.bool false)], args := [] }
  | _ => none }
def OctetNumbersWrongFalsely : Prop := octetNumbersRow.holds Try.pinned (OpenSpec.ofChange octetNumbersWrong)

/-- 'limelightlaw1.OctetTells': WHATEVER THE INPUT: true; the input reads as it did. -/
def octetTellsSpec : ChangeSpec := { name := "octetTells", fn := fun _ => fun
  | [d1, d2, d3, d4] => { results := [.lit (.bool true)], args := [d1, d2, d3, d4] }
  | _ => none }
def octetTellsRow : OpenClaim := { program := "ytgplnlhbloamaaa", sum := "2adb3f1a66a0e793573c3e6af140863be62f95e0b586031165386b75a2e93a77", func := "limelight/limelightlaw1.OctetTells", spec := "octetTells", apart := false }
def OctetTellsSaid : Prop := octetTellsRow.holds Try.pinned (OpenSpec.ofChange octetTellsSpec)

/-- ITS FALSE NEIGHBOUR: 'it returns false'. Refute it at one input. -/
def octetTellsWrong : ChangeSpec := { name := "octetTells", fn := fun _ => fun
  | [d1, d2, d3, d4] => { results := [.lit (.bool false)], args := [d1, d2, d3, d4] }
  | _ => none }
def OctetTellsWrongFalsely : Prop := octetTellsRow.holds Try.pinned (OpenSpec.ofChange octetTellsWrong)

/-- 'limelightlaw1.OctetBack': WHATEVER THE INPUT: true; the input reads as it did. -/
def octetBackSpec : ChangeSpec := { name := "octetBack", fn := fun _ => fun
  | [d1, d2, d3, d4] => { results := [.lit (.bool true)], args := [d1, d2, d3, d4] }
  | _ => none }
def octetBackRow : OpenClaim := { program := "ytgplnlhbloamaaa", sum := "2adb3f1a66a0e793573c3e6af140863be62f95e0b586031165386b75a2e93a77", func := "limelight/limelightlaw1.OctetBack", spec := "octetBack", apart := false }
def OctetBackSaid : Prop := octetBackRow.holds Try.pinned (OpenSpec.ofChange octetBackSpec)

/-- ITS FALSE NEIGHBOUR: 'it returns false'. Refute it at one input. -/
def octetBackWrong : ChangeSpec := { name := "octetBack", fn := fun _ => fun
  | [d1, d2, d3, d4] => { results := [.lit (.bool false)], args := [d1, d2, d3, d4] }
  | _ => none }
def OctetBackWrongFalsely : Prop := octetBackRow.holds Try.pinned (OpenSpec.ofChange octetBackWrong)

/-- 'limelightlaw1.OctetOrder': WHATEVER THE INPUT: true; the input reads as it did. -/
def octetOrderSpec : ChangeSpec := { name := "octetOrder", fn := fun _ => fun
  | [d1, d2, d3, d4] => { results := [.lit (.bool true)], args := [d1, d2, d3, d4] }
  | _ => none }
def octetOrderRow : OpenClaim := { program := "ytgplnlhbloamaaa", sum := "2adb3f1a66a0e793573c3e6af140863be62f95e0b586031165386b75a2e93a77", func := "limelight/limelightlaw1.OctetOrder", spec := "octetOrder", apart := false }
def OctetOrderSaid : Prop := octetOrderRow.holds Try.pinned (OpenSpec.ofChange octetOrderSpec)

/-- ITS FALSE NEIGHBOUR: 'it returns false'. Refute it at one input. -/
def octetOrderWrong : ChangeSpec := { name := "octetOrder", fn := fun _ => fun
  | [d1, d2, d3, d4] => { results := [.lit (.bool false)], args := [d1, d2, d3, d4] }
  | _ => none }
def OctetOrderWrongFalsely : Prop := octetOrderRow.holds Try.pinned (OpenSpec.ofChange octetOrderWrong)

/-- 'limelightlaw1.OctetPads': WHATEVER THE INPUT: true; the input reads as it did. -/
def octetPadsSpec : ChangeSpec := { name := "octetPads", fn := fun _ => fun
  | [d1, d2] => { results := [.lit (.bool true)], args := [d1, d2] }
  | _ => none }
def octetPadsRow : OpenClaim := { program := "ytgplnlhbloamaaa", sum := "2adb3f1a66a0e793573c3e6af140863be62f95e0b586031165386b75a2e93a77", func := "limelight/limelightlaw1.OctetPads", spec := "octetPads", apart := false }
def OctetPadsSaid : Prop := octetPadsRow.holds Try.pinned (OpenSpec.ofChange octetPadsSpec)

/-- ITS FALSE NEIGHBOUR: 'it returns false'. Refute it at one input. -/
def octetPadsWrong : ChangeSpec := { name := "octetPads", fn := fun _ => fun
  | [d1, d2] => { results := [.lit (.bool false)], args := [d1, d2] }
  | _ => none }
def OctetPadsWrongFalsely : Prop := octetPadsRow.holds Try.pinned (OpenSpec.ofChange octetPadsWrong)

/- THE SECOND FORM. 'bulk': how many values and letters a reading holds, each counted each time it is reached (what is shared counts as often as it is met; a slice's spare places count too). A statement '..UptoSaid' is the law's where the arguments, and the package variables that the reading takes, are together of bulk at most 1048576: NARROWER than '..Said'. Prove '..Said' where nothing that the law and all that it calls make is longer than what came in: it says more and counts as full. Else prove '..UptoSaid'. A law counts once. -/
mutual
def uptoBulk {H : Type} : DataW H → Nat
  | .lit (.string bytes) => bytes.length + 1
  | .lit _ => 1
  | .nil => 1
  | .ptr d => uptoBulk d + 1
  | .slice elems spare => uptoBulkAll elems + uptoBulkAll spare + 1
  | .agg parts => uptoBulkAll parts + 1
  | .iface _ d => uptoBulk d + 1
  | .map entries => uptoBulkEntries entries + 1
  | .held _ => 1
def uptoBulkAll {H : Type} : List (DataW H) → Nat
  | [] => 0
  | d :: r => uptoBulk d + uptoBulkAll r
def uptoBulkEntries {H : Type} : List (Lit × DataW H) → Nat
  | [] => 0
  | x :: r => uptoBulkEntry x + uptoBulkEntries r
def uptoBulkEntry {H : Type} : Lit × DataW H → Nat
  | (.string bytes, d) => bytes.length + uptoBulk d + 1
  | (_, d) => uptoBulk d + 1
 end
def uptoSmall : (H : Type) → List (DataW H) → Bool := fun _ ds => decide (uptoBulkAll ds ≤ 1048576)
def OpenSpec.upto (s : _root_.Go.ChangeSpec) : _root_.Go.OpenSpec := { _root_.Go.OpenSpec.ofChange s with cond := some uptoSmall }

/-- 'limelightlaw1.OctetNumbers', WHERE WHAT IT READS IS OF BULK AT MOST 1048576: true; the input reads as it did. -/
def octetNumbersUptoRow : OpenClaim := { program := "ytgplnlhbloamaaa", sum := "2adb3f1a66a0e793573c3e6af140863be62f95e0b586031165386b75a2e93a77", func := "limelight/limelightlaw1.OctetNumbers", spec := "octetNumbers", apart := false, narrowed := true }
def OctetNumbersUptoSaid : Prop := octetNumbersUptoRow.holds Try.pinned (OpenSpec.upto octetNumbersSpec)

/-- 'limelightlaw1.OctetTells', WHERE WHAT IT READS IS OF BULK AT MOST 1048576: true; the input reads as it did. -/
def octetTellsUptoRow : OpenClaim := { program := "ytgplnlhbloamaaa", sum := "2adb3f1a66a0e793573c3e6af140863be62f95e0b586031165386b75a2e93a77", func := "limelight/limelightlaw1.OctetTells", spec := "octetTells", apart := false, narrowed := true }
def OctetTellsUptoSaid : Prop := octetTellsUptoRow.holds Try.pinned (OpenSpec.upto octetTellsSpec)

/-- 'limelightlaw1.OctetBack', WHERE WHAT IT READS IS OF BULK AT MOST 1048576: true; the input reads as it did. -/
def octetBackUptoRow : OpenClaim := { program := "ytgplnlhbloamaaa", sum := "2adb3f1a66a0e793573c3e6af140863be62f95e0b586031165386b75a2e93a77", func := "limelight/limelightlaw1.OctetBack", spec := "octetBack", apart := false, narrowed := true }
def OctetBackUptoSaid : Prop := octetBackUptoRow.holds Try.pinned (OpenSpec.upto octetBackSpec)

/-- 'limelightlaw1.OctetOrder', WHERE WHAT IT READS IS OF BULK AT MOST 1048576: true; the input reads as it did. -/
def octetOrderUptoRow : OpenClaim := { program := "ytgplnlhbloamaaa", sum := "2adb3f1a66a0e793573c3e6af140863be62f95e0b586031165386b75a2e93a77", func := "limelight/limelightlaw1.OctetOrder", spec := "octetOrder", apart := false, narrowed := true }
def OctetOrderUptoSaid : Prop := octetOrderUptoRow.holds Try.pinned (OpenSpec.upto octetOrderSpec)

/-- 'limelightlaw1.OctetPads', WHERE WHAT IT READS IS OF BULK AT MOST 1048576: true; the input reads as it did. -/
def octetPadsUptoRow : OpenClaim := { program := "ytgplnlhbloamaaa", sum := "2adb3f1a66a0e793573c3e6af140863be62f95e0b586031165386b75a2e93a77", func := "limelight/limelightlaw1.OctetPads", spec := "octetPads", apart := false, narrowed := true }
def OctetPadsUptoSaid : Prop := octetPadsUptoRow.holds Try.pinned (OpenSpec.upto octetPadsSpec)

end Rows
end Go.Proofs.Ytgplnlhbloamaaa
