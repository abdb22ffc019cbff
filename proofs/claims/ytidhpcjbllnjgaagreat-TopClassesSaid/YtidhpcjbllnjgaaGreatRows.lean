/-
  No cell of these rows narrows 'for every input' (looked for: loops, veiled, ifaces, maps, wideKeys, modest, calm, conditions, laid).
  DERIVED. THE GIVEN ROWS OF THIS SEAT. 8 by the template 'for every input the law returns true; each argument reads behind the call as it read before'; 0 by the template 'total and deterministic' (their statements: YtidhpcjbllnjgaaGreatTotals.lean).
  GIVEN WITH THE SEED: the statements are not yours to turn. If you find one false, say at which input.
  Laid BY PROGRAM, IN A SANDBOX (cutbox-rows.mjs): the forced cells as the released guide's own fill.sh prints them over the translation 52c636d35817d185… (all of the seat's roots in one cut). By AI agents, Wed Nov 11 2026. No macro, syntax, notation, axiom, sorry.
-/
import Derived.Test.YtidhpcjbllnjgaaGreatChecked
import GoSem.Claim
import GoSem.ClaimJoined
import GoSem.ClaimMapViews
import Derived.JoinedTies
import Derived.KernelRfl
namespace Go.Proofs.YtidhpcjbllnjgaaGreat
/- THE CELL 'sum', in the pinned program and in every row, IS THE sha256 OF THE DUMP (.gsa) THAT YtidhpcjbllnjgaaGreatProg.lean LOADS. Nothing in Lean hashes anything: it is a label: what it is worth is what the hold of that sum in a sandbox is worth. -/
noncomputable def Tryz.pinned : Pinned := { name := "ytidhpcjbllnjgaagreat", sum := "52c636d35817d185dd6116adf56954a3a3da16fabc12b7bed4202f831b21ec01", checked := Tryz.checked }
namespace Rows
def none {H : Type} : Left H := { results := [], args := [] }

/-- 'limelighttop.TopClasses': WHATEVER THE INPUT: true; the input reads as it did. -/
def topClassesSpec : ChangeSpec := { name := "topClasses", fn := fun _ => fun
  | [d1, d2, d3] => { results := [.lit (.bool true)], args := [d1, d2, d3] }
  | _ => none }
def topClassesRow : OpenClaim := { program := "ytidhpcjbllnjgaagreat", sum := "52c636d35817d185dd6116adf56954a3a3da16fabc12b7bed4202f831b21ec01", func := "limelight/limelighttop.TopClasses", spec := "topClasses", inPlace := ["slices.overlaps[limelight/room.Sub]", "slices.overlaps[limelight/api.Tuple]"], unfollowed := true, recurses := true, apart := false }
def TopClassesSaid : Prop := topClassesRow.holds Tryz.pinned (OpenSpec.ofChange topClassesSpec)

/-- ITS FALSE NEIGHBOUR: 'it returns false'. Refute it at one input. -/
def topClassesWrong : ChangeSpec := { name := "topClasses", fn := fun _ => fun
  | [d1, d2, d3] => { results := [.lit (.bool false)], args := [d1, d2, d3] }
  | _ => none }
def TopClassesWrongFalsely : Prop := topClassesRow.holds Tryz.pinned (OpenSpec.ofChange topClassesWrong)

/-- 'limelighttop.TopBest': WHATEVER THE INPUT: true; the input reads as it did. -/
def topBestSpec : ChangeSpec := { name := "topBest", fn := fun _ => fun
  | [d1, d2, d3, d4] => { results := [.lit (.bool true)], args := [d1, d2, d3, d4] }
  | _ => none }
def topBestRow : OpenClaim := { program := "ytidhpcjbllnjgaagreat", sum := "52c636d35817d185dd6116adf56954a3a3da16fabc12b7bed4202f831b21ec01", func := "limelight/limelighttop.TopBest", spec := "topBest", inPlace := ["slices.overlaps[limelight/room.Sub]", "slices.overlaps[limelight/api.Tuple]"], unfollowed := true, recurses := true, apart := false }
def TopBestSaid : Prop := topBestRow.holds Tryz.pinned (OpenSpec.ofChange topBestSpec)

/-- ITS FALSE NEIGHBOUR: 'it returns false'. Refute it at one input. -/
def topBestWrong : ChangeSpec := { name := "topBest", fn := fun _ => fun
  | [d1, d2, d3, d4] => { results := [.lit (.bool false)], args := [d1, d2, d3, d4] }
  | _ => none }
def TopBestWrongFalsely : Prop := topBestRow.holds Tryz.pinned (OpenSpec.ofChange topBestWrong)

/-- 'limelighttop.TopUnsubscribes': WHATEVER THE INPUT: true; the input reads as it did. -/
def topUnsubscribesSpec : ChangeSpec := { name := "topUnsubscribes", fn := fun _ => fun
  | [d1, d2] => { results := [.lit (.bool true)], args := [d1, d2] }
  | _ => none }
def topUnsubscribesRow : OpenClaim := { program := "ytidhpcjbllnjgaagreat", sum := "52c636d35817d185dd6116adf56954a3a3da16fabc12b7bed4202f831b21ec01", func := "limelight/limelighttop.TopUnsubscribes", spec := "topUnsubscribes", inPlace := ["slices.overlaps[limelight/room.Sub]", "slices.overlaps[limelight/api.Tuple]"], unfollowed := true, recurses := true, apart := false }
def TopUnsubscribesSaid : Prop := topUnsubscribesRow.holds Tryz.pinned (OpenSpec.ofChange topUnsubscribesSpec)

/-- ITS FALSE NEIGHBOUR: 'it returns false'. Refute it at one input. -/
def topUnsubscribesWrong : ChangeSpec := { name := "topUnsubscribes", fn := fun _ => fun
  | [d1, d2] => { results := [.lit (.bool false)], args := [d1, d2] }
  | _ => none }
def TopUnsubscribesWrongFalsely : Prop := topUnsubscribesRow.holds Tryz.pinned (OpenSpec.ofChange topUnsubscribesWrong)

/-- 'limelighttop.TopLate': WHATEVER THE INPUT: true; the input reads as it did. -/
def topLateSpec : ChangeSpec := { name := "topLate", fn := fun _ => fun
  | [d] => { results := [.lit (.bool true)], args := [d] }
  | _ => none }
def topLateRow : OpenClaim := { program := "ytidhpcjbllnjgaagreat", sum := "52c636d35817d185dd6116adf56954a3a3da16fabc12b7bed4202f831b21ec01", func := "limelight/limelighttop.TopLate", spec := "topLate", inPlace := ["slices.overlaps[limelight/room.Sub]", "slices.overlaps[limelight/api.Tuple]"], unfollowed := true, recurses := true, apart := false }
def TopLateSaid : Prop := topLateRow.holds Tryz.pinned (OpenSpec.ofChange topLateSpec)

/-- ITS FALSE NEIGHBOUR: 'it returns false'. Refute it at one input. -/
def topLateWrong : ChangeSpec := { name := "topLate", fn := fun _ => fun
  | [d] => { results := [.lit (.bool false)], args := [d] }
  | _ => none }
def TopLateWrongFalsely : Prop := topLateRow.holds Tryz.pinned (OpenSpec.ofChange topLateWrong)

/-- 'limelighttop.TopBurst': WHATEVER THE INPUT: true; the input reads as it did. -/
def topBurstSpec : ChangeSpec := { name := "topBurst", fn := fun _ => fun
  | [d1, d2] => { results := [.lit (.bool true)], args := [d1, d2] }
  | _ => none }
def topBurstRow : OpenClaim := { program := "ytidhpcjbllnjgaagreat", sum := "52c636d35817d185dd6116adf56954a3a3da16fabc12b7bed4202f831b21ec01", func := "limelight/limelighttop.TopBurst", spec := "topBurst", inPlace := ["slices.overlaps[limelight/room.Sub]", "slices.overlaps[limelight/api.Tuple]"], unfollowed := true, recurses := true, apart := false }
def TopBurstSaid : Prop := topBurstRow.holds Tryz.pinned (OpenSpec.ofChange topBurstSpec)

/-- ITS FALSE NEIGHBOUR: 'it returns false'. Refute it at one input. -/
def topBurstWrong : ChangeSpec := { name := "topBurst", fn := fun _ => fun
  | [d1, d2] => { results := [.lit (.bool false)], args := [d1, d2] }
  | _ => none }
def TopBurstWrongFalsely : Prop := topBurstRow.holds Tryz.pinned (OpenSpec.ofChange topBurstWrong)

/-- 'limelighttop.TopPayloads': WHATEVER THE INPUT: true; the input reads as it did. -/
def topPayloadsSpec : ChangeSpec := { name := "topPayloads", fn := fun _ => fun
  | [d1, d2] => { results := [.lit (.bool true)], args := [d1, d2] }
  | _ => none }
def topPayloadsRow : OpenClaim := { program := "ytidhpcjbllnjgaagreat", sum := "52c636d35817d185dd6116adf56954a3a3da16fabc12b7bed4202f831b21ec01", func := "limelight/limelighttop.TopPayloads", spec := "topPayloads", inPlace := ["slices.overlaps[limelight/room.Sub]", "slices.overlaps[limelight/api.Tuple]"], unfollowed := true, recurses := true, apart := false }
def TopPayloadsSaid : Prop := topPayloadsRow.holds Tryz.pinned (OpenSpec.ofChange topPayloadsSpec)

/-- ITS FALSE NEIGHBOUR: 'it returns false'. Refute it at one input. -/
def topPayloadsWrong : ChangeSpec := { name := "topPayloads", fn := fun _ => fun
  | [d1, d2] => { results := [.lit (.bool false)], args := [d1, d2] }
  | _ => none }
def TopPayloadsWrongFalsely : Prop := topPayloadsRow.holds Tryz.pinned (OpenSpec.ofChange topPayloadsWrong)

/-- 'limelighttop.TopGrows': WHATEVER THE INPUT: true; the input reads as it did. -/
def topGrowsSpec : ChangeSpec := { name := "topGrows", fn := fun _ => fun
  | [d1, d2] => { results := [.lit (.bool true)], args := [d1, d2] }
  | _ => none }
def topGrowsRow : OpenClaim := { program := "ytidhpcjbllnjgaagreat", sum := "52c636d35817d185dd6116adf56954a3a3da16fabc12b7bed4202f831b21ec01", func := "limelight/limelighttop.TopGrows", spec := "topGrows", inPlace := ["slices.overlaps[limelight/room.Sub]", "slices.overlaps[limelight/api.Tuple]"], unfollowed := true, recurses := true, apart := false }
def TopGrowsSaid : Prop := topGrowsRow.holds Tryz.pinned (OpenSpec.ofChange topGrowsSpec)

/-- ITS FALSE NEIGHBOUR: 'it returns false'. Refute it at one input. -/
def topGrowsWrong : ChangeSpec := { name := "topGrows", fn := fun _ => fun
  | [d1, d2] => { results := [.lit (.bool false)], args := [d1, d2] }
  | _ => none }
def TopGrowsWrongFalsely : Prop := topGrowsRow.holds Tryz.pinned (OpenSpec.ofChange topGrowsWrong)

/-- 'limelighttop.TopHeights': WHATEVER THE INPUT: true; the input reads as it did. -/
def topHeightsSpec : ChangeSpec := { name := "topHeights", fn := fun _ => fun
  | [d] => { results := [.lit (.bool true)], args := [d] }
  | _ => none }
def topHeightsRow : OpenClaim := { program := "ytidhpcjbllnjgaagreat", sum := "52c636d35817d185dd6116adf56954a3a3da16fabc12b7bed4202f831b21ec01", func := "limelight/limelighttop.TopHeights", spec := "topHeights", inPlace := ["slices.overlaps[limelight/room.Sub]", "slices.overlaps[limelight/api.Tuple]"], unfollowed := true, recurses := true, apart := false }
def TopHeightsSaid : Prop := topHeightsRow.holds Tryz.pinned (OpenSpec.ofChange topHeightsSpec)

/-- ITS FALSE NEIGHBOUR: 'it returns false'. Refute it at one input. -/
def topHeightsWrong : ChangeSpec := { name := "topHeights", fn := fun _ => fun
  | [d] => { results := [.lit (.bool false)], args := [d] }
  | _ => none }
def TopHeightsWrongFalsely : Prop := topHeightsRow.holds Tryz.pinned (OpenSpec.ofChange topHeightsWrong)

/- THE SECOND FORM. 'bulk': how many values and letters a reading holds, each counted each time it is reached (what is shared counts as often as it is met; a slice's spare places count too). A statement '..UptoSaid' is the law's where the arguments, and the package variables that the reading takes, are together of bulk at most 1048576: NARROWER than '..Said'. Prove '..Said' where nothing that the law and all that it calls make is longer than what came in: it says more and counts as full. Else prove '..UptoSaid'. A law counts once. -/
mutual
def uptoBulk {H : Type} : DataW H → Nat
  | .lit (.string bytes) => bytes.length + 1
  | .lit _ => 1
  | .nil => 1
  | .ptr d => uptoBulk d + 1
  | .slice elems spare => uptoBulkAll elems + uptoBulkAll spare + 1
  | .agg parts => uptoBulkAll parts + 1
  | .iface _ d => uptoBulk d + 1
  | .map entries => uptoBulkEntries entries + 1
  | .held _ => 1
def uptoBulkAll {H : Type} : List (DataW H) → Nat
  | [] => 0
  | d :: r => uptoBulk d + uptoBulkAll r
def uptoBulkEntries {H : Type} : List (Lit × DataW H) → Nat
  | [] => 0
  | x :: r => uptoBulkEntry x + uptoBulkEntries r
def uptoBulkEntry {H : Type} : Lit × DataW H → Nat
  | (.string bytes, d) => bytes.length + uptoBulk d + 1
  | (_, d) => uptoBulk d + 1
 end
def uptoSmall : (H : Type) → List (DataW H) → Bool := fun _ ds => decide (uptoBulkAll ds ≤ 1048576)
def OpenSpec.upto (s : _root_.Go.ChangeSpec) : _root_.Go.OpenSpec := { _root_.Go.OpenSpec.ofChange s with cond := some uptoSmall }

/-- 'limelighttop.TopClasses', WHERE WHAT IT READS IS OF BULK AT MOST 1048576: true; the input reads as it did. -/
def topClassesUptoRow : OpenClaim := { program := "ytidhpcjbllnjgaagreat", sum := "52c636d35817d185dd6116adf56954a3a3da16fabc12b7bed4202f831b21ec01", func := "limelight/limelighttop.TopClasses", spec := "topClasses", inPlace := ["slices.overlaps[limelight/room.Sub]", "slices.overlaps[limelight/api.Tuple]"], unfollowed := true, recurses := true, apart := false, narrowed := true }
def TopClassesUptoSaid : Prop := topClassesUptoRow.holds Tryz.pinned (OpenSpec.upto topClassesSpec)

/-- 'limelighttop.TopBest', WHERE WHAT IT READS IS OF BULK AT MOST 1048576: true; the input reads as it did. -/
def topBestUptoRow : OpenClaim := { program := "ytidhpcjbllnjgaagreat", sum := "52c636d35817d185dd6116adf56954a3a3da16fabc12b7bed4202f831b21ec01", func := "limelight/limelighttop.TopBest", spec := "topBest", inPlace := ["slices.overlaps[limelight/room.Sub]", "slices.overlaps[limelight/api.Tuple]"], unfollowed := true, recurses := true, apart := false, narrowed := true }
def TopBestUptoSaid : Prop := topBestUptoRow.holds Tryz.pinned (OpenSpec.upto topBestSpec)

/-- 'limelighttop.TopUnsubscribes', WHERE WHAT IT READS IS OF BULK AT MOST 1048576: true; the input reads as it did. -/
def topUnsubscribesUptoRow : OpenClaim := { program := "ytidhpcjbllnjgaagreat", sum := "52c636d35817d185dd6116adf56954a3a3da16fabc12b7bed4202f831b21ec01", func := "limelight/limelighttop.TopUnsubscribes", spec := "topUnsubscribes", inPlace := ["slices.overlaps[limelight/room.Sub]", "slices.overlaps[limelight/api.Tuple]"], unfollowed := true, recurses := true, apart := false, narrowed := true }
def TopUnsubscribesUptoSaid : Prop := topUnsubscribesUptoRow.holds Tryz.pinned (OpenSpec.upto topUnsubscribesSpec)

/-- 'limelighttop.TopLate', WHERE WHAT IT READS IS OF BULK AT MOST 1048576: true; the input reads as it did. -/
def topLateUptoRow : OpenClaim := { program := "ytidhpcjbllnjgaagreat", sum := "52c636d35817d185dd6116adf56954a3a3da16fabc12b7bed4202f831b21ec01", func := "limelight/limelighttop.TopLate", spec := "topLate", inPlace := ["slices.overlaps[limelight/room.Sub]", "slices.overlaps[limelight/api.Tuple]"], unfollowed := true, recurses := true, apart := false, narrowed := true }
def TopLateUptoSaid : Prop := topLateUptoRow.holds Tryz.pinned (OpenSpec.upto topLateSpec)

/-- 'limelighttop.TopBurst', WHERE WHAT IT READS IS OF BULK AT MOST 1048576: true; the input reads as it did. -/
def topBurstUptoRow : OpenClaim := { program := "ytidhpcjbllnjgaagreat", sum := "52c636d35817d185dd6116adf56954a3a3da16fabc12b7bed4202f831b21ec01", func := "limelight/limelighttop.TopBurst", spec := "topBurst", inPlace := ["slices.overlaps[limelight/room.Sub]", "slices.overlaps[limelight/api.Tuple]"], unfollowed := true, recurses := true, apart := false, narrowed := true }
def TopBurstUptoSaid : Prop := topBurstUptoRow.holds Tryz.pinned (OpenSpec.upto topBurstSpec)

/-- 'limelighttop.TopPayloads', WHERE WHAT IT READS IS OF BULK AT MOST 1048576: true; the input reads as it did. -/
def topPayloadsUptoRow : OpenClaim := { program := "ytidhpcjbllnjgaagreat", sum := "52c636d35817d185dd6116adf56954a3a3da16fabc12b7bed4202f831b21ec01", func := "limelight/limelighttop.TopPayloads", spec := "topPayloads", inPlace := ["slices.overlaps[limelight/room.Sub]", "slices.overlaps[limelight/api.Tuple]"], unfollowed := true, recurses := true, apart := false, narrowed := true }
def TopPayloadsUptoSaid : Prop := topPayloadsUptoRow.holds Tryz.pinned (OpenSpec.upto topPayloadsSpec)

/-- 'limelighttop.TopGrows', WHERE WHAT IT READS IS OF BULK AT MOST 1048576: true; the input reads as it did. -/
def topGrowsUptoRow : OpenClaim := { program := "ytidhpcjbllnjgaagreat", sum := "52c636d35817d185dd6116adf56954a3a3da16fabc12b7bed4202f831b21ec01", func := "limelight/limelighttop.TopGrows", spec := "topGrows", inPlace := ["slices.overlaps[limelight/room.Sub]", "slices.overlaps[limelight/api.Tuple]"], unfollowed := true, recurses := true, apart := false, narrowed := true }
def TopGrowsUptoSaid : Prop := topGrowsUptoRow.holds Tryz.pinned (OpenSpec.upto topGrowsSpec)

/-- 'limelighttop.TopHeights', WHERE WHAT IT READS IS OF BULK AT MOST 1048576: true; the input reads as it did. -/
def topHeightsUptoRow : OpenClaim := { program := "ytidhpcjbllnjgaagreat", sum := "52c636d35817d185dd6116adf56954a3a3da16fabc12b7bed4202f831b21ec01", func := "limelight/limelighttop.TopHeights", spec := "topHeights", inPlace := ["slices.overlaps[limelight/room.Sub]", "slices.overlaps[limelight/api.Tuple]"], unfollowed := true, recurses := true, apart := false, narrowed := true }
def TopHeightsUptoSaid : Prop := topHeightsUptoRow.holds Tryz.pinned (OpenSpec.upto topHeightsSpec)

end Rows
end Go.Proofs.YtidhpcjbllnjgaaGreat
