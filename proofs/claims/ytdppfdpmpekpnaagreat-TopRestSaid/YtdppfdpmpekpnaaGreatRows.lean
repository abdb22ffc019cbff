/-
  No cell of these rows narrows 'for every input' (looked for: loops, veiled, ifaces, maps, wideKeys, modest, calm, conditions, laid).
  DERIVED. THE GIVEN ROWS OF THIS SEAT. 6 by the template 'for every input the law returns true; each argument reads behind the call as it read before'; 0 by the template 'total and deterministic' (their statements: YtdppfdpmpekpnaaGreatTotals.lean).
  GIVEN WITH THE SEED: the statements are not yours to turn. If you find one false, say at which input.
  Laid BY PROGRAM, IN A SANDBOX (cutbox-rows.mjs): the forced cells as the released guide's own fill.sh prints them over the translation 80793959a67a3584… (all of the seat's roots in one cut). By AI agents, Wed Nov 11 2026. No macro, syntax, notation, axiom, sorry.
-/
import Derived.Test.YtdppfdpmpekpnaaGreatChecked
import GoSem.Claim
import GoSem.ClaimJoined
import GoSem.ClaimMapViews
import Derived.JoinedTies
import Derived.KernelRfl
namespace Go.Proofs.YtdppfdpmpekpnaaGreat
/- THE CELL 'sum', in the pinned program and in every row, IS THE sha256 OF THE DUMP (.gsa) THAT YtdppfdpmpekpnaaGreatProg.lean LOADS. Nothing in Lean hashes anything: it is a label: what it is worth is what the hold of that sum in a sandbox is worth. -/
noncomputable def Tryz.pinned : Pinned := { name := "ytdppfdpmpekpnaagreat", sum := "80793959a67a358469bbc8415d52d107c4aa5461abe8658de94b2c2c88374b43", checked := Tryz.checked }
namespace Rows
def none {H : Type} : Left H := { results := [], args := [] }

/-- 'limelighttop.TopPli': WHATEVER THE INPUT: true; the input reads as it did. -/
def topPliSpec : ChangeSpec := { name := "topPli", fn := fun _ => fun
  | [d1, d2] => { results := [.lit (.bool true)], args := [d1, d2] }
  | _ => none }
def topPliRow : OpenClaim := { program := "ytdppfdpmpekpnaagreat", sum := "80793959a67a358469bbc8415d52d107c4aa5461abe8658de94b2c2c88374b43", func := "limelight/limelighttop.TopPli", spec := "topPli", inPlace := ["slices.overlaps[limelight/room.Sub]", "slices.overlaps[limelight/api.Tuple]"], unfollowed := true, recurses := true, apart := false }
def TopPliSaid : Prop := topPliRow.holds Tryz.pinned (OpenSpec.ofChange topPliSpec)

/-- ITS FALSE NEIGHBOUR: 'it returns false'. Refute it at one input. -/
def topPliWrong : ChangeSpec := { name := "topPli", fn := fun _ => fun
  | [d1, d2] => { results := [.lit (.bool false)], args := [d1, d2] }
  | _ => none }
def TopPliWrongFalsely : Prop := topPliRow.holds Tryz.pinned (OpenSpec.ofChange topPliWrong)

/-- 'limelighttop.TopWakes': WHATEVER THE INPUT: true; the input reads as it did. -/
def topWakesSpec : ChangeSpec := { name := "topWakes", fn := fun _ => fun
  | [d1, d2] => { results := [.lit (.bool true)], args := [d1, d2] }
  | _ => none }
def topWakesRow : OpenClaim := { program := "ytdppfdpmpekpnaagreat", sum := "80793959a67a358469bbc8415d52d107c4aa5461abe8658de94b2c2c88374b43", func := "limelight/limelighttop.TopWakes", spec := "topWakes", inPlace := ["slices.overlaps[limelight/room.Sub]", "slices.overlaps[limelight/api.Tuple]"], unfollowed := true, recurses := true, apart := false }
def TopWakesSaid : Prop := topWakesRow.holds Tryz.pinned (OpenSpec.ofChange topWakesSpec)

/-- ITS FALSE NEIGHBOUR: 'it returns false'. Refute it at one input. -/
def topWakesWrong : ChangeSpec := { name := "topWakes", fn := fun _ => fun
  | [d1, d2] => { results := [.lit (.bool false)], args := [d1, d2] }
  | _ => none }
def TopWakesWrongFalsely : Prop := topWakesRow.holds Tryz.pinned (OpenSpec.ofChange topWakesWrong)

/-- 'limelighttop.TopLeaves': WHATEVER THE INPUT: true; the input reads as it did. -/
def topLeavesSpec : ChangeSpec := { name := "topLeaves", fn := fun _ => fun
  | [d] => { results := [.lit (.bool true)], args := [d] }
  | _ => none }
def topLeavesRow : OpenClaim := { program := "ytdppfdpmpekpnaagreat", sum := "80793959a67a358469bbc8415d52d107c4aa5461abe8658de94b2c2c88374b43", func := "limelight/limelighttop.TopLeaves", spec := "topLeaves", inPlace := ["slices.overlaps[limelight/room.Sub]", "slices.overlaps[limelight/api.Tuple]"], unfollowed := true, recurses := true, apart := false }
def TopLeavesSaid : Prop := topLeavesRow.holds Tryz.pinned (OpenSpec.ofChange topLeavesSpec)

/-- ITS FALSE NEIGHBOUR: 'it returns false'. Refute it at one input. -/
def topLeavesWrong : ChangeSpec := { name := "topLeaves", fn := fun _ => fun
  | [d] => { results := [.lit (.bool false)], args := [d] }
  | _ => none }
def TopLeavesWrongFalsely : Prop := topLeavesRow.holds Tryz.pinned (OpenSpec.ofChange topLeavesWrong)

/-- 'limelighttop.TopClasses': WHATEVER THE INPUT: true; the input reads as it did. -/
def topClassesSpec : ChangeSpec := { name := "topClasses", fn := fun _ => fun
  | [d1, d2, d3] => { results := [.lit (.bool true)], args := [d1, d2, d3] }
  | _ => none }
def topClassesRow : OpenClaim := { program := "ytdppfdpmpekpnaagreat", sum := "80793959a67a358469bbc8415d52d107c4aa5461abe8658de94b2c2c88374b43", func := "limelight/limelighttop.TopClasses", spec := "topClasses", inPlace := ["slices.overlaps[limelight/room.Sub]", "slices.overlaps[limelight/api.Tuple]"], unfollowed := true, recurses := true, apart := false }
def TopClassesSaid : Prop := topClassesRow.holds Tryz.pinned (OpenSpec.ofChange topClassesSpec)

/-- ITS FALSE NEIGHBOUR: 'it returns false'. Refute it at one input. -/
def topClassesWrong : ChangeSpec := { name := "topClasses", fn := fun _ => fun
  | [d1, d2, d3] => { results := [.lit (.bool false)], args := [d1, d2, d3] }
  | _ => none }
def TopClassesWrongFalsely : Prop := topClassesRow.holds Tryz.pinned (OpenSpec.ofChange topClassesWrong)

/-- 'limelighttop.TopRest': WHATEVER THE INPUT: true; the input reads as it did. -/
def topRestSpec : ChangeSpec := { name := "topRest", fn := fun _ => fun
  | [d1, d2] => { results := [.lit (.bool true)], args := [d1, d2] }
  | _ => none }
def topRestRow : OpenClaim := { program := "ytdppfdpmpekpnaagreat", sum := "80793959a67a358469bbc8415d52d107c4aa5461abe8658de94b2c2c88374b43", func := "limelight/limelighttop.TopRest", spec := "topRest", inPlace := ["slices.overlaps[limelight/room.Sub]", "slices.overlaps[limelight/api.Tuple]"], unfollowed := true, recurses := true, apart := false }
def TopRestSaid : Prop := topRestRow.holds Tryz.pinned (OpenSpec.ofChange topRestSpec)

/-- ITS FALSE NEIGHBOUR: 'it returns false'. Refute it at one input. -/
def topRestWrong : ChangeSpec := { name := "topRest", fn := fun _ => fun
  | [d1, d2] => { results := [.lit (.bool false)], args := [d1, d2] }
  | _ => none }
def TopRestWrongFalsely : Prop := topRestRow.holds Tryz.pinned (OpenSpec.ofChange topRestWrong)

/-- 'limelighttop.TopSilent': WHATEVER THE INPUT: true; the input reads as it did. -/
def topSilentSpec : ChangeSpec := { name := "topSilent", fn := fun _ => fun
  | [d] => { results := [.lit (.bool true)], args := [d] }
  | _ => none }
def topSilentRow : OpenClaim := { program := "ytdppfdpmpekpnaagreat", sum := "80793959a67a358469bbc8415d52d107c4aa5461abe8658de94b2c2c88374b43", func := "limelight/limelighttop.TopSilent", spec := "topSilent", inPlace := ["slices.overlaps[limelight/room.Sub]", "slices.overlaps[limelight/api.Tuple]"], unfollowed := true, recurses := true, apart := false }
def TopSilentSaid : Prop := topSilentRow.holds Tryz.pinned (OpenSpec.ofChange topSilentSpec)

/-- ITS FALSE NEIGHBOUR: 'it returns false'. Refute it at one input. -/
def topSilentWrong : ChangeSpec := { name := "topSilent", fn := fun _ => fun
  | [d] => { results := [.lit (.bool false)], args := [d] }
  | _ => none }
def TopSilentWrongFalsely : Prop := topSilentRow.holds Tryz.pinned (OpenSpec.ofChange topSilentWrong)

/- THE SECOND FORM. 'bulk': how many values and letters a reading holds, each counted each time it is reached (what is shared counts as often as it is met; a slice's spare places count too). A statement '..UptoSaid' is the law's where the arguments, and the package variables that the reading takes, are together of bulk at most 1048576: NARROWER than '..Said'. Prove '..Said' where nothing that the law and all that it calls make is longer than what came in: it says more and counts as full. Else prove '..UptoSaid'. A law counts once. -/
mutual
def uptoBulk {H : Type} : DataW H → Nat
  | .lit (.string bytes) => bytes.length + 1
  | .lit _ => 1
  | .nil => 1
  | .ptr d => uptoBulk d + 1
  | .slice elems spare => uptoBulkAll elems + uptoBulkAll spare + 1
  | .agg parts => uptoBulkAll parts + 1
  | .iface _ d => uptoBulk d + 1
  | .map entries => uptoBulkEntries entries + 1
  | .held _ => 1
def uptoBulkAll {H : Type} : List (DataW H) → Nat
  | [] => 0
  | d :: r => uptoBulk d + uptoBulkAll r
def uptoBulkEntries {H : Type} : List (Lit × DataW H) → Nat
  | [] => 0
  | x :: r => uptoBulkEntry x + uptoBulkEntries r
def uptoBulkEntry {H : Type} : Lit × DataW H → Nat
  | (.string bytes, d) => bytes.length + uptoBulk d + 1
  | (_, d) => uptoBulk d + 1
 end
def uptoSmall : (H : Type) → List (DataW H) → Bool := fun _ ds => decide (uptoBulkAll ds ≤ 1048576)
def OpenSpec.upto (s : _root_.Go.ChangeSpec) : _root_.Go.OpenSpec := { _root_.Go.OpenSpec.ofChange s with cond := some uptoSmall }

/-- 'limelighttop.TopPli', WHERE WHAT IT READS IS OF BULK AT MOST 1048576: true; the input reads as it did. -/
def topPliUptoRow : OpenClaim := { program := "ytdppfdpmpekpnaagreat", sum := "80793959a67a358469bbc8415d52d107c4aa5461abe8658de94b2c2c88374b43", func := "limelight/limelighttop.TopPli", spec := "topPli", inPlace := ["slices.overlaps[limelight/room.Sub]", "slices.overlaps[limelight/api.Tuple]"], unfollowed := true, recurses := true, apart := false, narrowed := true }
def TopPliUptoSaid : Prop := topPliUptoRow.holds Tryz.pinned (OpenSpec.upto topPliSpec)

/-- 'limelighttop.TopWakes', WHERE WHAT IT READS IS OF BULK AT MOST 1048576: true; the input reads as it did. -/
def topWakesUptoRow : OpenClaim := { program := "ytdppfdpmpekpnaagreat", sum := "80793959a67a358469bbc8415d52d107c4aa5461abe8658de94b2c2c88374b43", func := "limelight/limelighttop.TopWakes", spec := "topWakes", inPlace := ["slices.overlaps[limelight/room.Sub]", "slices.overlaps[limelight/api.Tuple]"], unfollowed := true, recurses := true, apart := false, narrowed := true }
def TopWakesUptoSaid : Prop := topWakesUptoRow.holds Tryz.pinned (OpenSpec.upto topWakesSpec)

/-- 'limelighttop.TopLeaves', WHERE WHAT IT READS IS OF BULK AT MOST 1048576: true; the input reads as it did. -/
def topLeavesUptoRow : OpenClaim := { program := "ytdppfdpmpekpnaagreat", sum := "80793959a67a358469bbc8415d52d107c4aa5461abe8658de94b2c2c88374b43", func := "limelight/limelighttop.TopLeaves", spec := "topLeaves", inPlace := ["slices.overlaps[limelight/room.Sub]", "slices.overlaps[limelight/api.Tuple]"], unfollowed := true, recurses := true, apart := false, narrowed := true }
def TopLeavesUptoSaid : Prop := topLeavesUptoRow.holds Tryz.pinned (OpenSpec.upto topLeavesSpec)

/-- 'limelighttop.TopClasses', WHERE WHAT IT READS IS OF BULK AT MOST 1048576: true; the input reads as it did. -/
def topClassesUptoRow : OpenClaim := { program := "ytdppfdpmpekpnaagreat", sum := "80793959a67a358469bbc8415d52d107c4aa5461abe8658de94b2c2c88374b43", func := "limelight/limelighttop.TopClasses", spec := "topClasses", inPlace := ["slices.overlaps[limelight/room.Sub]", "slices.overlaps[limelight/api.Tuple]"], unfollowed := true, recurses := true, apart := false, narrowed := true }
def TopClassesUptoSaid : Prop := topClassesUptoRow.holds Tryz.pinned (OpenSpec.upto topClassesSpec)

/-- 'limelighttop.TopRest', WHERE WHAT IT READS IS OF BULK AT MOST 1048576: true; the input reads as it did. -/
def topRestUptoRow : OpenClaim := { program := "ytdppfdpmpekpnaagreat", sum := "80793959a67a358469bbc8415d52d107c4aa5461abe8658de94b2c2c88374b43", func := "limelight/limelighttop.TopRest", spec := "topRest", inPlace := ["slices.overlaps[limelight/room.Sub]", "slices.overlaps[limelight/api.Tuple]"], unfollowed := true, recurses := true, apart := false, narrowed := true }
def TopRestUptoSaid : Prop := topRestUptoRow.holds Tryz.pinned (OpenSpec.upto topRestSpec)

/-- 'limelighttop.TopSilent', WHERE WHAT IT READS IS OF BULK AT MOST 1048576: true; the input reads as it did. -/
def topSilentUptoRow : OpenClaim := { program := "ytdppfdpmpekpnaagreat", sum := "80793959a67a358469bbc8415d52d107c4aa5461abe8658de94b2c2c88374b43", func := "limelight/limelighttop.TopSilent", spec := "topSilent", inPlace := ["slices.overlaps[limelight/room.Sub]", "slices.overlaps[limelight/api.Tuple]"], unfollowed := true, recurses := true, apart := false, narrowed := true }
def TopSilentUptoSaid : Prop := topSilentUptoRow.holds Tryz.pinned (OpenSpec.upto topSilentSpec)

end Rows
end Go.Proofs.YtdppfdpmpekpnaaGreat
