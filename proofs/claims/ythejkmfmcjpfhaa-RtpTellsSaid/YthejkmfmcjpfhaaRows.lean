/-
  No cell of these rows narrows 'for every input' (looked for: loops, veiled, ifaces, maps, wideKeys, modest, calm, conditions, laid).
  DERIVED. THE GIVEN ROWS OF THIS SEAT. 5 by the template 'for every input the law returns true; each argument reads behind the call as it read before'; 0 by the template 'total and deterministic' (their statements: YthejkmfmcjpfhaaTotals.lean).
  GIVEN WITH THE SEED: the statements are not yours to turn. If you find one false, say at which input.
  Laid BY PROGRAM, IN A SANDBOX (cutbox-rows.mjs): the forced cells as the released guide's own fill.sh prints them over the translation 661c33618af48724… (all of the seat's roots in one cut). By AI agents, Wed Nov 11 2026. No macro, syntax, notation, axiom, sorry.
-/
import Derived.Test.YthejkmfmcjpfhaaChecked
import GoSem.Claim
import GoSem.ClaimJoined
import GoSem.ClaimMapViews
import Derived.JoinedTies
import Derived.KernelRfl
namespace Go.Proofs.Ythejkmfmcjpfhaa
/- THE CELL 'sum', in the pinned program and in every row, IS THE sha256 OF THE DUMP (.gsa) THAT YthejkmfmcjpfhaaProg.lean LOADS. Nothing in Lean hashes anything: it is a label: what it is worth is what the hold of that sum in a sandbox is worth. -/
noncomputable def Try.pinned : Pinned := { name := "ythejkmfmcjpfhaa", sum := "661c33618af48724d520af86c6c2859903824c37033ab53017cdac60f60b6c17", checked := Try.checked }
namespace Rows
def none {H : Type} : Left H := { results := [], args := [] }

/-- 'limelightlaw3.RtpNumbers': WHATEVER THE INPUT: true; the input reads as it did. -/
def rtpNumbersSpec : ChangeSpec := { name := "rtpNumbers", fn := fun _ => fun
  | [] => { results := [.lit (.bool true)], args := [] }
  | _ => none }
def rtpNumbersRow : OpenClaim := { program := "ythejkmfmcjpfhaa", sum := "661c33618af48724d520af86c6c2859903824c37033ab53017cdac60f60b6c17", func := "limelight/limelightlaw3.RtpNumbers", spec := "rtpNumbers", apart := false }
def RtpNumbersSaid : Prop := rtpNumbersRow.holds Try.pinned (OpenSpec.ofChange rtpNumbersSpec)

/-- ITS FALSE NEIGHBOUR: 'it returns false'. Refute it at one input. -/
def rtpNumbersWrong : ChangeSpec := { name := "rtpNumbers", fn := fun _ => fun
  | [] => { results := [.lit (.bool false)], args := [] }
  | _ => none }
def RtpNumbersWrongFalsely : Prop := rtpNumbersRow.holds Try.pinned (OpenSpec.ofChange rtpNumbersWrong)

/-- 'limelightlaw3.RtpTells': WHATEVER THE INPUT: true; the input reads as it did. -/
def rtpTellsSpec : ChangeSpec := { name := "rtpTells", fn := fun _ => fun
  | [d1, d2, d3, d4, d5, d6, d7] => { results := [.lit (.bool true)], args := [d1, d2, d3, d4, d5, d6, d7] }
  | _ => none }
def rtpTellsRow : OpenClaim := { program := "ythejkmfmcjpfhaa", sum := "661c33618af48724d520af86c6c2859903824c37033ab53017cdac60f60b6c17", func := "limelight/limelightlaw3.RtpTells", spec := "rtpTells", apart := false }
def RtpTellsSaid : Prop := rtpTellsRow.holds Try.pinned (OpenSpec.ofChange rtpTellsSpec)

/-- ITS FALSE NEIGHBOUR: 'it returns false'. Refute it at one input. -/
def rtpTellsWrong : ChangeSpec := { name := "rtpTells", fn := fun _ => fun
  | [d1, d2, d3, d4, d5, d6, d7] => { results := [.lit (.bool false)], args := [d1, d2, d3, d4, d5, d6, d7] }
  | _ => none }
def RtpTellsWrongFalsely : Prop := rtpTellsRow.holds Try.pinned (OpenSpec.ofChange rtpTellsWrong)

/-- 'limelightlaw3.RtpBack': WHATEVER THE INPUT: true; the input reads as it did. -/
def rtpBackSpec : ChangeSpec := { name := "rtpBack", fn := fun _ => fun
  | [d1, d2, d3] => { results := [.lit (.bool true)], args := [d1, d2, d3] }
  | _ => none }
def rtpBackRow : OpenClaim := { program := "ythejkmfmcjpfhaa", sum := "661c33618af48724d520af86c6c2859903824c37033ab53017cdac60f60b6c17", func := "limelight/limelightlaw3.RtpBack", spec := "rtpBack", apart := false }
def RtpBackSaid : Prop := rtpBackRow.holds Try.pinned (OpenSpec.ofChange rtpBackSpec)

/-- ITS FALSE NEIGHBOUR: 'it returns false'. Refute it at one input. -/
def rtpBackWrong : ChangeSpec := { name := "rtpBack", fn := fun _ => fun
  | [d1, d2, d3] => { results := [.lit (.bool false)], args := [d1, d2, d3] }
  | _ => none }
def RtpBackWrongFalsely : Prop := rtpBackRow.holds Try.pinned (OpenSpec.ofChange rtpBackWrong)

/-- 'limelightlaw3.RtpExt': WHATEVER THE INPUT: true; the input reads as it did. -/
def rtpExtSpec : ChangeSpec := { name := "rtpExt", fn := fun _ => fun
  | [d1, d2, d3] => { results := [.lit (.bool true)], args := [d1, d2, d3] }
  | _ => none }
def rtpExtRow : OpenClaim := { program := "ythejkmfmcjpfhaa", sum := "661c33618af48724d520af86c6c2859903824c37033ab53017cdac60f60b6c17", func := "limelight/limelightlaw3.RtpExt", spec := "rtpExt", apart := false }
def RtpExtSaid : Prop := rtpExtRow.holds Try.pinned (OpenSpec.ofChange rtpExtSpec)

/-- ITS FALSE NEIGHBOUR: 'it returns false'. Refute it at one input. -/
def rtpExtWrong : ChangeSpec := { name := "rtpExt", fn := fun _ => fun
  | [d1, d2, d3] => { results := [.lit (.bool false)], args := [d1, d2, d3] }
  | _ => none }
def RtpExtWrongFalsely : Prop := rtpExtRow.holds Try.pinned (OpenSpec.ofChange rtpExtWrong)

/-- 'limelightlaw3.RtpApart': WHATEVER THE INPUT: true; the input reads as it did. -/
def rtpApartSpec : ChangeSpec := { name := "rtpApart", fn := fun _ => fun
  | [d1, d2, d3] => { results := [.lit (.bool true)], args := [d1, d2, d3] }
  | _ => none }
def rtpApartRow : OpenClaim := { program := "ythejkmfmcjpfhaa", sum := "661c33618af48724d520af86c6c2859903824c37033ab53017cdac60f60b6c17", func := "limelight/limelightlaw3.RtpApart", spec := "rtpApart", apart := false }
def RtpApartSaid : Prop := rtpApartRow.holds Try.pinned (OpenSpec.ofChange rtpApartSpec)

/-- ITS FALSE NEIGHBOUR: 'it returns false'. Refute it at one input. -/
def rtpApartWrong : ChangeSpec := { name := "rtpApart", fn := fun _ => fun
  | [d1, d2, d3] => { results := [.lit (.bool false)], args := [d1, d2, d3] }
  | _ => none }
def RtpApartWrongFalsely : Prop := rtpApartRow.holds Try.pinned (OpenSpec.ofChange rtpApartWrong)

/- THE SECOND FORM. 'bulk': how many values and letters a reading holds, each counted each time it is reached (what is shared counts as often as it is met; a slice's spare places count too). A statement '..UptoSaid' is the law's where the arguments, and the package variables that the reading takes, are together of bulk at most 1048576: NARROWER than '..Said'. Prove '..Said' where nothing that the law and all that it calls make is longer than what came in: it says more and counts as full. Else prove '..UptoSaid'. A law counts once. -/
mutual
def uptoBulk {H : Type} : DataW H → Nat
  | .lit (.string bytes) => bytes.length + 1
  | .lit _ => 1
  | .nil => 1
  | .ptr d => uptoBulk d + 1
  | .slice elems spare => uptoBulkAll elems + uptoBulkAll spare + 1
  | .agg parts => uptoBulkAll parts + 1
  | .iface _ d => uptoBulk d + 1
  | .map entries => uptoBulkEntries entries + 1
  | .held _ => 1
def uptoBulkAll {H : Type} : List (DataW H) → Nat
  | [] => 0
  | d :: r => uptoBulk d + uptoBulkAll r
def uptoBulkEntries {H : Type} : List (Lit × DataW H) → Nat
  | [] => 0
  | x :: r => uptoBulkEntry x + uptoBulkEntries r
def uptoBulkEntry {H : Type} : Lit × DataW H → Nat
  | (.string bytes, d) => bytes.length + uptoBulk d + 1
  | (_, d) => uptoBulk d + 1
 end
def uptoSmall : (H : Type) → List (DataW H) → Bool := fun _ ds => decide (uptoBulkAll ds ≤ 1048576)
def OpenSpec.upto (s : _root_.Go.ChangeSpec) : _root_.Go.OpenSpec := { _root_.Go.OpenSpec.ofChange s with cond := some uptoSmall }

/-- 'limelightlaw3.RtpNumbers', WHERE WHAT IT READS IS OF BULK AT MOST 1048576: true; the input reads as it did. -/
def rtpNumbersUptoRow : OpenClaim := { program := "ythejkmfmcjpfhaa", sum := "661c33618af48724d520af86c6c2859903824c37033ab53017cdac60f60b6c17", func := "limelight/limelightlaw3.RtpNumbers", spec := "rtpNumbers", apart := false, narrowed := true }
def RtpNumbersUptoSaid : Prop := rtpNumbersUptoRow.holds Try.pinned (OpenSpec.upto rtpNumbersSpec)

/-- 'limelightlaw3.RtpTells', WHERE WHAT IT READS IS OF BULK AT MOST 1048576: true; the input reads as it did. -/
def rtpTellsUptoRow : OpenClaim := { program := "ythejkmfmcjpfhaa", sum := "661c33618af48724d520af86c6c2859903824c37033ab53017cdac60f60b6c17", func := "limelight/limelightlaw3.RtpTells", spec := "rtpTells", apart := false, narrowed := true }
def RtpTellsUptoSaid : Prop := rtpTellsUptoRow.holds Try.pinned (OpenSpec.upto rtpTellsSpec)

/-- 'limelightlaw3.RtpBack', WHERE WHAT IT READS IS OF BULK AT MOST 1048576: true; the input reads as it did. -/
def rtpBackUptoRow : OpenClaim := { program := "ythejkmfmcjpfhaa", sum := "661c33618af48724d520af86c6c2859903824c37033ab53017cdac60f60b6c17", func := "limelight/limelightlaw3.RtpBack", spec := "rtpBack", apart := false, narrowed := true }
def RtpBackUptoSaid : Prop := rtpBackUptoRow.holds Try.pinned (OpenSpec.upto rtpBackSpec)

/-- 'limelightlaw3.RtpExt', WHERE WHAT IT READS IS OF BULK AT MOST 1048576: true; the input reads as it did. -/
def rtpExtUptoRow : OpenClaim := { program := "ythejkmfmcjpfhaa", sum := "661c33618af48724d520af86c6c2859903824c37033ab53017cdac60f60b6c17", func := "limelight/limelightlaw3.RtpExt", spec := "rtpExt", apart := false, narrowed := true }
def RtpExtUptoSaid : Prop := rtpExtUptoRow.holds Try.pinned (OpenSpec.upto rtpExtSpec)

/-- 'limelightlaw3.RtpApart', WHERE WHAT IT READS IS OF BULK AT MOST 1048576: true; the input reads as it did. -/
def rtpApartUptoRow : OpenClaim := { program := "ythejkmfmcjpfhaa", sum := "661c33618af48724d520af86c6c2859903824c37033ab53017cdac60f60b6c17", func := "limelight/limelightlaw3.RtpApart", spec := "rtpApart", apart := false, narrowed := true }
def RtpApartUptoSaid : Prop := rtpApartUptoRow.holds Try.pinned (OpenSpec.upto rtpApartSpec)

end Rows
end Go.Proofs.Ythejkmfmcjpfhaa
