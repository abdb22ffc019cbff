/-
  No cell of these rows narrows 'for every input' (looked for: loops, veiled, ifaces, maps, wideKeys, modest, calm, conditions, laid).
  DERIVED. THE GIVEN ROWS OF THIS SEAT. 4 by the template 'for every input the law returns true; each argument reads behind the call as it read before'; 0 by the template 'total and deterministic' (their statements: YtkjmhhoioanolaaTotals.lean).
  GIVEN WITH THE SEED: the statements are not yours to turn. If you find one false, say at which input.
  Laid BY PROGRAM, IN A SANDBOX (cutbox-rows.mjs): the forced cells as the released guide's own fill.sh prints them over the translation f4f7546b13861d88… (all of the seat's roots in one cut). By AI agents, Wed Nov 11 2026. No macro, syntax, notation, axiom, sorry.
-/
import Derived.Test.YtkjmhhoioanolaaChecked
import GoSem.Claim
import GoSem.ClaimJoined
import GoSem.ClaimMapViews
import Derived.JoinedTies
import Derived.KernelRfl
namespace Go.Proofs.Ytkjmhhoioanolaa
/- THE CELL 'sum', in the pinned program and in every row, IS THE sha256 OF THE DUMP (.gsa) THAT YtkjmhhoioanolaaProg.lean LOADS. Nothing in Lean hashes anything: it is a label: what it is worth is what the hold of that sum in a sandbox is worth. -/
noncomputable def Try.pinned : Pinned := { name := "ytkjmhhoioanolaa", sum := "f4f7546b13861d8834a9d8ef9f48cb8c7ad3032679fb6afeff452d8c2759bbed", checked := Try.checked }
namespace Rows
def none {H : Type} : Left H := { results := [], args := [] }

/-- 'limelightlaw11.PaceOrder': WHATEVER THE INPUT: true; the input reads as it did. -/
def paceOrderSpec : ChangeSpec := { name := "paceOrder", fn := fun _ => fun
  | [d1, d2] => { results := [.lit (.bool true)], args := [d1, d2] }
  | _ => none }
def paceOrderRow : OpenClaim := { program := "ytkjmhhoioanolaa", sum := "f4f7546b13861d8834a9d8ef9f48cb8c7ad3032679fb6afeff452d8c2759bbed", func := "limelight/limelightlaw11.PaceOrder", spec := "paceOrder", apart := false }
def PaceOrderSaid : Prop := paceOrderRow.holds Try.pinned (OpenSpec.ofChange paceOrderSpec)

/-- ITS FALSE NEIGHBOUR: 'it returns false'. Refute it at one input. -/
def paceOrderWrong : ChangeSpec := { name := "paceOrder", fn := fun _ => fun
  | [d1, d2] => { results := [.lit (.bool false)], args := [d1, d2] }
  | _ => none }
def PaceOrderWrongFalsely : Prop := paceOrderRow.holds Try.pinned (OpenSpec.ofChange paceOrderWrong)

/-- 'limelightlaw11.PaceCounts': WHATEVER THE INPUT: true; the input reads as it did. -/
def paceCountsSpec : ChangeSpec := { name := "paceCounts", fn := fun _ => fun
  | [d1, d2] => { results := [.lit (.bool true)], args := [d1, d2] }
  | _ => none }
def paceCountsRow : OpenClaim := { program := "ytkjmhhoioanolaa", sum := "f4f7546b13861d8834a9d8ef9f48cb8c7ad3032679fb6afeff452d8c2759bbed", func := "limelight/limelightlaw11.PaceCounts", spec := "paceCounts", apart := false }
def PaceCountsSaid : Prop := paceCountsRow.holds Try.pinned (OpenSpec.ofChange paceCountsSpec)

/-- ITS FALSE NEIGHBOUR: 'it returns false'. Refute it at one input. -/
def paceCountsWrong : ChangeSpec := { name := "paceCounts", fn := fun _ => fun
  | [d1, d2] => { results := [.lit (.bool false)], args := [d1, d2] }
  | _ => none }
def PaceCountsWrongFalsely : Prop := paceCountsRow.holds Try.pinned (OpenSpec.ofChange paceCountsWrong)

/-- 'limelightlaw11.PaceNumbers': WHATEVER THE INPUT: true; the input reads as it did. -/
def paceNumbersSpec : ChangeSpec := { name := "paceNumbers", fn := fun _ => fun
  | [] => { results := [.lit (.bool true)], args := [] }
  | _ => none }
def paceNumbersRow : OpenClaim := { program := "ytkjmhhoioanolaa", sum := "f4f7546b13861d8834a9d8ef9f48cb8c7ad3032679fb6afeff452d8c2759bbed", func := "limelight/limelightlaw11.PaceNumbers", spec := "paceNumbers", apart := false }
def PaceNumbersSaid : Prop := paceNumbersRow.holds Try.pinned (OpenSpec.ofChange paceNumbersSpec)

/-- ITS FALSE NEIGHBOUR: 'it returns false'. Refute it at one input. -/
def paceNumbersWrong : ChangeSpec := { name := "paceNumbers", fn := fun _ => fun
  | [] => { results := [.lit (.bool false)], args := [] }
  | _ => none }
def PaceNumbersWrongFalsely : Prop := paceNumbersRow.holds Try.pinned (OpenSpec.ofChange paceNumbersWrong)

/-- 'limelightlaw11.PacePlays': WHATEVER THE INPUT: true; the input reads as it did. -/
def pacePlaysSpec : ChangeSpec := { name := "pacePlays", fn := fun _ => fun
  | [d1, d2, d3] => { results := [.lit (.bool true)], args := [d1, d2, d3] }
  | _ => none }
def pacePlaysRow : OpenClaim := { program := "ytkjmhhoioanolaa", sum := "f4f7546b13861d8834a9d8ef9f48cb8c7ad3032679fb6afeff452d8c2759bbed", func := "limelight/limelightlaw11.PacePlays", spec := "pacePlays", apart := false }
def PacePlaysSaid : Prop := pacePlaysRow.holds Try.pinned (OpenSpec.ofChange pacePlaysSpec)

/-- ITS FALSE NEIGHBOUR: 'it returns false'. Refute it at one input. -/
def pacePlaysWrong : ChangeSpec := { name := "pacePlays", fn := fun _ => fun
  | [d1, d2, d3] => { results := [.lit (.bool false)], args := [d1, d2, d3] }
  | _ => none }
def PacePlaysWrongFalsely : Prop := pacePlaysRow.holds Try.pinned (OpenSpec.ofChange pacePlaysWrong)

/- THE SECOND FORM. 'bulk': how many values and letters a reading holds, each counted each time it is reached (what is shared counts as often as it is met; a slice's spare places count too). A statement '..UptoSaid' is the law's where the arguments, and the package variables that the reading takes, are together of bulk at most 1048576: NARROWER than '..Said'. Prove '..Said' where nothing that the law and all that it calls make is longer than what came in: it says more and counts as full. Else prove '..UptoSaid'. A law counts once. -/
mutual
def uptoBulk {H : Type} : DataW H → Nat
  | .lit (.string bytes) => bytes.length + 1
  | .lit _ => 1
  | .nil => 1
  | .ptr d => uptoBulk d + 1
  | .slice elems spare => uptoBulkAll elems + uptoBulkAll spare + 1
  | .agg parts => uptoBulkAll parts + 1
  | .iface _ d => uptoBulk d + 1
  | .map entries => uptoBulkEntries entries + 1
  | .held _ => 1
def uptoBulkAll {H : Type} : List (DataW H) → Nat
  | [] => 0
  | d :: r => uptoBulk d + uptoBulkAll r
def uptoBulkEntries {H : Type} : List (Lit × DataW H) → Nat
  | [] => 0
  | x :: r => uptoBulkEntry x + uptoBulkEntries r
def uptoBulkEntry {H : Type} : Lit × DataW H → Nat
  | (.string bytes, d) => bytes.length + uptoBulk d + 1
  | (_, d) => uptoBulk d + 1
 end
def uptoSmall : (H : Type) → List (DataW H) → Bool := fun _ ds => decide (uptoBulkAll ds ≤ 1048576)
def OpenSpec.upto (s : _root_.Go.ChangeSpec) : _root_.Go.OpenSpec := { _root_.Go.OpenSpec.ofChange s with cond := some uptoSmall }

/-- 'limelightlaw11.PaceOrder', WHERE WHAT IT READS IS OF BULK AT MOST 1048576: true; the input reads as it did. -/
def paceOrderUptoRow : OpenClaim := { program := "ytkjmhhoioanolaa", sum := "f4f7546b13861d8834a9d8ef9f48cb8c7ad3032679fb6afeff452d8c2759bbed", func := "limelight/limelightlaw11.PaceOrder", spec := "paceOrder", apart := false, narrowed := true }
def PaceOrderUptoSaid : Prop := paceOrderUptoRow.holds Try.pinned (OpenSpec.upto paceOrderSpec)

/-- 'limelightlaw11.PaceCounts', WHERE WHAT IT READS IS OF BULK AT MOST 1048576: true; the input reads as it did. -/
def paceCountsUptoRow : OpenClaim := { program := "ytkjmhhoioanolaa", sum := "f4f7546b13861d8834a9d8ef9f48cb8c7ad3032679fb6afeff452d8c2759bbed", func := "limelight/limelightlaw11.PaceCounts", spec := "paceCounts", apart := false, narrowed := true }
def PaceCountsUptoSaid : Prop := paceCountsUptoRow.holds Try.pinned (OpenSpec.upto paceCountsSpec)

/-- 'limelightlaw11.PaceNumbers', WHERE WHAT IT READS IS OF BULK AT MOST 1048576: true; the input reads as it did. -/
def paceNumbersUptoRow : OpenClaim := { program := "ytkjmhhoioanolaa", sum := "f4f7546b13861d8834a9d8ef9f48cb8c7ad3032679fb6afeff452d8c2759bbed", func := "limelight/limelightlaw11.PaceNumbers", spec := "paceNumbers", apart := false, narrowed := true }
def PaceNumbersUptoSaid : Prop := paceNumbersUptoRow.holds Try.pinned (OpenSpec.upto paceNumbersSpec)

/-- 'limelightlaw11.PacePlays', WHERE WHAT IT READS IS OF BULK AT MOST 1048576: true; the input reads as it did. -/
def pacePlaysUptoRow : OpenClaim := { program := "ytkjmhhoioanolaa", sum := "f4f7546b13861d8834a9d8ef9f48cb8c7ad3032679fb6afeff452d8c2759bbed", func := "limelight/limelightlaw11.PacePlays", spec := "pacePlays", apart := false, narrowed := true }
def PacePlaysUptoSaid : Prop := pacePlaysUptoRow.holds Try.pinned (OpenSpec.upto pacePlaysSpec)

end Rows
end Go.Proofs.Ytkjmhhoioanolaa
