/- Chapter 2: the law that names are judged, folded, cut as the document says. -/
import Derived.Test.YtihddjacbalekaaRdC
set_option linter.unusedVariables false
set_option linter.unusedSimpArgs false
namespace Go.Proofs.YtihddjacbalekaaA
open Go.RowKit

theorem bytes_len {a : ByteArray} (h : a.size ≤ maxLen) : (bytesN a).length ≤ 9223372036854775807 := by
  have : (bytesN a).length = a.size := by unfold bytesN; rw [List.length_map, Array.length_toList]; rfl
  rw [this]
  exact Nat.le_trans h (by decide)
theorem law4 (a : ByteArray) (wa : a.size ≤ maxLen) (b : ByteArray) (wb : b.size ≤ maxLen) {n : Int} (_ : (Lit.int .i64 n).wf = true) : ∃ S', evF X13 AP (0 + 3) 4 [.str (bytesN a), .str (bytesN b), .int .i64 n] S0 = some (.bool true, S') :=
  ev4 0 n (bytes_len wa) (bytes_len wb)
end Go.Proofs.YtihddjacbalekaaA
