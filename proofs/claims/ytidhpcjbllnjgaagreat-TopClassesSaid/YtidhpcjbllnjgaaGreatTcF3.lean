/- The rounds, in parts. -/
import Derived.Test.YtidhpcjbllnjgaaGreatTcF0
set_option linter.unusedVariables false
set_option maxRecDepth 1000000
namespace Go.Proofs.YtidhpcjbllnjgaaGreatA
open Go.RowKit
theorem F_g12 : roundsB spQ (cal spQ lF) af3_l1 2 (tmOf F_T13) (stO F_S13 18593) F_T14 F_S14 19969 = true := by kernel_rfl
theorem F_g13 : roundsB spQ (cal spQ lF) af3_l1 2 (tmOf F_T14) (stO F_S14 19969) F_T15 F_S15 21345 = true := by kernel_rfl
theorem F_g14 : roundsB spQ (cal spQ lF) af3_l1 2 (tmOf F_T15) (stO F_S15 21345) F_T16 F_S16 22721 = true := by kernel_rfl
theorem F_q : partB spQ (cal spQ lF) af3_l1 (tmOf F_T16) (stO F_S16 22721) (.exit 0) F_T17 F_S17 22721 = true := by kernel_rfl
theorem F_r : partB spQ (cal spQ lF) (dropS 8 af3.body) (tmOf F_T17) (stO F_S17 22721) .ret F_TE F_SE 32857 = true := by kernel_rfl
end Go.Proofs.YtidhpcjbllnjgaaGreatA
