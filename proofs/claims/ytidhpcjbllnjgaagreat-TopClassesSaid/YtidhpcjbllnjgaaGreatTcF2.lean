/- The rounds, in parts. -/
import Derived.Test.YtidhpcjbllnjgaaGreatTcF0
set_option linter.unusedVariables false
set_option maxRecDepth 1000000
namespace Go.Proofs.YtidhpcjbllnjgaaGreatA
open Go.RowKit
theorem F_g5 : roundsB spQ (cal spQ lF) af3_l1 2 (tmOf F_T6) (stO F_S6 8636) F_T7 F_S7 10078 = true := by kernel_rfl
theorem F_g6 : roundsB spQ (cal spQ lF) af3_l1 2 (tmOf F_T7) (stO F_S7 10078) F_T8 F_S8 11520 = true := by kernel_rfl
theorem F_g7 : roundsB spQ (cal spQ lF) af3_l1 2 (tmOf F_T8) (stO F_S8 11520) F_T9 F_S9 12962 = true := by kernel_rfl
theorem F_g8 : roundsB spQ (cal spQ lF) af3_l1 2 (tmOf F_T9) (stO F_S9 12962) F_T10 F_S10 14404 = true := by kernel_rfl
theorem F_g9 : roundsB spQ (cal spQ lF) af3_l1 2 (tmOf F_T10) (stO F_S10 14404) F_T11 F_S11 15841 = true := by kernel_rfl
theorem F_g10 : roundsB spQ (cal spQ lF) af3_l1 2 (tmOf F_T11) (stO F_S11 15841) F_T12 F_S12 17217 = true := by kernel_rfl
theorem F_g11 : roundsB spQ (cal spQ lF) af3_l1 2 (tmOf F_T12) (stO F_S12 17217) F_T13 F_S13 18593 = true := by kernel_rfl
end Go.Proofs.YtidhpcjbllnjgaaGreatA
