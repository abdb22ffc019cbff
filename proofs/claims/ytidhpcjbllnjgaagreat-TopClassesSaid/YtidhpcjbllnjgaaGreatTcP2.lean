/- The house is awake: Play in parts. -/
import Derived.Test.YtidhpcjbllnjgaaGreatTcP0
set_option linter.unusedVariables false
set_option maxRecDepth 1000000
namespace Go.Proofs.YtidhpcjbllnjgaaGreatA
open Go.RowKit
theorem P_g3 : roundsB cP.sp (cal cP.sp lP) af23_l1 3 (tmOf P_T4) (stO P_S4 5425) P_T5 P_S5 7060 = true := by kernel_rfl
theorem P_g4 : roundsB cP.sp (cal cP.sp lP) af23_l1 3 (tmOf P_T5) (stO P_S5 7060) P_T6 P_S6 8279 = true := by kernel_rfl
theorem P_g5 : roundsB cP.sp (cal cP.sp lP) af23_l1 4 (tmOf P_T6) (stO P_S6 8279) P_T7 P_S7 9571 = true := by kernel_rfl
theorem P_g6 : roundsB cP.sp (cal cP.sp lP) af23_l1 1 (tmOf P_T7) (stO P_S7 9571) P_T8 P_S8 9894 = true := by kernel_rfl
theorem P_q : partB cP.sp (cal cP.sp lP) af23_l1 (tmOf P_T8) (stO P_S8 9894) (.exit 0) P_T9 P_S9 9894 = true := by kernel_rfl
theorem P_r : partB cP.sp (cal cP.sp lP) (dropS 4 af23.body) (tmOf P_T9) (stO P_S9 9894) .ret P_TE P_SE 9894 = true := by kernel_rfl
end Go.Proofs.YtidhpcjbllnjgaaGreatA
