/- The set-up of some cases. -/
import Derived.Test.YtidhpcjbllnjgaaGreatTcR0
set_option linter.unusedVariables false
set_option maxRecDepth 1000000
namespace Go.Proofs.YtidhpcjbllnjgaaGreatA
open Go.RowKit
theorem R_200 : spineB (spW 2 0) (calW 2 0 lR) af3.body 7 (setArgs [vU0, vU1, .bool false] 0 .lf) (stO [] 0) (gTl (uQ 0 3) F_T0) (gOl (uQ 0 3) F_S0) 776 = true := by kernel_rfl
theorem R_210 : spineB (spW 2 1) (calW 2 1 lR) af3.body 7 (setArgs [vU0, vU1, .bool false] 0 .lf) (stO [] 0) (gTl (uQ 1 3) F_T0) (gOl (uQ 1 3) F_S0) 776 = true := by kernel_rfl
theorem R_220 : spineB (spW 2 2) (calW 2 2 lR) af3.body 7 (setArgs [vU0, vU1, .bool false] 0 .lf) (stO [] 0) (gTl (uQ 2 3) F_T0) (gOl (uQ 2 3) F_S0) 776 = true := by kernel_rfl
theorem R_001 : spineB (spW 0 0) (calW 0 0 lR) af3.body 7 (setArgs [vU0, vU1, .bool true] 0 .lf) (stO [] 0) (gTl (uQ 0 1) G_T0) (gOl (uQ 0 1) G_S0) 776 = true := by kernel_rfl
theorem R_011 : spineB (spW 0 1) (calW 0 1 lR) af3.body 7 (setArgs [vU0, vU1, .bool true] 0 .lf) (stO [] 0) (gTl (uQ 0 2) G_T0) (gOl (uQ 0 2) G_S0) 776 = true := by kernel_rfl
theorem R_021 : spineB (spW 0 2) (calW 0 2 lR) af3.body 7 (setArgs [vU0, vU1, .bool true] 0 .lf) (stO [] 0) (gTl (uQ 0 3) G_T0) (gOl (uQ 0 3) G_S0) 776 = true := by kernel_rfl
end Go.Proofs.YtidhpcjbllnjgaaGreatA
