/- The set-up of some cases. -/
import Derived.Test.YtidhpcjbllnjgaaGreatTcR0
set_option linter.unusedVariables false
set_option maxRecDepth 1000000
namespace Go.Proofs.YtidhpcjbllnjgaaGreatA
open Go.RowKit
theorem R_101 : spineB (spW 1 0) (calW 1 0 lR) af3.body 7 (setArgs [vU0, vU1, .bool true] 0 .lf) (stO [] 0) (gTl (uQ 0 2) G_T0) (gOl (uQ 0 2) G_S0) 776 = true := by kernel_rfl
theorem R_111 : spineB (spW 1 1) (calW 1 1 lR) af3.body 7 (setArgs [vU0, vU1, .bool true] 0 .lf) (stO [] 0) (gTl (uQ 1 2) G_T0) (gOl (uQ 1 2) G_S0) 776 = true := by kernel_rfl
theorem R_121 : spineB (spW 1 2) (calW 1 2 lR) af3.body 7 (setArgs [vU0, vU1, .bool true] 0 .lf) (stO [] 0) (gTl (uQ 1 3) G_T0) (gOl (uQ 1 3) G_S0) 776 = true := by kernel_rfl
theorem R_201 : spineB (spW 2 0) (calW 2 0 lR) af3.body 7 (setArgs [vU0, vU1, .bool true] 0 .lf) (stO [] 0) (gTl (uQ 0 3) G_T0) (gOl (uQ 0 3) G_S0) 776 = true := by kernel_rfl
theorem R_211 : spineB (spW 2 1) (calW 2 1 lR) af3.body 7 (setArgs [vU0, vU1, .bool true] 0 .lf) (stO [] 0) (gTl (uQ 1 3) G_T0) (gOl (uQ 1 3) G_S0) 776 = true := by kernel_rfl
theorem R_221 : spineB (spW 2 2) (calW 2 2 lR) af3.body 7 (setArgs [vU0, vU1, .bool true] 0 .lf) (stO [] 0) (gTl (uQ 2 3) G_T0) (gOl (uQ 2 3) G_S0) 776 = true := by kernel_rfl
end Go.Proofs.YtidhpcjbllnjgaaGreatA
