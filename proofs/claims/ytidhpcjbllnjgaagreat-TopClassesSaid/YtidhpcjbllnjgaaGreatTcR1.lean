/- The set-up of some cases. -/
import Derived.Test.YtidhpcjbllnjgaaGreatTcR0
set_option linter.unusedVariables false
set_option maxRecDepth 1000000
namespace Go.Proofs.YtidhpcjbllnjgaaGreatA
open Go.RowKit
theorem R_000 : spineB (spW 0 0) (calW 0 0 lR) af3.body 7 (setArgs [vU0, vU1, .bool false] 0 .lf) (stO [] 0) (gTl (uQ 0 1) F_T0) (gOl (uQ 0 1) F_S0) 776 = true := by kernel_rfl
theorem R_010 : spineB (spW 0 1) (calW 0 1 lR) af3.body 7 (setArgs [vU0, vU1, .bool false] 0 .lf) (stO [] 0) (gTl (uQ 0 2) F_T0) (gOl (uQ 0 2) F_S0) 776 = true := by kernel_rfl
theorem R_020 : spineB (spW 0 2) (calW 0 2 lR) af3.body 7 (setArgs [vU0, vU1, .bool false] 0 .lf) (stO [] 0) (gTl (uQ 0 3) F_T0) (gOl (uQ 0 3) F_S0) 776 = true := by kernel_rfl
theorem R_100 : spineB (spW 1 0) (calW 1 0 lR) af3.body 7 (setArgs [vU0, vU1, .bool false] 0 .lf) (stO [] 0) (gTl (uQ 0 2) F_T0) (gOl (uQ 0 2) F_S0) 776 = true := by kernel_rfl
theorem R_110 : spineB (spW 1 1) (calW 1 1 lR) af3.body 7 (setArgs [vU0, vU1, .bool false] 0 .lf) (stO [] 0) (gTl (uQ 1 2) F_T0) (gOl (uQ 1 2) F_S0) 776 = true := by kernel_rfl
theorem R_120 : spineB (spW 1 2) (calW 1 2 lR) af3.body 7 (setArgs [vU0, vU1, .bool false] 0 .lf) (stO [] 0) (gTl (uQ 1 3) F_T0) (gOl (uQ 1 3) F_S0) 776 = true := by kernel_rfl
end Go.Proofs.YtidhpcjbllnjgaaGreatA
