/- The rounds, in parts. -/
import Derived.Test.YtidhpcjbllnjgaaGreatTcF0
set_option linter.unusedVariables false
set_option maxRecDepth 1000000
namespace Go.Proofs.YtidhpcjbllnjgaaGreatA
open Go.RowKit
theorem F_e : dropS 7 af3.body = .seq (.seq (sq1 (sq1 (dropS 7 af3.body))) (.block 0 (.loop af3_l1))) (dropS 8 af3.body) := rfl
theorem F_x : partB spQ (cal spQ lF) (sq1 (sq1 (dropS 7 af3.body))) (tmOf F_T0) (stO F_S0 776) .normal F_T1 F_S1 776 = true := by kernel_rfl
theorem F_g0 : roundsB spQ (cal spQ lF) af3_l1 2 (tmOf F_T1) (stO F_S1 776) F_T2 F_S2 2399 = true := by kernel_rfl
theorem F_g1 : roundsB spQ (cal spQ lF) af3_l1 2 (tmOf F_T2) (stO F_S2 2399) F_T3 F_S3 4049 = true := by kernel_rfl
theorem F_g2 : roundsB spQ (cal spQ lF) af3_l1 2 (tmOf F_T3) (stO F_S3 4049) F_T4 F_S4 5699 = true := by kernel_rfl
theorem F_g3 : roundsB spQ (cal spQ lF) af3_l1 2 (tmOf F_T4) (stO F_S4 5699) F_T5 F_S5 7194 = true := by kernel_rfl
theorem F_g4 : roundsB spQ (cal spQ lF) af3_l1 2 (tmOf F_T5) (stO F_S5 7194) F_T6 F_S6 8636 = true := by kernel_rfl
end Go.Proofs.YtidhpcjbllnjgaaGreatA
