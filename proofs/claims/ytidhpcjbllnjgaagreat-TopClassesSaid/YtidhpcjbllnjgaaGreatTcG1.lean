/- The rounds, in parts. -/
import Derived.Test.YtidhpcjbllnjgaaGreatTcG0
set_option linter.unusedVariables false
set_option maxRecDepth 1000000
namespace Go.Proofs.YtidhpcjbllnjgaaGreatA
open Go.RowKit
theorem G_e : dropS 7 af3.body = .seq (.seq (sq1 (sq1 (dropS 7 af3.body))) (.block 0 (.loop af3_l1))) (dropS 8 af3.body) := rfl
theorem G_x : partB spQ (cal spQ lG) (sq1 (sq1 (dropS 7 af3.body))) (tmOf G_T0) (stO G_S0 776) .normal G_T1 G_S1 776 = true := by kernel_rfl
theorem G_g0 : roundsB spQ (cal spQ lG) af3_l1 2 (tmOf G_T1) (stO G_S1 776) G_T2 G_S2 2389 = true := by kernel_rfl
theorem G_g1 : roundsB spQ (cal spQ lG) af3_l1 2 (tmOf G_T2) (stO G_S2 2389) G_T3 G_S3 4027 = true := by kernel_rfl
theorem G_g2 : roundsB spQ (cal spQ lG) af3_l1 2 (tmOf G_T3) (stO G_S3 4027) G_T4 G_S4 5665 = true := by kernel_rfl
theorem G_g3 : roundsB spQ (cal spQ lG) af3_l1 2 (tmOf G_T4) (stO G_S4 5665) G_T5 G_S5 7148 = true := by kernel_rfl
theorem G_g4 : roundsB spQ (cal spQ lG) af3_l1 2 (tmOf G_T5) (stO G_S5 7148) G_T6 G_S6 8578 = true := by kernel_rfl
end Go.Proofs.YtidhpcjbllnjgaaGreatA
