/- The rounds, in parts. -/
import Derived.Test.YtidhpcjbllnjgaaGreatTcG0
set_option linter.unusedVariables false
set_option maxRecDepth 1000000
namespace Go.Proofs.YtidhpcjbllnjgaaGreatA
open Go.RowKit
theorem G_g5 : roundsB spQ (cal spQ lG) af3_l1 2 (tmOf G_T6) (stO G_S6 8578) G_T7 G_S7 10008 = true := by kernel_rfl
theorem G_g6 : roundsB spQ (cal spQ lG) af3_l1 2 (tmOf G_T7) (stO G_S7 10008) G_T8 G_S8 11438 = true := by kernel_rfl
theorem G_g7 : roundsB spQ (cal spQ lG) af3_l1 2 (tmOf G_T8) (stO G_S8 11438) G_T9 G_S9 12868 = true := by kernel_rfl
theorem G_g8 : roundsB spQ (cal spQ lG) af3_l1 2 (tmOf G_T9) (stO G_S9 12868) G_T10 G_S10 14298 = true := by kernel_rfl
theorem G_g9 : roundsB spQ (cal spQ lG) af3_l1 2 (tmOf G_T10) (stO G_S10 14298) G_T11 G_S11 15699 = true := by kernel_rfl
theorem G_g10 : roundsB spQ (cal spQ lG) af3_l1 2 (tmOf G_T11) (stO G_S11 15699) G_T12 G_S12 17015 = true := by kernel_rfl
theorem G_g11 : roundsB spQ (cal spQ lG) af3_l1 2 (tmOf G_T12) (stO G_S12 17015) G_T13 G_S13 18331 = true := by kernel_rfl
end Go.Proofs.YtidhpcjbllnjgaaGreatA
