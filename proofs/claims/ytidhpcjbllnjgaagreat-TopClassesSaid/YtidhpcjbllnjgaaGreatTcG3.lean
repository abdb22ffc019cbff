/- The rounds, in parts. -/
import Derived.Test.YtidhpcjbllnjgaaGreatTcG0
set_option linter.unusedVariables false
set_option maxRecDepth 1000000
namespace Go.Proofs.YtidhpcjbllnjgaaGreatA
open Go.RowKit
theorem G_g12 : roundsB spQ (cal spQ lG) af3_l1 2 (tmOf G_T13) (stO G_S13 18331) G_T14 G_S14 19647 = true := by kernel_rfl
theorem G_g13 : roundsB spQ (cal spQ lG) af3_l1 2 (tmOf G_T14) (stO G_S14 19647) G_T15 G_S15 20963 = true := by kernel_rfl
theorem G_g14 : roundsB spQ (cal spQ lG) af3_l1 2 (tmOf G_T15) (stO G_S15 20963) G_T16 G_S16 22279 = true := by kernel_rfl
theorem G_q : partB spQ (cal spQ lG) af3_l1 (tmOf G_T16) (stO G_S16 22279) (.exit 0) G_T17 G_S17 22279 = true := by kernel_rfl
theorem G_r : partB spQ (cal spQ lG) (dropS 8 af3.body) (tmOf G_T17) (stO G_S17 22279) .ret G_TE G_SE 32416 = true := by kernel_rfl
end Go.Proofs.YtidhpcjbllnjgaaGreatA
