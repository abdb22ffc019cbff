/- Top: a layer that is not watched rests when the grace is over: a publisher of 3 layers. -/
import Derived.Test.YtdppfdpmpekpnaaGreatRsA
set_option linter.unusedVariables false
set_option maxRecDepth 1000000
namespace Go.Proofs.YtdppfdpmpekpnaaGreatA
open Go.RowKit

theorem rRa3 (n a b c d e us : Int) : (sp7a.all fun s => chk7 (tmR (R7 n a b c d e us 3)) (stR (R7 n a b c d e us 3)) us s) = true := by kernel_rfl
end Go.Proofs.YtdppfdpmpekpnaaGreatA
