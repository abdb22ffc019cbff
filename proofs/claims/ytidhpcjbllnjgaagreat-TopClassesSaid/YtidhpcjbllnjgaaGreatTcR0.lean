/- The set-up of each case: what is told ahead. -/
import Derived.Test.YtidhpcjbllnjgaaGreatTcF0
import Derived.Test.YtidhpcjbllnjgaaGreatTcG0
set_option linter.unusedVariables false
set_option maxRecDepth 1000000
namespace Go.Proofs.YtidhpcjbllnjgaaGreatA
open Go.RowKit
noncomputable def lR : Lib := [(45, [c0, c12, c99, c108, c115, c118]), (62, [c1, c13, c100, c102, c103, c109, c113, c114, c116, c117, c119, c120]), (67, [c3]), (69, [c2]), (74, [c4, c14, c110]), (115, [c6, c106, c107, c111, c112]), (123, [c101]), (174, [c5, c11]), (214, [c104]), (215, [c105])]
noncomputable def uQ (p q : Int) : Asg := fun j => match j with | 0 => p | 1 => q | _ => 0
end Go.Proofs.YtidhpcjbllnjgaaGreatA
