import Derived.Test.YtemoddmadfoaiaaGreatGaA
import Derived.Test.YtemoddmadfoaiaaGreatGkA
import Derived.Test.YtemoddmadfoaiaaGreatApE
set_option linter.unusedVariables false
set_option linter.unusedSimpArgs false
namespace Go.Proofs.YtemoddmadfoaiaaGreat
open Go.RowKit Big Reg Al Ap Ga
end Go.Proofs.YtemoddmadfoaiaaGreat
