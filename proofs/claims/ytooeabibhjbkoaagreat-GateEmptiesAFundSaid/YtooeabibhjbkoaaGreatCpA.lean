import Derived.Test.YtooeabibhjbkoaaGreatApI
set_option linter.unusedVariables false
set_option linter.unusedSimpArgs false
namespace Go.Proofs.YtooeabibhjbkoaaGreat
open Go.RowKit Ap
end Go.Proofs.YtooeabibhjbkoaaGreat
