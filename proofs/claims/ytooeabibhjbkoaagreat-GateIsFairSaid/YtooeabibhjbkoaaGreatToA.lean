import Derived.Test.YtooeabibhjbkoaaGreatBiX
set_option linter.unusedVariables false
set_option linter.unusedSimpArgs false
namespace Go.Proofs.YtooeabibhjbkoaaGreat
open Go.RowKit Big
end Go.Proofs.YtooeabibhjbkoaaGreat
