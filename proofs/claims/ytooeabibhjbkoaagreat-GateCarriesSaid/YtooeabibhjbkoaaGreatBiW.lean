import Derived.Test.YtooeabibhjbkoaaGreatBkC
set_option linter.unusedVariables false
set_option linter.unusedSimpArgs false
namespace Go.Proofs.YtooeabibhjbkoaaGreat
open Go.RowKit
section
variable {P:Program} {ops:Array Oper} {pl:List Pl} {fin ini:Act} {W:World} {β:Nat→Nat} {seen:Array Bool} {a:Act} {w:World}
end
end Go.Proofs.YtooeabibhjbkoaaGreat
