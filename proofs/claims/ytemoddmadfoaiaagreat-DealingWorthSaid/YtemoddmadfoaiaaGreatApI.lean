import Derived.Test.YtemoddmadfoaiaaGreatGkA
import Derived.Test.YtemoddmadfoaiaaGreatApH
import Derived.Lib.Slices
set_option linter.unusedVariables false
set_option linter.unusedSimpArgs false
namespace Go.Proofs.YtemoddmadfoaiaaGreat
open Go.RowKit Al Tok Ap
namespace Al
def Bk.op (b:Bk):Nat:=(b.net+b.flows).toNat
end Al
end Go.Proofs.YtemoddmadfoaiaaGreat
namespace Go.Proofs.YtemoddmadfoaiaaGreat
open Go.RowKit Ap
end Go.Proofs.YtemoddmadfoaiaaGreat
