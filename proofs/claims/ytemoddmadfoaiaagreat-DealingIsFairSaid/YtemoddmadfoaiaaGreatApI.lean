import Derived.Test.YtemoddmadfoaiaaGreatGkA
import Derived.Test.YtemoddmadfoaiaaGreatApH
import Derived.Lib.Slices
set_option linter.unusedVariables false
set_option linter.unusedSimpArgs false
namespace Go.Proofs.YtemoddmadfoaiaaGreat
open Go.RowKit Al Tok Ap
namespace Al
def Bk.op (b:Bk):Nat:=(b.net+b.flows).toNat
structure Ok (b:Bk):Prop where
 name:nameB b.name=true
 net:0≤b.net∧b.net≤1000000000000000
 flows:-1000000000000000≤b.flows∧b.flows≤1000000000000000
 sum:0≤b.net+b.flows∧b.net+b.flows≤1000000000000000
 own:-1000000000000000≤b.own∧b.own≤1000000000000000
 units:0≤b.units∧b.units≤1000000000000000
end Al
end Go.Proofs.YtemoddmadfoaiaaGreat
namespace Go.Proofs.YtemoddmadfoaiaaGreat
open Go.RowKit Ap
end Go.Proofs.YtemoddmadfoaiaaGreat
