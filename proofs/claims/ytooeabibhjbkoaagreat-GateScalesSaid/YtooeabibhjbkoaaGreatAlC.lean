import Derived.Test.YtooeabibhjbkoaaGreatAlB
import Derived.Test.YtooeabibhjbkoaaGreatApQ
set_option linter.unusedVariables false
set_option linter.unusedSimpArgs false
namespace Go.Proofs.YtooeabibhjbkoaaGreat
open Go.RowKit Al Tok Ap
namespace Al
def Bk.op (b:Bk):Nat:=(b.net+b.flows).toNat
end Al
def cellsN (ws:List Nat):List Value:=ws.map (fun (x:Nat)=>Value.int .i64 (x:Int))
end Go.Proofs.YtooeabibhjbkoaaGreat
