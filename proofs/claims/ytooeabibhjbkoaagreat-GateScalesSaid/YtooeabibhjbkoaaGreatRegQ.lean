import Derived.WalkKit
import Derived.Lib.Bytealg
set_option linter.unusedVariables false
set_option linter.unusedSimpArgs false
namespace Go.Proofs.YtooeabibhjbkoaaGreat
namespace Reg
open Go.Op (bytesLess)
theorem tl (a:ByteArray):a.toList=a.data.toList:=ByteArray.toList_eq a
structure Lot where
 nom:ByteArray
 hol:ByteArray
 ser:Int
 units:Int
def Lot.cells (x:Lot):List Value:=[.string x.nom,.string x.hol,.int .i64 x.ser,.int .i64 x.units]
def sLt (a b:ByteArray):Bool:=bytesLess a.toList b.toList
def lotLt (a b:Lot):Bool:=if a.nom=b.nom then (if a.hol=b.hol then decide (a.ser<b.ser) else sLt a.hol b.hol) else sLt a.nom b.nom
def sameKey (a b:Lot):Prop:=a.nom=b.nom∧a.hol=b.hol∧a.ser=b.ser
def place (a b:Lot):Int:=if lotLt a b=true then -1 else if lotLt b a=true then 1 else 0
end Reg
end Go.Proofs.YtooeabibhjbkoaaGreat
namespace Go.Proofs.YtooeabibhjbkoaaGreat
namespace Reg
instance (a b:Lot):Decidable (sameKey a b):=by unfold sameKey;infer_instance
def pos (l:List Lot) (x:Lot):Nat:=(l.takeWhile (fun y=>lotLt y x)).length
end Reg
end Go.Proofs.YtooeabibhjbkoaaGreat
