import Derived.Test.YtooeabibhjbkoaaGreatGkD
import Derived.ProofKit
import Derived.OpenShut
import Derived.Deep.Slices
import Derived.Deep.Strs
import Derived.Lib.SmallJoins
import Derived.DataShut
import Derived.Test.YtooeabibhjbkoaaGreatGmC
import Derived.Test.YtooeabibhjbkoaaGreatGkA
set_option linter.unusedVariables false
set_option linter.unusedSimpArgs false
namespace Go.Proofs.YtooeabibhjbkoaaGreat
open Go.RowKit Big Reg Al Ap Ga Go.ChangeShapes Go.WideShapes Go.ChangeAt Go.Joins Go.Deep
instance:Inhabited Rq:=⟨⟨⟨#[]⟩,0,0⟩⟩
theorem lv_get {n i:Nat} (v:Nat) (h:i<n):(lv n v)[i]?=some (.int .u32 (lim v i:Nat)):=by
 unfold lv cells
 rw [List.getElem?_map,dg_get v h];rfl
set_option maxRecDepth 100000
section
variable {H:Type} {enc:TypeId × Value→H} {w:World} {base:Nat} {spare:Nat→Bool} {held:Bool}
end
theorem Rd.nil (w:World):Rd w 1 (.slice none 0 0) ([]:List Int).length (([]:List Int).map (Value.int .i64)):=⟨rfl,by decide,none,0,rfl,fun h=>absurd h (by decide)⟩
end Go.Proofs.YtooeabibhjbkoaaGreat
namespace Go.Proofs.YtooeabibhjbkoaaGreat
open Go.RowKit Big Reg Al Ap Ga Go.ChangeShapes Go.WideShapes Go.ChangeAt Go.Joins Go.Deep
instance instInhabitedTk:Inhabited Tk:=⟨⟨⟨⟨#[]⟩,⟨#[]⟩,⟨#[]⟩,⟨#[]⟩,⟨#[]⟩,0,0,0,0,0,false⟩,0,0⟩⟩
set_option maxRecDepth 100000
section
variable {H:Type} {enc:TypeId × Value→H} {w:World} {base:Nat} {spare:Nat→Bool} {held:Bool}
end
end Go.Proofs.YtooeabibhjbkoaaGreat
namespace Go.Proofs.YtooeabibhjbkoaaGreat
open Go.RowKit Big Reg Al Ap Ga
theorem At.cI0 {w:World} {O k:Nat} {l:List Int} {x:Int} (h:At w O 0 (cI l)) (hk:l[k]?=some x):w.cell? ⟨O,k,none⟩=some (.int .i64 x):=h.cel (by unfold cI;rw [List.getElem?_map,hk];rfl)
theorem At.cIset {w:World} {O k:Nat} {l:List Int} {x:Int} (h:At w O 0 (cI l)) (hk:k<l.length):At (w.setCell ⟨O,k,none⟩ (.int .i64 x)) O 0 (cI (l.set k x)):=by
 have:=h.oneSet (k:=k) (v:=.int .i64 x) (by rw [cI_len];exact hk)
 rwa [cI_set] at this
theorem At.row {w:World} {O n cap:Nat} {l:List Int} (h:At w O 0 (cI l)) (hl:l.length=n) (hn:n≤1000000):Rd w 1 (.slice (some ⟨O,0,none⟩) n cap) l.length (cI l):=by have:=h.rd (cap:=cap) hl hn;rwa [hl]
end Go.Proofs.YtooeabibhjbkoaaGreat
