import Derived.Test.YtemoddmadfoaiaaGreatEvA
import Derived.Test.YtemoddmadfoaiaaGreatGkA
import Derived.Great.BuildSlice
set_option linter.unusedVariables false
set_option linter.unusedSimpArgs false
namespace Go.Proofs.YtemoddmadfoaiaaGreat
open Go.RowKit Reg
def EvRow (B n:Nat) (S:List Value→Prop) (v:Value) (w:World):Prop:=∃ g cs,v=.slice (some ⟨g,0,none⟩) n n∧B≤g∧At w g 0 cs∧S cs
def EvNew (B n:Nat) (v:Value) (w:World):Prop:=∃ X zs,v=.pointer (some ⟨X,0,none⟩)∧B≤X∧At w X 0 zs∧zs.length=n
theorem EvRow.up {B n bt:Nat} {S:List Value→Prop} {v:Value} {x y:World} (hB:bt<B) (h:EvRow B n S v x) (hd:Drew x bt y):EvRow B n S v y:=by
 obtain ⟨g,cs,h1,h2,h3,h4⟩:=h;exact ⟨g,cs,h1,h2,h3.drw hd (by omega),h4⟩
theorem EvNew.up {B n bt:Nat} {v:Value} {x y:World} (hB:bt<B) (h:EvNew B n v x) (hd:Drew x bt y):EvNew B n v y:=by
 obtain ⟨g,cs,h1,h2,h3,h4⟩:=h;exact ⟨g,cs,h1,h2,h3.drw hd (by omega),h4⟩
theorem GY.mono {P:Program} {fin:Act} {o:Oper} {W:World} {D E:Value→World→Prop} (h:GY P fin o W D) (k:∀ v w,D v w→E v w):GY P fin o W E:=by
 unfold GY at *;split at h
 ·exact k _ _ h
 ·exact ⟨h.1,h.2.mono fun e w ⟨v,h1,h2⟩=>⟨v,h1,k _ _ h2⟩⟩
 ·exact h
theorem GY.callOf {P:Program} {fin:Act} {o:Oper} {W:World} {f:FuncId} {args:Array Value} {D:Value→World→Prop} (h:(execOp fin.eval o).run P W=.ok (.enter f args) W) (hD:Calls P f args W (fun e w3=>∃ v,e=.returned v∧D v w3)):GY P fin o W D:=GY.call h hD
end Go.Proofs.YtemoddmadfoaiaaGreat
