import Derived.Test.YtooeabibhjbkoaaGreatBiW
import Derived.StillTailTactics
set_option linter.unusedVariables false
set_option linter.unusedSimpArgs false
namespace Go.Proofs.YtooeabibhjbkoaaGreat
open Go.RowKit
def GY (P:Program) (fin:Act) (o:Oper) (W:World) (D:Value→World→Prop):Prop:=match (execOp fin.eval o).run P W with
 | .ok (.value v) w''=>D v w''
 | .ok (.enter f args) w''=>w''=W∧Calls P f args W (fun e w3=>∃ v,e=.returned v∧D v w3)
 | _=>False
theorem GY.value {P:Program} {fin:Act} {o:Oper} {W w':World} {D:Value→World→Prop} {v:Value} (h:(execOp fin.eval o).run P W=.ok (.value v) w') (hD:D v w'):GY P fin o W D:=by
 unfold GY;rw [h];exact hD
theorem GY.call {P:Program} {fin:Act} {o:Oper} {W:World} {D:Value→World→Prop} {f:FuncId} {args:Array Value} (h:(execOp fin.eval o).run P W=.ok (.enter f args) W) (hD:Calls P f args W (fun e w3=>∃ v,e=.returned v∧D v w3)):GY P fin o W D:=by
 unfold GY;rw [h];exact ⟨rfl,hD⟩
section
variable {P:Program} {ops:Array Oper} {pl:List Pl} {L:List Tmp} {fin ini:Act} {W:World} {β:Nat→Nat} {seen:Array Bool} {a:Act} {w:World}
section
variable {G:List Nat} {R:Nat→Value→World→Prop} {ft:Nat→Value→Nat→Prop} {F:(Nat→Value)→Act}
end
end
section
variable {P:Program} {l:List Oper} {n:Nat}
section
variable {ops:Array Oper} {fin:Act} {G:List Nat} {Rw:Nat→Prop}
end
end
end Go.Proofs.YtooeabibhjbkoaaGreat
