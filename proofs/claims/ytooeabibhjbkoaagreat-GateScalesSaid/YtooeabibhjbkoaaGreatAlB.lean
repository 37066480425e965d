import Derived.Test.YtooeabibhjbkoaaGreatAlA
import Derived.Test.YtooeabibhjbkoaaGreatBiX
import Derived.Deep.CutRange
import Derived.StillTailTactics
set_option linter.unusedVariables false
set_option linter.unusedSimpArgs false
namespace Go.Proofs.YtooeabibhjbkoaaGreat
open Go.RowKit Al Tok
def OutE (ok:Bool) (bad:Int) (w:World) (e:Ending) (w':World):Prop:=e=.returned (.int .i64 (if ok=true then 0 else bad))∧Below w.heap.size w w'
theorem SetB.put {w:World} {M:Nat} {l:List ByteArray} (h:SetB w M l) (s:ByteArray) (hs:s.size≤maxLen) (hn:l.length<maxLen) :
  ∃ w',(Instr.mapUpdate 91 (.map (some M)) (.string s) (.bool true)).run Tryz.prog w=.ok () w'∧SetB w' M (l++[s])∧w.grownBy w' (some M):=by
 obtain ⟨w',h1,h2,h3⟩:=World.ownsMap.update h (Maps.string_keyed Tryz.underlying9) Tryz.underlying91 hn (WideMaps.keyOf_string_mk Tryz.underlying9 hs) (plainElem_bool Tryz.underlying4 true)
 refine ⟨w',h1,?_,h3⟩
 unfold SetB
 rw [List.map_append,List.map_cons,List.map_nil,Maps.setOf_snoc,List.length_append]
 exact h2
theorem qmX (w:World) {ops:Array Oper} {rest:List Oper} {o:Oper} {a:Act} {Q:Exit→Act→World→Prop} (hg:o.guard=none) (m x v:Operand) (hop:o.op=Op.mapUpdate 91 m x v)
  (M:Nat) (l:List ByteArray) (s:ByteArray) (hm:a.eval m=.map (some M)) (h:SetB w M l) (hs:s.size≤maxLen) (hn:l.length<maxLen) (hx:a.eval x=.string s) (hv:a.eval v=.bool true)
  (hK:∀ w',SetB w' M (l++[s])→w.grownBy w' (some M)→wpList Tryz.prog ops Q rest (a.put o.dst undef) w'):wpList Tryz.prog ops Q (o::rest) a w:=by
 obtain ⟨w',hrun,h1,h2⟩:=h.put s hs hn
 refine wpList_plain hg fun K' hK'=>?_
 unfold Oper.wp
 simp [execOp,hop,hm,hx,hv,hrun,Result.andThen]
 exact hK' _ _ (hK w' h1 h2)
end Go.Proofs.YtooeabibhjbkoaaGreat
