import Derived.Test.YtnkmhbiklffjlaaApN
import Derived.Test.YtnkmhbiklffjlaaQuA
set_option linter.unusedVariables false
set_option linter.unusedSimpArgs false
namespace Go.Proofs.Ytnkmhbiklffjlaa
open Go.RowKit Ap
def sgnd (T:Int) (x:Int):Int:=if T<0 then -x else x
theorem sgnd_map (T:Int) (l:List Int):(if T<0 then l.map (- ·) else l)=l.map (sgnd T):=by
 unfold sgnd
 by_cases h:T<0
 ·simp [h]
 ·simp [h]
end Go.Proofs.Ytnkmhbiklffjlaa
