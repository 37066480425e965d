import Derived.Test.YtooeabibhjbkoaaGreatApA
set_option linter.unusedVariables false
set_option linter.unusedSimpArgs false
namespace Go.Proofs.YtooeabibhjbkoaaGreat
open Go.RowKit
namespace Tok
def digI (n:Int):Bool:=decide (48≤n)&&decide (n≤57)
theorem drop_cons (s:ByteArray) (k:Nat) (h:k<s.size):s.data.toList.drop k=s[k]::s.data.toList.drop (k+1):=by
 rw [List.drop_eq_getElem_cons (by simpa using h)];rfl
def digAt (s:ByteArray) (j:Nat):Bool:=match s.data.toList[j]? with|some c=>digI c.toNat|none=>false
end Tok
open Tok
theorem qgW (w:World) (s:ByteArray) (k:Nat):Below w.heap.size w (w.iter s k):=(Below.refl _ _).alloc (Nat.le_refl _) _
namespace Tok
def namI (n:Int):Bool:=(decide (97≤n)&&decide (n≤122)) || (decide (48≤n)&&decide (n≤57))
def namesFrom (s:ByteArray) (j:Nat):Bool:=(s.data.toList.drop j).all fun c=>namI c.toNat
def nameB (s:ByteArray):Bool:=decide (0<s.size)&&decide (s.size≤16)&&!digAt s 0&&namesFrom s 0
theorem names_go (s:ByteArray) (j:Nat) (h:j<s.size):namesFrom s j=(namI s[j].toNat&&namesFrom s (j+1)):=by
 unfold namesFrom;rw [drop_cons s j h];rfl
theorem names_end (s:ByteArray) (j:Nat) (h:¬j<s.size):namesFrom s j=true:=by
 unfold namesFrom;rw [List.drop_eq_nil_of_le (by simp;omega)];rfl
theorem namI_no {n:Int} (h:(n<97∨122<n)∧(n<48∨57<n)):namI n=false:=by
 cases hh:namI n
 ·rfl
 ·simp only [namI,Bool.or_eq_true,Bool.and_eq_true,decide_eq_true_eq] at hh;omega
end Tok
end Go.Proofs.YtooeabibhjbkoaaGreat
