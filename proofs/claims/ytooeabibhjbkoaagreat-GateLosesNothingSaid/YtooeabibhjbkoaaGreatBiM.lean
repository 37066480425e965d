import Derived.Test.YtooeabibhjbkoaaGreatBkD
set_option linter.unusedVariables false
set_option linter.unusedSimpArgs false
namespace Go.Proofs.YtooeabibhjbkoaaGreat
open Go.RowKit Big
def zI (n:Bool) (v:Nat):Int:=if n=true then -(v:Int) else (v:Int)
theorem from_op {c:List Value} {z:Int} {n:Bool} {v:Nat} (h:c=.bool n::lv 32 v) (hn:n=decide (z<0)) (hv:v=z.natAbs) (h1:-9223372036854775808≤z) (h2:z≤9223372036854775807) (W:World) :
  Calls Tryz.prog 76 #[.int .i64 z] W fun e w'=>e=.returned (.agg c.toArray)∧Below W.heap.size W w':=by
 subst h hn hv;exact from_is z W h1 h2
def cmpZ (x y:Int):Int:=if x<y then -1 else if y<x then 1 else 0
theorem sgn_three (n:Bool) (v:Nat):sgnI n v=-1∨sgnI n v=0∨sgnI n v=1:=by
 unfold sgnI
 (repeat' split)<;>simp
theorem cmp_three (a b:Nat):cmpI a b=-1∨cmpI a b=0∨cmpI a b=1:=by
 unfold cmpI
 (repeat' split)<;>simp
theorem cmp_signs (na nb:Bool) (a b:Nat):(sgnI na a<sgnI nb b→cmpZ (zI na a) (zI nb b)=-1)∧(sgnI nb b<sgnI na a→cmpZ (zI na a) (zI nb b)=1)∧(sgnI na a=sgnI nb b→cmpZ (zI na a) (zI nb b)=sgnI na a*cmpI a b):=by
 unfold cmpZ zI sgnI cmpI
 cases na<;>cases nb<;>simp only [Bool.false_eq_true,if_false,if_true]<;>(refine ⟨fun h=>?_,fun h=>?_,fun h=>?_⟩)<;>(repeat' split at h)<;>(repeat' split)<;>omega
theorem sign_op {c:List Value} {n:Bool} {v:Nat} {s:Int} (h:c=.bool n::lv 32 v) (hs:s=sgnI n v) (hv:v<BB^32) (W:World) :
  Calls Tryz.prog 110 #[.agg c.toArray] W fun e w'=>e=.returned (.int .i64 s)∧Below W.heap.size W w':=by
 subst h hs;exact sign_is n v W hv
end Go.Proofs.YtooeabibhjbkoaaGreat
namespace Go.Proofs.YtooeabibhjbkoaaGreat
open Go.RowKit Big
theorem add_same (na nb:Bool) (a b:Nat) (h:cs1 na a=cs1 nb b):decide (zI na a+zI nb b<0)=cs1 (cs1 na a) (a+b)∧(zI na a+zI nb b).natAbs=a+b:=by
 have h1:na=true→a≠0→cs1 na a=true:=fun h1 h2=>by simp [cs1,h1,h2]
 unfold zI
 by_cases ha:a=0<;>by_cases hb:b=0<;>cases na<;>cases nb<;>simp [cs1,ha,hb] at h ⊢<;>omega
theorem add_less (na nb:Bool) (a b:Nat) (h:cs1 na a≠cs1 nb b) (hl:a<b):decide (zI na a+zI nb b<0)=cs1 (cs1 nb b) (b - a)∧(zI na a+zI nb b).natAbs=b - a:=by
 unfold zI
 have hb:b - a≠0:=by omega
 by_cases ha:a=0<;>by_cases hb2:b=0<;>cases na<;>cases nb<;>simp [cs1,ha,hb,hb2] at h hb ⊢<;>omega
theorem add_more (na nb:Bool) (a b:Nat) (h:cs1 na a≠cs1 nb b) (hl:¬a<b):decide (zI na a+zI nb b<0)=cs1 (cs1 na a) (a - b)∧(zI na a+zI nb b).natAbs=a - b:=by
 unfold zI
 by_cases ha:a=0
 ·have hb0:b=0:=by omega
  exact absurd (by simp [cs1,ha,hb0]) h
 ·have e1:cs1 na a=na:=by simp [cs1,ha]
  rw [e1] at h ⊢
  by_cases hb2:b=0
  ·subst hb2
   cases na<;>cases nb<;>simp [cs1,ha] at h ⊢<;>omega
  ·have e2:cs1 nb b=nb:=by simp [cs1,hb2]
   rw [e2] at h
   by_cases hab:a=b
   ·subst hab
    cases na<;>cases nb<;>simp [cs1] at h ⊢<;>omega
   ·have h3:a - b≠0:=by omega
    have e3:cs1 na (a - b)=na:=by simp only [cs1,h3,decide_false,Bool.not_false,Bool.and_true]
    rw [e3]
    cases na<;>cases nb<;>simp at h ⊢<;>omega
end Go.Proofs.YtooeabibhjbkoaaGreat
