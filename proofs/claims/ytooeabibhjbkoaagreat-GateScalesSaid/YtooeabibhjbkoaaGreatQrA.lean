import Derived.Test.YtooeabibhjbkoaaGreatBkO
set_option linter.unusedVariables false
set_option linter.unusedSimpArgs false
namespace Go.Proofs.YtooeabibhjbkoaaGreat
open Go.RowKit Big
def iZ (z:Int):List Value:=.bool (decide (z<0))::lv 32 z.natAbs
def ratZ (z:Int) (q:Nat):List Value:=rat (decide (z<0)) z.natAbs false q
theorem qhK (z:Int):zI (decide (z<0)) z.natAbs=z:=by
 unfold zI
 by_cases h:z<0
 ·simp [h];omega
 ·simp [h];omega
theorem quJ (n:Bool) (v:Nat):zI (cs1 n v) v=zI n v:=by
 unfold zI cs1
 cases n
 ·simp
 ·by_cases h:v=0<;>simp [h]
theorem qwM (z:Int):cs1 (decide (z<0)) z.natAbs=decide (z<0):=by
 unfold cs1
 by_cases h:z<0
 ·have:z.natAbs≠0:=by omega
  simp [h,this]
 ·simp [h]
theorem qkB (a b:Int):(a*b).natAbs=a.natAbs*b.natAbs:=Int.natAbs_mul a b
theorem qjD (a b:Int):decide (a*b<0)=cs1 (decide (a<0) != decide (b<0)) (a.natAbs*b.natAbs):=by
 unfold cs1
 rcases Int.lt_trichotomy a 0 with ha|ha|ha<;>rcases Int.lt_trichotomy b 0 with hb|hb|hb
 ·have:=Int.mul_pos_of_neg_of_neg ha hb
  have h1:¬a*b<0:=by omega
  simp [ha,hb,h1]
 ·subst hb;simp
 ·have:=Int.mul_neg_of_neg_of_pos ha hb
  have h2:¬b<0:=by omega
  have h3:a.natAbs*b.natAbs≠0:=Nat.mul_ne_zero (by omega) (by omega)
  simp only [this,ha,h2,decide_true,decide_false]
  simp [h3]
 ·subst ha;simp
 ·subst ha;simp
 ·subst ha;simp
 ·have:=Int.mul_neg_of_pos_of_neg ha hb
  have h2:¬a<0:=by omega
  have h3:a.natAbs*b.natAbs≠0:=Nat.mul_ne_zero (by omega) (by omega)
  simp only [this,hb,h2,decide_true,decide_false]
  simp [h3]
 ·subst hb;simp
 ·have:=Int.mul_pos ha hb
  have h1:¬a*b<0:=by omega
  have h2:¬a<0:=by omega
  have h3:¬b<0:=by omega
  simp [h1,h2,h3]
theorem pmulZ {ca cb cr:List Value} {a b:Int} (h1:ca=iZ a) (h2:cb=iZ b) (hr:cr=iZ (a*b)) (ha:a.natAbs<BB^32) (hb:b.natAbs<BB^32) (hv:(a*b).natAbs<BB^32) (w:World) :
  Calls Tryz.prog 93 #[.agg ca.toArray,.agg cb.toArray] w fun e w'=>e=.returned (.tuple #[.agg cr.toArray,.int .i64 0])∧Below w.heap.size w w' :=
 qrY h1 h2 hr (qkB a b) (by rw [qjD,qkB]) ha hb hv w
theorem paddZ {ca cb cr:List Value} {a b:Int} (h1:ca=iZ a) (h2:cb=iZ b) (hr:cr=iZ (a+b)) (ha:a.natAbs<BB^32) (hb:b.natAbs<BB^32) (hv:(a+b).natAbs<BB^32) (w:World) :
  Calls Tryz.prog 97 #[.agg ca.toArray,.agg cb.toArray] w fun e w'=>e=.returned (.tuple #[.agg cr.toArray,.int .i64 0])∧Below w.heap.size w w' :=
 qyR h1 h2 hr (by rw [qhK,qhK]) (by rw [qhK,qhK]) ha hb hv w
theorem jaP {cr:List Value} {z:Int} (h:cr=iZ z) (h1:-9223372036854775808≤z) (h2:z≤9223372036854775807) (w:World) :
  Calls Tryz.prog 60 #[.int .i64 z] w fun e w'=>e=.returned (.agg cr.toArray)∧Below w.heap.size w w' :=
 qhG h rfl rfl h1 h2 w
theorem qxG (z:Int):sgnI (decide (z<0)) z.natAbs=z.sign:=by
 unfold sgnI
 rcases Int.lt_trichotomy z 0 with h|h|h
 ·have:z.natAbs≠0:=by omega
  simp [h,this,Int.sign_eq_neg_one_of_neg h]
 ·subst h;rfl
 ·have h1:z.natAbs≠0:=by omega
  have h2:¬z<0:=by omega
  simp [h1,h2,Int.sign_eq_one_of_pos h]
theorem qxJ {cx:List Value} {z:Int} (h:cx=iZ z) (hz:z.natAbs<BB^32) (w:World) :
  Calls Tryz.prog 88 #[.agg cx.toArray] w fun e w'=>e=.returned (.int .i64 z.sign)∧Below w.heap.size w w' :=
 qdW h (qxG z).symm hz w
theorem qrX {cr:List Value} {z:Int} (h:cr=ratZ z 1) (h1:-9223372036854775808≤z) (h2:z≤9223372036854775807) (w:World) :
  Calls Tryz.prog 33 #[.int .i64 z] w fun e w'=>e=.returned (.agg cr.toArray)∧Below w.heap.size w w' :=
 qrW h rfl rfl h1 h2 w
abbrev Qn:=Int × Nat
structure VQ (r:Qn):Prop where
 num:r.1.natAbs<B480
 den:r.2<B480
 pos:r.2≠0
 low:Nat.gcd r.1.natAbs r.2=1
def mkQ (N:Int) (D:Nat):Option Qn :=
 if N.natAbs / Nat.gcd N.natAbs D<B480∧D / Nat.gcd N.natAbs D<B480 then some (N.sign*(N.natAbs / Nat.gcd N.natAbs D:Nat),D / Nat.gcd N.natAbs D) else none
def resR (o:Option Qn):List Value:=match o with|some r=>ratZ r.1 r.2|none=>rat false 0 false 0
def resE (o:Option Qn):Int:=if o.isSome=true then 0 else 10
theorem qeR (N:Int) (k:Nat) (hk:N=0→k=0):(N.sign*(k:Int)).natAbs=k∧decide (N.sign*(k:Int)<0)=cs1 (decide (N<0)) k:=by
 rcases Int.lt_trichotomy N 0 with h|h|h
 ·rw [Int.sign_eq_neg_one_of_neg h]
  refine ⟨by omega,?_⟩
  unfold cs1
  by_cases hk0:k=0
  ·subst hk0;simp
  ·have:-1*(k:Int)<0:=by omega
   simp [h,this,hk0];omega
 ·have:=hk h;subst this;simp [cs1]
 ·rw [Int.sign_eq_one_of_pos h]
  have h2:¬N<0:=by omega
  have h3:¬(1*(k:Int)<0):=by omega
  exact ⟨by omega,by unfold cs1;simp [h2,h3]⟩
theorem qdL {N:Int} {D:Nat} (h:D≠0):0<Nat.gcd N.natAbs D:=Nat.gcd_pos_of_pos_right _ (by omega)
theorem qbS {N:Int} {D:Nat} (h:D≠0) {r:Qn} (hr:mkQ N D=some r):VQ r:=by
 unfold mkQ at hr
 split at hr
 ·rename_i hb
  injection hr with hr
  subst hr
  have hg:=qdL (N:=N) h
  have hs:=(qeR N (N.natAbs / Nat.gcd N.natAbs D) (fun h0=>by subst h0;simp)).1
  refine ⟨by simp only;rw [hs];exact hb.1,hb.2,?_,?_⟩
  ·have:=Nat.div_pos (Nat.le_of_dvd (by omega) (Nat.gcd_dvd_right N.natAbs D)) hg
   simp only;omega
  ·simp only
   rw [hs]
   rw [Nat.gcd_div (Nat.gcd_dvd_left _ _) (Nat.gcd_dvd_right _ _),Nat.div_self hg]
 ·cases hr
theorem jaO {ca cb:List Value} {N:Int} {D:Nat} (h1:ca=iZ N) (h2:cb=iZ (D:Int)) {cR:List Value} {code:Int} (hR:cR=resR (mkQ N D)) (hc:code=resE (mkQ N D)) (ha:N.natAbs<BB^32) (hb:D<BB^32) (h0:D≠0) (w:World) :
  Calls Tryz.prog 92 #[.agg ca.toArray,.agg cb.toArray] w fun e w'=>e=.returned (.tuple #[.agg cR.toArray,.int .i64 code])∧Below w.heap.size w w':=by
 have hg:=qdL (N:=N) h0
 have hs:=qeR N (N.natAbs / Nat.gcd N.natAbs D) (fun h0=>by subst h0;simp)
 refine qvG (na:=decide (N<0)) (nb:=false) (n:=cs1 (decide (N<0)) (N.natAbs / Nat.gcd N.natAbs D)) (a:=N.natAbs) (b:=D) (g:=Nat.gcd N.natAbs D) h1 (by rw [h2];unfold iZ;simp) (by simp) rfl rfl rfl rfl ?_ ?_ ha hb h0 w
 ·rw [hR]
  unfold mkQ
  by_cases hb:N.natAbs / Nat.gcd N.natAbs D<B480∧D / Nat.gcd N.natAbs D<B480
  ·rw [if_pos hb,decide_eq_true hb,if_pos rfl]
   simp only [resR,ratZ]
   rw [hs.1,hs.2]
  ·rw [if_neg hb,decide_eq_false hb];rfl
 ·rw [hc]
  unfold mkQ
  by_cases hb:N.natAbs / Nat.gcd N.natAbs D<B480∧D / Nat.gcd N.natAbs D<B480
  ·rw [if_pos hb,decide_eq_true hb];rfl
  ·rw [if_neg hb,decide_eq_false hb];rfl
theorem qhP {c:List Value} {r:Qn} (h:c=ratZ r.1 r.2) (hv:VQ r) (w:World) :
  Calls Tryz.prog 87 #[.agg c.toArray] w fun e w'=>e=.returned (.bool true)∧Below w.heap.size w w':=by
 refine qkT (r:=true) h ?_ (qaJ hv.num) (qaJ hv.den) w
 have h1:=hv.num;have h2:=hv.den;have h3:=hv.pos;have h4:=hv.low
 rw [qwM]
 simp [h1,h2,h3,h4]
def qpH (a b:Qn):Int:=a.1*b.2+b.1*a.2
def subN (a b:Qn):Int:=a.1*b.2 - b.1*a.2
def addQ (a b:Qn):Option Qn:=mkQ (qpH a b) (a.2*b.2)
theorem quK:2*BB^30≤BB^32:=by
 have h1:BB^32=BB^30*BB^2:=by rw [←Nat.pow_add]
 have h2:2≤BB^2:=by unfold BB;decide
 rw [h1,Nat.mul_comm 2]
 exact Nat.mul_le_mul_left _ h2
theorem qhR {a b:Nat} (ha:a<B480) (hb:b<B480):a*b<BB^30:=qgH ha hb
theorem b30 {a:Nat} (h:a<BB^30):a<BB^32:=by have:=quK;omega
theorem N_bd {a b:Qn} (ha:VQ a) (hb:VQ b):(qpH a b).natAbs<BB^32∧(subN a b).natAbs<BB^32∧a.2*b.2<BB^32∧a.2*b.2≠0:=by
 have h1:(a.1*(b.2:Int)).natAbs<BB^30:=by rw [Int.natAbs_mul];exact qhR ha.num (by simpa using hb.den)
 have h2:(b.1*(a.2:Int)).natAbs<BB^30:=by rw [Int.natAbs_mul];exact qhR hb.num (by simpa using ha.den)
 have h3:=quK
 unfold qpH subN
 exact ⟨by omega,by omega,b30 (qhR ha.den hb.den),Nat.mul_ne_zero ha.pos hb.pos⟩
theorem qiR {a b:Qn} (mn:Bool):zI (cs1 (decide (a.1<0)) (a.1.natAbs*b.2)) (a.1.natAbs*b.2)=a.1*b.2 ∧
  zI (if mn=true then cs1 (!cs1 (decide (b.1<0)) (b.1.natAbs*a.2)) (b.1.natAbs*a.2) else cs1 (decide (b.1<0)) (b.1.natAbs*a.2)) (b.1.natAbs*a.2)=if mn=true then -(b.1*a.2) else b.1*a.2:=by
 have key:∀ (z:Int) (q:Nat),zI (decide (z<0)) (z.natAbs*q)=z*q:=by
  intro z q
  unfold zI
  by_cases h:z<0
  ·simp only [h,decide_true,if_true]
   rw [Int.natCast_mul,Int.ofNat_natAbs_of_nonpos (by omega)]
   rw [Int.neg_mul,Int.neg_neg]
  ·simp only [h,decide_false,if_false,Bool.false_eq_true]
   rw [Int.natCast_mul,Int.natAbs_of_nonneg (by omega)]
 refine ⟨by rw [quJ,key],?_⟩
 cases mn
 ·simp only [Bool.false_eq_true,if_false];rw [quJ,key]
 ·simp only [if_true]
  rw [quJ]
  have h:=key b.1 a.2
  rw [←quJ] at h
  rw [←h]
  unfold zI
  cases cs1 (decide (b.1<0)) (b.1.natAbs*a.2)<;>simp
end Go.Proofs.YtooeabibhjbkoaaGreat
