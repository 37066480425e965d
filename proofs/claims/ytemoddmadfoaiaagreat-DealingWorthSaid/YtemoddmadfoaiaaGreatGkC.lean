import Derived.Test.YtemoddmadfoaiaaGreatGeD
import Derived.Laws.Strings
import Derived.Test.YtemoddmadfoaiaaGreatGkA
import Derived.Test.YtemoddmadfoaiaaGreatDaB
import Derived.Test.YtemoddmadfoaiaaGreatGaA
import Derived.Test.YtemoddmadfoaiaaGreatCpA
import Derived.Test.YtemoddmadfoaiaaGreatGkB
set_option linter.unusedVariables false
set_option linter.unusedSimpArgs false
set_option maxRecDepth 100000
set_option maxHeartbeats 8000000
namespace Go.Proofs.YtemoddmadfoaiaaGreat
open Go.RowKit Big Reg Al Ap Ga
open Lib (hid)
theorem eSign {ca:List Value} {a:Qn} {s:Int} (h1:ca=resN (some a)) (ha:VQ a) (hs:s=a.1.sign) (w:World) :
  Calls Tryz.prog 33 #[.agg ca.toArray] w fun e w'=>e=.returned (.int .i64 s)∧Below w.heap.size w w':=by
 have V_ca:=hid (show ca=nm (decide (a.1<0)) a.1.natAbs false a.2 0 from h1);obtain ⟨va,V_va⟩:∃ c:List Value,Hid (c=rat (decide (a.1<0)) a.1.natAbs false a.2):=⟨_,hid rfl⟩;have HC:=hid (jdS (ca:=va) V_va.out ha hs);clear h1 ha hs;obtain ⟨B0,w0,hw0,hB0,AB0,FR,FR0,HB0,hZB0⟩:=en1 w 70 (bxq ca);go_enter Tryz.func33,Tryz.ntmps33
 go_upto_region 1 with fail
 rw [←hw0,←hB0];clear hw0 hB0;have AB0_v:=hid (AB0.out.val V_ca.out V_va.out);refine wT [] [(6,.pointer (some ⟨B0,0,none⟩)),(7,.agg va.toArray),(8,.tuple #[.int .i64 s,.int .i64 0]),(5,.tuple #[.int .i64 s,.int .i64 0]),(9,.int .i64 s),(10,.int .i64 0),(3,.int .i64 s),(4,.int .i64 0)] (by simp only [zr,zq];rfl) (by kernel_rfl) rfl ?_ oN oN ?_
 ·intro W' hW';refine fxo ?_<|ldR (abl AB0_v hW') V_va rfl<|fo4 ?_ ?_ ?_ ?_<|fo2 ?_ ?_<|fxn;all_goals (go_big_quiet_step ((go_at_call 69;exact qaA (HC.out _)));exact wqn rfl)
 intro β wx1 E;replace FR:=fnf FR E rfl;replace AB0:=fnh AB0 E rfl;replace AB0_v:=fnh AB0_v E rfl;simp only [nP,zr,zq];clear E;go_wp2
 go_ret
 exact ⟨rfl,fend HB0 FR⟩
theorem jdV {n:Bool} {p q:Nat} (h:n=cs1 n p):rat n p false q=ratZ (zI n p) q:=by
 have:=qjR n p
 rw [←h] at this;unfold ratZ;rw [←this.1,←this.2]
theorem jeQ {cr:List Value} {a:Qn} {t:Bool} (h1:cr=ratZ a.1 a.2) (ha:VQ a) (ht:t=decide (0<a.1)) (w:World) :
  Calls Tryz.prog 80 #[.agg cr.toArray] w fun e w'=>e=.returned (.bool t)∧Below w.heap.size w w':=by
 have V_cr:=hid (show cr=rat (decide (a.1<0)) a.1.natAbs false a.2 from h1);obtain ⟨cN,V_cN⟩:∃ c:List Value,Hid (c=nm (decide (a.1<0)) a.1.natAbs false a.2 0):=⟨_,hid rfl⟩;obtain ⟨s,hs⟩:∃ s,s=a.1.sign:=⟨_,rfl⟩;have HV:=hid (qjZ h1 ha);have HO:=hid (eOf V_cr.out V_cN.out);have HS:=hid (eSign (ca:=cN) V_cN.out ha hs);have HT:=hid (show t=decide (0<s) by rw [ht,hs];congr 1;rw [Int.sign_pos_iff]);clear h1 ha ht hs;obtain ⟨B0,w0,hw0,hB0,AB0,FR,FR0,HB0,hZB0⟩:=en1 w 27 (bxq cr);go_enter Tryz.func80,Tryz.ntmps80
 go_upto_region 1 with fail
 rw [←hw0,←hB0];clear hw0 hB0;refine wT [] [(3,.agg cr.toArray),(4,.bool true),(5,.bool true),(6,.agg cr.toArray),(7,.agg cN.toArray),(8,.int .i64 s),(9,.bool (decide (0<s))),(10,.bool (decide (0<s))),(2,.bool (decide (0<s)))] (by simp only [zr,zq];rfl) (by kernel_rfl) rfl ?_ oN oN ?_
 ·intro W' hW';have rd0:=AB0.out.below hW';refine ldR rd0 V_cr rfl<|fo2 ?_ ?_<|ldR rd0 V_cr rfl<|fxo (by go_big_quiet_step ((go_at_call 32;exact qaA (HO.out _)));exact wqn rfl)<|fxo (by go_big_quiet_step ((go_at_call 33;exact qaA (HS.out _)));exact wqn rfl)<|fo3 ?_ ?_ ?_<|fxn;all_goals (go_big_quiet_step ((go_at_call 98;exact qaA (HV.out _)));exact wqn rfl)
 intro β wx1 E;replace FR:=fnf FR E rfl;replace AB0:=fnh AB0 E rfl;simp only [nP,zr,zq];clear E;go_wp2
 go_ret
 exact ⟨qaH HT.out.symm,by rw [HB0.out] at FR;exact FR.out.below⟩
theorem qzK {cr:List Value} {n m:Bool} {p q:Nat} (hr:cr=rat n p m q) (hp:p<BB^32) (hq:q<BB^32) (hbad:¬(p<B480∧q<B480∧n=cs1 n p∧m=false∧q≠0∧Nat.gcd p q=1)) (w:World) :
  Calls Tryz.prog 80 #[.agg cr.toArray] w fun e w'=>e=.returned (.bool false)∧Below w.heap.size w w':=by
 have V_cr:=hid hr;have HV:=hid (qtR hr hp hq hbad);clear hr hp hq hbad;obtain ⟨B0,w0,hw0,hB0,AB0,FR,FR0,HB0,hZB0⟩:=en1 w 27 (bxq cr);go_enter Tryz.func80,Tryz.ntmps80
 go_upto_region 1 with fail
 rw [←hw0,←hB0];clear hw0 hB0;refine wT [] [(3,.agg cr.toArray),(4,.bool false),(5,.bool false),(6,undef),(7,undef),(8,undef),(9,undef),(10,.bool false),(2,.bool false)] (by simp only [zr,zq];rfl) (by kernel_rfl) rfl ?_ oN oN ?_
 ·intro W' hW';refine ldR (abl AB0 hW') V_cr rfl<|fo4 ?_ ?_ ?_ ?_<|fo4 ?_ ?_ ?_ ?_<|fxn;all_goals (go_big_quiet_step ((go_at_call 98;exact qaA (HV.out _)));exact wqn rfl)
 intro β wx1 E;replace FR:=fnf FR E rfl;replace AB0:=fnh AB0 E rfl;simp only [nP,zr,zq];clear E;go_wp2
 go_ret
 exact ⟨rfl,fend HB0 FR⟩
theorem qyL {N:Int} {D:Nat} (h1:N.natAbs<B480) (h2:D<B480):∃ r,mkQ N D=some r:=by
 unfold mkQ;rw [if_pos ⟨Nat.lt_of_le_of_lt (Nat.div_le_self _ _) h1,Nat.lt_of_le_of_lt (Nat.div_le_self _ _) h2⟩];exact ⟨_,rfl⟩
theorem qhO:(1000000000000000000000000000000000:Nat)<B480:=by unfold B480 BB;decide
theorem qsS {z:Int} (h:z.natAbs<1000000000000000000000000000000000):VQ (z,1):=⟨Nat.lt_trans h qhO,Nat.lt_trans (show (1:Nat)<_ by decide) qhO,Nat.one_ne_zero,by show Nat.gcd z.natAbs 1=1;simp⟩
end Go.Proofs.YtemoddmadfoaiaaGreat
namespace Go.Proofs.YtemoddmadfoaiaaGreat
open Go.RowKit Big Reg Al Ap Ga
theorem jeI {N:Int} {D:Nat} (h:D≠0):(N.sign*(N.natAbs / Nat.gcd N.natAbs D:Nat))*(D:Int)=N*(D / Nat.gcd N.natAbs D:Nat)∧Nat.gcd (N.sign*(N.natAbs / Nat.gcd N.natAbs D:Nat)).natAbs (D / Nat.gcd N.natAbs D)=1∧D / Nat.gcd N.natAbs D≠0:=by
 have hg:=qgS (N:=N) h;have hs:=(qfR N (N.natAbs / Nat.gcd N.natAbs D) (fun h0=>by subst h0;simp)).1;refine ⟨?_,?_,?_⟩
 ·obtain ⟨a,ha⟩:=Nat.gcd_dvd_left N.natAbs D;obtain ⟨d,hd⟩:=Nat.gcd_dvd_right N.natAbs D;generalize Nat.gcd N.natAbs D=g at *
  have e1:N.natAbs / g=a:=by rw [ha,Nat.mul_div_cancel_left _ hg]
  have e2:D / g=d:=by rw [hd,Nat.mul_div_cancel_left _ hg]
  rw [e1,e2];have e3:N=N.sign*((g*a:Nat):Int):=by rw [←ha];exact (Int.sign_mul_natAbs N).symm
  have e4:(D:Int)=(g:Int)*d:=by rw [←Int.natCast_mul,←hd]
  rw [e4]
  conv=>rhs;rw [e3]
  rw [Int.natCast_mul];generalize N.sign=s
  grind
 ·rw [hs,Nat.gcd_div (Nat.gcd_dvd_left _ _) (Nat.gcd_dvd_right _ _),Nat.div_self hg]
 ·have:=Nat.div_pos (Nat.le_of_dvd (by omega) (Nat.gcd_dvd_right N.natAbs D)) hg
  omega
theorem qpF {N:Int} {D:Nat} (h:D≠0) {r:Qn} (hr:mkQ N D=some r):r.1*(D:Int)=N*(r.2:Int)∧r.1.natAbs≤N.natAbs∧r.2≤D:=by
 have hl:=jeI (N:=N) h;have hs:=(qfR N (N.natAbs / Nat.gcd N.natAbs D) (fun h0=>by subst h0;simp)).1;unfold mkQ at hr;split at hr
 ·injection hr with hr
  subst hr;refine ⟨hl.1,?_,Nat.div_le_self _ _⟩;show (N.sign*(N.natAbs / Nat.gcd N.natAbs D:Nat)).natAbs≤_
  rw [hs];exact Nat.div_le_self _ _
 ·cases hr
namespace Ga
end Ga
namespace Dl
def partQ (n:Int) (pl:Nat):Qn:=(mkQ (n*100) (10^pl)).getD (0,1)
def worthQ (p:Qn) (pl:Nat) (n:Int):Option Qn:=mulQ p (partQ n pl)
def quoQ (a:Int) (b:Qn):Option Qn:=mkQ (a*(b.2:Int)) b.1.natAbs
structure Pc (p:Qn):Prop where
 vq:VQ p
 pos:0<p.1
theorem qiC {n:Int} {pl:Nat} (h1:0≤n) (h2:n≤1000000000000000) (h3:pl≤6):mkQ (n*100) (10^pl)=some (partQ n pl):=by
 have h6:10^pl≤10^6:=Nat.pow_le_pow_right (by omega) h3;obtain ⟨r,hr⟩:=qyL (N:=n*100) (D:=10^pl) (by have:=qhO;omega) (by have:=qhO;omega);rw [partQ,hr];rfl
theorem qgO {n:Int} {pl:Nat} (h1:0≤n) (h2:n≤1000000000000000) (h3:pl≤6):VQ (partQ n pl)∧(partQ n pl).1*((10^pl:Nat):Int)=n*100*((partQ n pl).2:Int):=by
 have hp:10^pl≠0:=Nat.ne_of_gt (Nat.pow_pos (by decide));have hr:=qiC h1 h2 h3;exact ⟨qiI hp hr,(qpF hp hr).1⟩
def wA (p:Qn):Int:=100*p.1
def wB (p:Qn) (pl:Nat):Nat:=p.2*10^pl
theorem qiY {p:Qn} (h:Pc p):0<wA p:=by have:=h.pos;unfold wA;omega
theorem qmJ {p:Qn} (h:Pc p) (pl:Nat):0<wB p pl:=Nat.mul_pos (Nat.pos_of_ne_zero h.vq.pos) (Nat.pow_pos (by decide))
theorem qdH {p w:Qn} {pl:Nat} {n:Int} (hp:Pc p) (h1:0≤n) (h2:n≤1000000000000000) (h3:pl≤6) (h:worthQ p pl n=some w) :
  VQ w∧w.1*(wB p pl:Int)=n*wA p*(w.2:Int):=by
 obtain ⟨hv,he⟩:=qgO h1 h2 h3;have hD:p.2*(partQ n pl).2≠0:=Nat.mul_ne_zero hp.vq.pos hv.pos;refine ⟨qiI hD h,?_⟩;have hx:=(qpF hD h).1;generalize partQ n pl=pq at *
 obtain ⟨s,t⟩:=pq;obtain ⟨P,Q⟩:=p;obtain ⟨a,b⟩:=w;have ht:t≠0:=hv.pos;simp only [wA,wB] at hx he ⊢;rw [Int.natCast_mul] at hx ⊢;generalize ((10^pl:Nat):Int)=T at *
 have ht':(t:Int)≠0:=by omega
 refine Int.eq_of_mul_eq_mul_left ht' ?_;generalize (t:Int)=t at *
 generalize (Q:Int)=Q at *
 generalize (b:Int)=b at *
 have e1:t*(a*(Q*T))=(a*(Q*t))*T:=by grind
 rw [e1,hx];have e2:P*s*b*T=P*b*(s*T):=by grind
 rw [e2,he];grind
theorem qmH {p w:Qn} {pl:Nat} {n:Int} (hp:Pc p) (h1:0<n) (h2:n≤1000000000000000) (h3:pl≤6) (h:worthQ p pl n=some w):Pc w:=by
 obtain ⟨hv,he⟩:=qdH hp (by omega) h2 h3 h;refine ⟨hv,?_⟩;have ha:=qiY hp;have hb:=qmJ hp pl;have h0:=hv.pos;have hr:0<n*wA p*(w.2:Int):=Int.mul_pos (Int.mul_pos h1 ha) (by omega);rw [←he] at hr;exact Int.pos_of_mul_pos_left hr (by omega)
theorem jbQ {a:Int} {one q p:Qn} {pl:Nat} (hp:Pc p) (h3:pl≤6) (ho:worthQ p pl 1=some one) (h:quoQ a one=some q) :
  VQ q∧q.1*wA p=a*(wB p pl:Int)*(q.2:Int):=by
 obtain ⟨hv,he⟩:=qdH hp (by omega) (by omega) h3 ho;have hpo:=qmH hp (by omega) (by omega) h3 ho;have h1:=hpo.pos;have hD:one.1.natAbs≠0:=by omega
 refine ⟨qiI hD h,?_⟩;have hx:=(qpF hD h).1;obtain ⟨s,t⟩:=one;obtain ⟨c,d⟩:=q;have ht:t≠0:=hv.pos;simp only at hx he h1 ⊢
 rw [show ((s.natAbs:Nat):Int)=s by omega] at hx;have ht':(t:Int)≠0:=by omega
 refine Int.eq_of_mul_eq_mul_left ht' ?_;generalize (t:Int)=t at *
 generalize (wB p pl:Int)=B at *
 generalize wA p=A at *
 generalize (d:Int)=d at *
 have e1:t*(c*A)=c*(1*A*t):=by grind
 rw [e1,←he];have e2:c*(s*B)=c*s*B:=by grind
 rw [e2,hx];grind
theorem qkQ {r:Qn} {N B:Int} (hB:0<B) (h0:r.2≠0) (h:r.1*B=N*(r.2:Int)):r.1 / (r.2:Int)=N / B:=by
 have h1:r.1 / (r.2:Int)=(r.1*B) / ((r.2:Int)*B):=(Int.mul_ediv_mul_of_pos_left _ _ hB).symm;rw [h1,h,Int.mul_comm (r.2:Int) B,Int.mul_ediv_mul_of_pos_left _ _ (by omega)]
def upZ (N B:Int):Int:=-(-N / B)
theorem qjW {N B:Int} (hB:0<B):N≤upZ N B*B∧upZ N B*B<N+B:=by
 unfold upZ;have h1:=Int.emod_add_mul_ediv (-N) B;have h2:=Int.emod_nonneg (-N) (by omega:B≠0);have h3:=Int.emod_lt_of_pos (-N) hB;rw [Int.neg_mul,Int.mul_comm];generalize B*(-N / B)=z at *
 omega
theorem qkT {N B:Int} (hB:0<B):N / B*B≤N∧N<N / B*B+B:=by
 have h1:=Int.emod_add_mul_ediv N B;have h2:=Int.emod_nonneg N (by omega:B≠0);have h3:=Int.emod_lt_of_pos N hB;rw [Int.mul_comm];generalize B*(N / B)=z at *
 omega
theorem jbC {N B k:Int} (hB:0<B) (h1:N≤k*B) (h2:k*B<N+B):k=upZ N B:=by
 obtain ⟨g1,g2⟩:=qjW (N:=N) hB;have l1:k*B<(upZ N B+1)*B:=by rw [Int.add_mul];omega
 have l2:upZ N B*B<(k+1)*B:=by rw [Int.add_mul];omega
 have:=Int.lt_of_mul_lt_mul_right l1 (by omega)
 have:=Int.lt_of_mul_lt_mul_right l2 (by omega)
 omega
theorem qwI (r:Qn) (h0:r.2≠0):ceilQ r=upZ r.1 (r.2:Int):=by
 have hq:(0:Int)<(r.2:Int):=by omega
 refine jbC hq ?_ ?_
 ·obtain ⟨g1,g2⟩:=qkT (N:=r.1) hq;have e:=Int.emod_add_mul_ediv r.1 (r.2:Int);rw [Int.mul_comm] at e;unfold ceilQ;split
  ·omega
  ·rw [Int.add_mul];omega
 ·obtain ⟨g1,g2⟩:=qkT (N:=r.1) hq;have e:=Int.emod_add_mul_ediv r.1 (r.2:Int);rw [Int.mul_comm] at e
  have:=Int.emod_nonneg r.1 (by omega:(r.2:Int)≠0)
  unfold ceilQ;split
  ·omega
  ·rw [Int.add_mul];omega
theorem qwJ {r:Qn} {N B:Int} (hB:0<B) (h0:r.2≠0) (h:r.1*B=N*(r.2:Int)):ceilQ r=upZ N B:=by
 rw [qwI r h0]
 have:=qkQ (r:=(-r.1,r.2)) (N:=-N) hB h0 (by simp only;rw [Int.neg_mul,Int.neg_mul,h])
 unfold upZ;rw [this]
end Dl
namespace Dl
structure Nt where
 key:ByteArray
 nom:ByteArray
 hol:ByteArray
 kind:Int
 units:Int
 money:Int
 lots:List Lot
def zeroN:Nt:=⟨ByteArray.mk #[],ByteArray.mk #[],ByteArray.mk #[],0,0,0,[]⟩
def noteO (o:Od) (n m:Int) (x:List Lot):Nt:=⟨o.key,o.nom,o.hol,o.kind,n,m,x⟩
def mostZ:Int:=1000000000000000
def manyQ (p:Qn) (pl:Nat) (a:Int):Option Qn:=match worthQ p pl 1 with|none=>none|some one=>quoQ a one
def redN (bid:Qn) (pl:Nat) (has:Int) (o:Od):Except Int (Int × Int) :=
 if o.kind=3 then .ok (min has o.units,0)
 else if o.kind=4 then match manyQ bid pl o.amount with
  | none=>.error 10
  | some q=>if ceilQ q≤has then .ok (ceilQ q,o.amount) else .ok (has,0)
 else .ok (has,0)
def moneyZ (w:Option Qn) (f:Qn→Int):Except Int Int:=match w with
 | none=>.error 10
 | some w=>if f w≤mostZ then .ok (f w) else .error 33
def dnQ (q:Qn):Int:=q.1 / (q.2:Int)
def redM (bid:Qn) (pl:Nat) (n m:Int):Except Int Int:=if m=0 then moneyZ (worthQ bid pl n) dnQ else .ok m
def redO (bid:Qn) (pl:Nat) (l:List Lot) (o:Od):Except Int (List Lot × Nt) :=
 match redN bid pl (sumU (ownL o.nom o.hol l)) o with
 | .error e=>.error e
 | .ok (n,m)=>match redM bid pl n m with
  | .error e=>.error e
  | .ok m=>.ok ((takeR o.nom o.hol l n).1,noteO o n m (takeR o.nom o.hol l n).2)
def issO (ser:Int) (l:List Lot) (o:Od) (n m:Int):Except Int (List Lot × Nt) :=
 if mostZ - sumU l<n then .error 253
 else if 256<(putL l ⟨o.nom,o.hol,ser,n⟩).length then .error 254
 else .ok (putL l ⟨o.nom,o.hol,ser,n⟩,noteO o n m [⟨o.nom,o.hol,ser,n⟩])
def subO (offer:Qn) (pl:Nat) (ser:Int) (l:List Lot) (o:Od):Except Int (List Lot × Nt) :=
 if o.kind=1 then match manyQ offer pl o.amount with
  | none=>.error 10
  | some q=>if mostZ<dnQ q then .error 253 else if dnQ q=0 then .ok (l,noteO o 0 0 []) else issO ser l o (dnQ q) o.amount
 else match worthQ offer pl o.units with
  | none=>.error 10
  | some w=>if mostZ - sumU l<o.units then .error 253 else if mostZ<ceilQ w then .error 33 else issO ser l o o.units (ceilQ w)
def subs (o:Od):Bool:=decide (o.kind=1) || decide (o.kind=2)
def passP (sel:Od→Bool) (f:List Lot→Od→Except Int (List Lot × Nt)):List Tk→Nat→List Lot→List Nt→Except Int (List Lot × List Nt)
 | [],_,l,N=>.ok (l,N)
 | t::ts,k,l,N=>if sel t.o=true then match f l t.o with
   | .error e=>.error e
   | .ok (l',x)=>passP sel f ts (k+1) l' (N.set k x)
  else passP sel f ts (k+1) l N
def dealL (l:List Lot) (ts:List Tk) (offer bid:Qn) (pl:Nat) (ser:Int):Except Int (List Lot × List Nt) :=
 match passP (fun o=>!subs o) (redO bid pl) ts 0 l (List.replicate ts.length zeroN) with
 | .error e=>.error e
 | .ok (l',N)=>passP subs (subO offer pl ser) ts 0 l' N
end Dl
namespace Dl
structure Ask (o:Od):Prop where
 amt:(o.kind=1∨o.kind=4)→1≤o.amount∧o.amount≤1000000000000000
 unt:(o.kind=2∨o.kind=3)→1≤o.units∧o.units≤1000000000000000
 knd:1≤o.kind∧o.kind≤5
theorem jeV {o:Od} (h:okO o=true):Ask o:=by
 unfold okO askO at h;simp only [Bool.and_eq_true] at h;obtain ⟨_,_,h⟩:=h;unfold inR at h;split at h
 ·rename_i hk
  simp only [Bool.and_eq_true,decide_eq_true_eq] at h;exact ⟨fun _=>h.1,fun _=>by omega,by omega⟩
 ·split at h
  ·rename_i hk
   simp only [Bool.and_eq_true,decide_eq_true_eq] at h;exact ⟨fun _=>by omega,fun _=>h.1,by omega⟩
  ·split at h
   ·exact ⟨fun _=>by omega,fun _=>by omega,by omega⟩
   ·cases h
structure RedG (bid:Qn) (pl:Nat) (o:Od) (x:Nt):Prop where
 key:x.key=o.key∧x.nom=o.nom∧x.hol=o.hol∧x.kind=o.kind
 unt:0≤x.units∧x.units≤1000000000000000
 mny:0≤x.money∧x.money≤1000000000000000
 top:x.money*(wB bid pl:Int)≤x.units*wA bid
 low:x.units*wA bid<x.money*(wB bid pl:Int)+wA bid+(wB bid pl:Int)
structure SubG (offer:Qn) (pl:Nat) (o:Od) (x:Nt):Prop where
 key:x.key=o.key∧x.nom=o.nom∧x.hol=o.hol∧x.kind=o.kind
 unt:0≤x.units∧x.units≤1000000000000000
 mny:0≤x.money∧x.money≤1000000000000000
 top:x.units*wA offer≤x.money*(wB offer pl:Int)
 low:x.money*(wB offer pl:Int)<x.units*wA offer+wA offer+(wB offer pl:Int)
theorem qhK {p q:Qn} {pl:Nat} {a:Int} (hp:Pc p) (h3:pl≤6) (h:manyQ p pl a=some q):VQ q∧q.1*wA p=a*(wB p pl:Int)*(q.2:Int):=by
 unfold manyQ at h;split at h
 ·cases h
 ·rename_i one ho
  exact jbQ hp h3 ho h
theorem qyK {p:Qn} {pl:Nat} {n m:Int} (hp:Pc p) (h3:pl≤6) (h1:0≤n) (h2:n≤1000000000000000) (h:moneyZ (worthQ p pl n) dnQ=.ok m) :
  0≤m∧m≤1000000000000000∧m=n*wA p / (wB p pl:Int):=by
 unfold moneyZ at h;split at h
 ·cases h
 ·rename_i w hw
  obtain ⟨v,e⟩:=qdH hp h1 h2 h3 hw;split at h
  ·rename_i hm
   injection h with h
   subst h;have hb:=qmJ hp pl;have hf:=qkQ (by omega) v.pos e;unfold mostZ dnQ at *;refine ⟨?_,hm,hf⟩;rw [hf];exact Int.ediv_nonneg (Int.mul_nonneg h1 (by have:=qiY hp;omega)) (by omega)
  ·cases h
theorem qtX {bid:Qn} {pl:Nat} {l l':List Lot} {o:Od} {x:Nt} (hp:Pc bid) (h3:pl≤6) (ho:Ask o) (hs0:0≤sumU (ownL o.nom o.hol l)) (hs:sumU (ownL o.nom o.hol l)≤1000000000000000)
  (h:redO bid pl l o=.ok (l',x)):RedG bid pl o x∧x.units≤sumU (ownL o.nom o.hol l)∧l'=(takeR o.nom o.hol l x.units).1∧x.lots=(takeR o.nom o.hol l x.units).2:=by
 have hA:=qiY hp;have hB:=qmJ hp pl;unfold redO at h;generalize sumU (ownL o.nom o.hol l)=has at *
 split at h
 ·cases h
 ·rename_i n m0 hn
  split at h
  ·cases h
  ·rename_i m hm
   simp only [Except.ok.injEq,Prod.mk.injEq] at h;obtain ⟨rfl,rfl⟩:=h
   -- the units,and the money if it was asked for
   have hN:0≤n∧n≤has∧(m0=0∨(1≤m0∧m0≤1000000000000000∧m0*(wB bid pl:Int)≤n*wA bid∧n*wA bid<m0*(wB bid pl:Int)+wA bid)):=by
    unfold redN at hn;split at hn
    ·rename_i hk
     simp only [Except.ok.injEq,Prod.mk.injEq] at hn;obtain ⟨rfl,rfl⟩:=hn
     have:=ho.unt (.inr hk)
     omega
    ·split at hn
     ·rename_i hk
      have ha:=ho.amt (.inr hk);split at hn
      ·cases hn
      ·rename_i q hq
       obtain ⟨v,e⟩:=qhK hp h3 hq;have hc:=qwJ hA v.pos e;obtain ⟨u1,u2⟩:=qjW (N:=o.amount*(wB bid pl:Int)) hA;rw [←hc] at u1 u2;split at hn
       ·simp only [Except.ok.injEq,Prod.mk.injEq] at hn;obtain ⟨rfl,rfl⟩:=hn;refine ⟨?_,by omega,.inr ⟨ha.1,ha.2,u1,u2⟩⟩;have h1:0<o.amount*(wB bid pl:Int):=Int.mul_pos (by omega) (by omega);exact Int.le_of_lt (Int.pos_of_mul_pos_left (by omega) hA)
       ·simp only [Except.ok.injEq,Prod.mk.injEq] at hn;obtain ⟨rfl,rfl⟩:=hn;exact ⟨hs0,by omega,.inl rfl⟩
     ·simp only [Except.ok.injEq,Prod.mk.injEq] at hn;obtain ⟨rfl,rfl⟩:=hn;exact ⟨hs0,by omega,.inl rfl⟩
   obtain ⟨n1,n2,n3⟩:=hN
   have hM:0≤m∧m≤1000000000000000∧m*(wB bid pl:Int)≤n*wA bid∧n*wA bid<m*(wB bid pl:Int)+wA bid+(wB bid pl:Int):=by
    unfold redM at hm;split at hm
    ·obtain ⟨m1,m2,m3⟩:=qyK hp h3 n1 (by omega) hm;obtain ⟨d1,d2⟩:=qkT (N:=n*wA bid) (show (0:Int)<(wB bid pl:Int) by omega);rw [←m3] at d1 d2;exact ⟨m1,m2,d1,by omega⟩
    ·injection hm with hm
     subst hm;rcases n3 with n3|⟨n3,n4,n5,n6⟩
     ·contradiction
     ·exact ⟨by omega,n4,n5,by omega⟩
   exact ⟨⟨⟨rfl,rfl,rfl,rfl⟩,⟨n1,by simp only [noteO];omega⟩,⟨hM.1,hM.2.1⟩,hM.2.2.1,hM.2.2.2⟩,n2,rfl,rfl⟩
theorem qtI {offer:Qn} {pl:Nat} {ser:Int} {l l':List Lot} {o:Od} {x:Nt} (hp:Pc offer) (h3:pl≤6) (ho:Ask o) (hk:subs o=true) (hs0:0≤sumU l)
  (h:subO offer pl ser l o=.ok (l',x)):SubG offer pl o x∧(x.units=0∧l'=l∧x.lots=[]∨1≤x.units∧x.units≤1000000000000000 - sumU l∧l'=putL l ⟨o.nom,o.hol,ser,x.units⟩∧l'.length≤256∧x.lots=[⟨o.nom,o.hol,ser,x.units⟩]):=by
 have hA:=qiY hp;have hB:=qmJ hp pl
 have hI:∀ n m:Int,1≤n→0≤m→m≤1000000000000000→n*wA offer≤m*(wB offer pl:Int)→m*(wB offer pl:Int)<n*wA offer+wA offer+(wB offer pl:Int)→issO ser l o n m=.ok (l',x) →
   SubG offer pl o x∧(x.units=0∧l'=l∧x.lots=[]∨1≤x.units∧x.units≤1000000000000000 - sumU l∧l'=putL l ⟨o.nom,o.hol,ser,x.units⟩∧l'.length≤256∧x.lots=[⟨o.nom,o.hol,ser,x.units⟩]):=by
  intro n m g1 g2 g3 g4 g5 g;unfold issO at g;split at g
  ·cases g
  ·split at g
   ·cases g
   ·rename_i q1 q2
    simp only [Except.ok.injEq,Prod.mk.injEq] at g;obtain ⟨rfl,rfl⟩:=g;unfold mostZ at q1;exact ⟨⟨⟨rfl,rfl,rfl,rfl⟩,⟨by simp only [noteO];omega,by simp only [noteO];omega⟩,⟨g2,g3⟩,g4,g5⟩,.inr ⟨g1,by simp only [noteO];omega,rfl,by omega,rfl⟩⟩
 unfold subO at h;split at h
 ·rename_i hk1
  have ha:=ho.amt (.inl hk1);split at h
  ·cases h
  ·rename_i q hq
   obtain ⟨v,e⟩:=qhK hp h3 hq;have hc:=qkQ hA v.pos e;obtain ⟨d1,d2⟩:=qkT (N:=o.amount*(wB offer pl:Int)) hA;rw [←hc] at d1 d2;have h1:0<o.amount*(wB offer pl:Int):=Int.mul_pos (by omega) (by omega)
   have h0:0≤dnQ q:=by
    show 0≤q.1 / (q.2:Int)
    rw [hc];exact Int.ediv_nonneg (by omega) (by omega)
   change dnQ q*wA offer≤_ at d1
   change _<dnQ q*wA offer+_ at d2
   split at h
   ·cases h
   ·split at h
    ·simp only [Except.ok.injEq,Prod.mk.injEq] at h;obtain ⟨rfl,rfl⟩:=h;exact ⟨⟨⟨rfl,rfl,rfl,rfl⟩,by simp [noteO],by simp [noteO],by simp [noteO],by simp only [noteO];omega⟩,.inl ⟨rfl,rfl,rfl⟩⟩
    ·exact hI _ _ (by omega) (by omega) ha.2 d1 (by omega) h
 ·rename_i hk1
  have hk2:o.kind=2:=by
   unfold subs at hk;simp only [Bool.or_eq_true,decide_eq_true_eq] at hk;omega
  have hu:=ho.unt (.inl hk2);split at h
  ·cases h
  ·rename_i w hw
   obtain ⟨v,e⟩:=qdH hp (by omega) hu.2 h3 hw;have hc:=qwJ (by omega) v.pos e;obtain ⟨d1,d2⟩:=qjW (N:=o.units*wA offer) (show (0:Int)<(wB offer pl:Int) by omega);rw [←hc] at d1 d2;have h1:0<o.units*wA offer:=Int.mul_pos (by omega) hA;have h0:0<ceilQ w:=Int.pos_of_mul_pos_left (show 0<ceilQ w*(wB offer pl:Int) by omega) (by omega);split at h
   ·cases h
   ·split at h
    ·cases h
    ·rename_i g1 g2
     unfold mostZ at g2;exact hI _ _ hu.1 (by omega) (by omega) d1 (by omega) h
end Dl
namespace Dl
end Dl
namespace Dl
end Dl
namespace Dl
def Val (r:Qn) (x B:Int):Prop:=r.2≠0∧r.1*B=x*(r.2:Int)
theorem jdM {R T:Qn} {x y B:Int} (hB:0<B) (hR:Val R x B) (hT:Val T y B) (h:x≤y):R.1*(T.2:Int)≤T.1*(R.2:Int):=by
 obtain ⟨r0,r1⟩:=hR;obtain ⟨t0,t1⟩:=hT;have k:=Int.mul_le_mul_of_nonneg_right h (show (0:Int)≤(R.2:Int)*(T.2:Int) from Int.mul_nonneg (by omega) (by omega));refine Int.le_of_mul_le_mul_right (a:=B) ?_ (by omega);have e1:R.1*(T.2:Int)*B=(R.1*B)*(T.2:Int):=by grind
 have e2:T.1*(R.2:Int)*B=(T.1*B)*(R.2:Int):=by grind
 rw [e1,e2,r1,t1];have e3:x*(R.2:Int)*(T.2:Int)=x*((R.2:Int)*(T.2:Int)):=by grind
 have e4:y*(T.2:Int)*(R.2:Int)=y*((R.2:Int)*(T.2:Int)):=by grind
 rw [e3,e4];exact k
theorem qrE {R:Qn} {x B:Int} (hB:0<B) (hR:Val R x B) (h:0≤x):0≤R.1:=by
 have:=jdM (R:=(0,1)) (x:=0) hB ⟨by decide,by simp⟩ hR h
 simpa using this
theorem qsT {p w:Qn} {pl:Nat} {n:Int} (hp:Pc p) (h1:0≤n) (h2:n≤1000000000000000) (h3:pl≤6) (h:worthQ p pl n=some w):Val w (n*wA p) (wB p pl:Int):=by
 obtain ⟨v,e⟩:=qdH hp h1 h2 h3 h;exact ⟨v.pos,e⟩
end Dl
namespace Dl
def quo2 (a b:Qn):Option Qn:=mkQ (a.1*(b.2:Int)) (a.2*b.1.natAbs)
theorem qyD (a:Int) (b:Qn):quoQ a b=quo2 (a,1) b:=by simp [quoQ,quo2]
end Dl
end Go.Proofs.YtemoddmadfoaiaaGreat
set_option maxHeartbeats 8000000
namespace Go.Proofs.YtemoddmadfoaiaaGreat
open Go.RowKit Big
open Lib (hid)
theorem jbS {ca cb cN cD:List Value} {na n:Bool} {pa qa pb qb v d:Nat} (h1:ca=rat na pa false qa) (h2:cb=rat false pb false qb) (hN:cN=.bool n::lv 32 v) (hD:cD=.bool false::lv 32 d)
  (hv:v=pa*qb) (hd:d=qa*pb) (hn:n=cs1 (na != false) v) (b1:pa<B480) (b2:qa<B480) (b3:pb<B480) (b4:qb<B480) (w:World) :
  Calls Tryz.prog 153 #[.agg ca.toArray,.agg cb.toArray] w fun e w'=>e=.returned (.tuple #[.agg cN.toArray,.agg cD.toArray])∧Below w.heap.size w w':=by
 have V_ca:=hid h1;have V_cb:=hid h2;have V_cN:=hid hN;have V_cD:=hid hD;have u30:BB^30≤BB^32:=Nat.pow_le_pow_right qaX (by omega);have hvB:v<BB^30:=by rw [hv];exact qeD b1 b4
 have hdB:d<BB^30:=by rw [hd];exact qeD b2 b3
 obtain ⟨cna,V_cna⟩:∃ c:List Value,Hid (c=.bool na::lv 32 pa):=⟨_,hid rfl⟩;obtain ⟨cda,V_cda⟩:∃ c:List Value,Hid (c=.bool false::lv 32 qa):=⟨_,hid rfl⟩;obtain ⟨cnb,V_cnb⟩:∃ c:List Value,Hid (c=.bool false::lv 32 pb):=⟨_,hid rfl⟩;obtain ⟨cdb,V_cdb⟩:∃ c:List Value,Hid (c=.bool false::lv 32 qb):=⟨_,hid rfl⟩;obtain ⟨cz,V_cz⟩:∃ c:List Value,Hid (c=.bool false::lv 32 0):=⟨_,hid rfl⟩;have HPN:=hid (qgK V_cna.out V_cdb.out V_cN.out hv hn (qaO b1) (qaO b4) (by omega));have HPD:=hid (qgK V_cda.out V_cnb.out V_cD.out hd rfl (qaO b2) (qaO b3) (by omega));clear h1 h2 hN hD hv hd hn b1 b2 b3 b4 u30 hvB hdB;obtain ⟨B0,B1,B2,B3,w0,hw0,hB0,hB1,hB2,hB3,AB0,AB1,AB2,AB3,FR,FR0,HB0,hZB0,l01,hZB1,l12,hZB2,l23,hZB3⟩:=en4 w 27 27 25 25 (bxq ca) (bxq cb) (zQI V_cz) (zQI V_cz);unfold zero33 at hw0;go_enter Tryz.func153,Tryz.ntmps153
 go_upto_region 1 with fail
 rw [←hw0,←hB3,←hB2,←hB1,←hB0];clear hw0 hB0 hB1 hB2 hB3;have AB0_n:=hid (AB0.out.num V_ca.out V_cna.out);have AB0_d:=hid (AB0.out.den V_ca.out V_cda.out);have AB1_n:=hid (AB1.out.num V_cb.out V_cnb.out);have AB1_d:=hid (AB1.out.den V_cb.out V_cdb.out);refine wF [⟨false,0,4,10,B2,0,25,10,cN,0,cN,[]⟩,⟨false,0,5,11,B3,0,25,15,cD,0,cD,[]⟩] [(6,.pointer (some ⟨B0,0,none⟩)),(7,.agg cna.toArray),(8,.pointer (some ⟨B1,33,none⟩)),(9,.agg cdb.toArray),(10,.agg cN.toArray),(11,.pointer (some ⟨B0,33,none⟩)),(12,.agg cda.toArray),(13,.pointer (some ⟨B1,0,none⟩)),(14,.agg cnb.toArray),(15,.agg cD.toArray)] (by simp only [zr,zq];rfl) (by kernel_rfl) ?_ ?_ (oP _ _ bnC (fP1 bnC)) ?_ ?_ ?_ ?_
 ·intro W' hW';refine fxo ?_<|ldI (abl AB0_n hW') V_cna rfl<|fxo ?_<|ldI (abl AB1_d hW') V_cdb rfl<|fo2 ?_ ?_<|ldI (abl AB0_d hW') V_cda rfl<|fxo ?_<|ldI (abl AB1_n hW') V_cnb rfl<|fxo (by go_big_quiet_step ((go_at_call 79;exact qaA (HPD.out _)));exact wqn rfl)<|fxs rfl<|fxs rfl<|fxn;all_goals (go_big_quiet_step ((go_at_call 79;exact qaA (HPN.out _)));exact wqn rfl)
 ·intro W' hK';have rd0:=At.keep hK' AB0_n.out (oP _ _ (fun _=>(by show B2≠B0;omega)) (oP _ _ (fun _=>(by show B3≠B0;omega)) (oN)));have rd1:=At.keep hK' AB1_d.out (oP _ _ (fun _=>(by show B2≠B1;omega)) (oP _ _ (fun _=>(by show B3≠B1;omega)) (oN)));have rd2:=At.keep hK' AB0_d.out (oP _ _ (fun _=>(by show B2≠B0;omega)) (oP _ _ (fun _=>(by show B3≠B0;omega)) (oN)));have rd3:=At.keep hK' AB1_n.out (oP _ _ (fun _=>(by show B2≠B1;omega)) (oP _ _ (fun _=>(by show B3≠B1;omega)) (oN)));refine fxi ?_<|ldI rd0 V_cna rfl<|fxi ?_<|ldI rd1 V_cdb rfl<|fxs (by kernel_rfl)<|fxi ?_<|ldI rd2 V_cda rfl<|fxi ?_<|ldI rd3 V_cnb rfl<|fxs (by kernel_rfl)<|fxs (by kernel_rfl)<|fxs (by kernel_rfl)<|fxn;all_goals (first|(refine .inr ?_;go_big_quiet_step (fail);exact wqn rfl)|exact .inl (by kernel_rfl))
 ·exact oP _ _ (fun _=>⟨AB2.out.lt,rfl,At.room AB2.out (qI V_cz.out) (qI V_cN.out)⟩) (oP _ _ (fun _=>⟨AB3.out.lt,rfl,At.room AB3.out (qI V_cz.out) (qI V_cD.out)⟩) (oN))
 ·intro q hq r hr hqn hrn e;simp only [List.mem_cons,List.not_mem_nil,or_false] at hq hr;rcases hq with rfl|rfl<;>rcases hr with rfl|rfl<;>first|rfl|(exact Bool.noConfusion hqn)|(exact Bool.noConfusion hrn)|(exfalso;simp only at e;omega)
 ·exact oP _ _ (stw rfl (qI V_cN.out) (qfM V_cN.out) (fun _=>rfl)) (oP _ _ (stw rfl (qI V_cD.out) (qfM V_cD.out) (fun _=>rfl)) (oN))
 intro β wx1 E;replace FR:=hid (FR.out.flow E (oP _ _ (fun _=>(by show B0≤B2;omega)) (oP _ _ (fun _=>(by show B0≤B3;omega)) (oN))));replace AB0:=hid (At.flow E AB0.out (oP _ _ (fun _=>(by show B2≠B0;omega)) (oP _ _ (fun _=>(by show B3≠B0;omega)) (oN))));replace AB1:=hid (At.flow E AB1.out (oP _ _ (fun _=>(by show B2≠B1;omega)) (oP _ _ (fun _=>(by show B3≠B1;omega)) (oN))));replace AB2:=hid (show At wx1 B2 0 cN from E.atOld mms rfl AB2.out.lt);replace AB3:=hid (show At wx1 B3 0 cD from E.atOld (List.mem_cons_of_mem _ mms) rfl AB3.out.lt);replace AB0_n:=hid (At.flow E AB0_n.out (oP _ _ (fun _=>(by show B2≠B0;omega)) (oP _ _ (fun _=>(by show B3≠B0;omega)) (oN))));replace AB0_d:=hid (At.flow E AB0_d.out (oP _ _ (fun _=>(by show B2≠B0;omega)) (oP _ _ (fun _=>(by show B3≠B0;omega)) (oN))));replace AB1_n:=hid (At.flow E AB1_n.out (oP _ _ (fun _=>(by show B2≠B1;omega)) (oP _ _ (fun _=>(by show B3≠B1;omega)) (oN))));replace AB1_d:=hid (At.flow E AB1_d.out (oP _ _ (fun _=>(by show B2≠B1;omega)) (oP _ _ (fun _=>(by show B3≠B1;omega)) (oN))));simp only [nP,zr,zq];clear E;go_wp2_with fail
 have hld0:=AB2.out.read (P:=Tryz.prog) Tryz.underlying25 rfl (qI V_cN.out);have hld1:=AB3.out.read (P:=Tryz.prog) Tryz.underlying25 rfl (qI V_cD.out);refine bodyPost_ret (v:=.tuple #[.agg cN.toArray,.agg cD.toArray]) (by simp [results,Tryz.results153,asAddr,hld0,hld1]) rfl ?_;exact ⟨rfl,fend HB0 FR⟩
theorem qzW {ca cb cN cD cR:List Value} {na nb:Bool} {pa qa pb qb:Nat} {code:Int} (w:World) (h1:ca=rat na pa false qa) (h2:cb=rat nb pb false qb)
  (ha:∀ W,Calls Tryz.prog 106 #[.agg ca.toArray] W fun e w'=>e=.returned (.bool true)∧Below W.heap.size W w') (hb:∀ W,Calls Tryz.prog 106 #[.agg cb.toArray] W fun e w'=>e=.returned (.bool true)∧Below W.heap.size W w')
  (hC:∀ W,Calls Tryz.prog 153 #[.agg ca.toArray,.agg cb.toArray] W fun e w'=>e=.returned (.tuple #[.agg cN.toArray,.agg cD.toArray])∧Below W.heap.size W w')
  (hMk:∀ W,Calls Tryz.prog 75 #[.agg cN.toArray,.agg cD.toArray] W fun e w'=>e=.returned (.tuple #[.agg cR.toArray,.int .i64 code])∧Below W.heap.size W w') {rn:Bool} {rp rq:Nat} {rm:Bool} (hcR:cR=rat rn rp rm rq) :
  Calls Tryz.prog 77 #[.agg ca.toArray,.agg cb.toArray,.func (.func 153) #[] #[]] w fun e w'=>e=.returned (.tuple #[.agg cR.toArray,.int .i64 code])∧Below w.heap.size w w':=by
 have V_ca:=hid h1;have V_cb:=hid h2;have V_cR:=hid hcR;obtain ⟨cz,V_cz⟩:∃ c:List Value,Hid (c=rat false 0 false 0):=⟨_,hid rfl⟩;have HA:=hid ha;have HB:=hid hb;have HC:=hid hC;have HK:=hid hMk;clear h1 h2 ha hb hC hMk hcR;obtain ⟨B0,B1,B2,w0,hw0,hB0,hB1,hB2,AB0,AB1,AB2,FR,FR0,HB0,hZB0,l01,hZB1,l12,hZB2⟩:=en3 w 27 27 27 (bxq ca) (bxq cb) (zQR V_cz);go_enter Tryz.func77,Tryz.ntmps77
 go_upto_region 1 with fail
 rw [←hw0,←hB2,←hB1,←hB0];clear hw0 hB0 hB1 hB2;refine wT [] [(8,.agg ca.toArray),(9,.bool true),(10,.bool false),(11,.bool false),(12,.agg cb.toArray),(13,.bool true),(14,.bool false),(15,.bool false)] (by simp only [zr,zq];rfl) (by kernel_rfl) rfl ?_ oN oN ?_
 ·intro W' hW';refine ldR (abl AB0 hW') V_ca rfl<|fo3 ?_ ?_ ?_<|ldR (abl AB1 hW') V_cb rfl<|fxo (by go_big_quiet_step ((go_at_call 106;exact qaA (HB.out _)));exact wqn rfl)<|fo2 ?_ ?_<|fxn;all_goals (go_big_quiet_step ((go_at_call 106;exact qaA (HA.out _)));exact wqn rfl)
 intro β wx1 E;replace FR:=fnf FR E rfl;replace AB0:=fnh AB0 E rfl;replace AB1:=fnh AB1 E rfl;replace AB2:=fnh AB2 E rfl;simp only [nP,zr,zq];clear E;go_upto_region 3 with fail
 refine wF [⟨false,0,6,9,B2,0,27,24,cR,0,cR,[]⟩] [(17,.func (.func 153) #[] #[]),(18,.agg ca.toArray),(19,.agg cb.toArray),(20,.tuple #[.agg cN.toArray,.agg cD.toArray]),(21,.agg cN.toArray),(22,.agg cD.toArray),(23,.tuple #[.agg cR.toArray,.int .i64 code]),(24,.agg cR.toArray),(25,.int .i64 code),(7,.int .i64 code)] (by simp only [zr,zq];rfl) (by kernel_rfl) ?_ ?_ (fP1 bnC) ?_ uno ?_ ?_
 ·intro W' hW';refine fxo ?_<|ldR (abl AB0 hW') V_ca rfl<|ldR (abl AB1 hW') V_cb rfl<|fo3 ?_ ?_ ?_<|fxo (by go_big_quiet_step ((go_at_call 75;exact qaA (HK.out _)));exact wqn rfl)<|fo2 ?_ ?_<|fxs rfl<|fxo ?_<|fxn;all_goals (go_big_quiet_step ((go_at_call 153;exact qaA (HC.out _)));exact wqn rfl)
 ·intro W' hK';have rd0:=akh AB0 hK' (by show B2≠B0;omega);have rd1:=akh AB1 hK' (by show B2≠B1;omega);refine fxi ?_<|ldR rd0 V_ca rfl<|ldR rd1 V_cb rfl<|fxs (by kernel_rfl)<|fxi ?_<|fxi ?_<|fxs (by kernel_rfl)<|fxi ?_<|fxi ?_<|fxs (by kernel_rfl)<|fxi ?_<|fxn;all_goals (first|(refine .inr ?_;go_big_quiet_step (fail);exact wqn rfl)|exact .inl (by kernel_rfl))
 ·exact fP1 (fun _=>⟨AB2.out.lt,rfl,At.room AB2.out (qR V_cz.out) (qR V_cR.out)⟩)
 ·exact fP1 (sR V_cR (fun _=>rfl) rfl)
 intro β wx2 E;replace FR:=ffh FR E (by show B0≤B2;omega);replace AB0:=afh AB0 E (by show B2≠B0;omega);replace AB1:=afh AB1 E (by show B2≠B1;omega);replace AB2:=hid (show At wx2 B2 0 cR from E.atOld mms rfl AB2.out.lt);simp only [nP,zr,zq];clear E;go_wp2_with fail
 have hld:=AB2.out.read (P:=Tryz.prog) Tryz.underlying27 rfl (qR V_cR.out);refine bodyPost_ret (v:=.tuple #[.agg cR.toArray,.int .i64 code]) (by simp [results,Tryz.results77,asAddr,hld]) rfl ?_;exact ⟨rfl,fend HB0 FR⟩
theorem jbR {ca cb cR:List Value} {na nb:Bool} {pa qa pb qb:Nat} {code:Int} (w:World) (h1:ca=rat na pa false qa) (h2:cb=rat nb pb false qb) {rn:Bool} {rp rq:Nat} {rm:Bool} (hcR:cR=rat rn rp rm rq)
  (hC:∀ W,Calls Tryz.prog 77 #[.agg ca.toArray,.agg cb.toArray,.func (.func 153) #[] #[]] W fun e w'=>e=.returned (.tuple #[.agg cR.toArray,.int .i64 code])∧Below W.heap.size W w') :
  Calls Tryz.prog 122 #[.agg ca.toArray,.agg cb.toArray] w fun e w'=>e=.returned (.tuple #[.agg cR.toArray,.int .i64 code])∧Below w.heap.size w w':=by
 have V_ca:=hid h1;have V_cb:=hid h2;have V_cR:=hid hcR;obtain ⟨cz,V_cz⟩:∃ c:List Value,Hid (c=rat false 0 false 0):=⟨_,hid rfl⟩;have HC:=hid hC;clear h1 h2 hC hcR;obtain ⟨B0,B1,B2,w0,hw0,hB0,hB1,hB2,AB0,AB1,AB2,FR,FR0,HB0,hZB0,l01,hZB1,l12,hZB2⟩:=en3 w 27 27 27 (bxq ca) (bxq cb) (zQR V_cz);go_enter Tryz.func122,Tryz.ntmps122
 go_upto_region 1 with fail
 rw [←hw0,←hB2,←hB1,←hB0];clear hw0 hB0 hB1 hB2;refine wF [⟨false,0,4,5,B2,0,27,9,cR,0,cR,[]⟩] [(6,.agg ca.toArray),(7,.agg cb.toArray),(8,.tuple #[.agg cR.toArray,.int .i64 code]),(9,.agg cR.toArray),(10,.int .i64 code),(5,.int .i64 code)] (by simp only [zr,zq];rfl) (by kernel_rfl) ?_ ?_ (fP1 bnC) ?_ uno ?_ ?_
 ·intro W' hW';refine ldR (abl AB0 hW') V_ca rfl<|ldR (abl AB1 hW') V_cb rfl<|fo3 ?_ ?_ ?_<|fxs rfl<|fxo ?_<|fxn;all_goals (go_big_quiet_step ((go_at_call 77;exact qaA (HC.out _)));exact wqn rfl)
 ·intro W' hK';have rd0:=akh AB0 hK' (by show B2≠B0;omega);have rd1:=akh AB1 hK' (by show B2≠B1;omega);refine ldR rd0 V_ca rfl<|ldR rd1 V_cb rfl<|fxs (by kernel_rfl)<|fxi ?_<|fxi ?_<|fxs (by kernel_rfl)<|fxi ?_<|fxn;all_goals (first|(refine .inr ?_;go_big_quiet_step (fail);exact wqn rfl)|exact .inl (by kernel_rfl))
 ·exact fP1 (fun _=>⟨AB2.out.lt,rfl,At.room AB2.out (qR V_cz.out) (qR V_cR.out)⟩)
 ·exact fP1 (sR V_cR (fun _=>rfl) rfl)
 intro β wx1 E;replace FR:=ffh FR E (by show B0≤B2;omega);replace AB0:=afh AB0 E (by show B2≠B0;omega);replace AB1:=afh AB1 E (by show B2≠B1;omega);replace AB2:=hid (show At wx1 B2 0 cR from E.atOld mms rfl AB2.out.lt);simp only [nP,zr,zq];clear E;go_wp2_with fail
 have hld:=AB2.out.read (P:=Tryz.prog) Tryz.underlying27 rfl (qR V_cR.out);refine bodyPost_ret (v:=.tuple #[.agg cR.toArray,.int .i64 code]) (by simp [results,Tryz.results122,asAddr,hld]) rfl ?_;exact ⟨rfl,fend HB0 FR⟩
theorem pquoQ {ca cb cR:List Value} {a b:Qn} {code:Int} (h1:ca=ratZ a.1 a.2) (h2:cb=ratZ b.1 b.2) (ha:VQ a) (hb:VQ b) (hp:0<b.1) (hR:cR=resR (Dl.quo2 a b)) (hc:code=resE (Dl.quo2 a b)) (w:World) :
  Calls Tryz.prog 122 #[.agg ca.toArray,.agg cb.toArray] w fun e w'=>e=.returned (.tuple #[.agg cR.toArray,.int .i64 code])∧Below w.heap.size w w':=by
 have e1:=quV ha.num hb.den;have e2:=quV ha.den hb.num;have B1:(a.1*(b.2:Int)).natAbs<BB^32:=by rw [Int.natAbs_mul,Int.natAbs_natCast];exact b30 e1
 have B2:a.2*b.1.natAbs<BB^32:=b30 e2;have B3:a.2*b.1.natAbs≠0:=Nat.mul_ne_zero ha.pos (by omega);have h2':cb=rat false b.1.natAbs false b.2:=by rw [h2];unfold ratZ;rw [decide_eq_false (by omega)]
 obtain ⟨cN,hN⟩:∃ c,c=iZ (a.1*(b.2:Int)):=⟨_,rfl⟩;obtain ⟨cD,hD⟩:∃ c,c=iZ ((a.2*b.1.natAbs:Nat):Int):=⟨_,rfl⟩
 obtain ⟨rn,rp,rm,rq,hcr⟩:∃ rn rp rm rq,cR=rat rn rp rm rq:=by
  rw [hR];cases Dl.quo2 a b with
  | none=>exact ⟨_,_,_,_,rfl⟩
  | some r=>exact ⟨_,_,_,_,rfl⟩
 exact jbR w h1 h2' hcr fun W=>qzW W h1 h2' (qfL h1 ha) (qfL h2 hb)
  (fun W=>jbS h1 h2' hN (by rw [hD];unfold iZ;rw [Int.natAbs_natCast,decide_eq_false (Int.not_lt.2 (Int.natCast_nonneg _))]) (by rw [Int.natAbs_mul,Int.natAbs_natCast]) rfl (by rw [qhH,Int.natAbs_mul,Int.natAbs_natCast,decide_eq_false (Int.not_lt.2 (Int.natCast_nonneg b.2))]) ha.num ha.den hb.num hb.den W)
  (fun W=>quI hN hD hR hc B1 B2 B3 W) hcr
end Go.Proofs.YtemoddmadfoaiaaGreat
namespace Go.Proofs.YtemoddmadfoaiaaGreat
open Go.RowKit Big Reg Al Ap Ga
namespace Dl
end Dl
namespace Dl
theorem qwK {q:Qn} (h:q.2≠0) (k:Int):ceilQ q≤k↔q.1≤k*(q.2:Int):=by
 have hq:(0:Int)<(q.2:Int):=by omega
 rw [qwI q h];obtain ⟨u1,u2⟩:=qjW (N:=q.1) hq;constructor
 ·intro hk
  have:=Int.mul_le_mul_of_nonneg_right hk (show (0:Int)≤(q.2:Int) by omega)
  omega
 ·intro hk;have l:upZ q.1 (q.2:Int)*(q.2:Int)<(k+1)*(q.2:Int):=by rw [Int.add_mul];omega
  have:=Int.lt_of_mul_lt_mul_right l (by omega)
  omega
theorem dn_ge {q:Qn} (h:q.2≠0) (k:Int):k≤dnQ q↔k*(q.2:Int)≤q.1:=by
 have hq:(0:Int)<(q.2:Int):=by omega
 unfold dnQ;exact Int.le_ediv_iff_mul_le hq
def reachC (q:Qn) (most:Int):Int:=if ceilQ q≤most then ceilQ q else most+1
def reachF (q:Qn) (most:Int):Int:=if dnQ q≤most then dnQ q else most+1
theorem qyB {q:Qn} (h:q.2≠0) (most:Int):(most*(q.2:Int)<q.1→reachC q most=most+1)∧(¬most*(q.2:Int)<q.1→¬(most+1)*(q.2:Int)≤q.1∧reachC q most=ceilQ q∧ceilQ q≤most):=by
 have k:=qwK h most;refine ⟨fun g=>?_,fun g=>?_⟩
 ·unfold reachC;rw [if_neg (by rw [k];omega)]
 ·have g1:ceilQ q≤most:=k.2 (by omega);refine ⟨?_,by unfold reachC;rw [if_pos g1],g1⟩;rw [Int.add_mul];omega
theorem qyC {q:Qn} (h:q.2≠0) (most:Int):((most+1)*(q.2:Int)≤q.1→reachF q most=most+1)∧(¬(most+1)*(q.2:Int)≤q.1→reachF q most=dnQ q∧dnQ q≤most):=by
 have k:=dn_ge h (most+1);refine ⟨fun g=>?_,fun g=>?_⟩
 ·have:=k.2 g
  unfold reachF;rw [if_neg (by omega)]
 ·have g1:dnQ q≤most:=by have:=mt k.1 g;omega
  exact ⟨by unfold reachF;rw [if_pos g1],g1⟩
theorem qkK {p q:Qn} {pl:Nat} {a:Int} (hp:Pc p) (h3:pl≤6) (ha:0≤a) (h:manyQ p pl a=some q):0≤q.1∧0≤dnQ q∧0≤ceilQ q:=by
 obtain ⟨v,e⟩:=qhK hp h3 h;have hA:=qiY hp
 have h0:0≤q.1:=by
  have:0≤q.1*wA p:=by rw [e];exact Int.mul_nonneg (Int.mul_nonneg ha (Int.natCast_nonneg _)) (Int.natCast_nonneg _)
  exact Int.le_of_mul_le_mul_right (a:=wA p) (by omega) hA
 have hq:=v.pos;refine ⟨h0,Int.ediv_nonneg h0 (Int.natCast_nonneg _),?_⟩;by_cases hc:ceilQ q≤-1
 ·have:=(qwK hq (-1)).1 hc
  omega
 ·omega
end Dl
namespace Dl
end Dl
namespace Dl
end Dl
set_option maxRecDepth 1000000 in
theorem Tryz.alN {cs:List Value} (h:(Tryz.prog.info? 70).map (·.size)=some cs.length):∃ z,LaysAs Tryz.prog 70 z∧cs.length≤z.size:=by
 refine ⟨(nm false 0 false 0 0).toArray,?_,by rw [Tryz.infoN] at h;injection h with h;rw [←h,List.size_toArray,jaU];exact Nat.le_refl _⟩;unfold nm rat;rw [qbP];intro o ho b w;unfold execOp;simp only [ho];rfl
def cI (l:List Int):List Value:=l.map (Value.int .i64)
theorem Row.at {w:World} {O:Nat} {l:List Int} (h:Row w O 0 l) (hlt:O<w.heap.size):At w O 0 (cI l):=by
 refine ⟨fun j v hj=>?_,fun j hj=>?_,hlt⟩
 ·unfold cI at hj;rw [List.getElem?_map] at hj
  cases hx:l[j]? with
  | none=>rw [hx] at hj;cases hj
  | some x=>rw [hx] at hj;injection hj with hj;subst hj;exact h.1 j x hx
 ·unfold cI at hj;rw [List.length_map] at hj;rw [h.1 j _ (List.getElem?_eq_getElem hj)];exact ⟨rfl,h.2 _⟩
theorem quQ (o:Od) (c:Int) (hc:c=if okA o=true then 0 else 230) (w:World):Calls Tryz.prog 86 #[.agg #[.string o.key,.string o.nom,.string o.hol,.string o.fund,.string o.cls,.int .i64 o.kind,.int .i64 o.amount,.int .i64 o.units,.int .i64 o.at_,.int .i64 o.known,.bool o.void]] w fun e w'=>e=.returned (.int .i64 c)∧Below w.heap.size w w':=by
 cases hv:o.void with
 | false=>have:=qrU o c (by rw [hc];unfold okA;rw [hv];rfl) w hv;rwa [hv] at this
 | true=>have:=qoO o c (by rw [hc];unfold okA;rw [hv];rfl) w hv;rwa [hv] at this
end Go.Proofs.YtemoddmadfoaiaaGreat
