import Derived.Test.YtemoddmadfoaiaaGreatGeJ
import Derived.Laws.Strings
import Derived.Test.YtemoddmadfoaiaaGreatGmC
import Derived.Test.YtemoddmadfoaiaaGreatRegG
import Derived.Test.YtemoddmadfoaiaaGreatGkB
set_option linter.unusedVariables false
set_option linter.unusedSimpArgs false
set_option maxRecDepth 100000
set_option maxHeartbeats 8000000
namespace Go.Proofs.YtemoddmadfoaiaaGreat
open Go.RowKit Big Reg Al Ap Ga
open Lib (hid)
theorem jiE {ca:List Value} {a:Qn} {s:Int} (h1:ca=resN (some a)) (ha:VQ a) (hs:s=a.1.sign) (w:World) :
  CB 33 #[.agg ca.toArray] (.int .i64 s) w:=by
 have V_ca:=hid (show ca=nm (decide (a.1<0)) a.1.natAbs false a.2 0 from h1);obtain ⟨va,V_va⟩:=nvx (rat (decide (a.1<0)) a.1.natAbs false a.2);have HC:=hid (jhI (ca:=va) V_va.out ha hs);clear h1 ha hs;obtain ⟨B0,w0,hw0,hB0,AB0,FR,FR0,HB0,hZB0⟩:=en1 w 70 (bxq ca);go_enter Tryz.func33,Tryz.ntmps33
 go_upto_region 1 with fail
 rw [←hw0,←hB0];clear hw0 hB0;have AB0_v:=hid (AB0.out.val V_ca.out V_va.out);refine wE [(6,pT B0 0),(7,aT va),(8,.tuple #[iT s,iT 0]),(5,.tuple #[iT s,iT 0]),(9,iT s),(10,iT 0),(3,iT s),(4,iT 0)] (by simp only [zu];rfl) (by kernel_rfl) ?_ ?_
 ·intro W' hW';refine fxo ?_<|lhR AB0_v hW' V_va rfl<|fo4 ?_ ?_ ?_ ?_<|fo2 ?_ ?_<|fxn;all_goals (go_big_quiet_step (exact qaA (HC.out _));exact wqn rfl)
 intro β wx1 E;replace FR:=fnf FR E rfl;simp only [nP,zu];go_wp2
 go_ret
 exact ⟨rfl,qaY HB0 FR⟩
theorem rat_Z {n:Bool} {p q:Nat} (h:n=cs1 n p):rat n p false q=ratZ (zI n p) q:=by
 have:=qrK n p
 rw [←h] at this;unfold ratZ;rw [←this.1,←this.2]
theorem jiF {cr:List Value} {a:Qn} {t:Bool} (h1:cr=ratZ a.1 a.2) (ha:VQ a) (ht:t=decide (0<a.1)) (w:World) :
  CB 80 #[.agg cr.toArray] (.bool t) w:=by
 have V_cr:=hid (show cr=rat (decide (a.1<0)) a.1.natAbs false a.2 from h1);obtain ⟨cN,V_cN⟩:=nvx (nm (decide (a.1<0)) a.1.natAbs false a.2 0);obtain ⟨s,hs⟩:=nqx (a.1.sign);have HV:=hid (qeD h1 ha);have HO:=hid (eOf V_cr.out V_cN.out);have HS:=hid (jiE (ca:=cN) V_cN.out ha hs);have HT:=hid (show t=decide (0<s) by rw [ht,hs];congr 1;rw [Int.sign_pos_iff]);clear h1 ha ht hs;obtain ⟨B0,w0,hw0,hB0,AB0,FR,FR0,HB0,hZB0⟩:=en1 w 27 (bxq cr);go_enter Tryz.func80,Tryz.ntmps80
 go_upto_region 1 with fail
 rw [←hw0,←hB0];clear hw0 hB0;refine wE [(3,aT cr),(4,bT),(5,bT),(6,aT cr),(7,aT cN),(8,iT s),(9,.bool (decide (0<s))),(10,.bool (decide (0<s))),(2,.bool (decide (0<s)))] (by simp only [zu];rfl) (by kernel_rfl) ?_ ?_
 ·intro W' hW';have rd0:=AB0.out.below hW';refine ldR rd0 V_cr rfl<|fo2 ?_ ?_<|ldR rd0 V_cr rfl<|fxo (by go_big_quiet_step (exact qaA (HO.out _));exact wqn rfl)<|fxo (by go_big_quiet_step (exact qaA (HS.out _));exact wqn rfl)<|fo3 ?_ ?_ ?_<|fxn;all_goals (go_big_quiet_step (exact qaA (HV.out _));exact wqn rfl)
 intro β wx1 E;replace FR:=fnf FR E rfl;simp only [nP,zu];go_wp2
 go_ret
 exact ⟨qaF HT.out.symm,qaY HB0 FR⟩
theorem jcW {cr:List Value} {n m:Bool} {p q:Nat} (hr:cr=rat n p m q) (hp:p<BB^32) (hq:q<BB^32) (hbad:¬(p<B480∧q<B480∧n=cs1 n p∧m=false∧q≠0∧Nat.gcd p q=1)) (w:World) :
  CB 80 #[.agg cr.toArray] (.bool false) w:=by
 have V_cr:=hid hr;have HV:=hid (qwI hr hp hq hbad);clear hr hp hq hbad;obtain ⟨B0,w0,hw0,hB0,AB0,FR,FR0,HB0,hZB0⟩:=en1 w 27 (bxq cr);go_enter Tryz.func80,Tryz.ntmps80
 go_upto_region 1 with fail
 rw [←hw0,←hB0];clear hw0 hB0;refine wE [(3,aT cr),(4,bF),(5,bF),(6,undef),(7,undef),(8,undef),(9,undef),(10,bF),(2,bF)] (by simp only [zu];rfl) (by kernel_rfl) ?_ ?_
 ·intro W' hW';refine lhR AB0 hW' V_cr rfl<|fo4 ?_ ?_ ?_ ?_<|fo4 ?_ ?_ ?_ ?_<|fxn;all_goals (go_big_quiet_step (exact qaA (HV.out _));exact wqn rfl)
 intro β wx1 E;replace FR:=fnf FR E rfl;simp only [nP,zu];go_wp2
 go_ret
 exact ⟨rfl,qaY HB0 FR⟩
theorem qeS {N:Int} {D:Nat} (h1:N.natAbs<B480) (h2:D<B480):∃ r,mkQ N D=some r:=by
 unfold mkQ;rw [if_pos ⟨Nat.lt_of_le_of_lt (Nat.div_le_self _ _) h1,Nat.lt_of_le_of_lt (Nat.div_le_self _ _) h2⟩];exact ⟨_,rfl⟩
theorem qdB:(1000000000000000000000000000000000:Nat)<B480:=by unfold B480 BB;decide
theorem qvI {z:Int} (h:z.natAbs<1000000000000000000000000000000000):VQ (z,1):=⟨Nat.lt_trans h qdB,Nat.lt_trans (show (1:Nat)<_ by decide) qdB,Nat.one_ne_zero,by show Nat.gcd z.natAbs 1=1;simp⟩
end Go.Proofs.YtemoddmadfoaiaaGreat
namespace Go.Proofs.YtemoddmadfoaiaaGreat
open Go.RowKit Big Reg Al Ap Ga
set_option maxRecDepth 1000000 in
theorem Tryz.alN {cs:List Value} (h:(Tryz.prog.info? 70).map (·.size)=some cs.length):∃ z,LaysAs Tryz.prog 70 z∧cs.length≤z.size:=by
 refine ⟨(nm false 0 false 0 0).toArray,?_,by rw [Tryz.infoN] at h;injection h with h;rw [←h,List.size_toArray,jeG];exact Nat.le_refl _⟩;unfold nm rat;rw [qbX];intro o ho b w;unfold execOp;simp only [ho];rfl
def cI (l:List Int):List Value:=l.map (Value.int .i64)
theorem Row.at {w:World} {O:Nat} {l:List Int} (h:Row w O 0 l) (hlt:O<w.heap.size):At w O 0 (cI l):=by
 refine ⟨fun j v hj=>?_,fun j hj=>?_,hlt⟩
 ·unfold cI at hj;rw [List.getElem?_map] at hj
  cases hx:l[j]? with
  | none=>rw [hx] at hj;cases hj
  | some x=>rw [hx] at hj;injection hj with hj;subst hj;exact h.1 j x hx
 ·unfold cI at hj;rw [List.length_map] at hj;rw [h.1 j _ (List.getElem?_eq_getElem hj)];exact ⟨rfl,h.2 _⟩
theorem jhX {N:Int} {D:Nat} (h:D≠0):(N.sign*(N.natAbs / Nat.gcd N.natAbs D:Nat))*(D:Int)=N*(D / Nat.gcd N.natAbs D:Nat)∧Nat.gcd (N.sign*(N.natAbs / Nat.gcd N.natAbs D:Nat)).natAbs (D / Nat.gcd N.natAbs D)=1∧D / Nat.gcd N.natAbs D≠0:=by
 have hg:=qhV (N:=N) h;have hs:=(qgQ N (N.natAbs / Nat.gcd N.natAbs D) (fun h0=>by subst h0;simp)).1;refine ⟨?_,?_,?_⟩
 ·obtain ⟨a,ha⟩:=Nat.gcd_dvd_left N.natAbs D;obtain ⟨d,hd⟩:=Nat.gcd_dvd_right N.natAbs D;generalize Nat.gcd N.natAbs D=g at *
  have e1:N.natAbs / g=a:=by rw [ha,Nat.mul_div_cancel_left _ hg]
  have e2:D / g=d:=by rw [hd,Nat.mul_div_cancel_left _ hg]
  rw [e1,e2];have e3:N=N.sign*((g*a:Nat):Int):=by rw [←ha];exact (Int.sign_mul_natAbs N).symm
  have e4:(D:Int)=(g:Int)*d:=by rw [←Int.natCast_mul,←hd]
  rw [e4]
  conv=>rhs;rw [e3]
  rw [Int.natCast_mul];generalize N.sign=s
  grind
 ·rw [hs,Nat.gcd_div (Nat.gcd_dvd_left _ _) (Nat.gcd_dvd_right _ _),Nat.div_self hg]
 ·have:=Nat.div_pos (Nat.le_of_dvd (by omega) (Nat.gcd_dvd_right N.natAbs D)) hg
  omega
theorem qeE {N:Int} {D:Nat} (h:D≠0) {r:Qn} (hr:mkQ N D=some r):r.1*(D:Int)=N*(r.2:Int)∧r.1.natAbs≤N.natAbs∧r.2≤D:=by
 have hl:=jhX (N:=N) h;have hs:=(qgQ N (N.natAbs / Nat.gcd N.natAbs D) (fun h0=>by subst h0;simp)).1;unfold mkQ at hr;split at hr
 ·injection hr with hr
  subst hr;refine ⟨hl.1,?_,Nat.div_le_self _ _⟩;show (N.sign*(N.natAbs / Nat.gcd N.natAbs D:Nat)).natAbs≤_
  rw [hs];exact Nat.div_le_self _ _
 ·cases hr
namespace Ga
end Ga
namespace Dl
def partQ (n:Int) (pl:Nat):Qn:=(mkQ (n*100) (10^pl)).getD (0,1)
def worthQ (p:Qn) (pl:Nat) (n:Int):Option Qn:=mulQ p (partQ n pl)
def quoQ (a:Int) (b:Qn):Option Qn:=mkQ (a*(b.2:Int)) b.1.natAbs
structure Pc (p:Qn):Prop where
 vq:VQ p
 pos:0<p.1
theorem qfG {n:Int} {pl:Nat} (h1:0≤n) (h2:n≤1000000000000000) (h3:pl≤6):mkQ (n*100) (10^pl)=some (partQ n pl):=by
 have h6:10^pl≤10^6:=Nat.pow_le_pow_right (by omega) h3;obtain ⟨r,hr⟩:=qeS (N:=n*100) (D:=10^pl) (by have:=qdB;omega) (by have:=qdB;omega);rw [partQ,hr];rfl
theorem qfQ {n:Int} {pl:Nat} (h1:0≤n) (h2:n≤1000000000000000) (h3:pl≤6):VQ (partQ n pl)∧(partQ n pl).1*((10^pl:Nat):Int)=n*100*((partQ n pl).2:Int):=by
 have hp:10^pl≠0:=Nat.ne_of_gt (Nat.pow_pos (by decide));have hr:=qfG h1 h2 h3;exact ⟨qcI hp hr,(qeE hp hr).1⟩
def wA (p:Qn):Int:=100*p.1
def wB (p:Qn) (pl:Nat):Nat:=p.2*10^pl
theorem qkN {p:Qn} (h:Pc p):0<wA p:=by have:=h.pos;unfold wA;omega
theorem qkM {p:Qn} (h:Pc p) (pl:Nat):0<wB p pl:=Nat.mul_pos (Nat.pos_of_ne_zero h.vq.pos) (Nat.pow_pos (by decide))
theorem qdC {p w:Qn} {pl:Nat} {n:Int} (hp:Pc p) (h1:0≤n) (h2:n≤1000000000000000) (h3:pl≤6) (h:worthQ p pl n=some w) :
  VQ w∧w.1*(wB p pl:Int)=n*wA p*(w.2:Int):=by
 obtain ⟨hv,he⟩:=qfQ h1 h2 h3;have hD:p.2*(partQ n pl).2≠0:=Nat.mul_ne_zero hp.vq.pos hv.pos;refine ⟨qcI hD h,?_⟩;have hx:=(qeE hD h).1;generalize partQ n pl=pq at *
 obtain ⟨s,t⟩:=pq;obtain ⟨P,Q⟩:=p;obtain ⟨a,b⟩:=w;have ht:t≠0:=hv.pos;simp only [wA,wB] at hx he ⊢;rw [Int.natCast_mul] at hx ⊢;generalize ((10^pl:Nat):Int)=T at *
 have ht':(t:Int)≠0:=by omega
 refine Int.eq_of_mul_eq_mul_left ht' ?_;generalize (t:Int)=t at *
 generalize (Q:Int)=Q at *
 generalize (b:Int)=b at *
 have e1:t*(a*(Q*T))=(a*(Q*t))*T:=by grind
 rw [e1,hx];have e2:P*s*b*T=P*b*(s*T):=by grind
 rw [e2,he];grind
theorem qnX {p w:Qn} {pl:Nat} {n:Int} (hp:Pc p) (h1:0<n) (h2:n≤1000000000000000) (h3:pl≤6) (h:worthQ p pl n=some w):Pc w:=by
 obtain ⟨hv,he⟩:=qdC hp (by omega) h2 h3 h;refine ⟨hv,?_⟩;have ha:=qkN hp;have hb:=qkM hp pl;have h0:=hv.pos;have hr:0<n*wA p*(w.2:Int):=Int.mul_pos (Int.mul_pos h1 ha) (by omega);rw [←he] at hr;exact Int.pos_of_mul_pos_left hr (by omega)
theorem jfC {a:Int} {one q p:Qn} {pl:Nat} (hp:Pc p) (h3:pl≤6) (ho:worthQ p pl 1=some one) (h:quoQ a one=some q) :
  VQ q∧q.1*wA p=a*(wB p pl:Int)*(q.2:Int):=by
 obtain ⟨hv,he⟩:=qdC hp (by omega) (by omega) h3 ho;have hpo:=qnX hp (by omega) (by omega) h3 ho;have h1:=hpo.pos;have hD:one.1.natAbs≠0:=by omega
 refine ⟨qcI hD h,?_⟩;have hx:=(qeE hD h).1;obtain ⟨s,t⟩:=one;obtain ⟨c,d⟩:=q;have ht:t≠0:=hv.pos;simp only at hx he h1 ⊢
 rw [show ((s.natAbs:Nat):Int)=s by omega] at hx;have ht':(t:Int)≠0:=by omega
 refine Int.eq_of_mul_eq_mul_left ht' ?_;generalize (t:Int)=t at *
 generalize (wB p pl:Int)=B at *
 generalize wA p=A at *
 generalize (d:Int)=d at *
 have e1:t*(c*A)=c*(1*A*t):=by grind
 rw [e1,←he];have e2:c*(s*B)=c*s*B:=by grind
 rw [e2,hx];grind
theorem qnF {r:Qn} {N B:Int} (hB:0<B) (h0:r.2≠0) (h:r.1*B=N*(r.2:Int)):r.1 / (r.2:Int)=N / B:=by
 have h1:r.1 / (r.2:Int)=(r.1*B) / ((r.2:Int)*B):=(Int.mul_ediv_mul_of_pos_left _ _ hB).symm;rw [h1,h,Int.mul_comm (r.2:Int) B,Int.mul_ediv_mul_of_pos_left _ _ (by omega)]
def upZ (N B:Int):Int:=-(-N / B)
theorem qmJ {N B:Int} (hB:0<B):N≤upZ N B*B∧upZ N B*B<N+B:=by
 unfold upZ;have h1:=Int.emod_add_mul_ediv (-N) B;have h2:=Int.emod_nonneg (-N) (by omega:B≠0);have h3:=Int.emod_lt_of_pos (-N) hB;rw [Int.neg_mul,Int.mul_comm];generalize B*(-N / B)=z at *
 omega
theorem qnI {N B:Int} (hB:0<B):N / B*B≤N∧N<N / B*B+B:=by
 have h1:=Int.emod_add_mul_ediv N B;have h2:=Int.emod_nonneg N (by omega:B≠0);have h3:=Int.emod_lt_of_pos N hB;rw [Int.mul_comm];generalize B*(N / B)=z at *
 omega
theorem jeO {N B k:Int} (hB:0<B) (h1:N≤k*B) (h2:k*B<N+B):k=upZ N B:=by
 obtain ⟨g1,g2⟩:=qmJ (N:=N) hB;have l1:k*B<(upZ N B+1)*B:=by rw [Int.add_mul];omega
 have l2:upZ N B*B<(k+1)*B:=by rw [Int.add_mul];omega
 have:=Int.lt_of_mul_lt_mul_right l1 (by omega)
 have:=Int.lt_of_mul_lt_mul_right l2 (by omega)
 omega
theorem qzL (r:Qn) (h0:r.2≠0):ceilQ r=upZ r.1 (r.2:Int):=by
 have hq:(0:Int)<(r.2:Int):=by omega
 refine jeO hq ?_ ?_
 ·obtain ⟨g1,g2⟩:=qnI (N:=r.1) hq;have e:=Int.emod_add_mul_ediv r.1 (r.2:Int);rw [Int.mul_comm] at e;unfold ceilQ;split
  ·omega
  ·rw [Int.add_mul];omega
 ·obtain ⟨g1,g2⟩:=qnI (N:=r.1) hq;have e:=Int.emod_add_mul_ediv r.1 (r.2:Int);rw [Int.mul_comm] at e
  have:=Int.emod_nonneg r.1 (by omega:(r.2:Int)≠0)
  unfold ceilQ;split
  ·omega
  ·rw [Int.add_mul];omega
theorem qzM {r:Qn} {N B:Int} (hB:0<B) (h0:r.2≠0) (h:r.1*B=N*(r.2:Int)):ceilQ r=upZ N B:=by
 rw [qzL r h0]
 have:=qnF (r:=(-r.1,r.2)) (N:=-N) hB h0 (by simp only;rw [Int.neg_mul,Int.neg_mul,h])
 unfold upZ;rw [this]
end Dl
namespace Dl
structure Nt where
 key:ByteArray
 nom:ByteArray
 hol:ByteArray
 kind:Int
 units:Int
 money:Int
 lots:List Lot
def zeroN:Nt:=⟨ByteArray.mk #[],ByteArray.mk #[],ByteArray.mk #[],0,0,0,[]⟩
def noteO (o:Od) (n m:Int) (x:List Lot):Nt:=⟨o.key,o.nom,o.hol,o.kind,n,m,x⟩
def mostZ:Int:=1000000000000000
def manyQ (p:Qn) (pl:Nat) (a:Int):Option Qn:=match worthQ p pl 1 with|none=>none|some one=>quoQ a one
def redN (bid:Qn) (pl:Nat) (has:Int) (o:Od):Except Int (Int × Int) :=
 if o.kind=3 then .ok (min has o.units,0)
 else if o.kind=4 then match manyQ bid pl o.amount with
  | none=>.error 10
  | some q=>if ceilQ q≤has then .ok (ceilQ q,o.amount) else .ok (has,0)
 else .ok (has,0)
def moneyZ (w:Option Qn) (f:Qn→Int):Except Int Int:=match w with
 | none=>.error 10
 | some w=>if f w≤mostZ then .ok (f w) else .error 33
def dnQ (q:Qn):Int:=q.1 / (q.2:Int)
def redM (bid:Qn) (pl:Nat) (n m:Int):Except Int Int:=if m=0 then moneyZ (worthQ bid pl n) dnQ else .ok m
def redO (bid:Qn) (pl:Nat) (l:List Lot) (o:Od):Except Int (List Lot × Nt) :=
 match redN bid pl (sumU (ownL o.nom o.hol l)) o with
 | .error e=>.error e
 | .ok (n,m)=>match redM bid pl n m with
  | .error e=>.error e
  | .ok m=>.ok ((takeR o.nom o.hol l n).1,noteO o n m (takeR o.nom o.hol l n).2)
def issO (ser:Int) (l:List Lot) (o:Od) (n m:Int):Except Int (List Lot × Nt) :=
 if mostZ - sumU l<n then .error 253
 else if 256<(putL l ⟨o.nom,o.hol,ser,n⟩).length then .error 254
 else .ok (putL l ⟨o.nom,o.hol,ser,n⟩,noteO o n m [⟨o.nom,o.hol,ser,n⟩])
def subO (offer:Qn) (pl:Nat) (ser:Int) (l:List Lot) (o:Od):Except Int (List Lot × Nt) :=
 if o.kind=1 then match manyQ offer pl o.amount with
  | none=>.error 10
  | some q=>if mostZ<dnQ q then .error 253 else if dnQ q=0 then .ok (l,noteO o 0 0 []) else issO ser l o (dnQ q) o.amount
 else match worthQ offer pl o.units with
  | none=>.error 10
  | some w=>if mostZ - sumU l<o.units then .error 253 else if mostZ<ceilQ w then .error 33 else issO ser l o o.units (ceilQ w)
def subs (o:Od):Bool:=decide (o.kind=1) || decide (o.kind=2)
def passP (sel:Od→Bool) (f:List Lot→Od→Except Int (List Lot × Nt)):List Tk→Nat→List Lot→List Nt→Except Int (List Lot × List Nt)
 | [],_,l,N=>.ok (l,N)
 | t::ts,k,l,N=>if sel t.o=true then match f l t.o with
   | .error e=>.error e
   | .ok (l',x)=>passP sel f ts (k+1) l' (N.set k x)
  else passP sel f ts (k+1) l N
def dealL (l:List Lot) (ts:List Tk) (offer bid:Qn) (pl:Nat) (ser:Int):Except Int (List Lot × List Nt) :=
 match passP (fun o=>!subs o) (redO bid pl) ts 0 l (List.replicate ts.length zeroN) with
 | .error e=>.error e
 | .ok (l',N)=>passP subs (subO offer pl ser) ts 0 l' N
theorem qoT {sel:Od→Bool} {f:List Lot→Od→Except Int (List Lot × Nt)} {I:List Lot→Prop} {Ok:Od→Prop} {G:Od→Nt→Prop}
  (hf:∀ l o l' x,I l→Ok o→sel o=true→f l o=.ok (l',x)→I l'∧G o x) :
  ∀ (ts:List Tk) (k:Nat) (l:List Lot) (N:List Nt) (l':List Lot) (N':List Nt),I l→(∀ t∈ts,Ok t.o)→k+ts.length=N.length→passP sel f ts k l N=.ok (l',N') →
   I l'∧N'.length=N.length∧(∀ i:Nat,i<k→N'[i]?=N[i]?)∧(∀ (j:Nat) (t:Tk),ts[j]?=some t→if sel t.o=true then ∃ x,N'[k+j]?=some x∧G t.o x else N'[k+j]?=N[k+j]?):=by
 intro ts
 induction ts with
 | nil =>
  intro k l N l' N' hI _ hk h;simp only [passP,Except.ok.injEq,Prod.mk.injEq] at h;obtain ⟨rfl,rfl⟩:=h;exact ⟨hI,rfl,fun _ _=>rfl,fun j t ht=>by simp at ht⟩
 | cons t ts ih =>
  intro k l N l' N' hI hO hk h;rw [List.length_cons] at hk;rw [passP] at h;by_cases hs:sel t.o=true
  ·rw [if_pos hs] at h;split at h
   ·cases h
   ·rename_i l1 x hx
    obtain ⟨hI1,hG⟩:=hf _ _ _ _ hI (hO t (by simp)) hs hx;obtain ⟨g1,g2,g3,g4⟩:=ih (k+1) l1 (N.set k x) l' N' hI1 (fun y hy=>hO y (by simp [hy])) (by rw [List.length_set];omega) h;rw [List.length_set] at g2;refine ⟨g1,g2,fun i hi=>?_,fun j y hj=>?_⟩
    ·rw [g3 i (by omega),List.getElem?_set_ne (by omega)]
    ·cases j with
     | zero =>
      simp only [List.getElem?_cons_zero,Option.some.injEq] at hj;subst hj;rw [if_pos hs];refine ⟨x,?_,hG⟩;rw [Nat.add_zero,g3 k (by omega),List.getElem?_set_self (by omega)]
     | succ j =>
      have:=g4 j y (by simpa using hj)
      rw [show k+1+j=k+(j+1) by omega] at this;by_cases hy:sel y.o=true
      ·rw [if_pos hy] at this ⊢;exact this
      ·rw [if_neg hy] at this ⊢;rw [this,List.getElem?_set_ne (by omega)]
  ·rw [if_neg hs] at h;obtain ⟨g1,g2,g3,g4⟩:=ih (k+1) l N l' N' hI (fun y hy=>hO y (by simp [hy])) (by omega) h;refine ⟨g1,g2,fun i hi=>g3 i (by omega),fun j y hj=>?_⟩
   cases j with
   | zero =>
    simp only [List.getElem?_cons_zero,Option.some.injEq] at hj;subst hj;rw [if_neg hs];exact g3 k (by omega)
   | succ j =>
    have:=g4 j y (by simpa using hj)
    rw [show k+1+j=k+(j+1) by omega] at this;exact this
theorem qzB {I:List Lot→Prop} {Ok:Od→Prop} {G:Od→Nt→Prop} {l l':List Lot} {ts:List Tk} {offer bid:Qn} {pl:Nat} {ser:Int} {N:List Nt}
  (h1:∀ l o l' x,I l→Ok o→subs o=false→redO bid pl l o=.ok (l',x)→I l'∧G o x)
  (h2:∀ l o l' x,I l→Ok o→subs o=true→subO offer pl ser l o=.ok (l',x)→I l'∧G o x)
  (hI:I l) (hO:∀ t∈ts,Ok t.o) (h:dealL l ts offer bid pl ser=.ok (l',N)) :
  I l'∧N.length=ts.length∧∀ (j:Nat) (t:Tk),ts[j]?=some t→∃ x,N[j]?=some x∧G t.o x:=by
 unfold dealL at h;split at h
 ·cases h
 ·rename_i l1 N1 hx
  obtain ⟨a1,a2,a3,a4⟩:=qoT (G:=G) (fun l o l' x g1 g2 g3 g4=>h1 l o l' x g1 g2 (by simpa using g3) g4) ts 0 l _ l1 N1 hI hO (by simp) hx;rw [List.length_replicate] at a2;obtain ⟨b1,b2,b3,b4⟩:=qoT (G:=G) h2 ts 0 l1 N1 l' N a1 hO (by omega) h;refine ⟨b1,by omega,fun j t ht=>?_⟩;have c1:=a4 j t ht;have c2:=b4 j t ht;rw [Nat.zero_add] at c1 c2;by_cases hs:subs t.o=true
  ·rw [if_pos hs] at c2;exact c2
  ·rw [if_neg hs] at c2;rw [if_pos (by simpa using hs)] at c1;rw [c2];exact c1
end Dl
namespace Dl
structure Ask (o:Od):Prop where
 amt:(o.kind=1∨o.kind=4)→1≤o.amount∧o.amount≤1000000000000000
 unt:(o.kind=2∨o.kind=3)→1≤o.units∧o.units≤1000000000000000
 knd:1≤o.kind∧o.kind≤5
theorem jiL {o:Od} (h:okO o=true):Ask o:=by
 unfold okO askO at h;simp only [Bool.and_eq_true] at h;obtain ⟨_,_,h⟩:=h;unfold inR at h;split at h
 ·rename_i hk
  simp only [Bool.and_eq_true,decide_eq_true_eq] at h;exact ⟨fun _=>h.1,fun _=>by omega,by omega⟩
 ·split at h
  ·rename_i hk
   simp only [Bool.and_eq_true,decide_eq_true_eq] at h;exact ⟨fun _=>by omega,fun _=>h.1,by omega⟩
  ·split at h
   ·exact ⟨fun _=>by omega,fun _=>by omega,by omega⟩
   ·cases h
structure RedG (bid:Qn) (pl:Nat) (o:Od) (x:Nt):Prop where
 key:x.key=o.key∧x.nom=o.nom∧x.hol=o.hol∧x.kind=o.kind
 unt:0≤x.units∧x.units≤1000000000000000
 mny:0≤x.money∧x.money≤1000000000000000
 top:x.money*(wB bid pl:Int)≤x.units*wA bid
 low:x.units*wA bid<x.money*(wB bid pl:Int)+wA bid+(wB bid pl:Int)
structure SubG (offer:Qn) (pl:Nat) (o:Od) (x:Nt):Prop where
 key:x.key=o.key∧x.nom=o.nom∧x.hol=o.hol∧x.kind=o.kind
 unt:0≤x.units∧x.units≤1000000000000000
 mny:0≤x.money∧x.money≤1000000000000000
 top:x.units*wA offer≤x.money*(wB offer pl:Int)
 low:x.money*(wB offer pl:Int)<x.units*wA offer+wA offer+(wB offer pl:Int)
theorem qiR {p q:Qn} {pl:Nat} {a:Int} (hp:Pc p) (h3:pl≤6) (h:manyQ p pl a=some q):VQ q∧q.1*wA p=a*(wB p pl:Int)*(q.2:Int):=by
 unfold manyQ at h;split at h
 ·cases h
 ·rename_i one ho
  exact jfC hp h3 ho h
theorem jbT {p:Qn} {pl:Nat} {n m:Int} (hp:Pc p) (h3:pl≤6) (h1:0≤n) (h2:n≤1000000000000000) (h:moneyZ (worthQ p pl n) dnQ=.ok m) :
  0≤m∧m≤1000000000000000∧m=n*wA p / (wB p pl:Int):=by
 unfold moneyZ at h;split at h
 ·cases h
 ·rename_i w hw
  obtain ⟨v,e⟩:=qdC hp h1 h2 h3 hw;split at h
  ·rename_i hm
   injection h with h
   subst h;have hb:=qkM hp pl;have hf:=qnF (by omega) v.pos e;unfold mostZ dnQ at *;refine ⟨?_,hm,hf⟩;rw [hf];exact Int.ediv_nonneg (Int.mul_nonneg h1 (by have:=qkN hp;omega)) (by omega)
  ·cases h
theorem qoP {bid:Qn} {pl:Nat} {l l':List Lot} {o:Od} {x:Nt} (hp:Pc bid) (h3:pl≤6) (ho:Ask o) (hs0:0≤sumU (ownL o.nom o.hol l)) (hs:sumU (ownL o.nom o.hol l)≤1000000000000000)
  (h:redO bid pl l o=.ok (l',x)):RedG bid pl o x∧x.units≤sumU (ownL o.nom o.hol l)∧l'=(takeR o.nom o.hol l x.units).1∧x.lots=(takeR o.nom o.hol l x.units).2:=by
 have hA:=qkN hp;have hB:=qkM hp pl;unfold redO at h;generalize sumU (ownL o.nom o.hol l)=has at *
 split at h
 ·cases h
 ·rename_i n m0 hn
  split at h
  ·cases h
  ·rename_i m hm
   simp only [Except.ok.injEq,Prod.mk.injEq] at h;obtain ⟨rfl,rfl⟩:=h
   -- the units,and the money if it was asked for
   have hN:0≤n∧n≤has∧(m0=0∨(1≤m0∧m0≤1000000000000000∧m0*(wB bid pl:Int)≤n*wA bid∧n*wA bid<m0*(wB bid pl:Int)+wA bid)):=by
    unfold redN at hn;split at hn
    ·rename_i hk
     simp only [Except.ok.injEq,Prod.mk.injEq] at hn;obtain ⟨rfl,rfl⟩:=hn
     have:=ho.unt (.inr hk)
     omega
    ·split at hn
     ·rename_i hk
      have ha:=ho.amt (.inr hk);split at hn
      ·cases hn
      ·rename_i q hq
       obtain ⟨v,e⟩:=qiR hp h3 hq;have hc:=qzM hA v.pos e;obtain ⟨u1,u2⟩:=qmJ (N:=o.amount*(wB bid pl:Int)) hA;rw [←hc] at u1 u2;split at hn
       ·simp only [Except.ok.injEq,Prod.mk.injEq] at hn;obtain ⟨rfl,rfl⟩:=hn;refine ⟨?_,by omega,.inr ⟨ha.1,ha.2,u1,u2⟩⟩;have h1:0<o.amount*(wB bid pl:Int):=Int.mul_pos (by omega) (by omega);exact Int.le_of_lt (Int.pos_of_mul_pos_left (by omega) hA)
       ·simp only [Except.ok.injEq,Prod.mk.injEq] at hn;obtain ⟨rfl,rfl⟩:=hn;exact ⟨hs0,by omega,.inl rfl⟩
     ·simp only [Except.ok.injEq,Prod.mk.injEq] at hn;obtain ⟨rfl,rfl⟩:=hn;exact ⟨hs0,by omega,.inl rfl⟩
   obtain ⟨n1,n2,n3⟩:=hN
   have hM:0≤m∧m≤1000000000000000∧m*(wB bid pl:Int)≤n*wA bid∧n*wA bid<m*(wB bid pl:Int)+wA bid+(wB bid pl:Int):=by
    unfold redM at hm;split at hm
    ·obtain ⟨m1,m2,m3⟩:=jbT hp h3 n1 (by omega) hm;obtain ⟨d1,d2⟩:=qnI (N:=n*wA bid) (show (0:Int)<(wB bid pl:Int) by omega);rw [←m3] at d1 d2;exact ⟨m1,m2,d1,by omega⟩
    ·injection hm with hm
     subst hm;rcases n3 with n3|⟨n3,n4,n5,n6⟩
     ·contradiction
     ·exact ⟨by omega,n4,n5,by omega⟩
   exact ⟨⟨⟨rfl,rfl,rfl,rfl⟩,⟨n1,by simp only [noteO];omega⟩,⟨hM.1,hM.2.1⟩,hM.2.2.1,hM.2.2.2⟩,n2,rfl,rfl⟩
theorem qoG {offer:Qn} {pl:Nat} {ser:Int} {l l':List Lot} {o:Od} {x:Nt} (hp:Pc offer) (h3:pl≤6) (ho:Ask o) (hk:subs o=true) (hs0:0≤sumU l)
  (h:subO offer pl ser l o=.ok (l',x)):SubG offer pl o x∧(x.units=0∧l'=l∧x.lots=[]∨1≤x.units∧x.units≤1000000000000000 - sumU l∧l'=putL l ⟨o.nom,o.hol,ser,x.units⟩∧l'.length≤256∧x.lots=[⟨o.nom,o.hol,ser,x.units⟩]):=by
 have hA:=qkN hp;have hB:=qkM hp pl
 have hI:∀ n m:Int,1≤n→0≤m→m≤1000000000000000→n*wA offer≤m*(wB offer pl:Int)→m*(wB offer pl:Int)<n*wA offer+wA offer+(wB offer pl:Int)→issO ser l o n m=.ok (l',x) →
   SubG offer pl o x∧(x.units=0∧l'=l∧x.lots=[]∨1≤x.units∧x.units≤1000000000000000 - sumU l∧l'=putL l ⟨o.nom,o.hol,ser,x.units⟩∧l'.length≤256∧x.lots=[⟨o.nom,o.hol,ser,x.units⟩]):=by
  intro n m g1 g2 g3 g4 g5 g;unfold issO at g;split at g
  ·cases g
  ·split at g
   ·cases g
   ·rename_i q1 q2
    simp only [Except.ok.injEq,Prod.mk.injEq] at g;obtain ⟨rfl,rfl⟩:=g;unfold mostZ at q1;exact ⟨⟨⟨rfl,rfl,rfl,rfl⟩,⟨by simp only [noteO];omega,by simp only [noteO];omega⟩,⟨g2,g3⟩,g4,g5⟩,.inr ⟨g1,by simp only [noteO];omega,rfl,by omega,rfl⟩⟩
 unfold subO at h;split at h
 ·rename_i hk1
  have ha:=ho.amt (.inl hk1);split at h
  ·cases h
  ·rename_i q hq
   obtain ⟨v,e⟩:=qiR hp h3 hq;have hc:=qnF hA v.pos e;obtain ⟨d1,d2⟩:=qnI (N:=o.amount*(wB offer pl:Int)) hA;rw [←hc] at d1 d2;have h1:0<o.amount*(wB offer pl:Int):=Int.mul_pos (by omega) (by omega)
   have h0:0≤dnQ q:=by
    show 0≤q.1 / (q.2:Int)
    rw [hc];exact Int.ediv_nonneg (by omega) (by omega)
   change dnQ q*wA offer≤_ at d1
   change _<dnQ q*wA offer+_ at d2
   split at h
   ·cases h
   ·split at h
    ·simp only [Except.ok.injEq,Prod.mk.injEq] at h;obtain ⟨rfl,rfl⟩:=h;exact ⟨⟨⟨rfl,rfl,rfl,rfl⟩,by simp [noteO],by simp [noteO],by simp [noteO],by simp only [noteO];omega⟩,.inl ⟨rfl,rfl,rfl⟩⟩
    ·exact hI _ _ (by omega) (by omega) ha.2 d1 (by omega) h
 ·rename_i hk1
  have hk2:o.kind=2:=by
   unfold subs at hk;simp only [Bool.or_eq_true,decide_eq_true_eq] at hk;omega
  have hu:=ho.unt (.inl hk2);split at h
  ·cases h
  ·rename_i w hw
   obtain ⟨v,e⟩:=qdC hp (by omega) hu.2 h3 hw;have hc:=qzM (by omega) v.pos e;obtain ⟨d1,d2⟩:=qmJ (N:=o.units*wA offer) (show (0:Int)<(wB offer pl:Int) by omega);rw [←hc] at d1 d2;have h1:0<o.units*wA offer:=Int.mul_pos (by omega) hA;have h0:0<ceilQ w:=Int.pos_of_mul_pos_left (show 0<ceilQ w*(wB offer pl:Int) by omega) (by omega);split at h
   ·cases h
   ·split at h
    ·cases h
    ·rename_i g1 g2
     unfold mostZ at g2;exact hI _ _ hu.1 (by omega) (by omega) d1 (by omega) h
end Dl
namespace Dl
end Dl
namespace Dl
end Dl
namespace Dl
def Val (r:Qn) (x B:Int):Prop:=r.2≠0∧r.1*B=x*(r.2:Int)
theorem jaL {R T:Qn} {x y B:Int} (hB:0<B) (hR:Val R x B) (hT:Val T y B) (h:x<y):R.1*(T.2:Int)<T.1*(R.2:Int):=by
 obtain ⟨r0,r1⟩:=hR;obtain ⟨t0,t1⟩:=hT;have r0':(0:Int)<(R.2:Int):=by omega
 have t0':(0:Int)<(T.2:Int):=by omega
 have k:=Int.mul_lt_mul_of_pos_right h (Int.mul_pos r0' t0');refine Int.lt_of_mul_lt_mul_right (a:=B) ?_ (by omega);have e1:R.1*(T.2:Int)*B=(R.1*B)*(T.2:Int):=by grind
 have e2:T.1*(R.2:Int)*B=(T.1*B)*(R.2:Int):=by grind
 rw [e1,e2,r1,t1];have e3:x*(R.2:Int)*(T.2:Int)=x*((R.2:Int)*(T.2:Int)):=by grind
 have e4:y*(T.2:Int)*(R.2:Int)=y*((R.2:Int)*(T.2:Int)):=by grind
 rw [e3,e4];exact k
theorem jhD {R T:Qn} {x y B:Int} (hB:0<B) (hR:Val R x B) (hT:Val T y B) (h:x≤y):R.1*(T.2:Int)≤T.1*(R.2:Int):=by
 obtain ⟨r0,r1⟩:=hR;obtain ⟨t0,t1⟩:=hT;have k:=Int.mul_le_mul_of_nonneg_right h (show (0:Int)≤(R.2:Int)*(T.2:Int) from Int.mul_nonneg (by omega) (by omega));refine Int.le_of_mul_le_mul_right (a:=B) ?_ (by omega);have e1:R.1*(T.2:Int)*B=(R.1*B)*(T.2:Int):=by grind
 have e2:T.1*(R.2:Int)*B=(T.1*B)*(R.2:Int):=by grind
 rw [e1,e2,r1,t1];have e3:x*(R.2:Int)*(T.2:Int)=x*((R.2:Int)*(T.2:Int)):=by grind
 have e4:y*(T.2:Int)*(R.2:Int)=y*((R.2:Int)*(T.2:Int)):=by grind
 rw [e3,e4];exact k
theorem qkO {R:Qn} {x B:Int} (hB:0<B) (hR:Val R x B) (h:0≤x):0≤R.1:=by
 have:=jhD (R:=(0,1)) (x:=0) hB ⟨by decide,by simp⟩ hR h
 simpa using this
theorem qvJ (z B:Int):Val (z,1) (z*B) B:=⟨Nat.one_ne_zero,by simp⟩
theorem jeM {a b r:Qn} {x y B:Int} (ha:Val a x B) (hb:Val b y B) (h:subQ a b=some r):Val r (x - y) B:=by
 obtain ⟨a0,a1⟩:=ha;obtain ⟨b0,b1⟩:=hb;have hD:a.2*b.2≠0:=Nat.mul_ne_zero a0 b0;have v:=qcI hD h;have e:=(qeE hD h).1;refine ⟨v.pos,?_⟩;unfold subN at e;rw [Int.natCast_mul] at e;have h0:(a.2:Int)*(b.2:Int)≠0:=by rw [←Int.natCast_mul];omega
 refine Int.eq_of_mul_eq_mul_right h0 ?_;have e1:r.1*B*((a.2:Int)*(b.2:Int))=r.1*((a.2:Int)*(b.2:Int))*B:=by grind
 rw [e1,e];have e2:(a.1*(b.2:Int) - b.1*(a.2:Int))*(r.2:Int)*B=((a.1*B)*(b.2:Int) - (b.1*B)*(a.2:Int))*(r.2:Int):=by grind
 rw [e2,a1,b1];grind
theorem jeN {a b r:Qn} {x y B:Int} (ha:Val a x B) (hb:Val b y B) (h:addQ a b=some r):Val r (x+y) B:=by
 obtain ⟨a0,a1⟩:=ha;obtain ⟨b0,b1⟩:=hb;have hD:a.2*b.2≠0:=Nat.mul_ne_zero a0 b0;have v:=qcI hD h;have e:=(qeE hD h).1;refine ⟨v.pos,?_⟩;unfold jaF at e;rw [Int.natCast_mul] at e;have h0:(a.2:Int)*(b.2:Int)≠0:=by rw [←Int.natCast_mul];omega
 refine Int.eq_of_mul_eq_mul_right h0 ?_;have e1:r.1*B*((a.2:Int)*(b.2:Int))=r.1*((a.2:Int)*(b.2:Int))*B:=by grind
 rw [e1,e];have e2:(a.1*(b.2:Int)+b.1*(a.2:Int))*(r.2:Int)*B=((a.1*B)*(b.2:Int)+(b.1*B)*(a.2:Int))*(r.2:Int):=by grind
 rw [e2,a1,b1];grind
theorem jaK {a r:Qn} {z x B:Int} (ha:Val a x B) (h:mulQ (z,1) a=some r):Val r (z*x) B:=by
 obtain ⟨a0,a1⟩:=ha;have hD:1*a.2≠0:=by omega
 have v:=qcI hD h;have e:=(qeE hD h).1;refine ⟨v.pos,?_⟩;simp only [Nat.one_mul] at e;have h0:(a.2:Int)≠0:=by omega
 refine Int.eq_of_mul_eq_mul_right h0 ?_;have e1:r.1*B*(a.2:Int)=r.1*(a.2:Int)*B:=by grind
 rw [e1,e];have e2:z*a.1*(r.2:Int)*B=z*(a.1*B)*(r.2:Int):=by grind
 rw [e2,a1];grind
theorem qiX {p w:Qn} {pl:Nat} {n:Int} (hp:Pc p) (h1:0≤n) (h2:n≤1000000000000000) (h3:pl≤6) (h:worthQ p pl n=some w):Val w (n*wA p) (wB p pl:Int):=by
 obtain ⟨v,e⟩:=qdC hp h1 h2 h3 h;exact ⟨v.pos,e⟩
theorem qwN {p w one S R T:Qn} {pl:Nat} {n m sg:Int} (hp:Pc p) (h3:pl≤6) (h1:0≤n) (h2:n≤1000000000000000) (hw:worthQ p pl n=some w) (ho:worthQ p pl 1=some one)
  (hS:subQ (m,1) w=some S) (hR:mulQ (sg,1) S=some R) (hT:addQ one (1,1)=some T)
  (g1:0≤sg*(m*(wB p pl:Int) - n*wA p)) (g2:sg*(m*(wB p pl:Int) - n*wA p)<wA p+(wB p pl:Int)):0≤R.1∧R.1*(T.2:Int)<T.1*(R.2:Int):=by
 have hB:(0:Int)<(wB p pl:Int):=by have:=qkM hp pl;omega
 have vw:=qiX hp h1 h2 h3 hw;have vo:=qiX hp (by omega) (by omega) h3 ho;have vR:=jaK (jeM (qvJ m _) vw hS) hR;have vT:=jeN vo (qvJ 1 _) hT;exact ⟨qkO hB vR g1,jaL hB vR vT (by omega)⟩
end Dl
namespace Dl
def quo2 (a b:Qn):Option Qn:=mkQ (a.1*(b.2:Int)) (a.2*b.1.natAbs)
theorem jbL (a:Int) (b:Qn):quoQ a b=quo2 (a,1) b:=by simp [quoQ,quo2]
end Dl
namespace Dl
end Dl
namespace Dl
theorem qzN {q:Qn} (h:q.2≠0) (k:Int):ceilQ q≤k↔q.1≤k*(q.2:Int):=by
 have hq:(0:Int)<(q.2:Int):=by omega
 rw [qzL q h];obtain ⟨u1,u2⟩:=qmJ (N:=q.1) hq;constructor
 ·intro hk
  have:=Int.mul_le_mul_of_nonneg_right hk (show (0:Int)≤(q.2:Int) by omega)
  omega
 ·intro hk;have l:upZ q.1 (q.2:Int)*(q.2:Int)<(k+1)*(q.2:Int):=by rw [Int.add_mul];omega
  have:=Int.lt_of_mul_lt_mul_right l (by omega)
  omega
theorem dn_ge {q:Qn} (h:q.2≠0) (k:Int):k≤dnQ q↔k*(q.2:Int)≤q.1:=by
 have hq:(0:Int)<(q.2:Int):=by omega
 unfold dnQ;exact Int.le_ediv_iff_mul_le hq
def reachC (q:Qn) (most:Int):Int:=if ceilQ q≤most then ceilQ q else most+1
def reachF (q:Qn) (most:Int):Int:=if dnQ q≤most then dnQ q else most+1
theorem jbJ {q:Qn} (h:q.2≠0) (most:Int):(most*(q.2:Int)<q.1→reachC q most=most+1)∧(¬most*(q.2:Int)<q.1→¬(most+1)*(q.2:Int)≤q.1∧reachC q most=ceilQ q∧ceilQ q≤most):=by
 have k:=qzN h most;refine ⟨fun g=>?_,fun g=>?_⟩
 ·unfold reachC;rw [if_neg (by rw [k];omega)]
 ·have g1:ceilQ q≤most:=k.2 (by omega);refine ⟨?_,by unfold reachC;rw [if_pos g1],g1⟩;rw [Int.add_mul];omega
theorem jbK {q:Qn} (h:q.2≠0) (most:Int):((most+1)*(q.2:Int)≤q.1→reachF q most=most+1)∧(¬(most+1)*(q.2:Int)≤q.1→reachF q most=dnQ q∧dnQ q≤most):=by
 have k:=dn_ge h (most+1);refine ⟨fun g=>?_,fun g=>?_⟩
 ·have:=k.2 g
  unfold reachF;rw [if_neg (by omega)]
 ·have g1:dnQ q≤most:=by have:=mt k.1 g;omega
  exact ⟨by unfold reachF;rw [if_pos g1],g1⟩
theorem qmX {p q:Qn} {pl:Nat} {a:Int} (hp:Pc p) (h3:pl≤6) (ha:0≤a) (h:manyQ p pl a=some q):0≤q.1∧0≤dnQ q∧0≤ceilQ q:=by
 obtain ⟨v,e⟩:=qiR hp h3 h;have hA:=qkN hp
 have h0:0≤q.1:=by
  have:0≤q.1*wA p:=by rw [e];exact Int.mul_nonneg (Int.mul_nonneg ha (Int.natCast_nonneg _)) (Int.natCast_nonneg _)
  exact Int.le_of_mul_le_mul_right (a:=wA p) (by omega) hA
 have hq:=v.pos;refine ⟨h0,Int.ediv_nonneg h0 (Int.natCast_nonneg _),?_⟩;by_cases hc:ceilQ q≤-1
 ·have:=(qzN hq (-1)).1 hc
  omega
 ·omega
end Dl
namespace Dl
theorem qpY:(10000000000000000000000000000000000000000:Nat)<B480:=by unfold B480 BB;decide
structure Fw (p:Qn):Prop where
 pc:Pc p
 num:p.1≤1000000000000
 den:p.2≤1000000000000
theorem jbQ {n:Int} {pl:Nat} (h1:0≤n) (h2:n≤1000000000000000) (h3:pl≤6):0≤(partQ n pl).1∧(partQ n pl).1.natAbs≤100000000000000000∧(partQ n pl).2≤1000000:=by
 have hp:10^pl≠0:=Nat.ne_of_gt (Nat.pow_pos (by decide));have h6:10^pl≤10^6:=Nat.pow_le_pow_right (by omega) h3;obtain ⟨e,b1,b2⟩:=qeE hp (qfG h1 h2 h3);have v:=qcI hp (qfG h1 h2 h3);have hv:=v.pos;refine ⟨?_,by omega,by omega⟩;have h10:(0:Int)<((10^pl:Nat):Int):=by omega
 have:0≤(partQ n pl).1*((10^pl:Nat):Int):=by rw [e];exact Int.mul_nonneg (by omega) (Int.natCast_nonneg _)
 exact Int.le_of_mul_le_mul_right (a:=((10^pl:Nat):Int)) (by omega) h10
theorem qkL {p:Qn} {n:Int} {pl:Nat} (hp:Fw p) (h1:0≤n) (h2:n≤1000000000000000) (h3:pl≤6):∃ w,worthQ p pl n=some w∧w.1.natAbs≤10^29∧w.2≤10^18:=by
 obtain ⟨q0,q1,q2⟩:=jbQ h1 h2 h3;obtain ⟨v,_⟩:=qfQ h1 h2 h3;have c1:=hp.pc.pos;have c2:=hp.num;have c3:=hp.den;have b:=qpY
 have hN:(p.1*(partQ n pl).1).natAbs≤10^29:=by
  rw [Int.natAbs_mul];exact Nat.le_trans (Nat.mul_le_mul (show p.1.natAbs≤1000000000000 by omega) q1) (by decide)
 have hD:p.2*(partQ n pl).2≤10^18:=Nat.le_trans (Nat.mul_le_mul c3 q2) (by decide);have hD0:p.2*(partQ n pl).2≠0:=Nat.mul_ne_zero hp.pc.vq.pos v.pos;obtain ⟨w,hw⟩:=qeS (N:=p.1*(partQ n pl).1) (D:=p.2*(partQ n pl).2) (by omega) (by omega);obtain ⟨_,k1,k2⟩:=qeE hD0 hw;exact ⟨w,hw,by omega,by omega⟩
theorem qwM {w one:Qn} {m sg:Int} (hw0:w.2≠0) (hw1:w.1.natAbs≤10^29) (hw2:w.2≤10^18) (ho1:one.1.natAbs≤10^29) (ho2:one.2≤10^18) (hm0:0≤m) (hm:m≤1000000000000000) (hs:sg=1∨sg=-1) :
  ∃ S R T,subQ (m,1) w=some S∧mulQ (sg,1) S=some R∧addQ one (1,1)=some T:=by
 have b:=qpY
 have hmw:(m*(w.2:Int)).natAbs≤10^33:=by
  rw [Int.natAbs_mul,Int.natAbs_natCast];exact Nat.le_trans (Nat.mul_le_mul (show m.natAbs≤1000000000000000 by omega) hw2) (by decide)
 have hN:(subN (m,1) w).natAbs≤10^34:=by
  unfold subN;simp only [Int.natCast_one,Int.mul_one];omega
 obtain ⟨S,hS⟩:=qeS (N:=subN (m,1) w) (D:=1*w.2) (by omega) (by omega);obtain ⟨_,k1,k2⟩:=qeE (by omega) hS;have hM:(sg*S.1).natAbs≤10^34:=by rcases hs with rfl|rfl<;>omega
 obtain ⟨R,hR⟩:=qeS (N:=sg*S.1) (D:=1*S.2) (by omega) (by omega)
 have hA:(jaF one (1,1)).natAbs≤10^30:=by
  unfold jaF;simp only [Int.natCast_one,Int.mul_one,Int.one_mul];omega
 obtain ⟨T,hT⟩:=qeS (N:=jaF one (1,1)) (D:=one.2*1) (by omega) (by omega);exact ⟨S,R,T,hS,hR,hT⟩
end Dl
namespace Dl
end Dl
end Go.Proofs.YtemoddmadfoaiaaGreat
set_option maxHeartbeats 8000000
namespace Go.Proofs.YtemoddmadfoaiaaGreat
open Go.RowKit Big Reg Al Ga Dl
open Lib (hid)
namespace Dl
def MadeP (p:Qn):Prop:=Pc p∧p.1≤30000∧p.2≤1000000
theorem qmY {n:Int} {d:Nat} {p:Qn} (h1:1≤n) (h3:d≠0) (hp:mkQ n d=some p):Pc p∧p.1.natAbs≤n.natAbs∧p.2≤d:=by
 obtain ⟨e,a,b⟩:=qeE h3 hp;have v:=qcI h3 hp;refine ⟨⟨v,?_⟩,a,b⟩;have h:0<n*(p.2:Int):=Int.mul_pos (by omega) (by have:=v.pos;omega);rw [←e] at h;rcases Int.lt_or_le 0 p.1 with h0|h0
 ·exact h0
 ·have:=Int.mul_nonpos_of_nonpos_of_nonneg h0 (Int.natCast_nonneg d)
  omega
theorem qsG {n:Int} {d:Nat} (h1:1≤n) (h2:n≤30000) (h3:d≠0) (h4:d≤1000000):∃ p,mkQ n d=some p∧MadeP p:=by
 obtain ⟨p,hp⟩:=qeS (N:=n) (D:=d) (by have:=qdB;omega) (by have:=qdB;omega);obtain ⟨c,a,b⟩:=qmY h1 h3 hp;exact ⟨p,hp,c,by omega,by omega⟩
theorem qxX {p:Qn} (h:MadeP p):Fw p:=⟨h.1,by have:=h.2.1;omega,by have:=h.2.2;omega⟩
theorem qsH {p:Qn} {k:Int} (h:MadeP p) (h1:900≤k) (h2:k≤1100):∃ r q,mkQ k 1000=some r∧VQ r∧mulQ p r=some q∧Fw q:=by
 obtain ⟨r,hr,hm⟩:=qsG (n:=k) (d:=1000) (by omega) (by omega) (by omega) (by omega);obtain ⟨c,a,b⟩:=qmY (by omega) (by omega) hr;have c1:=h.1.pos;have c2:=c.pos;have e0:=h.2.1;have e1:=h.2.2;have v:=h.1.vq.pos;have v2:=c.vq.pos;have hN:(p.1*r.1).natAbs≤30000*1100:=by rw [Int.natAbs_mul];exact Nat.mul_le_mul (by omega) (by omega)
 have hD:p.2*r.2≤1000000*1000:=Nat.mul_le_mul e1 b;have hD0:p.2*r.2≠0:=Nat.mul_ne_zero v v2;obtain ⟨q,hq⟩:=qeS (N:=p.1*r.1) (D:=p.2*r.2) (by have:=qdB;omega) (by have:=qdB;omega);have hpos:1≤p.1*r.1:=by have:=Int.mul_pos c1 c2;omega
 obtain ⟨d,f,g⟩:=qmY hpos hD0 hq;exact ⟨r,q,hr,c.vq,hq,d,by omega,by omega⟩
end Dl
theorem Drew.fr {w w1 w2:World} {bt Z:Nat} (h:Drew w bt w1) (hbt:bt<Z) (hZ:w.heap.size≤Z) (k:Below Z w1 w2):Drew w bt w2:=by
 have hb:∀ b,b≤bt→w2.heap[b]?=w1.heap[b]?:=fun b hb=>k.block b (by omega)
 obtain ⟨at_,a,len,cap,hle,h0,h1,h2,h3,h4⟩:=h.1;refine ⟨⟨at_,a,len,cap,hle,?_,?_,fun o=>?_,h3,fun j hj=>?_⟩,k.os.trans h.2.os,k.tape.trans h.2.tape,k.output.trans h.2.output,Nat.le_trans h.2.size k.size,fun i hi hr=>(k.block i (by omega)).trans (h.2.block i hi hr)⟩
 ·rw [World.cell?_of_block (w:=w1) (hb bt (Nat.le_refl _))];exact h0
 ·rw [World.cell?_of_block (w:=w1) (hb bt (Nat.le_refl _))];exact h1
 ·rw [World.frozen?_of_block (w:=w1) (hb bt (Nat.le_refl _))];exact h2 o
 ·obtain ⟨b,off,v,e,hne,hc⟩:=h4 j hj;exact ⟨b,off,v,e,hne,by rw [World.cell?_of_block (w:=w1) (hb b (by omega))];exact hc⟩
theorem qcR {P:Program} {ops:Array Oper} {rest:List Oper} {o1 o2:Oper} {a:Act} {w:World} {Q:Exit→Act→World→Prop} {t:TypeId} (hg1:o1.guard=none) (hg2:o2.guard=none) (ho1:o1.op=.alloc t) {x y:Operand} (ho2:o2.op=.store t x y) {cs:List Value} (hL:∃ z,LaysAs P t z∧cs.length≤z.size)
  (hx:(a.put o1.dst (.pointer (some ⟨w.heap.size,0,none⟩))).eval x=.pointer (some ⟨w.heap.size,0,none⟩)) (hy:(a.put o1.dst (.pointer (some ⟨w.heap.size,0,none⟩))).eval y=.agg cs.toArray) (hs:(P.info? t).map (·.size)=some cs.length) (h1:cs.toArray.all (·.oneCell')=true)
  (h:∀ w',Below w.heap.size w w'→At w' w.heap.size 0 cs→w'.heap.size=w.heap.size+1→wpList P ops Q rest ((a.put o1.dst (.pointer (some ⟨w.heap.size,0,none⟩))).put o2.dst undef) w'):wpList P ops Q (o1::o2::rest) a w:=by
 obtain ⟨z,hL,hz⟩:=hL;refine wpList_plain hg1 fun K hK=>?_
 have hrun:=hL o1 ho1 a w;unfold Oper.wp;rw [hrun];refine hK _ _ ?_;have hA:At (w.alloc (.cells z t)) w.heap.size 0 z.toList:=by have:=At.fresh w z.toList t rfl;simpa using this
 have hth:(w.alloc (.cells z t)).there w.heap.size 0 cs.length:=fun j hj=>hA.there j (by simp;omega)
 refine wpList_store_mid hg2 _ _ _ ho2 w.heap.size 0 cs.toArray hx hy (by simpa using hth) (by simpa using hs) h1 ?_;refine h _ ?_ ?_ (by simp [qaW])
 ·exact qaC (Nat.le_refl _) _ _ _ ((Below.refl _ _).alloc (Nat.le_refl _) _)
 ·exact ⟨World.rangeAt_setCells_same _ _ _ _ hth,World.there_setCells hth _ _ _,by rw [qaW];simp⟩
theorem qtO (bt:Nat) (w:World) (ht:IsTp w bt) :
  Calls Tryz.prog 49 #[.pointer (some ⟨bt,0,none⟩)] w fun e w'=>∃ (p:Qn) (c:List Value),c=ratZ p.1 p.2∧e=.returned (.agg c.toArray)∧MadeP p∧Drew w bt w':=by
 have hbt:=ht.lt;obtain ⟨X,hX⟩:=nqx (w.heap.size);obtain ⟨cz,V_cz⟩:=nvx (rat false 0 false 0);obtain ⟨w0,hw0⟩:=nqx (w.alloc (.cells Tryz.zeroCells27 27));have A0:=hid (show At w0 X 0 cz by rw [hw0];exact (show At (w.alloc (.cells Tryz.zeroCells27 27)) X 0 cz from (by rw [Tryz.zeroR,V_cz.out];exact At.fresh _ (rat false 0 false 0) _ (by simp [hX]))));have D0:=hid (show Drew w bt w0 by rw [hw0];exact (Drew.refl ht).alloc _);have hbX:bt<X:=by omega
 have HX:=hid hX;go_enter Tryz.func49,Tryz.ntmps49
 go_upto_region 1 with fail
 rw [←hw0,←hX];clear hw0 hX ht;go_wp2_with fail
 refine (qbD bt 6 w0 D0.out.1 (by omega) (by omega)).mono ?_;rintro e w1 ⟨v,rfl,hv0,hv1,hd⟩;replace A0:=hid (A0.out.drw hd (by omega));replace D0:=hid (D0.out.trans hd);clear hd;by_cases h0:v=0
 ·subst h0;go_wp2_with fail
  refine (qbD bt 5000 w1 D0.out.1 (by omega) (by omega)).mono ?_;rintro e w2 ⟨x,rfl,hx0,hx1,hd⟩;replace A0:=hid (A0.out.drw hd (by omega));replace D0:=hid (D0.out.trans hd);clear hd;have wx:IntKind.i64.wrap (1+x)=1+x:=IntWalk.i64_in _ (by omega);go_wp2_with fail
  refine (qbD bt 700 w2 D0.out.1 (by omega) (by omega)).mono ?_;rintro e w3 ⟨y,rfl,hy0,hy1,hd⟩;replace A0:=hid (A0.out.drw hd (by omega));replace D0:=hid (D0.out.trans hd);clear hd;have wy:IntKind.i64.wrap (1+y)=1+y:=IntWalk.i64_in _ (by omega);obtain ⟨p,hp,hm⟩:=qsG (n:=1+x) (d:=(1+y:Int).toNat) (by omega) (by omega) (by omega) (by omega);obtain ⟨cp,V_cp⟩:=nvx (rat (decide (p.1<0)) p.1.natAbs false p.2);have HR:=hid (qrT (cR:=cp) (x:=1+x) (y:=1+y) (d:=(1+y:Int).toNat) (by omega) (by omega) (by rw [hp,V_cp.out];rfl) (by omega) (by omega) (by omega));have HM:=hid hm;have HTH:=hid (fun W (hb:Below w3.heap.size w3 W)=>(show W.there X 0 cp.toArray.size by have:=(A0.out.below hb).there;rw [V_cz.out,qaS] at this;rw [List.size_toArray,V_cp.out,qaS];exact this));have HSA:=hid (show (Tryz.prog.info? 27).map (·.size)=some cp.toArray.size by rw [List.size_toArray];exact qR V_cp.out);have HONE:=hid (qsD V_cp.out);clear hp hm;go_wp2_with (first|(go_at_call 24;refine (HR.out _).mono ?_;rintro e w7 ⟨rfl,hb1⟩;have HB1:=hid hb1;clear hb1)|(refine wpList_store_mid rfl _ _ _ rfl X 0 _ rfl rfl (HTH.out _ HB1.out) HSA.out HONE.out ?_))
  try simp only [zq]
  try simp only [List.toList_toArray]
  have AF:=hid ((A0.out.below HB1.out).stored (ds:=cp) (by rw [V_cp.out,V_cz.out,qaS,qaS]));have hld:=rdR AF V_cp;refine bodyPost_ret (v:=.agg cp.toArray) (by simp [results,Tryz.results49,asAddr,hld]) rfl ?_;exact ⟨p,cp,V_cp.out,rfl,HM.out,Drew.sets (D0.out.below HB1.out) hbt (by rw [←HX.out];exact Nat.le_refl X) cp⟩
 by_cases h1:v=1
 ·subst h1;go_wp2_with fail
  refine (qbD bt 9 w1 D0.out.1 (by omega) (by omega)).mono ?_;rintro e w2 ⟨x,rfl,hx0,hx1,hd⟩;replace A0:=hid (A0.out.drw hd (by omega));replace D0:=hid (D0.out.trans hd);clear hd;have wx:IntKind.i64.wrap (1+x)=1+x:=IntWalk.i64_in _ (by omega);have hz4:=A0.out.lt;go_wp2_with fail
  have HP:=hid (qjU w2 [1,10,1000,1000000] 3 w2.heap.size rfl);refine (qgV bt w2.heap.size 4 4 [1,10,1000,1000000] _ rfl (D0.out.alloc _).1 (by omega) (by omega) (by omega) HP.out).mono ?_;rintro e w3 ⟨s,hs,rfl,hd⟩
  have hsb:1≤s∧s≤1000000:=by
   simp only [List.mem_cons,List.not_mem_nil,or_false] at hs;omega
  replace A0:=hid ((A0.out.alloc _).drw hd (by omega));replace D0:=hid ((D0.out.alloc _).trans hd);clear hd hs HP hz4;obtain ⟨p,hp,hm⟩:=qsG (n:=1+x) (d:=(s:Int).toNat) (by omega) (by omega) (by omega) (by omega);obtain ⟨cp,V_cp⟩:=nvx (rat (decide (p.1<0)) p.1.natAbs false p.2);have HR:=hid (qrT (cR:=cp) (x:=1+x) (y:=s) (d:=(s:Int).toNat) (by omega) (by omega) (by rw [hp,V_cp.out];rfl) (by omega) (by omega) (by omega));have HM:=hid hm;have HTH:=hid (fun W (hb:Below w3.heap.size w3 W)=>(show W.there X 0 cp.toArray.size by have:=(A0.out.below hb).there;rw [V_cz.out,qaS] at this;rw [List.size_toArray,V_cp.out,qaS];exact this));have HSA:=hid (show (Tryz.prog.info? 27).map (·.size)=some cp.toArray.size by rw [List.size_toArray];exact qR V_cp.out);have HONE:=hid (qsD V_cp.out);clear hp hm;go_wp2_with (first|(go_at_call 24;refine (HR.out _).mono ?_;rintro e w7 ⟨rfl,hb1⟩;have HB1:=hid hb1;clear hb1)|(refine wpList_store_mid rfl _ _ _ rfl X 0 _ rfl rfl (HTH.out _ HB1.out) HSA.out HONE.out ?_))
  try simp only [zq]
  try simp only [List.toList_toArray]
  have AF:=hid ((A0.out.below HB1.out).stored (ds:=cp) (by rw [V_cp.out,V_cz.out,qaS,qaS]));have hld:=rdR AF V_cp;refine bodyPost_ret (v:=.agg cp.toArray) (by simp [results,Tryz.results49,asAddr,hld]) rfl ?_;exact ⟨p,cp,V_cp.out,rfl,HM.out,Drew.sets (D0.out.below HB1.out) hbt (by rw [←HX.out];exact Nat.le_refl X) cp⟩
 go_wp2_with fail
 refine (qbD bt 30000 w1 D0.out.1 (by omega) (by omega)).mono ?_;rintro e w2 ⟨x,rfl,hx0,hx1,hd⟩;replace A0:=hid (A0.out.drw hd (by omega));replace D0:=hid (D0.out.trans hd);clear hd;have wx:IntKind.i64.wrap (1+x)=1+x:=IntWalk.i64_in _ (by omega);obtain ⟨p,hp,hm⟩:=qsG (n:=1+x) (d:=(100:Int).toNat) (by omega) (by omega) (by omega) (by omega);obtain ⟨cp,V_cp⟩:=nvx (rat (decide (p.1<0)) p.1.natAbs false p.2);have HR:=hid (qrT (cR:=cp) (x:=1+x) (y:=100) (d:=(100:Int).toNat) (by omega) (by omega) (by rw [hp,V_cp.out];rfl) (by omega) (by omega) (by omega));have HM:=hid hm;have HTH:=hid (fun W (hb:Below w2.heap.size w2 W)=>(show W.there X 0 cp.toArray.size by have:=(A0.out.below hb).there;rw [V_cz.out,qaS] at this;rw [List.size_toArray,V_cp.out,qaS];exact this));have HSA:=hid (show (Tryz.prog.info? 27).map (·.size)=some cp.toArray.size by rw [List.size_toArray];exact qR V_cp.out);have HONE:=hid (qsD V_cp.out);clear hp hm;go_wp2_with (first|(go_at_call 24;refine (HR.out _).mono ?_;rintro e w7 ⟨rfl,hb1⟩;have HB1:=hid hb1;clear hb1)|(refine wpList_store_mid rfl _ _ _ rfl X 0 _ rfl rfl (HTH.out _ HB1.out) HSA.out HONE.out ?_))
 try simp only [zq]
 try simp only [List.toList_toArray]
 have AF:=hid ((A0.out.below HB1.out).stored (ds:=cp) (by rw [V_cp.out,V_cz.out,qaS,qaS]));have hld:=rdR AF V_cp;refine bodyPost_ret (v:=.agg cp.toArray) (by simp [results,Tryz.results49,asAddr,hld]) rfl ?_;exact ⟨p,cp,V_cp.out,rfl,HM.out,Drew.sets (D0.out.below HB1.out) hbt (by rw [←HX.out];exact Nat.le_refl X) cp⟩
theorem quC (bt:Nat) (w:World) (ht:IsTp w bt) :
  Calls Tryz.prog 15 #[.pointer (some ⟨bt,0,none⟩)] w fun e w'=>∃ (p q:Qn) (c d:List Value),c=ratZ p.1 p.2∧d=ratZ q.1 q.2∧e=.returned (.tuple #[.agg c.toArray,.agg d.toArray])∧Fw p∧Fw q∧Drew w bt w':=by
 have hbt:=ht.lt;obtain ⟨X0,hX0⟩:=nqx (w.heap.size);obtain ⟨X1,hX1⟩:=nqx (w.heap.size+1);obtain ⟨cz,V_cz⟩:=nvx (rat false 0 false 0);obtain ⟨w0,hw0⟩:∃ w0,w0=(w.alloc (.cells Tryz.zeroCells27 27)).alloc (.cells Tryz.zeroCells27 27):=⟨_,rfl⟩;have AX0:=hid (show At w0 X0 0 cz by rw [hw0];exact (show At (w.alloc (.cells Tryz.zeroCells27 27)) X0 0 cz from (by rw [Tryz.zeroR,V_cz.out];exact At.fresh _ (rat false 0 false 0) _ (by simp [hX0]))).alloc _);have AX1:=hid (show At w0 X1 0 cz by rw [hw0];exact (show At ((w.alloc (.cells Tryz.zeroCells27 27)).alloc (.cells Tryz.zeroCells27 27)) X1 0 cz from (by rw [Tryz.zeroR,V_cz.out];exact At.fresh _ (rat false 0 false 0) _ (by simp [hX1]))));have D0:=hid (show Drew w bt w0 by rw [hw0];exact ((Drew.refl ht).alloc _).alloc _);have hbX:bt<X0:=by omega
 have hX01:X0<X1:=by omega
 have hZX0:X0≤X0:=Nat.le_refl _;have HX:=hid hX0;go_enter Tryz.func15,Tryz.ntmps15
 go_upto_region 1 with fail
 rw [←hw0,←hX1,←hX0];clear hw0 hX0 hX1;go_upto_region 2 with (first|(go_at_call 49;refine (qtO bt _ D0.out.1).mono ?_;rintro e w1 ⟨p,cp,hcp,rfl,hm,hd⟩;have V_cp:=hid (show cp=rat (decide (p.1<0)) p.1.natAbs false p.2 from hcp);have HM:=hid hm;have HD1:=hid hd;clear hcp hm hd)|(refine qcR rfl rfl rfl rfl (Tryz.alR (qR V_cp.out)) rfl rfl (qR V_cp.out) (qsD V_cp.out) ?_;intro w2 hb2 hA2 hs2))
 try simp only [zq]
 replace AX0:=hid (AX0.out.drw HD1.out (by omega));replace AX1:=hid (AX1.out.drw HD1.out (by omega));have lX1:=AX1.out.lt;obtain ⟨b4,hb4⟩:=nqx (w1.heap.size);rw [←hb4] at hA2 lX1 ⊢;replace AX0:=hid (AX0.out.below hb2);replace AX1:=hid (AX1.out.below hb2);have Ab4:=hid hA2;replace D0:=hid ((D0.out.trans HD1.out).below hb2);clear hb2 hA2 hs2 hb4 HD1;go_wp2_with fail
 refine (jdR bt 3 w2 D0.out.1 (by omega) (by omega)).mono ?_;rintro e w3 ⟨t,rfl,hd⟩;replace AX0:=hid (AX0.out.drw hd (by omega));replace AX1:=hid (AX1.out.drw hd (by omega));replace Ab4:=hid (Ab4.out.drw hd (by omega));replace D0:=hid (D0.out.trans hd);clear hd
 cases t with
 | true =>
  have FR:=hid (show Fr X0 w3 w3 from ⟨Below.refl _ _,Nat.le_of_lt AX0.out.lt⟩);go_upto_region 3 with fail
  refine wF [⟨false,0,2,2,X0,0,27,11,cp,0,cp,[]⟩,⟨false,0,3,3,X1,0,27,12,cp,0,cp,[]⟩] [(11,aT cp),(12,aT cp)] (by simp only [zu];rfl) (by kernel_rfl) ?_ ?_ (oP _ _ bnC (fP1 bnC)) ?_ ?_ ?_ ?_
  ·intro W' hW';have rd0:=Ab4.out.below hW';exact ldR rd0 V_cp rfl<|ldR rd0 V_cp rfl<|fxs rfl<|fxs rfl<|fxn
  ·intro W' hK';have rd0:=At.keep hK' Ab4.out (oP _ _ (fun _=>(by show X0≠b4;omega)) (oP _ _ (fun _=>(by show X1≠b4;omega)) (oN)));exact ldR rd0 V_cp rfl<|ldR rd0 V_cp rfl<|fxs (by kernel_rfl)<|fxs (by kernel_rfl)<|fxn
  ·exact oP _ _ (fun _=>rmh AX0 (qR V_cz.out) (qR V_cp.out) rfl) (oP _ _ (fun _=>rmh AX1 (qR V_cz.out) (qR V_cp.out) rfl) (oN))
  ·intro q hq r hr hqn hrn e;simp only [List.mem_cons,List.not_mem_nil,or_false] at hq hr;rcases hq with rfl|rfl<;>rcases hr with rfl|rfl<;>first|rfl|(exact Bool.noConfusion hqn)|(exact Bool.noConfusion hrn)|(exfalso;simp only at e;omega)
  ·exact oP _ _ (stw rfl (qR V_cp.out) (qsD V_cp.out) (fun _=>rfl)) (oP _ _ (stw rfl (qR V_cp.out) (qsD V_cp.out) (fun _=>rfl)) (oN))
  intro β wx1 E;replace FR:=hid (FR.out.flow E (oP _ _ (fun _=>(by show X0≤X0;omega)) (oP _ _ (fun _=>(by show X0≤X1;omega)) (oN))));replace AX0:=aoh E AX0 mms;replace AX1:=aoh E AX1 (List.mem_cons_of_mem _ mms);simp only [nP,zu];go_wp2_with fail
  have hld0:=rdR AX0 V_cp;have hld1:=rdR AX1 V_cp;refine bodyPost_ret (v:=.tuple #[.agg cp.toArray,.agg cp.toArray]) (by simp [results,Tryz.results15,asAddr,hld0,hld1]) rfl ?_;exact ⟨p,p,cp,cp,V_cp.out,V_cp.out,rfl,qxX HM.out,qxX HM.out,D0.out.fr hbX (by rw [HX.out];exact Nat.le_refl _) FR.out.below⟩
 | false =>
  obtain ⟨co,V_co⟩:=nvx (nm (decide (p.1<0)) p.1.natAbs false p.2 0);have HOF:=hid (eOf V_cp.out V_co.out);go_upto_region 5 with (first|(refine wpList_load_mid rfl _ _ rfl b4 0 rfl cp _ Ab4.out.range Tryz.underlying27 rfl (qR V_cp.out) ?_)|(go_at_call 32;refine (HOF.out _).mono ?_;rintro e w4 ⟨rfl,hb⟩;have HB4:=hid hb;clear hb)|(go_at_call 23;refine (qbD bt 30 w4 (D0.out.1.below HB4.out) (by omega) (by omega)).mono ?_;rintro e w5 ⟨k,rfl,hk0,hk1,hd⟩;have HD5:=hid hd;clear hd;have wk:IntKind.i64.wrap (1000+k)=1000+k:=IntWalk.i64_in _ (by omega);obtain ⟨r,qu,hr,hvr,hq,hfwu⟩:=qsH HM.out (k:=1000+k) (by omega) (by omega);obtain ⟨ck,V_ck⟩:=nvx (nm (decide (r.1<0)) r.1.natAbs false r.2 0);obtain ⟨cu,V_cu⟩:=nvx (nm (decide (qu.1<0)) qu.1.natAbs false qu.2 0);have HOV:=hid (jcV (cN:=ck) (x:=1000+k) (y:=1000) (d:=1000) rfl (by omega) (by rw [hr,V_ck.out];rfl) (by omega) (by omega) (by omega));have HMU:=hid (jiP (ca:=co) (cb:=ck) (cN:=cu) (a:=some p) (b:=some r) V_co.out V_ck.out (fun x e=>by injection e with e;subst e;exact HM.out.1.vq) (fun x e=>by injection e with e;subst e;exact hvr) (by show _=resN (mulQ p r);rw [hq,V_cu.out];rfl));clear hr hvr hq)|(go_at_call 39;refine (HOV.out _).mono ?_;rintro e w6 ⟨rfl,hb⟩;have HB6:=hid hb;clear hb)|(go_at_call 29;refine (HMU.out _).mono ?_;rintro e w7 ⟨rfl,hb⟩;have HB7:=hid hb;clear hb)|(refine qcR rfl rfl rfl rfl (Tryz.alN (qbB V_cu.out)) rfl rfl (qbB V_cu.out) (qsE V_cu.out) ?_;intro w8 hb8 hA8 hs8))
  try simp only [zq]
  replace AX0:=hid ((((AX0.out.below HB4.out).drw HD5.out (by omega)).below HB6.out).below HB7.out);replace AX1:=hid ((((AX1.out.below HB4.out).drw HD5.out (by omega)).below HB6.out).below HB7.out);replace Ab4:=hid ((((Ab4.out.below HB4.out).drw HD5.out (by omega)).below HB6.out).below HB7.out);have lXu:=Ab4.out.lt;obtain ⟨b5,hb5⟩:=nqx (w7.heap.size);rw [←hb5] at hA8 lXu ⊢;replace AX0:=hid (AX0.out.below hb8);replace AX1:=hid (AX1.out.below hb8);replace Ab4:=hid (Ab4.out.below hb8);have Ab5:=hid hA8;replace D0:=hid ((((((D0.out.below HB4.out).trans HD5.out).below HB6.out).below HB7.out).below hb8));have HFu:=hid hfwu;clear hb8 hA8 hs8 hb5 HB4 HD5 HB6 HB7 HOV HMU hfwu wk hk0 hk1 V_ck;go_upto_region 6 with (first|(refine wpList_load_mid rfl _ _ rfl b4 0 rfl cp _ Ab4.out.range Tryz.underlying27 rfl (qR V_cp.out) ?_)|(go_at_call 32;refine (HOF.out _).mono ?_;rintro e w9 ⟨rfl,hb⟩;have HB4:=hid hb;clear hb)|(go_at_call 23;refine (qbD bt 30 w9 (D0.out.1.below HB4.out) (by omega) (by omega)).mono ?_;rintro e w10 ⟨k,rfl,hk0,hk1,hd⟩;have HD5:=hid hd;clear hd;have wk:IntKind.i64.wrap (1000 - k)=1000 - k:=IntWalk.i64_in _ (by omega);obtain ⟨r,qd,hr,hvr,hq,hfwd⟩:=qsH HM.out (k:=1000 - k) (by omega) (by omega);obtain ⟨ck,V_ck⟩:=nvx (nm (decide (r.1<0)) r.1.natAbs false r.2 0);obtain ⟨cd,V_cd⟩:=nvx (nm (decide (qd.1<0)) qd.1.natAbs false qd.2 0);have HOV:=hid (jcV (cN:=ck) (x:=1000 - k) (y:=1000) (d:=1000) rfl (by omega) (by rw [hr,V_ck.out];rfl) (by omega) (by omega) (by omega));have HMU:=hid (jiP (ca:=co) (cb:=ck) (cN:=cd) (a:=some p) (b:=some r) V_co.out V_ck.out (fun x e=>by injection e with e;subst e;exact HM.out.1.vq) (fun x e=>by injection e with e;subst e;exact hvr) (by show _=resN (mulQ p r);rw [hq,V_cd.out];rfl));clear hr hvr hq)|(go_at_call 39;refine (HOV.out _).mono ?_;rintro e w11 ⟨rfl,hb⟩;have HB6:=hid hb;clear hb)|(go_at_call 29;refine (HMU.out _).mono ?_;rintro e w12 ⟨rfl,hb⟩;have HB7:=hid hb;clear hb)|(refine qcR rfl rfl rfl rfl (Tryz.alN (qbB V_cd.out)) rfl rfl (qbB V_cd.out) (qsE V_cd.out) ?_;intro w13 hb8 hA8 hs8))
  try simp only [zq]
  replace AX0:=hid ((((AX0.out.below HB4.out).drw HD5.out (by omega)).below HB6.out).below HB7.out);replace AX1:=hid ((((AX1.out.below HB4.out).drw HD5.out (by omega)).below HB6.out).below HB7.out);replace Ab5:=hid ((((Ab5.out.below HB4.out).drw HD5.out (by omega)).below HB6.out).below HB7.out);have lXd:=Ab5.out.lt;obtain ⟨b6,hb6⟩:=nqx (w12.heap.size);rw [←hb6] at hA8 lXd ⊢;replace AX0:=hid (AX0.out.below hb8);replace AX1:=hid (AX1.out.below hb8);replace Ab5:=hid (Ab5.out.below hb8);have Ab6:=hid hA8;replace D0:=hid ((((((D0.out.below HB4.out).trans HD5.out).below HB6.out).below HB7.out).below hb8));have HFd:=hid hfwd;clear hb8 hA8 hs8 hb6 HB4 HD5 HB6 HB7 HOV HMU hfwd wk hk0 hk1 V_ck;obtain ⟨cur,V_cur⟩:=nvx (rat (decide (qu.1<0)) qu.1.natAbs false qu.2);obtain ⟨cdr,V_cdr⟩:=nvx (rat (decide (qd.1<0)) qd.1.natAbs false qd.2);have Ab5_v:=hid (Ab5.out.val V_cu.out V_cur.out);have Ab6_v:=hid (Ab6.out.val V_cd.out V_cdr.out);have FR:=hid (show Fr X0 w13 w13 from ⟨Below.refl _ _,Nat.le_of_lt AX0.out.lt⟩);refine wF [⟨false,0,2,4,X0,0,27,28,cur,0,cur,[]⟩,⟨false,0,3,5,X1,0,27,30,cdr,0,cdr,[]⟩] [(27,pT b5 0),(28,aT cur),(29,pT b6 0),(30,aT cdr)] (by simp only [zu];rfl) (by kernel_rfl) ?_ ?_ (oP _ _ bnC (fP1 bnC)) ?_ ?_ ?_ ?_
  ·intro W' hW';refine fxo ?_<|lhR Ab5_v hW' V_cur rfl<|fxo ?_<|lhR Ab6_v hW' V_cdr rfl<|fxs rfl<|fxs rfl<|fxn;all_goals (go_big_quiet_step (fail);exact wqn rfl)
  ·intro W' hK';have rd0:=At.keep hK' Ab5_v.out (oP _ _ (fun _=>(by show X0≠b5;omega)) (oP _ _ (fun _=>(by show X1≠b5;omega)) (oN)));have rd1:=At.keep hK' Ab6_v.out (oP _ _ (fun _=>(by show X0≠b6;omega)) (oP _ _ (fun _=>(by show X1≠b6;omega)) (oN)));refine fxi ?_<|ldR rd0 V_cur rfl<|fxi ?_<|ldR rd1 V_cdr rfl<|fxs (by kernel_rfl)<|fxs (by kernel_rfl)<|fxn;all_goals (first|(refine .inr ?_;go_big_quiet_step (fail);exact wqn rfl)|exact .inl (by kernel_rfl))
  ·exact oP _ _ (fun _=>rmh AX0 (qR V_cz.out) (qR V_cur.out) rfl) (oP _ _ (fun _=>rmh AX1 (qR V_cz.out) (qR V_cdr.out) rfl) (oN))
  ·intro q hq r hr hqn hrn e;simp only [List.mem_cons,List.not_mem_nil,or_false] at hq hr;rcases hq with rfl|rfl<;>rcases hr with rfl|rfl<;>first|rfl|(exact Bool.noConfusion hqn)|(exact Bool.noConfusion hrn)|(exfalso;simp only at e;omega)
  ·exact oP _ _ (stw rfl (qR V_cur.out) (qsD V_cur.out) (fun _=>rfl)) (oP _ _ (stw rfl (qR V_cdr.out) (qsD V_cdr.out) (fun _=>rfl)) (oN))
  intro β wx1 E;replace FR:=hid (FR.out.flow E (oP _ _ (fun _=>(by show X0≤X0;omega)) (oP _ _ (fun _=>(by show X0≤X1;omega)) (oN))));replace AX0:=aoh E AX0 mms;replace AX1:=aoh E AX1 (List.mem_cons_of_mem _ mms);simp only [nP,zu];go_wp2_with fail
  have hld0:=rdR AX0 V_cur;have hld1:=rdR AX1 V_cdr;refine bodyPost_ret (v:=.tuple #[.agg cur.toArray,.agg cdr.toArray]) (by simp [results,Tryz.results15,asAddr,hld0,hld1]) rfl ?_;exact ⟨qu,qd,cur,cdr,V_cur.out,V_cdr.out,rfl,HFu.out,HFd.out,D0.out.fr hbX (by rw [HX.out];exact Nat.le_refl _) FR.out.below⟩
end Go.Proofs.YtemoddmadfoaiaaGreat
set_option maxHeartbeats 8000000
namespace Go.Proofs.YtemoddmadfoaiaaGreat
open Go.RowKit Big
open Lib (hid)
theorem jfE {ca cb cN cD:List Value} {na n:Bool} {pa qa pb qb v d:Nat} (h1:ca=rat na pa false qa) (h2:cb=rat false pb false qb) (hN:cN=.bool n::lv 32 v) (hD:cD=.bool false::lv 32 d)
  (hv:v=pa*qb) (hd:d=qa*pb) (hn:n=cs1 (na != false) v) (b1:pa<B480) (b2:qa<B480) (b3:pb<B480) (b4:qb<B480) (w:World) :
  CB 153 #[.agg ca.toArray,.agg cb.toArray] (.tuple #[.agg cN.toArray,.agg cD.toArray]) w:=by
 have V_ca:=hid h1;have V_cb:=hid h2;have V_cN:=hid hN;have V_cD:=hid hD;have u30:BB^30≤BB^32:=Nat.pow_le_pow_right qbK (by omega);have hvB:v<BB^30:=by rw [hv];exact qeZ b1 b4
 have hdB:d<BB^30:=by rw [hd];exact qeZ b2 b3
 obtain ⟨cna,V_cna⟩:=nvx (.bool na::lv 32 pa);obtain ⟨cda,V_cda⟩:=nvx (.bool false::lv 32 qa);obtain ⟨cnb,V_cnb⟩:=nvx (.bool false::lv 32 pb);obtain ⟨cdb,V_cdb⟩:=nvx (.bool false::lv 32 qb);obtain ⟨cz,V_cz⟩:=nvx (.bool false::lv 32 0);have HPN:=hid (qhL V_cna.out V_cdb.out V_cN.out hv hn (qaG b1) (qaG b4) (by omega));have HPD:=hid (qhL V_cda.out V_cnb.out V_cD.out hd rfl (qaG b2) (qaG b3) (by omega));clear h1 h2 hN hD hv hd hn b1 b2 b3 b4 u30 hvB hdB;obtain ⟨B0,B1,B2,B3,w0,hw0,hB0,hB1,hB2,hB3,AB0,AB1,AB2,AB3,FR,FR0,HB0,hZB0,l01,hZB1,l12,hZB2,l23,hZB3⟩:=en4 w 27 27 25 25 (bxq ca) (bxq cb) (zQI V_cz) (zQI V_cz);unfold zero33 at hw0;go_enter Tryz.func153,Tryz.ntmps153
 go_upto_region 1 with fail
 rw [←hw0,←hB3,←hB2,←hB1,←hB0];clear hw0 hB0 hB1 hB2 hB3;have AB0_n:=hid (AB0.out.num V_ca.out V_cna.out);have AB0_d:=hid (AB0.out.den V_ca.out V_cda.out);have AB1_n:=hid (AB1.out.num V_cb.out V_cnb.out);have AB1_d:=hid (AB1.out.den V_cb.out V_cdb.out);refine wF [⟨false,0,4,10,B2,0,25,10,cN,0,cN,[]⟩,⟨false,0,5,11,B3,0,25,15,cD,0,cD,[]⟩] [(6,pT B0 0),(7,aT cna),(8,pT B1 33),(9,aT cdb),(10,aT cN),(11,pT B0 33),(12,aT cda),(13,pT B1 0),(14,aT cnb),(15,aT cD)] (by simp only [zu];rfl) (by kernel_rfl) ?_ ?_ (oP _ _ bnC (fP1 bnC)) ?_ ?_ ?_ ?_
 ·intro W' hW';refine fxo ?_<|lhI AB0_n hW' V_cna rfl<|fxo ?_<|lhI AB1_d hW' V_cdb rfl<|fo2 ?_ ?_<|lhI AB0_d hW' V_cda rfl<|fxo ?_<|lhI AB1_n hW' V_cnb rfl<|fxo (by go_big_quiet_step (exact qaA (HPD.out _));exact wqn rfl)<|fxs rfl<|fxs rfl<|fxn;all_goals (go_big_quiet_step (exact qaA (HPN.out _));exact wqn rfl)
 ·intro W' hK';have rd0:=At.keep hK' AB0_n.out (oP _ _ (fun _=>(by show B2≠B0;omega)) (oP _ _ (fun _=>(by show B3≠B0;omega)) (oN)));have rd1:=At.keep hK' AB1_d.out (oP _ _ (fun _=>(by show B2≠B1;omega)) (oP _ _ (fun _=>(by show B3≠B1;omega)) (oN)));have rd2:=At.keep hK' AB0_d.out (oP _ _ (fun _=>(by show B2≠B0;omega)) (oP _ _ (fun _=>(by show B3≠B0;omega)) (oN)));have rd3:=At.keep hK' AB1_n.out (oP _ _ (fun _=>(by show B2≠B1;omega)) (oP _ _ (fun _=>(by show B3≠B1;omega)) (oN)));refine fxi ?_<|ldI rd0 V_cna rfl<|fxi ?_<|ldI rd1 V_cdb rfl<|fxs (by kernel_rfl)<|fxi ?_<|ldI rd2 V_cda rfl<|fxi ?_<|ldI rd3 V_cnb rfl<|fxs (by kernel_rfl)<|fxs (by kernel_rfl)<|fxs (by kernel_rfl)<|fxn;all_goals (first|(refine .inr ?_;go_big_quiet_step (fail);exact wqn rfl)|exact .inl (by kernel_rfl))
 ·exact oP _ _ (fun _=>rmh AB2 (qI V_cz.out) (qI V_cN.out) rfl) (oP _ _ (fun _=>rmh AB3 (qI V_cz.out) (qI V_cD.out) rfl) (oN))
 ·intro q hq r hr hqn hrn e;simp only [List.mem_cons,List.not_mem_nil,or_false] at hq hr;rcases hq with rfl|rfl<;>rcases hr with rfl|rfl<;>first|rfl|(exact Bool.noConfusion hqn)|(exact Bool.noConfusion hrn)|(exfalso;simp only at e;omega)
 ·exact oP _ _ (stw rfl (qI V_cN.out) (qfH V_cN.out) (fun _=>rfl)) (oP _ _ (stw rfl (qI V_cD.out) (qfH V_cD.out) (fun _=>rfl)) (oN))
 intro β wx1 E;replace FR:=hid (FR.out.flow E (oP _ _ (fun _=>(by show B0≤B2;omega)) (oP _ _ (fun _=>(by show B0≤B3;omega)) (oN))));replace AB2:=aoh E AB2 mms;replace AB3:=aoh E AB3 (List.mem_cons_of_mem _ mms);simp only [nP,zu];go_wp2_with fail
 have hld0:=rdI AB2 V_cN;have hld1:=rdI AB3 V_cD;refine bodyPost_ret (v:=.tuple #[.agg cN.toArray,.agg cD.toArray]) (by simp [results,Tryz.results153,asAddr,hld0,hld1]) rfl ?_;exact ⟨rfl,qaY HB0 FR⟩
theorem jdJ {ca cb cN cD cR:List Value} {na nb:Bool} {pa qa pb qb:Nat} {code:Int} (w:World) (h1:ca=rat na pa false qa) (h2:cb=rat nb pb false qb)
  (ha:∀ W,CB 106 #[.agg ca.toArray] (.bool true) W) (hb:∀ W,CB 106 #[.agg cb.toArray] (.bool true) W)
  (hC:∀ W,CB 153 #[.agg ca.toArray,.agg cb.toArray] (.tuple #[.agg cN.toArray,.agg cD.toArray]) W)
  (hMk:∀ W,CB 75 #[.agg cN.toArray,.agg cD.toArray] (.tuple #[.agg cR.toArray,.int .i64 code]) W) {rn:Bool} {rp rq:Nat} {rm:Bool} (hcR:cR=rat rn rp rm rq) :
  CB 77 #[.agg ca.toArray,.agg cb.toArray,.func (.func 153) #[] #[]] (.tuple #[.agg cR.toArray,.int .i64 code]) w:=by
 have V_ca:=hid h1;have V_cb:=hid h2;have V_cR:=hid hcR;obtain ⟨cz,V_cz⟩:=nvx (rat false 0 false 0);have HA:=hid ha;have HB:=hid hb;have HC:=hid hC;have HK:=hid hMk;clear h1 h2 ha hb hC hMk hcR;obtain ⟨B0,B1,B2,w0,hw0,hB0,hB1,hB2,AB0,AB1,AB2,FR,FR0,HB0,hZB0,l01,hZB1,l12,hZB2⟩:=en3 w 27 27 27 (bxq ca) (bxq cb) (zQR V_cz);go_enter Tryz.func77,Tryz.ntmps77
 go_upto_region 1 with fail
 rw [←hw0,←hB2,←hB1,←hB0];clear hw0 hB0 hB1 hB2;refine wE [(8,aT ca),(9,bT),(10,bF),(11,bF),(12,aT cb),(13,bT),(14,bF),(15,bF)] (by simp only [zu];rfl) (by kernel_rfl) ?_ ?_
 ·intro W' hW';refine lhR AB0 hW' V_ca rfl<|fo3 ?_ ?_ ?_<|lhR AB1 hW' V_cb rfl<|fxo (by go_big_quiet_step (exact qaA (HB.out _));exact wqn rfl)<|fo2 ?_ ?_<|fxn;all_goals (go_big_quiet_step (exact qaA (HA.out _));exact wqn rfl)
 intro β wx1 E;replace FR:=fnf FR E rfl;replace AB0:=fnh AB0 E rfl;replace AB1:=fnh AB1 E rfl;replace AB2:=fnh AB2 E rfl;simp only [nP,zu];go_upto_region 3 with fail
 refine wF [⟨false,0,6,9,B2,0,27,24,cR,0,cR,[]⟩] [(17,.func (.func 153) #[] #[]),(18,aT ca),(19,aT cb),(20,.tuple #[aT cN,aT cD]),(21,aT cN),(22,aT cD),(23,.tuple #[aT cR,iT code]),(24,aT cR),(25,iT code),(7,iT code)] (by simp only [zu];rfl) (by kernel_rfl) ?_ ?_ (fP1 bnC) ?_ uno ?_ ?_
 ·intro W' hW';refine fxo ?_<|lhR AB0 hW' V_ca rfl<|lhR AB1 hW' V_cb rfl<|fo3 ?_ ?_ ?_<|fxo (by go_big_quiet_step (exact qaA (HK.out _));exact wqn rfl)<|fo2 ?_ ?_<|fxs rfl<|fxo ?_<|fxn;all_goals (go_big_quiet_step (exact qaA (HC.out _));exact wqn rfl)
 ·intro W' hK';have rd0:=akh AB0 hK' (by omega);have rd1:=akh AB1 hK' (by omega);refine fxi ?_<|ldR rd0 V_ca rfl<|ldR rd1 V_cb rfl<|fxs (by kernel_rfl)<|fxi ?_<|fxi ?_<|fxs (by kernel_rfl)<|fxi ?_<|fxi ?_<|fxs (by kernel_rfl)<|fxi ?_<|fxn;all_goals (first|(refine .inr ?_;go_big_quiet_step (fail);exact wqn rfl)|exact .inl (by kernel_rfl))
 ·exact fP1 (fun _=>rmh AB2 (qR V_cz.out) (qR V_cR.out) rfl)
 ·exact fP1 (sR V_cR (fun _=>rfl) rfl)
 intro β wx2 E;replace FR:=ffh FR E (by omega);replace AB2:=aoh E AB2 mms;simp only [nP,zu];go_wp2_with fail
 have hld:=rdR AB2 V_cR;refine bodyPost_ret (v:=.tuple #[.agg cR.toArray,.int .i64 code]) (by simp [results,Tryz.results77,asAddr,hld]) rfl ?_;exact ⟨rfl,qaY HB0 FR⟩
theorem jfD {ca cb cR:List Value} {na nb:Bool} {pa qa pb qb:Nat} {code:Int} (w:World) (h1:ca=rat na pa false qa) (h2:cb=rat nb pb false qb) {rn:Bool} {rp rq:Nat} {rm:Bool} (hcR:cR=rat rn rp rm rq)
  (hC:∀ W,CB 77 #[.agg ca.toArray,.agg cb.toArray,.func (.func 153) #[] #[]] (.tuple #[.agg cR.toArray,.int .i64 code]) W) :
  CB 122 #[.agg ca.toArray,.agg cb.toArray] (.tuple #[.agg cR.toArray,.int .i64 code]) w:=by
 have V_ca:=hid h1;have V_cb:=hid h2;have V_cR:=hid hcR;obtain ⟨cz,V_cz⟩:=nvx (rat false 0 false 0);have HC:=hid hC;clear h1 h2 hC hcR;obtain ⟨B0,B1,B2,w0,hw0,hB0,hB1,hB2,AB0,AB1,AB2,FR,FR0,HB0,hZB0,l01,hZB1,l12,hZB2⟩:=en3 w 27 27 27 (bxq ca) (bxq cb) (zQR V_cz);go_enter Tryz.func122,Tryz.ntmps122
 go_upto_region 1 with fail
 rw [←hw0,←hB2,←hB1,←hB0];clear hw0 hB0 hB1 hB2;refine wF [⟨false,0,4,5,B2,0,27,9,cR,0,cR,[]⟩] [(6,aT ca),(7,aT cb),(8,.tuple #[aT cR,iT code]),(9,aT cR),(10,iT code),(5,iT code)] (by simp only [zu];rfl) (by kernel_rfl) ?_ ?_ (fP1 bnC) ?_ uno ?_ ?_
 ·intro W' hW';refine lhR AB0 hW' V_ca rfl<|lhR AB1 hW' V_cb rfl<|fo3 ?_ ?_ ?_<|fxs rfl<|fxo ?_<|fxn;all_goals (go_big_quiet_step (exact qaA (HC.out _));exact wqn rfl)
 ·intro W' hK';have rd0:=akh AB0 hK' (by omega);have rd1:=akh AB1 hK' (by omega);refine ldR rd0 V_ca rfl<|ldR rd1 V_cb rfl<|fxs (by kernel_rfl)<|fxi ?_<|fxi ?_<|fxs (by kernel_rfl)<|fxi ?_<|fxn;all_goals (first|(refine .inr ?_;go_big_quiet_step (fail);exact wqn rfl)|exact .inl (by kernel_rfl))
 ·exact fP1 (fun _=>rmh AB2 (qR V_cz.out) (qR V_cR.out) rfl)
 ·exact fP1 (sR V_cR (fun _=>rfl) rfl)
 intro β wx1 E;replace FR:=ffh FR E (by omega);replace AB2:=aoh E AB2 mms;simp only [nP,zu];go_wp2_with fail
 have hld:=rdR AB2 V_cR;refine bodyPost_ret (v:=.tuple #[.agg cR.toArray,.int .i64 code]) (by simp [results,Tryz.results122,asAddr,hld]) rfl ?_;exact ⟨rfl,qaY HB0 FR⟩
theorem pquoQ {ca cb cR:List Value} {a b:Qn} {code:Int} (h1:ca=ratZ a.1 a.2) (h2:cb=ratZ b.1 b.2) (ha:VQ a) (hb:VQ b) (hp:0<b.1) (hR:cR=resR (Dl.quo2 a b)) (hc:code=resE (Dl.quo2 a b)) (w:World) :
  CB 122 #[.agg ca.toArray,.agg cb.toArray] (.tuple #[.agg cR.toArray,.int .i64 code]) w:=by
 have e1:=qhQ ha.num hb.den;have e2:=qhQ ha.den hb.num;have B1:(a.1*(b.2:Int)).natAbs<BB^32:=by rw [Int.natAbs_mul,Int.natAbs_natCast];exact b30 e1
 have B2:a.2*b.1.natAbs<BB^32:=b30 e2;have B3:a.2*b.1.natAbs≠0:=Nat.mul_ne_zero ha.pos (by omega);have h2':cb=rat false b.1.natAbs false b.2:=by rw [h2];unfold ratZ;rw [decide_eq_false (by omega)]
 obtain ⟨cN,hN⟩:=nqx (iZ (a.1*(b.2:Int)));obtain ⟨cD,hD⟩:=nqx (iZ ((a.2*b.1.natAbs:Nat):Int))
 obtain ⟨rn,rp,rm,rq,hcr⟩:∃ rn rp rm rq,cR=rat rn rp rm rq:=by
  rw [hR];cases Dl.quo2 a b with
  | none=>exact ⟨_,_,_,_,rfl⟩
  | some r=>exact ⟨_,_,_,_,rfl⟩
 exact jfD w h1 h2' hcr fun W=>jdJ W h1 h2' (qgL h1 ha) (qgL h2 hb)
  (fun W=>jfE h1 h2' hN (by rw [hD];unfold iZ;rw [Int.natAbs_natCast,decide_eq_false (Int.not_lt.2 (Int.natCast_nonneg _))]) (by rw [Int.natAbs_mul,Int.natAbs_natCast]) rfl (by rw [qiN,Int.natAbs_mul,Int.natAbs_natCast,decide_eq_false (Int.not_lt.2 (Int.natCast_nonneg b.2))]) ha.num ha.den hb.num hb.den W)
  (fun W=>qxC hN hD hR hc B1 B2 B3 W) hcr
end Go.Proofs.YtemoddmadfoaiaaGreat
set_option maxHeartbeats 8000000
namespace Go.Proofs.YtemoddmadfoaiaaGreat
open Go.RowKit Big
open Lib (hid)
open Dl
theorem pofQ {cR:List Value} {x y:Int} {d:Nat} {code:Int} (hy:y=(d:Int)) (hd:d≠0) (hR:cR=resR (mkQ x d)) (hc:code=resE (mkQ x d)) (h1:-9223372036854775808≤x) (h2:x≤9223372036854775807) (h3:y≤9223372036854775807) (w:World) :
  CB 43 #[.int .i64 x,.int .i64 y] (.tuple #[.agg cR.toArray,.int .i64 code]) w:=by
 obtain ⟨rn,rp,rm,rq,hcR⟩:∃ rn rp rm rq,cR=rat rn rp rm rq:=by
  rw [hR]
  cases mkQ x d with
  | none=>exact ⟨_,_,_,_,rfl⟩
  | some r=>exact ⟨_,_,_,_,rfl⟩
 have V_cR:=hid hcR;obtain ⟨cz,V_cz⟩:=nvx (rat false 0 false 0);obtain ⟨cx,V_cx⟩:=nvx (iZ x);obtain ⟨cy,V_cy⟩:=nvx (iZ y);have e1:(9223372036854775809:Nat)≤BB^2:=by unfold BB;decide
 have e2:BB^2≤BB^32:=Nat.pow_le_pow_right qbK (by omega);have HX:=hid (qrZ V_cx.out h1 h2);have HY:=hid (qrZ V_cy.out (by omega) h3);have HM:=hid (qxC (D:=d) (cb:=cy) V_cx.out (by rw [V_cy.out,hy]) hR hc (by omega) (by omega) hd);clear hy hd hR hc h1 h2 h3 hcR e1 e2;obtain ⟨B0,w0,hw0,hB0,AB0,FR,FR0,HB0,hZB0⟩:=en1 w 27 (zQR V_cz);go_enter Tryz.func43,Tryz.ntmps43
 go_upto_region 1 with fail
 rw [←hw0,←hB0];clear hw0 hB0;refine wF [⟨false,0,4,7,B0,0,27,11,cR,0,cR,[]⟩] [(6,iT x),(7,aT cx),(8,iT y),(9,aT cy),(10,.tuple #[aT cR,iT code]),(11,aT cR),(12,iT code),(5,iT code)] (by simp only [zu];rfl) (by kernel_rfl) ?_ ?_ (fP1 bnC) ?_ uno ?_ ?_
 ·intro W' hW';refine fo3 ?_ ?_ ?_<|fxo (by go_big_quiet_step (exact qaA (HY.out _));exact wqn rfl)<|fxo (by go_big_quiet_step (exact qaA (HM.out _));exact wqn rfl)<|fo2 ?_ ?_<|fxs rfl<|fxo ?_<|fxn;all_goals (go_big_quiet_step (exact qaA (HX.out _));exact wqn rfl)
 ·intro W' hK';refine fxi ?_<|fxs (by kernel_rfl)<|fxi ?_<|fxs (by kernel_rfl)<|fxs (by kernel_rfl)<|fxi ?_<|fxi ?_<|fxs (by kernel_rfl)<|fxi ?_<|fxn;all_goals (first|(refine .inr ?_;go_big_quiet_step (fail);exact wqn rfl)|exact .inl (by kernel_rfl))
 ·exact fP1 (fun _=>rmh AB0 (qR V_cz.out) (qR V_cR.out) rfl)
 ·exact fP1 (sR V_cR (fun _=>rfl) rfl)
 intro β wx1 E;replace FR:=ffh FR E (by omega);replace AB0:=aoh E AB0 mms;simp only [nP,zu];go_wp2_with fail
 have hld:=rdR AB0 V_cR;refine bodyPost_ret (v:=.tuple #[.agg cR.toArray,.int .i64 code]) (by simp [results,Tryz.results43,asAddr,hld]) rfl ?_;exact ⟨rfl,qaY HB0 FR⟩
theorem qrO (k:Nat) (h:k<7):IntKind.i64.wrap (((10^k:Nat):Int)*10)=((10^(k+1):Nat):Int):=by
 have:k=0∨k=1∨k=2∨k=3∨k=4∨k=5∨k=6:=by omega
 rcases this with rfl|rfl|rfl|rfl|rfl|rfl|rfl<;>rfl
theorem quP (k:Nat) (hk:k≤7) (w:World) :
  CB 44 #[.int .i64 (k:Int)] (.int .i64 ((10^k:Nat):Int)) w:=by
 go_enter Tryz.func44,Tryz.ntmps44
 go_wp2
 go_loopg [3,5] k (fun m n i wr=>∃ (j:Nat),j≤k∧k - j≤m∧i=.int .i64 j∧n=.int .i64 ((10^j:Nat):Int)∧wr=w)
 case atStart=>exact ⟨0,by omega,by omega,rfl,rfl,rfl⟩
 case round =>
  obtain ⟨j,hj,hm,rfl,rfl,rfl⟩:=hrel;by_cases hlt:j<k
  ·have hst:=qrO j (by omega);obtain ⟨P,hP⟩:=nqx (((10^j:Nat):Int):Int);obtain ⟨P2,hP2⟩:=nqx (((10^(j+1):Nat):Int):Int);rw [←hP,←hP2] at hst;rw [←hP];have HP2:=hid hP2;clear hP hP2;go_wp2
   go_roundg (gk - 1)
   case measure=>omega
   case rel=>exact ⟨j+1,by omega,by omega,by go_num,by rw [←HP2.out],rfl⟩
  ·obtain rfl:j=k:=by omega
   obtain ⟨P,hP⟩:=nqx (((10^j:Nat):Int):Int);rw [←hP];have HP:=hid hP;clear hP;go_wp2
   go_ret
   exact ⟨by rw [←HP.out];rfl,Below.refl _ _⟩
def okPc (n m:Bool) (p q:Nat):Bool:=decide (p<B480∧q<B480∧n=cs1 n p∧m=false∧q≠0∧Nat.gcd p q=1)&&decide (0<zI n p)
theorem qjL {cr:List Value} {n m:Bool} {p q:Nat} (h:cr=rat n p m q) (hp:p<BB^32) (hq:q<BB^32) (w:World) :
  CB 42 #[.agg cr.toArray] (.bool (okPc n m p q)) w:=by
 have V_cr:=hid h;obtain ⟨ok,hok⟩:=nqx (decide (p<B480∧q<B480∧n=cs1 n p∧m=false∧q≠0∧Nat.gcd p q=1));obtain ⟨s,hs⟩:=nqx (if ok=true then sgnI n p else 0);obtain ⟨code,hc⟩:=nqx (if ok=true then 0 else 20:Int);have HS:=hid (jaZ h hok hs hc hp hq)
 have HR:=hid (show okPc n m p q=(decide (code=0)&&decide (0<s)) by
  unfold okPc;rw [←hok,hs,hc]
  cases ok with
  | false=>simp
  | true =>
   have:(0<sgnI n p)↔0<zI n p:=by
    unfold sgnI zI
    cases n<;>by_cases h0:p=0<;>simp [h0]<;>omega
   simp [this])
 have hcc:code=0∨code=20:=by rw [hc];cases ok<;>simp
 clear h hok hs hc hp hq;rw [HR.out];obtain ⟨B0,w0,hw0,hB0,AB0,FR,FR0,HB0,hZB0⟩:=en1 w 27 (bxq cr);go_enter Tryz.func42,Tryz.ntmps42
 go_upto_region 1 with fail
 rw [←hw0,←hB0];clear hw0 hB0;refine wE [(6,aT cr),(7,.tuple #[iT s,iT code]),(5,.tuple #[iT s,iT code]),(8,iT s),(9,iT code),(3,iT s),(4,iT code)] (by simp only [zu];rfl) (by kernel_rfl) ?_ ?_
 ·intro W' hW';refine lhR AB0 hW' V_cr rfl<|fo4 ?_ ?_ ?_ ?_<|fo2 ?_ ?_<|fxn;all_goals (go_big_quiet_step (exact qaA (HS.out _));exact wqn rfl)
 intro β wx1 E;replace FR:=fnf FR E rfl;simp only [nP,zu];rcases hcc with rfl|rfl
 ·by_cases h0:0<s
  ·go_wp2
   go_ret
   exact ⟨qaF (by simp [h0]),qaY HB0 FR⟩
  ·go_wp2
   go_ret
   exact ⟨qaF (by simp;omega),qaY HB0 FR⟩
 ·go_wp2
  go_ret
  exact ⟨qaF (by simp),qaY HB0 FR⟩
theorem qvG {cr cR cz:List Value} {n m b:Bool} {p q:Nat} {z k T kc code:Int} {part:Qn} {rn rm:Bool} {rp rq:Nat} (h:cr=rat n p m q) (hb:b=okPc n m p q) (hp:p<BB^32) (hq:q<BB^32) (hcR:cR=rat rn rp rm rq) (hz:cz=rat false 0 false 0)
  (hcase:(b=false∧cR=cz∧code=261)∨(b=true∧(z<0∨6<z)∧cR=cz∧code=30)∨(b=true∧¬z<0∧¬6<z∧(k<0∨1000000000000000<k)∧cR=cz∧code=253) ∨
   (b=true∧¬z<0∧¬6<z∧¬k<0∧¬1000000000000000<k∧IntKind.i64.wrap (k*100)=kc∧(∀ W,CB 44 #[.int .i64 z] (.int .i64 T) W) ∧
    (∀ cq W,cq=ratZ part.1 part.2→CB 43 #[.int .i64 kc,.int .i64 T] (.tuple #[.agg cq.toArray,.int .i64 0]) W) ∧
    ∀ cq W,cq=ratZ part.1 part.2→CB 45 #[.agg cr.toArray,.agg cq.toArray] (.tuple #[.agg cR.toArray,.int .i64 code]) W)) (w:World) :
  CB 11 #[.agg cr.toArray,.int .i64 z,.int .i64 k] (.tuple #[.agg cR.toArray,.int .i64 code]) w:=by
 have V_cr:=hid h;have V_cR:=hid hcR;have V_cz:=hid hz;obtain ⟨cq,V_cq⟩:=nvx (rat (decide (part.1<0)) part.1.natAbs false part.2);have HPR:=hid (fun W=>(hb ▸ qjL h hp hq W));have HCASE:=hid hcase;clear h hb hp hq hcR hz hcase;obtain ⟨B0,B1,w0,hw0,hB0,hB1,AB0,AB1,FR,FR0,HB0,hZB0,l01,hZB1⟩:=en2 w 27 27 (bxq cr) (zQR V_cz);go_enter Tryz.func11,Tryz.ntmps11
 go_upto_region 1 with fail
 rw [←hw0,←hB1,←hB0];clear hw0 hB0 hB1;refine wE [(11,aT cr),(12,.bool b),(13,.bool (!b)),(10,.bool (!b))] (by simp only [zu];rfl) (by kernel_rfl) ?_ ?_
 ·intro W' hW';refine lhR AB0 hW' V_cr rfl<|fo3 ?_ ?_ ?_<|fxn;all_goals (go_big_quiet_step (exact qaA (HPR.out _));exact wqn rfl)
 intro β wx1 E;replace FR:=fnf FR E rfl;replace AB0:=fnh AB0 E rfl;replace AB1:=fnh AB1 E rfl;simp only [nP,zu];replace FR0:=hid FR.out.le;rcases HCASE.out with ⟨rfl,rfl,rfl⟩|⟨rfl,h2,rfl,rfl⟩|⟨rfl,h2,h3,h4,rfl,rfl⟩|⟨rfl,h2,h3,h4,h5,wk,g1,g2,g3⟩
 ·replace V_cR:=V_cz;clear HCASE;go_upto_region 2 with fail
  refine wF [⟨false,0,6,1,B1,0,27,14,cR,0,cR,[]⟩] [(14,aT cR),(7,iT 261)] (by simp only [zu];rfl) (by kernel_rfl) ?_ ?_ (fP1 bnC) ?_ uno ?_ ?_
  ·intro W' hW';refine fxb (qaV V_cR.out) rfl<|fxs rfl<|fxo ?_<|fxn
   go_big_quiet_step (fail);exact wqn rfl
  ·intro W' hK';refine fxb (qaV V_cR.out) rfl<|fxs (by kernel_rfl)<|fxi ?_<|fxn
   first|(refine .inr ?_;go_big_quiet_step (fail);exact wqn rfl)|exact .inl (by kernel_rfl)
  ·exact fP1 (fun _=>rmh AB1 (qR V_cz.out) (qR V_cR.out) rfl)
  ·exact fP1 (sR V_cR (fun _=>rfl) rfl)
  intro β wx2 E;replace FR:=ffh FR E (by omega);replace AB1:=aoh E AB1 mms;simp only [nP,zu];go_wp2_with fail
  have hld:=rdR AB1 V_cR;refine bodyPost_ret (v:=.tuple #[.agg cR.toArray,.int .i64 261]) (by simp [results,Tryz.results11,asAddr,hld]) rfl ?_;exact ⟨rfl,qaY HB0 FR⟩
 ·replace V_cR:=V_cz;clear HCASE;by_cases h3:z<0
  ·clear h2;go_upto_region 4 with fail
   refine wF [⟨false,0,6,1,B1,0,27,22,cR,0,cR,[]⟩] [(22,aT cR),(7,iT 30)] (by simp only [zu];rfl) (by kernel_rfl) ?_ ?_ (fP1 bnC) ?_ uno ?_ ?_
   ·intro W' hW';refine fxb (qaV V_cR.out) rfl<|fxs rfl<|fxo ?_<|fxn
    go_big_quiet_step (fail);exact wqn rfl
   ·intro W' hK';refine fxb (qaV V_cR.out) rfl<|fxs (by kernel_rfl)<|fxi ?_<|fxn
    first|(refine .inr ?_;go_big_quiet_step (fail);exact wqn rfl)|exact .inl (by kernel_rfl)
   ·exact fP1 (fun _=>rmh AB1 (qR V_cz.out) (qR V_cR.out) rfl)
   ·exact fP1 (sR V_cR (fun _=>rfl) rfl)
   intro β wx2 E;replace FR:=ffh FR E (by omega);replace AB1:=aoh E AB1 mms;simp only [nP,zu];go_wp2_with fail
   have hld:=rdR AB1 V_cR;refine bodyPost_ret (v:=.tuple #[.agg cR.toArray,.int .i64 30]) (by simp [results,Tryz.results11,asAddr,hld]) rfl ?_;exact ⟨rfl,qaY HB0 FR⟩
  ·have h2:6<z:=by omega
   go_upto_region 4 with fail
   refine wF [⟨false,0,6,1,B1,0,27,22,cR,0,cR,[]⟩] [(22,aT cR),(7,iT 30)] (by simp only [zu];rfl) (by kernel_rfl) ?_ ?_ (fP1 bnC) ?_ uno ?_ ?_
   ·intro W' hW';refine fxb (qaV V_cR.out) rfl<|fxs rfl<|fxo ?_<|fxn
    go_big_quiet_step (fail);exact wqn rfl
   ·intro W' hK';refine fxb (qaV V_cR.out) rfl<|fxs (by kernel_rfl)<|fxi ?_<|fxn
    first|(refine .inr ?_;go_big_quiet_step (fail);exact wqn rfl)|exact .inl (by kernel_rfl)
   ·exact fP1 (fun _=>rmh AB1 (qR V_cz.out) (qR V_cR.out) rfl)
   ·exact fP1 (sR V_cR (fun _=>rfl) rfl)
   intro β wx2 E;replace FR:=ffh FR E (by omega);replace AB1:=aoh E AB1 mms;simp only [nP,zu];go_wp2_with fail
   have hld:=rdR AB1 V_cR;refine bodyPost_ret (v:=.tuple #[.agg cR.toArray,.int .i64 30]) (by simp [results,Tryz.results11,asAddr,hld]) rfl ?_;exact ⟨rfl,qaY HB0 FR⟩
 ·replace V_cR:=V_cz;clear HCASE;by_cases h5:k<0
  ·clear h4;go_upto_region 6 with fail
   refine wF [⟨false,0,6,1,B1,0,27,30,cR,0,cR,[]⟩] [(30,aT cR),(7,iT 253)] (by simp only [zu];rfl) (by kernel_rfl) ?_ ?_ (fP1 bnC) ?_ uno ?_ ?_
   ·intro W' hW';refine fxb (qaV V_cR.out) rfl<|fxs rfl<|fxo ?_<|fxn
    go_big_quiet_step (fail);exact wqn rfl
   ·intro W' hK';refine fxb (qaV V_cR.out) rfl<|fxs (by kernel_rfl)<|fxi ?_<|fxn
    first|(refine .inr ?_;go_big_quiet_step (fail);exact wqn rfl)|exact .inl (by kernel_rfl)
   ·exact fP1 (fun _=>rmh AB1 (qR V_cz.out) (qR V_cR.out) rfl)
   ·exact fP1 (sR V_cR (fun _=>rfl) rfl)
   intro β wx2 E;replace FR:=ffh FR E (by omega);replace AB1:=aoh E AB1 mms;simp only [nP,zu];go_wp2_with fail
   have hld:=rdR AB1 V_cR;refine bodyPost_ret (v:=.tuple #[.agg cR.toArray,.int .i64 253]) (by simp [results,Tryz.results11,asAddr,hld]) rfl ?_;exact ⟨rfl,qaY HB0 FR⟩
  ·have h4:1000000000000000<k:=by omega
   go_upto_region 6 with fail
   refine wF [⟨false,0,6,1,B1,0,27,30,cR,0,cR,[]⟩] [(30,aT cR),(7,iT 253)] (by simp only [zu];rfl) (by kernel_rfl) ?_ ?_ (fP1 bnC) ?_ uno ?_ ?_
   ·intro W' hW';refine fxb (qaV V_cR.out) rfl<|fxs rfl<|fxo ?_<|fxn
    go_big_quiet_step (fail);exact wqn rfl
   ·intro W' hK';refine fxb (qaV V_cR.out) rfl<|fxs (by kernel_rfl)<|fxi ?_<|fxn
    first|(refine .inr ?_;go_big_quiet_step (fail);exact wqn rfl)|exact .inl (by kernel_rfl)
   ·exact fP1 (fun _=>rmh AB1 (qR V_cz.out) (qR V_cR.out) rfl)
   ·exact fP1 (sR V_cR (fun _=>rfl) rfl)
   intro β wx2 E;replace FR:=ffh FR E (by omega);replace AB1:=aoh E AB1 mms;simp only [nP,zu];go_wp2_with fail
   have hld:=rdR AB1 V_cR;refine bodyPost_ret (v:=.tuple #[.agg cR.toArray,.int .i64 253]) (by simp [results,Tryz.results11,asAddr,hld]) rfl ?_;exact ⟨rfl,qaY HB0 FR⟩
 ·have HPW:=hid g1;have HOF:=hid (fun W=>g2 cq W V_cq.out);have HMU:=hid (fun W=>g3 cq W V_cq.out);clear g1 g2 g3 HCASE;go_upto_region 7 with fail
  refine wT [⟨true,8,8,9,0,0,27,37,cq,0,cq,[]⟩] [(32,iT k),(33,iT kc),(34,iT z),(35,iT T),(36,.tuple #[aT cq,iT 0]),(31,.tuple #[aT cq,iT 0]),(37,aT cq),(38,iT 0),(9,iT 0)] (by simp only [zu];rfl) (by kernel_rfl) rfl ?_ ?_ ?_ ?_
  ·intro W' hW';refine fo4 ?_ ?_ ?_ ?_<|fxo (by go_big_quiet_step (exact qaA (HOF.out _));exact wqn rfl)<|fo3 ?_ ?_ ?_<|fxs rfl<|fxs rfl<|fxo ?_<|fxn;all_goals (go_big_quiet_step (exact qaA (HPW.out _));exact wqn rfl)
  ·exact fP1 (Tryz.alR (qR V_cq.out))
  ·exact fP1 (sR V_cq (fun _=>rfl) rfl)
  intro β wx2 E;replace FR:=fnf FR E rfl;obtain ⟨b8,hb8,eb8⟩:=nwb E mms;have lB0_b8:B0<b8:=ltb AB0 eb8.1;have lB1_b8:B1<b8:=ltb AB1 eb8.1;have hZb8:B0≤b8:=Nat.le_trans FR0.out eb8.1;replace AB0:=fnh AB0 E rfl;replace AB1:=fnh AB1 E rfl;have Ab8:=hid eb8.2;simp only [nP,zu];rw [←hb8];clear E eb8 hb8;go_upto_region 8 with fail
  refine wF [⟨false,0,6,5,B1,0,27,42,cR,0,cR,[]⟩] [(39,aT cr),(40,aT cq),(41,.tuple #[aT cR,iT code]),(42,aT cR),(43,iT code),(7,iT code)] (by simp only [zu];rfl) (by kernel_rfl) ?_ ?_ (fP1 bnC) ?_ uno ?_ ?_
  ·intro W' hW';refine lhR AB0 hW' V_cr rfl<|lhR Ab8 hW' V_cq rfl<|fo3 ?_ ?_ ?_<|fxs rfl<|fxo ?_<|fxn;all_goals (go_big_quiet_step (exact qaA (HMU.out _));exact wqn rfl)
  ·intro W' hK';have rd0:=akh AB0 hK' (by omega);have rd1:=akh Ab8 hK' (by omega);refine ldR rd0 V_cr rfl<|ldR rd1 V_cq rfl<|fxs (by kernel_rfl)<|fxi ?_<|fxi ?_<|fxs (by kernel_rfl)<|fxi ?_<|fxn;all_goals (first|(refine .inr ?_;go_big_quiet_step (fail);exact wqn rfl)|exact .inl (by kernel_rfl))
  ·exact fP1 (fun _=>rmh AB1 (qR V_cz.out) (qR V_cR.out) rfl)
  ·exact fP1 (sR V_cR (fun _=>rfl) rfl)
  intro β wx3 E;replace FR:=ffh FR E (by omega);replace AB1:=aoh E AB1 mms;simp only [nP,zu];go_wp2_with fail
  have hld:=rdR AB1 V_cR;refine bodyPost_ret (v:=.tuple #[.agg cR.toArray,.int .i64 code]) (by simp [results,Tryz.results11,asAddr,hld]) rfl ?_;exact ⟨rfl,qaY HB0 FR⟩
theorem qiQ {p:Qn} (hp:Pc p):okPc (decide (p.1<0)) false p.1.natAbs p.2=true:=by
 unfold okPc;rw [qhJ,decide_eq_true hp.pos,Bool.and_true];exact decide_eq_true ⟨hp.vq.num,hp.vq.den,(jdF p.1).symm,rfl,hp.vq.pos,hp.vq.low⟩
theorem qrL {cp cR:List Value} {p:Qn} {pl:Nat} {z k code:Int} (h:cp=ratZ p.1 p.2) (hp:Pc p) (hz:z=(pl:Int)) (h6:pl≤6) (k0:0≤k) (k1:k≤1000000000000000) (hR:cR=resR (worthQ p pl k)) (hc:code=resE (worthQ p pl k)) (w:World) :
  CB 11 #[.agg cp.toArray,.int .i64 z,.int .i64 k] (.tuple #[.agg cR.toArray,.int .i64 code]) w:=by
 obtain ⟨pv,pe⟩:=qfQ k0 k1 h6;have hps:=qfG k0 k1 h6
 obtain ⟨rn,rp,rm,rq,hcR⟩:∃ rn rp rm rq,cR=rat rn rp rm rq:=by
  rw [hR]
  cases worthQ p pl k with
  | none=>exact ⟨_,_,_,_,rfl⟩
  | some r=>exact ⟨_,_,_,_,rfl⟩
 have h10:10^pl≤10^6:=Nat.pow_le_pow_right (by omega) h6
 refine qvG (cz:=rat false 0 false 0) (b:=true) (part:=partQ k pl) (T:=((10^pl:Nat):Int)) (kc:=k*100) (n:=decide (p.1<0)) (m:=false) (p:=p.1.natAbs) (q:=p.2) h (qiQ hp).symm (qaG hp.vq.num) (qaG hp.vq.den) hcR rfl
  (.inr (.inr (.inr ⟨rfl,by omega,by omega,by omega,by omega,IntWalk.i64_in _ (by omega),fun W=>by rw [hz];exact quP pl (by omega) W,
   fun cq W e=>pofQ (d:=10^pl) rfl (Nat.ne_of_gt (Nat.pow_pos (by decide))) (by rw [hps];exact e) (by rw [hps];rfl) (by omega) (by omega) (by omega) W,fun cq W e=>pmulQ h e hp.vq pv hR hc W⟩))) w
set_option maxHeartbeats 8000000
theorem qsX {a b x:Int} (h:x=cmpZ a b):(0<x↔b<a)∧(0≤x↔b≤a):=by
 unfold cmpZ at h;split at h
 ·omega
 ·split at h<;>omega
theorem jaH {p w:Qn} {pl:Nat} {n:Int} (hp:Pc p) (h1:0≤n) (h2:n≤1000000000000000) (h3:pl≤6) (h:worthQ p pl n=some w):VQ w∧0≤dnQ w∧0≤ceilQ w:=by
 have hv:=(qdC hp h1 h2 h3 h).1;have hn:=qkO (by have:=qkM hp pl;omega) (qiX hp h1 h2 h3 h) (Int.mul_nonneg h1 (by have:=qkN hp;omega));have hd:0≤w.1 / (w.2:Int):=Int.ediv_nonneg hn (Int.natCast_nonneg _);refine ⟨hv,hd,?_⟩;unfold ceilQ;split<;>omega
theorem qoQ {cp:List Value} {p:Qn} {pl g:Nat} {z am mode most r code:Int} (h:cp=ratZ p.1 p.2) (hp:Pc p) (hz:z=(pl:Int)) (h6:pl≤6) (a0:0≤am) (a1:am≤1000000000000000) (m0:0≤most) (m1:most≤1000000000000000)
  (hr:(manyQ p pl am=none∧r=0∧code=10)∨∃ q,manyQ p pl am=some q∧code=0∧(mode=3∧r=reachF q most∨mode=4∧r=reachC q most)) (w:World) (hg:g<w.heap.size) (hc:w.cell? ⟨g,133,none⟩=some (.int .i64 z)) :
  CB 88 #[.pointer (some ⟨g,0,none⟩),.agg cp.toArray,.int .i64 am,.int .i64 mode,.int .i64 most] (.tuple #[.int .i64 r,.int .i64 code]) w:=by
 have V_cp:=hid (show cp=rat (decide (p.1<0)) p.1.natAbs false p.2 from h);have HG:=hid hg;have HC:=hid hc;obtain ⟨co,hco0⟩:=nqx (resR (worthQ p pl 1));obtain ⟨e1,he1⟩:=nqx (resE (worthQ p pl 1))
 obtain ⟨on,op,om,oq,hco⟩:∃ rn rp rm rq,co=rat rn rp rm rq:=by
  rw [hco0]
  cases worthQ p pl 1 with
  | none=>exact ⟨_,_,_,_,rfl⟩
  | some r=>exact ⟨_,_,_,_,rfl⟩
 have V_co:=hid hco;obtain ⟨ca,V_ca⟩:=nvx (rat (decide (am<0)) am.natAbs false 1);have HW:=hid (qrL (cp:=cp) (cR:=co) (code:=e1) (k:=1) (z:=z) h hp hz h6 (by omega) (by omega) hco0 he1);have HAM:=hid (qqP (cr:=ca) (z:=am) V_ca.out (by omega) (by omega))
 -- what comes behind the worth of one unit
 have HN:=hid (show (e1=10∧r=0∧code=10)∨(e1=0∧∃ cq e2,(∃ n p m q,cq=rat n p m q)∧(∀ W,CB 122 #[.agg ca.toArray,.agg co.toArray] (.tuple #[.agg cq.toArray,.int .i64 e2]) W) ∧
   ((e2=10∧r=0∧code=10)∨(e2=0∧code=0∧∃ q:Qn,cq=ratZ q.1 q.2∧VQ q∧0≤dnQ q∧0≤ceilQ q∧(mode=3∧r=reachF q most∨mode=4∧r=reachC q most)))) by
  rw [he1]
  cases hw:worthQ p pl 1 with
  | none =>
   have hM:manyQ p pl am=none:=by unfold manyQ;rw [hw]
   rcases hr with ⟨_,h1,h2⟩|⟨q,h1,_⟩
   ·exact .inl ⟨rfl,h1,h2⟩
   ·rw [hM] at h1;cases h1
  | some one =>
   have hPo:=qnX hp (by omega) (by omega) h6 hw;have hMq:manyQ p pl am=quo2 (am,1) one:=by unfold manyQ;rw [hw];exact jbL am one
   rw [hw] at hco0;refine .inr ⟨rfl,resR (quo2 (am,1) one),resE (quo2 (am,1) one),?_,fun W=>pquoQ (a:=(am,1)) V_ca.out hco0 (qvI (by omega)) hPo.vq hPo.pos rfl rfl W,?_⟩
   ·cases quo2 (am,1) one with
    | none=>exact ⟨_,_,_,_,rfl⟩
    | some r=>exact ⟨_,_,_,_,rfl⟩
   ·rcases hr with ⟨h0,h1,h2⟩|⟨q,h1,h2,h3⟩
    ·rw [hMq] at h0;rw [h0];exact .inl ⟨rfl,h1,h2⟩
    ·obtain ⟨qv,_⟩:=qiR hp h6 h1;obtain ⟨_,q1,q2⟩:=qmX hp h6 a0 h1;rw [hMq] at h1;rw [h1];exact .inr ⟨rfl,h2,q,rfl,qv,q1,q2,h3⟩)
 have HMM:=hid (And.intro m0 m1);clear h hp hz h6 a0 a1 m0 m1 hr hg hc he1 hco0 hco;obtain ⟨B0,w0,hw0,hB0,AB0,FR,FR0,HB0,hZB0⟩:=en1 w 27 (bxq cp);go_enter Tryz.func88,Tryz.ntmps88
 go_upto_region 1 with fail
 rw [←hw0,←hB0];clear hw0 hB0;have HCB:=hid (show g<B0 by rw [HB0.out];exact HG.out);refine wT [⟨true,9,12,10,0,0,27,28,co,0,co,[]⟩] [(22,aT cp),(23,pT g 0),(24,pT g 0),(25,pT g 133),(26,iT z),(27,.tuple #[aT co,iT e1]),(21,.tuple #[aT co,iT e1]),(28,aT co),(29,iT e1),(13,iT e1)] (by simp only [zu];rfl) (by kernel_rfl) rfl ?_ ?_ ?_ ?_
 ·intro W' hW';have zc:=qcU (qbH HC.out FR.out.below HCB.out) hW';refine lhR AB0 hW' V_cp rfl<|fo3 ?_ ?_ ?_<|fxc zc (fun W h=>by simp [loadVar,h,go_sem]) rfl<|fo4 ?_ ?_ ?_ ?_<|fxs rfl<|fxs rfl<|fxo ?_<|fxn;all_goals (go_big_quiet_step (exact qaA (HW.out _));exact wqn rfl)
 ·exact fP1 (Tryz.alR (qR V_co.out))
 ·exact fP1 (sR V_co (fun _=>rfl) rfl)
 intro β wx1 E;replace FR:=fnf FR E rfl;obtain ⟨b12,hb12,eb12⟩:=nwb E mms;have lB0_b12:B0<b12:=ltb AB0 eb12.1;have hZb12:B0≤b12:=Nat.le_trans FR0.out eb12.1;replace AB0:=fnh AB0 E rfl;have Ab12:=hid eb12.2;simp only [nP,zu];rw [←hb12];replace FR0:=hid FR.out.le;clear E eb12 hb12;rcases HN.out with ⟨rfl,rfl,rfl⟩|⟨rfl,cq,e2,⟨qn,qp,qm,qq,hcq⟩,hQ,hR⟩
 ·clear HN;go_wp2
  go_ret2
  exact ⟨rfl,qaY HB0 FR⟩
 ·have V_cq:=hid hcq;have HQ:=hid hQ;have HR:=hid hR;clear HN hcq hQ hR;go_upto_region 4 with fail
  refine wT [⟨true,7,14,8,0,0,27,38,cq,0,cq,[]⟩] [(34,iT am),(35,aT ca),(36,aT co),(37,.tuple #[aT cq,iT e2]),(33,.tuple #[aT cq,iT e2]),(38,aT cq),(39,iT e2),(13,iT e2)] (by simp only [zu];rfl) (by kernel_rfl) rfl ?_ ?_ ?_ ?_
  ·intro W' hW';refine fo2 ?_ ?_<|lhR Ab12 hW' V_co rfl<|fxo (by go_big_quiet_step (exact qaA (HQ.out _));exact wqn rfl)<|fo3 ?_ ?_ ?_<|fxs rfl<|fxs rfl<|fxo ?_<|fxn;all_goals (go_big_quiet_step (exact qaA (HAM.out _));exact wqn rfl)
  ·exact fP1 (Tryz.alR (qR V_cq.out))
  ·exact fP1 (sR V_cq (fun _=>rfl) rfl)
  intro β wx2 E;replace FR:=fnf FR E rfl;obtain ⟨b14,hb14,eb14⟩:=nwb E mms;have lB0_b14:B0<b14:=ltb AB0 eb14.1;have lb12_b14:b12<b14:=ltb Ab12 eb14.1;have hZb14:B0≤b14:=Nat.le_trans FR0.out eb14.1;have Ab14:=hid eb14.2;simp only [nP,zu];rw [←hb14];clear E eb14 hb14;rcases HR.out with ⟨rfl,rfl,rfl⟩|⟨rfl,rfl,q,hq,qv,q1,q2,hm⟩
  ·clear HR;go_wp2
   go_ret2
   exact ⟨rfl,qaY HB0 FR⟩
  ·obtain ⟨m0,m1⟩:=HMM.out;obtain ⟨m2,hm2⟩:=nqx (most+1);have HMD:=hid hm;obtain ⟨cm,V_cm⟩:=nvx (rat (decide (most<0)) most.natAbs false 1);obtain ⟨cn,V_cn⟩:=nvx (rat (decide (m2<0)) m2.natAbs false 1);have HM1:=hid (qqP (cr:=cm) (z:=most) V_cm.out (by omega) (by omega));have HM2:=hid (qqP (cr:=cn) (z:=m2) V_cn.out (by omega) (by omega));obtain ⟨x1,hx1⟩:=nqx (cmpZ (q.1*((1:Nat):Int)) (most*(q.2:Int)));obtain ⟨x2,hx2⟩:=nqx (cmpZ (q.1*((1:Nat):Int)) (m2*(q.2:Int)));have HC1:=hid (jhP (a:=q) (b:=(most,1)) hq V_cm.out qv (qvI (by omega)) hx1);have HC2:=hid (jhP (a:=q) (b:=(m2,1)) hq V_cn.out qv (qvI (by omega)) hx2);have y1:=(qsX hx1).1;have y2:=(qsX hx2).2;rw [Int.natCast_one,Int.mul_one] at y1 y2;have s4:=jbJ qv.pos most;have s3:=jbK qv.pos most;rw [←hm2,←y2] at s3 s4;rw [←y1] at s4;have HS:=hid (And.intro s3 s4);have wm:IntKind.i64.wrap (most+1)=m2:=by rw [hm2];exact IntWalk.i64_in _ (by omega)
   have HQQ:=hid (And.intro hq (And.intro qv (And.intro q1 q2)));clear HR hm hx1 hx2 y1 y2 s3 s4 hm2 hq qv q1 q2 m0 m1;go_upto_region 7 with fail
   refine wE [(44,aT cq),(45,iT most),(46,aT cm),(47,.tuple #[iT x1,iT 0]),(43,.tuple #[iT x1,iT 0]),(48,iT x1),(49,iT 0),(15,iT x1),(16,iT 0)] (by simp only [zu];rfl) (by kernel_rfl) ?_ ?_
   ·intro W' hW';refine lhR Ab14 hW' V_cq rfl<|fo2 ?_ ?_<|fxo (by go_big_quiet_step (exact qaA (HC1.out _));exact wqn rfl)<|fo4 ?_ ?_ ?_ ?_<|fxo ?_<|fxn;all_goals (go_big_quiet_step (exact qaA (HM1.out _));exact wqn rfl)
   intro β wx3 E;replace FR:=fnf FR E rfl;replace Ab14:=fnh Ab14 E rfl;simp only [nP,zu];rcases HMD.out with ⟨rfl,hr⟩|⟨rfl,hr⟩
   ·have HS3:=hid HS.out.1;have HRR:=hid hr;clear HMD HS hr;by_cases c1:0<x1
    ·skip
     go_upto_region 10 with fail
     refine wE [(59,aT cq),(60,iT most),(61,iT m2),(62,aT cn),(63,.tuple #[iT x2,iT 0]),(58,.tuple #[iT x2,iT 0]),(64,iT x2),(65,iT 0),(17,iT x2),(18,iT 0)] (by simp only [zu];rfl) (by kernel_rfl) ?_ ?_
     ·intro W' hW';refine lhR Ab14 hW' V_cq rfl<|fo3 ?_ ?_ ?_<|fxo (by go_big_quiet_step (exact qaA (HC2.out _));exact wqn rfl)<|fo4 ?_ ?_ ?_ ?_<|fxo ?_<|fxn;all_goals (go_big_quiet_step (exact qaA (HM2.out _));exact wqn rfl)
     intro β wx4 E;replace FR:=fnf FR E rfl;replace Ab14:=fnh Ab14 E rfl;simp only [nP,zu];by_cases c2:0≤x2
     ·have HE:=hid (HRR.out.trans (HS3.out.1 c2));go_wp2
      go_ret2
      exact ⟨qfP HE.out.symm rfl,qaY HB0 FR⟩
     ·skip
      obtain ⟨e1,e2⟩:=HS3.out.2 c2;obtain ⟨hq,qv,q1,q2⟩:=HQQ.out;have m1:=HMM.out.2;obtain ⟨n,hn⟩:=nqx (q.1 / (q.2:Int));have hd:dnQ q=n:=hn.symm;rw [hd] at e1 e2 q1;have HNN:=hid (qhN (cr:=cq) (n:=n) hq qv hn (by omega) (by omega));have HE:=hid (HRR.out.trans e1);clear e1 e2 hq qv q1 q2 m1 hn hd;go_upto_region 13 with fail
      refine wE [(71,aT cq),(72,iT 3),(73,.tuple #[iT n,iT 0]),(70,.tuple #[iT n,iT 0]),(74,iT n),(75,iT 0),(19,iT n),(20,iT 0)] (by simp only [zu];rfl) (by kernel_rfl) ?_ ?_
      ·intro W' hW';refine lhR Ab14 hW' V_cq rfl<|fo4 ?_ ?_ ?_ ?_<|fo3 ?_ ?_ ?_<|fxn;all_goals (go_big_quiet_step (exact qaA (HNN.out _));exact wqn rfl)
      intro β wx5 E;replace FR:=fnf FR E rfl;simp only [nP,zu];go_wp2
      go_ret2
      exact ⟨qfP HE.out.symm rfl,qaY HB0 FR⟩
    ·skip
     go_upto_region 10 with fail
     refine wE [(59,aT cq),(60,iT most),(61,iT m2),(62,aT cn),(63,.tuple #[iT x2,iT 0]),(58,.tuple #[iT x2,iT 0]),(64,iT x2),(65,iT 0),(17,iT x2),(18,iT 0)] (by simp only [zu];rfl) (by kernel_rfl) ?_ ?_
     ·intro W' hW';refine lhR Ab14 hW' V_cq rfl<|fo3 ?_ ?_ ?_<|fxo (by go_big_quiet_step (exact qaA (HC2.out _));exact wqn rfl)<|fo4 ?_ ?_ ?_ ?_<|fxo ?_<|fxn;all_goals (go_big_quiet_step (exact qaA (HM2.out _));exact wqn rfl)
     intro β wx4 E;replace FR:=fnf FR E rfl;replace Ab14:=fnh Ab14 E rfl;simp only [nP,zu];by_cases c2:0≤x2
     ·have HE:=hid (HRR.out.trans (HS3.out.1 c2));go_wp2
      go_ret2
      exact ⟨qfP HE.out.symm rfl,qaY HB0 FR⟩
     ·skip
      obtain ⟨e1,e2⟩:=HS3.out.2 c2;obtain ⟨hq,qv,q1,q2⟩:=HQQ.out;have m1:=HMM.out.2;obtain ⟨n,hn⟩:=nqx (q.1 / (q.2:Int));have hd:dnQ q=n:=hn.symm;rw [hd] at e1 e2 q1;have HNN:=hid (qhN (cr:=cq) (n:=n) hq qv hn (by omega) (by omega));have HE:=hid (HRR.out.trans e1);clear e1 e2 hq qv q1 q2 m1 hn hd;go_upto_region 13 with fail
      refine wE [(71,aT cq),(72,iT 3),(73,.tuple #[iT n,iT 0]),(70,.tuple #[iT n,iT 0]),(74,iT n),(75,iT 0),(19,iT n),(20,iT 0)] (by simp only [zu];rfl) (by kernel_rfl) ?_ ?_
      ·intro W' hW';refine lhR Ab14 hW' V_cq rfl<|fo4 ?_ ?_ ?_ ?_<|fo3 ?_ ?_ ?_<|fxn;all_goals (go_big_quiet_step (exact qaA (HNN.out _));exact wqn rfl)
      intro β wx5 E;replace FR:=fnf FR E rfl;simp only [nP,zu];go_wp2
      go_ret2
      exact ⟨qfP HE.out.symm rfl,qaY HB0 FR⟩
   ·have HS4:=hid HS.out.2;have HRR:=hid hr;clear HMD HS hr;by_cases c1:0<x1
    ·have HE:=hid (HRR.out.trans (HS4.out.1 c1));go_wp2
     go_ret2
     exact ⟨qfP HE.out.symm rfl,qaY HB0 FR⟩
    ·obtain ⟨c2,e12⟩:=HS4.out.2 c1;go_upto_region 10 with fail
     refine wE [(59,aT cq),(60,iT most),(61,iT m2),(62,aT cn),(63,.tuple #[iT x2,iT 0]),(58,.tuple #[iT x2,iT 0]),(64,iT x2),(65,iT 0),(17,iT x2),(18,iT 0)] (by simp only [zu];rfl) (by kernel_rfl) ?_ ?_
     ·intro W' hW';refine lhR Ab14 hW' V_cq rfl<|fo3 ?_ ?_ ?_<|fxo (by go_big_quiet_step (exact qaA (HC2.out _));exact wqn rfl)<|fo4 ?_ ?_ ?_ ?_<|fxo ?_<|fxn;all_goals (go_big_quiet_step (exact qaA (HM2.out _));exact wqn rfl)
     intro β wx4 E;replace FR:=fnf FR E rfl;replace Ab14:=fnh Ab14 E rfl;simp only [nP,zu];obtain ⟨e1,e2⟩:=e12;obtain ⟨hq,qv,q1,q2⟩:=HQQ.out;have m1:=HMM.out.2;obtain ⟨n,hn⟩:=nqx (ceilQ q);rw [←hn] at e1 e2 q2;have HNN:=hid (qoS (cr:=cq) (n:=n) hq qv hn (by omega) (by omega));have HE:=hid (HRR.out.trans e1);clear e1 e2 hq qv q1 q2 m1 hn;go_upto_region 13 with fail
     refine wE [(71,aT cq),(72,iT 4),(73,.tuple #[iT n,iT 0]),(70,.tuple #[iT n,iT 0]),(74,iT n),(75,iT 0),(19,iT n),(20,iT 0)] (by simp only [zu];rfl) (by kernel_rfl) ?_ ?_
     ·intro W' hW';refine lhR Ab14 hW' V_cq rfl<|fo4 ?_ ?_ ?_ ?_<|fo3 ?_ ?_ ?_<|fxn;all_goals (go_big_quiet_step (exact qaA (HNN.out _));exact wqn rfl)
     intro β wx5 E;replace FR:=fnf FR E rfl;simp only [nP,zu];go_wp2
     go_ret2
     exact ⟨qfP HE.out.symm rfl,qaY HB0 FR⟩
def rndM (mode:Int) (q:Qn):Int:=if mode=3 then dnQ q else ceilQ q
theorem qoW {cp:List Value} {p:Qn} {pl g:Nat} {z k mode r code:Int} (h:cp=ratZ p.1 p.2) (hp:Pc p) (hz:z=(pl:Int)) (h6:pl≤6) (k0:0≤k) (k1:k≤1000000000000000) (hm:mode=3∨mode=4)
  (hr:(moneyZ (worthQ p pl k) (rndM mode)=.ok r∧code=0)∨(moneyZ (worthQ p pl k) (rndM mode)=.error code∧r=0)) (w:World) (hg:g<w.heap.size) (hc:w.cell? ⟨g,133,none⟩=some (.int .i64 z)) :
  CB 89 #[.pointer (some ⟨g,0,none⟩),.agg cp.toArray,.int .i64 k,.int .i64 mode] (.tuple #[.int .i64 r,.int .i64 code]) w:=by
 have V_cp:=hid (show cp=rat (decide (p.1<0)) p.1.natAbs false p.2 from h);have HG:=hid hg;have HC:=hid hc;obtain ⟨co,hco0⟩:=nqx (resR (worthQ p pl k));obtain ⟨e1,he1⟩:=nqx (resE (worthQ p pl k))
 obtain ⟨on,op,om,oq,hco⟩:∃ rn rp rm rq,co=rat rn rp rm rq:=by
  rw [hco0]
  cases worthQ p pl k with
  | none=>exact ⟨_,_,_,_,rfl⟩
  | some r=>exact ⟨_,_,_,_,rfl⟩
 have V_co:=hid hco;have HW:=hid (qrL (cp:=cp) (cR:=co) (code:=e1) (k:=k) (z:=z) h hp hz h6 k0 k1 hco0 he1)
 have HN:=hid (show (e1=10∧r=0∧code=10)∨(e1=0∧∀ W,CB 125 #[.agg co.toArray,.int .i64 0,.int .i64 mode] (.tuple #[.int .i64 r,.int .i64 code]) W) by
  rw [he1]
  cases hw:worthQ p pl k with
  | none =>
   rw [hw] at hr;rcases hr with ⟨h1,_⟩|⟨h1,h2⟩
   ·simp [moneyZ] at h1
   ·simp [moneyZ] at h1;exact .inl ⟨rfl,h2,h1.symm⟩
  | some one =>
   obtain ⟨vo,nd,nc⟩:=jaH hp k0 k1 h6 hw;refine .inr ⟨rfl,fun W=>?_⟩;rw [hw] at hr hco0
   have hrc:(rndM mode one≤1000000000000000∧r=rndM mode one∧code=0)∨(1000000000000000<rndM mode one∧r=0∧code=33):=by
    unfold moneyZ mostZ at hr;by_cases hf:rndM mode one≤1000000000000000
    ·simp only [if_pos hf] at hr;rcases hr with ⟨h1,h2⟩|⟨h1,_⟩
     ·injection h1 with h1;exact .inl ⟨hf,h1.symm,h2⟩
     ·cases h1
    ·simp only [if_neg hf] at hr;rcases hr with ⟨h1,_⟩|⟨h1,h2⟩
     ·cases h1
     ·injection h1 with h1;exact .inr ⟨by omega,h2,h1.symm⟩
   rcases hm with rfl|rfl
   ·have e3:rndM 3 one=dnQ one:=rfl;rw [e3] at hrc;rcases hrc with ⟨h1,rfl,rfl⟩|⟨h1,rfl,rfl⟩
    ·exact qhN hco0 vo rfl (by show _≤dnQ one;omega) h1 W
    ·exact qqS hco0 vo rfl h1 W
   ·have e3:rndM 4 one=ceilQ one:=rfl;rw [e3] at hrc;rcases hrc with ⟨h1,rfl,rfl⟩|⟨h1,rfl,rfl⟩
    ·exact qoS hco0 vo rfl (by omega) h1 W
    ·exact quD hco0 vo rfl h1 W)
 clear h hp hz h6 k0 k1 hr hg hc he1 hco0 hco hm;obtain ⟨B0,w0,hw0,hB0,AB0,FR,FR0,HB0,hZB0⟩:=en1 w 27 (bxq cp);go_enter Tryz.func89,Tryz.ntmps89
 go_upto_region 1 with fail
 rw [←hw0,←hB0];clear hw0 hB0;have HCB:=hid (show g<B0 by rw [HB0.out];exact HG.out);refine wT [⟨true,10,10,11,0,0,27,20,co,0,co,[]⟩] [(13,aT cp),(14,pT g 0),(15,pT g 0),(16,pT g 133),(17,iT z),(18,iT k),(19,.tuple #[aT co,iT e1]),(12,.tuple #[aT co,iT e1]),(20,aT co),(21,iT e1),(11,iT e1)] (by simp only [zu];rfl) (by kernel_rfl) rfl ?_ ?_ ?_ ?_
 ·intro W' hW';have zc:=qcU (qbH HC.out FR.out.below HCB.out) hW';refine lhR AB0 hW' V_cp rfl<|fo3 ?_ ?_ ?_<|fxc zc (fun W h=>by simp [loadVar,h,go_sem]) rfl<|fo4 ?_ ?_ ?_ ?_<|fxo ?_<|fxs rfl<|fxs rfl<|fxo ?_<|fxn;all_goals (go_big_quiet_step (exact qaA (HW.out _));exact wqn rfl)
 ·exact fP1 (Tryz.alR (qR V_co.out))
 ·exact fP1 (sR V_co (fun _=>rfl) rfl)
 intro β wx1 E;replace FR:=fnf FR E rfl;obtain ⟨b10,hb10,eb10⟩:=nwb E mms;have lB0_b10:B0<b10:=ltb AB0 eb10.1;have hZb10:B0≤b10:=Nat.le_trans FR0.out eb10.1;have Ab10:=hid eb10.2;simp only [nP,zu];rw [←hb10];clear E eb10 hb10;rcases HN.out with ⟨rfl,rfl,rfl⟩|⟨rfl,hN⟩
 ·clear HN;go_wp2
  go_ret2
  exact ⟨rfl,qaY HB0 FR⟩
 ·have HR:=hid hN;clear HN hN;go_upto_region 4 with fail
  refine wE [(25,aT co),(26,iT mode),(27,.tuple #[iT r,iT code]),(28,iT r),(29,iT code),(8,iT r),(9,iT code)] (by simp only [zu];rfl) (by kernel_rfl) ?_ ?_
  ·intro W' hW';refine lhR Ab10 hW' V_co rfl<|fo4 ?_ ?_ ?_ ?_<|fo2 ?_ ?_<|fxn;all_goals (go_big_quiet_step (exact qaA (HR.out _));exact wqn rfl)
  intro β wx2 E;replace FR:=fnf FR E rfl;simp only [nP,zu];go_wp2
  go_ret2
  exact ⟨rfl,qaY HB0 FR⟩
end Go.Proofs.YtemoddmadfoaiaaGreat
namespace Go.Proofs.YtemoddmadfoaiaaGreat
open Go.RowKit Big Reg Al Ap Ga
theorem qxL (o:Od) (c:Int) (hc:c=if okA o=true then 0 else 230) (w:World):CB 86 #[.agg #[.string o.key,.string o.nom,.string o.hol,.string o.fund,.string o.cls,.int .i64 o.kind,.int .i64 o.amount,.int .i64 o.units,.int .i64 o.at_,.int .i64 o.known,.bool o.void]] (.int .i64 c) w:=by
 cases hv:o.void with
 | false=>have:=quG o c (by rw [hc];unfold okA;rw [hv];rfl) w hv;rwa [hv] at this
 | true=>have:=qqG o c (by rw [hc];unfold okA;rw [hv];rfl) w hv;rwa [hv] at this
end Go.Proofs.YtemoddmadfoaiaaGreat
