import Derived.Test.YtemoddmadfoaiaaGreatGeD
import Derived.Laws.Strings
import Derived.Test.YtemoddmadfoaiaaGreatDaB
import Derived.Test.YtemoddmadfoaiaaGreatGmC
import Derived.Test.YtemoddmadfoaiaaGreatGkB
set_option linter.unusedVariables false
set_option linter.unusedSimpArgs false
set_option maxRecDepth 100000
namespace Go.Proofs.YtemoddmadfoaiaaGreat
open Go.RowKit Big Reg Al Ap Ga
theorem qmM {N:Int} {D:Nat} (h1:N.natAbs<B480) (h2:D<B480):∃ r,mkQ N D=some r:=by
 unfold mkQ;rw [if_pos ⟨Nat.lt_of_le_of_lt (Nat.div_le_self _ _) h1,Nat.lt_of_le_of_lt (Nat.div_le_self _ _) h2⟩];exact ⟨_,rfl⟩
theorem qeA:(1000000000000000000000000000000000:Nat)<B480:=by unfold B480 BB;decide
theorem quM {z:Int} (h:z.natAbs<1000000000000000000000000000000000):VQ (z,1):=⟨Nat.lt_trans h qeA,Nat.lt_trans (show (1:Nat)<_ by decide) qeA,Nat.one_ne_zero,by show Nat.gcd z.natAbs 1=1;simp⟩
set_option maxRecDepth 1000000 in
theorem Tryz.alN {cs:List Value} (h:(Tryz.prog.info? 70).map (·.size)=some cs.length):∃ z,LaysAs Tryz.prog 70 z∧cs.length≤z.size:=by
 refine ⟨(nm false 0 false 0 0).toArray,?_,by rw [Tryz.infoN] at h;injection h with h;rw [←h,List.size_toArray,jdJ];exact Nat.le_refl _⟩;unfold nm rat;rw [qbW];intro o ho b w;unfold execOp;simp only [ho];rfl
theorem Tryz.infoZ:(Tryz.prog.info? 3).map (·.size)=some 1:=by kernel_rfl
def cI (l:List Int):List Value:=l.map (Value.int .i64)
theorem Row.at {w:World} {O:Nat} {l:List Int} (h:Row w O 0 l) (hlt:O<w.heap.size):At w O 0 (cI l):=by
 refine ⟨fun j v hj=>?_,fun j hj=>?_,hlt⟩
 ·unfold cI at hj;rw [List.getElem?_map] at hj
  cases hx:l[j]? with
  | none=>rw [hx] at hj;cases hj
  | some x=>rw [hx] at hj;injection hj with hj;subst hj;exact h.1 j x hx
 ·unfold cI at hj;rw [List.length_map] at hj;rw [h.1 j _ (List.getElem?_eq_getElem hj)];exact ⟨rfl,h.2 _⟩
theorem jhC {N:Int} {D:Nat} (h:D≠0):(N.sign*(N.natAbs / Nat.gcd N.natAbs D:Nat))*(D:Int)=N*(D / Nat.gcd N.natAbs D:Nat)∧Nat.gcd (N.sign*(N.natAbs / Nat.gcd N.natAbs D:Nat)).natAbs (D / Nat.gcd N.natAbs D)=1∧D / Nat.gcd N.natAbs D≠0:=by
 have hg:=qhR (N:=N) h;have hs:=(qgL N (N.natAbs / Nat.gcd N.natAbs D) (fun h0=>by subst h0;simp)).1;refine ⟨?_,?_,?_⟩
 ·obtain ⟨a,ha⟩:=Nat.gcd_dvd_left N.natAbs D;obtain ⟨d,hd⟩:=Nat.gcd_dvd_right N.natAbs D;generalize Nat.gcd N.natAbs D=g at *
  have e1:N.natAbs / g=a:=by rw [ha,Nat.mul_div_cancel_left _ hg]
  have e2:D / g=d:=by rw [hd,Nat.mul_div_cancel_left _ hg]
  rw [e1,e2];have e3:N=N.sign*((g*a:Nat):Int):=by rw [←ha];exact (Int.sign_mul_natAbs N).symm
  have e4:(D:Int)=(g:Int)*d:=by rw [←Int.natCast_mul,←hd]
  rw [e4]
  conv=>rhs;rw [e3]
  rw [Int.natCast_mul];generalize N.sign=s
  grind
 ·rw [hs,Nat.gcd_div (Nat.gcd_dvd_left _ _) (Nat.gcd_dvd_right _ _),Nat.div_self hg]
 ·have:=Nat.div_pos (Nat.le_of_dvd (by omega) (Nat.gcd_dvd_right N.natAbs D)) hg
  omega
theorem qmL {N:Int} {D:Nat} (h:D≠0) {r:Qn} (hr:mkQ N D=some r):r.1*(D:Int)=N*(r.2:Int)∧r.1.natAbs≤N.natAbs∧r.2≤D:=by
 have hl:=jhC (N:=N) h;have hs:=(qgL N (N.natAbs / Nat.gcd N.natAbs D) (fun h0=>by subst h0;simp)).1;unfold mkQ at hr;split at hr
 ·injection hr with hr
  subst hr;refine ⟨hl.1,?_,Nat.div_le_self _ _⟩;show (N.sign*(N.natAbs / Nat.gcd N.natAbs D:Nat)).natAbs≤_
  rw [hs];exact Nat.div_le_self _ _
 ·cases hr
namespace Ga
end Ga
namespace Dl
def partQ (n:Int) (pl:Nat):Qn:=(mkQ (n*100) (10^pl)).getD (0,1)
def worthQ (p:Qn) (pl:Nat) (n:Int):Option Qn:=mulQ p (partQ n pl)
def quoQ (a:Int) (b:Qn):Option Qn:=mkQ (a*(b.2:Int)) b.1.natAbs
structure Pc (p:Qn):Prop where
 vq:VQ p
 pos:0<p.1
theorem qoI {n:Int} {pl:Nat} (h1:0≤n) (h2:n≤1000000000000000) (h3:pl≤6):mkQ (n*100) (10^pl)=some (partQ n pl):=by
 have h6:10^pl≤10^6:=Nat.pow_le_pow_right (by omega) h3;obtain ⟨r,hr⟩:=qmM (N:=n*100) (D:=10^pl) (by have:=qeA;omega) (by have:=qeA;omega);rw [partQ,hr];rfl
theorem qkH {n:Int} {pl:Nat} (h1:0≤n) (h2:n≤1000000000000000) (h3:pl≤6):VQ (partQ n pl)∧(partQ n pl).1*((10^pl:Nat):Int)=n*100*((partQ n pl).2:Int):=by
 have hp:10^pl≠0:=Nat.ne_of_gt (Nat.pow_pos (by decide));have hr:=qoI h1 h2 h3;exact ⟨qgV hp hr,(qmL hp hr).1⟩
def wA (p:Qn):Int:=100*p.1
def wB (p:Qn) (pl:Nat):Nat:=p.2*10^pl
theorem qgJ {p:Qn} (h:Pc p):0<wA p:=by have:=h.pos;unfold wA;omega
theorem qhX {p:Qn} (h:Pc p) (pl:Nat):0<wB p pl:=Nat.mul_pos (Nat.pos_of_ne_zero h.vq.pos) (Nat.pow_pos (by decide))
theorem qdU {p w:Qn} {pl:Nat} {n:Int} (hp:Pc p) (h1:0≤n) (h2:n≤1000000000000000) (h3:pl≤6) (h:worthQ p pl n=some w) :
  VQ w∧w.1*(wB p pl:Int)=n*wA p*(w.2:Int):=by
 obtain ⟨hv,he⟩:=qkH h1 h2 h3;have hD:p.2*(partQ n pl).2≠0:=Nat.mul_ne_zero hp.vq.pos hv.pos;refine ⟨qgV hD h,?_⟩;have hx:=(qmL hD h).1;generalize partQ n pl=pq at *
 obtain ⟨s,t⟩:=pq;obtain ⟨P,Q⟩:=p;obtain ⟨a,b⟩:=w;have ht:t≠0:=hv.pos;simp only [wA,wB] at hx he ⊢;rw [Int.natCast_mul] at hx ⊢;generalize ((10^pl:Nat):Int)=T at *
 have ht':(t:Int)≠0:=by omega
 refine Int.eq_of_mul_eq_mul_left ht' ?_;generalize (t:Int)=t at *
 generalize (Q:Int)=Q at *
 generalize (b:Int)=b at *
 have e1:t*(a*(Q*T))=(a*(Q*t))*T:=by grind
 rw [e1,hx];have e2:P*s*b*T=P*b*(s*T):=by grind
 rw [e2,he];grind
theorem qnN {p w:Qn} {pl:Nat} {n:Int} (hp:Pc p) (h1:0<n) (h2:n≤1000000000000000) (h3:pl≤6) (h:worthQ p pl n=some w):Pc w:=by
 obtain ⟨hv,he⟩:=qdU hp (by omega) h2 h3 h;refine ⟨hv,?_⟩;have ha:=qgJ hp;have hb:=qhX hp pl;have h0:=hv.pos;have hr:0<n*wA p*(w.2:Int):=Int.mul_pos (Int.mul_pos h1 ha) (by omega);rw [←he] at hr;exact Int.pos_of_mul_pos_left hr (by omega)
theorem jeD {a:Int} {one q p:Qn} {pl:Nat} (hp:Pc p) (h3:pl≤6) (ho:worthQ p pl 1=some one) (h:quoQ a one=some q) :
  VQ q∧q.1*wA p=a*(wB p pl:Int)*(q.2:Int):=by
 obtain ⟨hv,he⟩:=qdU hp (by omega) (by omega) h3 ho;have hpo:=qnN hp (by omega) (by omega) h3 ho;have h1:=hpo.pos;have hD:one.1.natAbs≠0:=by omega
 refine ⟨qgV hD h,?_⟩;have hx:=(qmL hD h).1;obtain ⟨s,t⟩:=one;obtain ⟨c,d⟩:=q;have ht:t≠0:=hv.pos;simp only at hx he h1 ⊢
 rw [show ((s.natAbs:Nat):Int)=s by omega] at hx;have ht':(t:Int)≠0:=by omega
 refine Int.eq_of_mul_eq_mul_left ht' ?_;generalize (t:Int)=t at *
 generalize (wB p pl:Int)=B at *
 generalize wA p=A at *
 generalize (d:Int)=d at *
 have e1:t*(c*A)=c*(1*A*t):=by grind
 rw [e1,←he];have e2:c*(s*B)=c*s*B:=by grind
 rw [e2,hx];grind
theorem qiL {r:Qn} {N B:Int} (hB:0<B) (h0:r.2≠0) (h:r.1*B=N*(r.2:Int)):r.1 / (r.2:Int)=N / B:=by
 have h1:r.1 / (r.2:Int)=(r.1*B) / ((r.2:Int)*B):=(Int.mul_ediv_mul_of_pos_left _ _ hB).symm;rw [h1,h,Int.mul_comm (r.2:Int) B,Int.mul_ediv_mul_of_pos_left _ _ (by omega)]
def upZ (N B:Int):Int:=-(-N / B)
theorem qkY {N B:Int} (hB:0<B):N≤upZ N B*B∧upZ N B*B<N+B:=by
 unfold upZ;have h1:=Int.emod_add_mul_ediv (-N) B;have h2:=Int.emod_nonneg (-N) (by omega:B≠0);have h3:=Int.emod_lt_of_pos (-N) hB;rw [Int.neg_mul,Int.mul_comm];generalize B*(-N / B)=z at *
 omega
theorem qmY {N B:Int} (hB:0<B):N / B*B≤N∧N<N / B*B+B:=by
 have h1:=Int.emod_add_mul_ediv N B;have h2:=Int.emod_nonneg N (by omega:B≠0);have h3:=Int.emod_lt_of_pos N hB;rw [Int.mul_comm];generalize B*(N / B)=z at *
 omega
theorem jdQ {N B k:Int} (hB:0<B) (h1:N≤k*B) (h2:k*B<N+B):k=upZ N B:=by
 obtain ⟨g1,g2⟩:=qkY (N:=N) hB;have l1:k*B<(upZ N B+1)*B:=by rw [Int.add_mul];omega
 have l2:upZ N B*B<(k+1)*B:=by rw [Int.add_mul];omega
 have:=Int.lt_of_mul_lt_mul_right l1 (by omega)
 have:=Int.lt_of_mul_lt_mul_right l2 (by omega)
 omega
theorem qyW (r:Qn) (h0:r.2≠0):ceilQ r=upZ r.1 (r.2:Int):=by
 have hq:(0:Int)<(r.2:Int):=by omega
 refine jdQ hq ?_ ?_
 ·obtain ⟨g1,g2⟩:=qmY (N:=r.1) hq;have e:=Int.emod_add_mul_ediv r.1 (r.2:Int);rw [Int.mul_comm] at e;unfold ceilQ;split
  ·omega
  ·rw [Int.add_mul];omega
 ·obtain ⟨g1,g2⟩:=qmY (N:=r.1) hq;have e:=Int.emod_add_mul_ediv r.1 (r.2:Int);rw [Int.mul_comm] at e
  have:=Int.emod_nonneg r.1 (by omega:(r.2:Int)≠0)
  unfold ceilQ;split
  ·omega
  ·rw [Int.add_mul];omega
theorem qqQ {r:Qn} {N B:Int} (hB:0<B) (h0:r.2≠0) (h:r.1*B=N*(r.2:Int)):ceilQ r=upZ N B:=by
 rw [qyW r h0]
 have:=qiL (r:=(-r.1,r.2)) (N:=-N) hB h0 (by simp only;rw [Int.neg_mul,Int.neg_mul,h])
 unfold upZ;rw [this]
end Dl
namespace Dl
structure Nt where
 key:ByteArray
 nom:ByteArray
 hol:ByteArray
 kind:Int
 units:Int
 money:Int
 lots:List Lot
def zeroN:Nt:=⟨ByteArray.mk #[],ByteArray.mk #[],ByteArray.mk #[],0,0,0,[]⟩
def noteO (o:Od) (n m:Int) (x:List Lot):Nt:=⟨o.key,o.nom,o.hol,o.kind,n,m,x⟩
def mostZ:Int:=1000000000000000
def manyQ (p:Qn) (pl:Nat) (a:Int):Option Qn:=match worthQ p pl 1 with|none=>none|some one=>quoQ a one
def redN (bid:Qn) (pl:Nat) (has:Int) (o:Od):Except Int (Int × Int) :=
 if o.kind=3 then .ok (min has o.units,0)
 else if o.kind=4 then match manyQ bid pl o.amount with
  | none=>.error 10
  | some q=>if ceilQ q≤has then .ok (ceilQ q,o.amount) else .ok (has,0)
 else .ok (has,0)
def moneyZ (w:Option Qn) (f:Qn→Int):Except Int Int:=match w with
 | none=>.error 10
 | some w=>if f w≤mostZ then .ok (f w) else .error 33
def dnQ (q:Qn):Int:=q.1 / (q.2:Int)
def redM (bid:Qn) (pl:Nat) (n m:Int):Except Int Int:=if m=0 then moneyZ (worthQ bid pl n) dnQ else .ok m
def redO (bid:Qn) (pl:Nat) (l:List Lot) (o:Od):Except Int (List Lot × Nt) :=
 match redN bid pl (sumU (ownL o.nom o.hol l)) o with
 | .error e=>.error e
 | .ok (n,m)=>match redM bid pl n m with
  | .error e=>.error e
  | .ok m=>.ok ((takeR o.nom o.hol l n).1,noteO o n m (takeR o.nom o.hol l n).2)
def issO (ser:Int) (l:List Lot) (o:Od) (n m:Int):Except Int (List Lot × Nt) :=
 if mostZ - sumU l<n then .error 253
 else if 256<(putL l ⟨o.nom,o.hol,ser,n⟩).length then .error 254
 else .ok (putL l ⟨o.nom,o.hol,ser,n⟩,noteO o n m [⟨o.nom,o.hol,ser,n⟩])
def subO (offer:Qn) (pl:Nat) (ser:Int) (l:List Lot) (o:Od):Except Int (List Lot × Nt) :=
 if o.kind=1 then match manyQ offer pl o.amount with
  | none=>.error 10
  | some q=>if mostZ<dnQ q then .error 253 else if dnQ q=0 then .ok (l,noteO o 0 0 []) else issO ser l o (dnQ q) o.amount
 else match worthQ offer pl o.units with
  | none=>.error 10
  | some w=>if mostZ - sumU l<o.units then .error 253 else if mostZ<ceilQ w then .error 33 else issO ser l o o.units (ceilQ w)
def subs (o:Od):Bool:=decide (o.kind=1) || decide (o.kind=2)
def passP (sel:Od→Bool) (f:List Lot→Od→Except Int (List Lot × Nt)):List Tk→Nat→List Lot→List Nt→Except Int (List Lot × List Nt)
 | [],_,l,N=>.ok (l,N)
 | t::ts,k,l,N=>if sel t.o=true then match f l t.o with
   | .error e=>.error e
   | .ok (l',x)=>passP sel f ts (k+1) l' (N.set k x)
  else passP sel f ts (k+1) l N
def dealL (l:List Lot) (ts:List Tk) (offer bid:Qn) (pl:Nat) (ser:Int):Except Int (List Lot × List Nt) :=
 match passP (fun o=>!subs o) (redO bid pl) ts 0 l (List.replicate ts.length zeroN) with
 | .error e=>.error e
 | .ok (l',N)=>passP subs (subO offer pl ser) ts 0 l' N
theorem qoH {sel:Od→Bool} {f:List Lot→Od→Except Int (List Lot × Nt)} {I:List Lot→Prop} {Ok:Od→Prop} {G:Od→Nt→Prop}
  (hf:∀ l o l' x,I l→Ok o→sel o=true→f l o=.ok (l',x)→I l'∧G o x) :
  ∀ (ts:List Tk) (k:Nat) (l:List Lot) (N:List Nt) (l':List Lot) (N':List Nt),I l→(∀ t∈ts,Ok t.o)→k+ts.length=N.length→passP sel f ts k l N=.ok (l',N') →
   I l'∧N'.length=N.length∧(∀ i:Nat,i<k→N'[i]?=N[i]?)∧(∀ (j:Nat) (t:Tk),ts[j]?=some t→if sel t.o=true then ∃ x,N'[k+j]?=some x∧G t.o x else N'[k+j]?=N[k+j]?):=by
 intro ts
 induction ts with
 | nil =>
  intro k l N l' N' hI _ hk h;simp only [passP,Except.ok.injEq,Prod.mk.injEq] at h;obtain ⟨rfl,rfl⟩:=h;exact ⟨hI,rfl,fun _ _=>rfl,fun j t ht=>by simp at ht⟩
 | cons t ts ih =>
  intro k l N l' N' hI hO hk h;rw [List.length_cons] at hk;rw [passP] at h;by_cases hs:sel t.o=true
  ·rw [if_pos hs] at h;split at h
   ·cases h
   ·rename_i l1 x hx
    obtain ⟨hI1,hG⟩:=hf _ _ _ _ hI (hO t (by simp)) hs hx;obtain ⟨g1,g2,g3,g4⟩:=ih (k+1) l1 (N.set k x) l' N' hI1 (fun y hy=>hO y (by simp [hy])) (by rw [List.length_set];omega) h;rw [List.length_set] at g2;refine ⟨g1,g2,fun i hi=>?_,fun j y hj=>?_⟩
    ·rw [g3 i (by omega),List.getElem?_set_ne (by omega)]
    ·cases j with
     | zero =>
      simp only [List.getElem?_cons_zero,Option.some.injEq] at hj;subst hj;rw [if_pos hs];refine ⟨x,?_,hG⟩;rw [Nat.add_zero,g3 k (by omega),List.getElem?_set_self (by omega)]
     | succ j =>
      have:=g4 j y (by simpa using hj)
      rw [show k+1+j=k+(j+1) by omega] at this;by_cases hy:sel y.o=true
      ·rw [if_pos hy] at this ⊢;exact this
      ·rw [if_neg hy] at this ⊢;rw [this,List.getElem?_set_ne (by omega)]
  ·rw [if_neg hs] at h;obtain ⟨g1,g2,g3,g4⟩:=ih (k+1) l N l' N' hI (fun y hy=>hO y (by simp [hy])) (by omega) h;refine ⟨g1,g2,fun i hi=>g3 i (by omega),fun j y hj=>?_⟩
   cases j with
   | zero =>
    simp only [List.getElem?_cons_zero,Option.some.injEq] at hj;subst hj;rw [if_neg hs];exact g3 k (by omega)
   | succ j =>
    have:=g4 j y (by simpa using hj)
    rw [show k+1+j=k+(j+1) by omega] at this;exact this
theorem qyJ {I:List Lot→Prop} {Ok:Od→Prop} {G:Od→Nt→Prop} {l l':List Lot} {ts:List Tk} {offer bid:Qn} {pl:Nat} {ser:Int} {N:List Nt}
  (h1:∀ l o l' x,I l→Ok o→subs o=false→redO bid pl l o=.ok (l',x)→I l'∧G o x)
  (h2:∀ l o l' x,I l→Ok o→subs o=true→subO offer pl ser l o=.ok (l',x)→I l'∧G o x)
  (hI:I l) (hO:∀ t∈ts,Ok t.o) (h:dealL l ts offer bid pl ser=.ok (l',N)) :
  I l'∧N.length=ts.length∧∀ (j:Nat) (t:Tk),ts[j]?=some t→∃ x,N[j]?=some x∧G t.o x:=by
 unfold dealL at h;split at h
 ·cases h
 ·rename_i l1 N1 hx
  obtain ⟨a1,a2,a3,a4⟩:=qoH (G:=G) (fun l o l' x g1 g2 g3 g4=>h1 l o l' x g1 g2 (by simpa using g3) g4) ts 0 l _ l1 N1 hI hO (by simp) hx;rw [List.length_replicate] at a2;obtain ⟨b1,b2,b3,b4⟩:=qoH (G:=G) h2 ts 0 l1 N1 l' N a1 hO (by omega) h;refine ⟨b1,by omega,fun j t ht=>?_⟩;have c1:=a4 j t ht;have c2:=b4 j t ht;rw [Nat.zero_add] at c1 c2;by_cases hs:subs t.o=true
  ·rw [if_pos hs] at c2;exact c2
  ·rw [if_neg hs] at c2;rw [if_pos (by simpa using hs)] at c1;rw [c2];exact c1
end Dl
namespace Dl
structure Ask (o:Od):Prop where
 amt:(o.kind=1∨o.kind=4)→1≤o.amount∧o.amount≤1000000000000000
 unt:(o.kind=2∨o.kind=3)→1≤o.units∧o.units≤1000000000000000
 knd:1≤o.kind∧o.kind≤5
theorem jhN {o:Od} (h:okO o=true):Ask o:=by
 unfold okO askO at h;simp only [Bool.and_eq_true] at h;obtain ⟨_,_,h⟩:=h;unfold inR at h;split at h
 ·rename_i hk
  simp only [Bool.and_eq_true,decide_eq_true_eq] at h;exact ⟨fun _=>h.1,fun _=>by omega,by omega⟩
 ·split at h
  ·rename_i hk
   simp only [Bool.and_eq_true,decide_eq_true_eq] at h;exact ⟨fun _=>by omega,fun _=>h.1,by omega⟩
  ·split at h
   ·exact ⟨fun _=>by omega,fun _=>by omega,by omega⟩
   ·cases h
structure RedG (bid:Qn) (pl:Nat) (o:Od) (x:Nt):Prop where
 key:x.key=o.key∧x.nom=o.nom∧x.hol=o.hol∧x.kind=o.kind
 unt:0≤x.units∧x.units≤1000000000000000
 mny:0≤x.money∧x.money≤1000000000000000
 top:x.money*(wB bid pl:Int)≤x.units*wA bid
 low:x.units*wA bid<x.money*(wB bid pl:Int)+wA bid+(wB bid pl:Int)
structure SubG (offer:Qn) (pl:Nat) (o:Od) (x:Nt):Prop where
 key:x.key=o.key∧x.nom=o.nom∧x.hol=o.hol∧x.kind=o.kind
 unt:0≤x.units∧x.units≤1000000000000000
 mny:0≤x.money∧x.money≤1000000000000000
 top:x.units*wA offer≤x.money*(wB offer pl:Int)
 low:x.money*(wB offer pl:Int)<x.units*wA offer+wA offer+(wB offer pl:Int)
theorem qgX {p q:Qn} {pl:Nat} {a:Int} (hp:Pc p) (h3:pl≤6) (h:manyQ p pl a=some q):VQ q∧q.1*wA p=a*(wB p pl:Int)*(q.2:Int):=by
 unfold manyQ at h;split at h
 ·cases h
 ·rename_i one ho
  exact jeD hp h3 ho h
theorem qrP {p:Qn} {pl:Nat} {n m:Int} (hp:Pc p) (h3:pl≤6) (h1:0≤n) (h2:n≤1000000000000000) (h:moneyZ (worthQ p pl n) dnQ=.ok m) :
  0≤m∧m≤1000000000000000∧m=n*wA p / (wB p pl:Int):=by
 unfold moneyZ at h;split at h
 ·cases h
 ·rename_i w hw
  obtain ⟨v,e⟩:=qdU hp h1 h2 h3 hw;split at h
  ·rename_i hm
   injection h with h
   subst h;have hb:=qhX hp pl;have hf:=qiL (by omega) v.pos e;unfold mostZ dnQ at *;refine ⟨?_,hm,hf⟩;rw [hf];exact Int.ediv_nonneg (Int.mul_nonneg h1 (by have:=qgJ hp;omega)) (by omega)
  ·cases h
theorem qvU {bid:Qn} {pl:Nat} {l l':List Lot} {o:Od} {x:Nt} (hp:Pc bid) (h3:pl≤6) (ho:Ask o) (hs0:0≤sumU (ownL o.nom o.hol l)) (hs:sumU (ownL o.nom o.hol l)≤1000000000000000)
  (h:redO bid pl l o=.ok (l',x)):RedG bid pl o x∧x.units≤sumU (ownL o.nom o.hol l)∧l'=(takeR o.nom o.hol l x.units).1∧x.lots=(takeR o.nom o.hol l x.units).2:=by
 have hA:=qgJ hp;have hB:=qhX hp pl;unfold redO at h;generalize sumU (ownL o.nom o.hol l)=has at *
 split at h
 ·cases h
 ·rename_i n m0 hn
  split at h
  ·cases h
  ·rename_i m hm
   simp only [Except.ok.injEq,Prod.mk.injEq] at h;obtain ⟨rfl,rfl⟩:=h
   -- the units,and the money if it was asked for
   have hN:0≤n∧n≤has∧(m0=0∨(1≤m0∧m0≤1000000000000000∧m0*(wB bid pl:Int)≤n*wA bid∧n*wA bid<m0*(wB bid pl:Int)+wA bid)):=by
    unfold redN at hn;split at hn
    ·rename_i hk
     simp only [Except.ok.injEq,Prod.mk.injEq] at hn;obtain ⟨rfl,rfl⟩:=hn
     have:=ho.unt (.inr hk)
     omega
    ·split at hn
     ·rename_i hk
      have ha:=ho.amt (.inr hk);split at hn
      ·cases hn
      ·rename_i q hq
       obtain ⟨v,e⟩:=qgX hp h3 hq;have hc:=qqQ hA v.pos e;obtain ⟨u1,u2⟩:=qkY (N:=o.amount*(wB bid pl:Int)) hA;rw [←hc] at u1 u2;split at hn
       ·simp only [Except.ok.injEq,Prod.mk.injEq] at hn;obtain ⟨rfl,rfl⟩:=hn;refine ⟨?_,by omega,.inr ⟨ha.1,ha.2,u1,u2⟩⟩;have h1:0<o.amount*(wB bid pl:Int):=Int.mul_pos (by omega) (by omega);exact Int.le_of_lt (Int.pos_of_mul_pos_left (by omega) hA)
       ·simp only [Except.ok.injEq,Prod.mk.injEq] at hn;obtain ⟨rfl,rfl⟩:=hn;exact ⟨hs0,by omega,.inl rfl⟩
     ·simp only [Except.ok.injEq,Prod.mk.injEq] at hn;obtain ⟨rfl,rfl⟩:=hn;exact ⟨hs0,by omega,.inl rfl⟩
   obtain ⟨n1,n2,n3⟩:=hN
   have hM:0≤m∧m≤1000000000000000∧m*(wB bid pl:Int)≤n*wA bid∧n*wA bid<m*(wB bid pl:Int)+wA bid+(wB bid pl:Int):=by
    unfold redM at hm;split at hm
    ·obtain ⟨m1,m2,m3⟩:=qrP hp h3 n1 (by omega) hm;obtain ⟨d1,d2⟩:=qmY (N:=n*wA bid) (show (0:Int)<(wB bid pl:Int) by omega);rw [←m3] at d1 d2;exact ⟨m1,m2,d1,by omega⟩
    ·injection hm with hm
     subst hm;rcases n3 with n3|⟨n3,n4,n5,n6⟩
     ·contradiction
     ·exact ⟨by omega,n4,n5,by omega⟩
   exact ⟨⟨⟨rfl,rfl,rfl,rfl⟩,⟨n1,by simp only [noteO];omega⟩,⟨hM.1,hM.2.1⟩,hM.2.2.1,hM.2.2.2⟩,n2,rfl,rfl⟩
theorem qvE {offer:Qn} {pl:Nat} {ser:Int} {l l':List Lot} {o:Od} {x:Nt} (hp:Pc offer) (h3:pl≤6) (ho:Ask o) (hk:subs o=true) (hs0:0≤sumU l)
  (h:subO offer pl ser l o=.ok (l',x)):SubG offer pl o x∧(x.units=0∧l'=l∧x.lots=[]∨1≤x.units∧x.units≤1000000000000000 - sumU l∧l'=putL l ⟨o.nom,o.hol,ser,x.units⟩∧l'.length≤256∧x.lots=[⟨o.nom,o.hol,ser,x.units⟩]):=by
 have hA:=qgJ hp;have hB:=qhX hp pl
 have hI:∀ n m:Int,1≤n→0≤m→m≤1000000000000000→n*wA offer≤m*(wB offer pl:Int)→m*(wB offer pl:Int)<n*wA offer+wA offer+(wB offer pl:Int)→issO ser l o n m=.ok (l',x) →
   SubG offer pl o x∧(x.units=0∧l'=l∧x.lots=[]∨1≤x.units∧x.units≤1000000000000000 - sumU l∧l'=putL l ⟨o.nom,o.hol,ser,x.units⟩∧l'.length≤256∧x.lots=[⟨o.nom,o.hol,ser,x.units⟩]):=by
  intro n m g1 g2 g3 g4 g5 g;unfold issO at g;split at g
  ·cases g
  ·split at g
   ·cases g
   ·rename_i q1 q2
    simp only [Except.ok.injEq,Prod.mk.injEq] at g;obtain ⟨rfl,rfl⟩:=g;unfold mostZ at q1;exact ⟨⟨⟨rfl,rfl,rfl,rfl⟩,⟨by simp only [noteO];omega,by simp only [noteO];omega⟩,⟨g2,g3⟩,g4,g5⟩,.inr ⟨g1,by simp only [noteO];omega,rfl,by omega,rfl⟩⟩
 unfold subO at h;split at h
 ·rename_i hk1
  have ha:=ho.amt (.inl hk1);split at h
  ·cases h
  ·rename_i q hq
   obtain ⟨v,e⟩:=qgX hp h3 hq;have hc:=qiL hA v.pos e;obtain ⟨d1,d2⟩:=qmY (N:=o.amount*(wB offer pl:Int)) hA;rw [←hc] at d1 d2;have h1:0<o.amount*(wB offer pl:Int):=Int.mul_pos (by omega) (by omega)
   have h0:0≤dnQ q:=by
    show 0≤q.1 / (q.2:Int)
    rw [hc];exact Int.ediv_nonneg (by omega) (by omega)
   change dnQ q*wA offer≤_ at d1
   change _<dnQ q*wA offer+_ at d2
   split at h
   ·cases h
   ·split at h
    ·simp only [Except.ok.injEq,Prod.mk.injEq] at h;obtain ⟨rfl,rfl⟩:=h;exact ⟨⟨⟨rfl,rfl,rfl,rfl⟩,by simp [noteO],by simp [noteO],by simp [noteO],by simp only [noteO];omega⟩,.inl ⟨rfl,rfl,rfl⟩⟩
    ·exact hI _ _ (by omega) (by omega) ha.2 d1 (by omega) h
 ·rename_i hk1
  have hk2:o.kind=2:=by
   unfold subs at hk;simp only [Bool.or_eq_true,decide_eq_true_eq] at hk;omega
  have hu:=ho.unt (.inl hk2);split at h
  ·cases h
  ·rename_i w hw
   obtain ⟨v,e⟩:=qdU hp (by omega) hu.2 h3 hw;have hc:=qqQ (by omega) v.pos e;obtain ⟨d1,d2⟩:=qkY (N:=o.units*wA offer) (show (0:Int)<(wB offer pl:Int) by omega);rw [←hc] at d1 d2;have h1:0<o.units*wA offer:=Int.mul_pos (by omega) hA;have h0:0<ceilQ w:=Int.pos_of_mul_pos_left (show 0<ceilQ w*(wB offer pl:Int) by omega) (by omega);split at h
   ·cases h
   ·split at h
    ·cases h
    ·rename_i g1 g2
     unfold mostZ at g2;exact hI _ _ hu.1 (by omega) (by omega) d1 (by omega) h
end Dl
namespace Dl
end Dl
namespace Dl
theorem jaP {bid:Qn} {pl:Nat} {l l':List Lot} {o:Od} {x:Nt} (hp:Pc bid) (h3:pl≤6) (ho:Ask o) (hk:o.kind=3) (hs0:0≤sumU (ownL o.nom o.hol l)) (hs:sumU (ownL o.nom o.hol l)≤1000000000000000)
  (h:redO bid pl l o=.ok (l',x)):x.money=x.units*wA bid / (wB bid pl:Int)∧x.units=min (sumU (ownL o.nom o.hol l)) o.units:=by
 unfold redO at h;generalize sumU (ownL o.nom o.hol l)=has at *
 unfold redN at h;rw [if_pos hk] at h;simp only at h
 unfold redM at h;rw [if_pos rfl] at h;split at h
 ·cases h
 ·rename_i m hm
  simp only [Except.ok.injEq,Prod.mk.injEq] at h;obtain ⟨rfl,rfl⟩:=h
  have:=ho.unt (.inr hk)
  obtain ⟨m1,m2,m3⟩:=qrP hp h3 (by omega) (by omega) hm;exact ⟨m3,rfl⟩
theorem qrY {ser:Int} {l l':List Lot} {o:Od} {n m:Int} {x:Nt} (h:issO ser l o n m=.ok (l',x)):x=noteO o n m [⟨o.nom,o.hol,ser,n⟩]:=by
 unfold issO at h;split at h
 ·cases h
 ·split at h
  ·cases h
  ·simp only [Except.ok.injEq,Prod.mk.injEq] at h;exact h.2.symm
theorem qvD {offer:Qn} {pl:Nat} {ser:Int} {l l':List Lot} {o:Od} {x:Nt} (hp:Pc offer) (h3:pl≤6) (hk:o.kind=1) (h:subO offer pl ser l o=.ok (l',x)):x.units=o.amount*(wB offer pl:Int) / wA offer:=by
 unfold subO at h;rw [if_pos hk] at h;split at h
 ·cases h
 ·rename_i q hq
  obtain ⟨v,e⟩:=qgX hp h3 hq;have hc:dnQ q=_:=qiL (qgJ hp) v.pos e;split at h
  ·cases h
  ·split at h
   ·rename_i h0
    simp only [Except.ok.injEq,Prod.mk.injEq] at h;obtain ⟨rfl,rfl⟩:=h;rw [←hc,h0];rfl
   ·rw [qrY h,←hc];rfl
theorem qvC {offer:Qn} {pl:Nat} {ser:Int} {l l':List Lot} {o:Od} {x:Nt} (hp:Pc offer) (h3:pl≤6) (ho:Ask o) (hk:o.kind=2) (h:subO offer pl ser l o=.ok (l',x)):x.units=o.units∧x.money=upZ (x.units*wA offer) (wB offer pl:Int):=by
 have hu:=ho.unt (.inl hk);have hB:=qhX hp pl;unfold subO at h;rw [if_neg (by omega)] at h;split at h
 ·cases h
 ·rename_i w hw
  obtain ⟨v,e⟩:=qdU hp (by omega) hu.2 h3 hw;have hc:=qqQ (by omega) v.pos e;split at h
  ·cases h
  ·split at h
   ·cases h
   ·rw [qrY h];exact ⟨rfl,hc⟩
theorem jdR {a b B:Int} (hB:0<B) (h:a≤b):upZ a B≤upZ b B:=by
 unfold upZ
 have:=Int.ediv_le_ediv hB (show -b≤-a by omega)
 omega
end Dl
namespace Dl
def Val (r:Qn) (x B:Int):Prop:=r.2≠0∧r.1*B=x*(r.2:Int)
theorem jgJ {R T:Qn} {x y B:Int} (hB:0<B) (hR:Val R x B) (hT:Val T y B) (h:x≤y):R.1*(T.2:Int)≤T.1*(R.2:Int):=by
 obtain ⟨r0,r1⟩:=hR;obtain ⟨t0,t1⟩:=hT;have k:=Int.mul_le_mul_of_nonneg_right h (show (0:Int)≤(R.2:Int)*(T.2:Int) from Int.mul_nonneg (by omega) (by omega));refine Int.le_of_mul_le_mul_right (a:=B) ?_ (by omega);have e1:R.1*(T.2:Int)*B=(R.1*B)*(T.2:Int):=by grind
 have e2:T.1*(R.2:Int)*B=(T.1*B)*(R.2:Int):=by grind
 rw [e1,e2,r1,t1];have e3:x*(R.2:Int)*(T.2:Int)=x*((R.2:Int)*(T.2:Int)):=by grind
 have e4:y*(T.2:Int)*(R.2:Int)=y*((R.2:Int)*(T.2:Int)):=by grind
 rw [e3,e4];exact k
theorem qsT {R:Qn} {x B:Int} (hB:0<B) (hR:Val R x B) (h:0≤x):0≤R.1:=by
 have:=jgJ (R:=(0,1)) (x:=0) hB ⟨by decide,by simp⟩ hR h
 simpa using this
theorem quN {p w:Qn} {pl:Nat} {n:Int} (hp:Pc p) (h1:0≤n) (h2:n≤1000000000000000) (h3:pl≤6) (h:worthQ p pl n=some w):Val w (n*wA p) (wB p pl:Int):=by
 obtain ⟨v,e⟩:=qdU hp h1 h2 h3 h;exact ⟨v.pos,e⟩
end Dl
namespace Dl
def quo2 (a b:Qn):Option Qn:=mkQ (a.1*(b.2:Int)) (a.2*b.1.natAbs)
theorem jaS (a:Int) (b:Qn):quoQ a b=quo2 (a,1) b:=by simp [quoQ,quo2]
end Dl
namespace Dl
theorem qyC {a b A B:Int} (hA:0<A) (hB:0<B) (h:a≤b):a*A / B≤b*A / B:=Int.ediv_le_ediv hB (Int.mul_le_mul_of_nonneg_right h (by omega))
theorem jfP {a b A B:Int} (hA:0<A) (hB:0<B) (h:a≤b):upZ (a*A) B≤upZ (b*A) B:=jdR hB (Int.mul_le_mul_of_nonneg_right h (by omega))
end Dl
namespace Dl
theorem qyX {q:Qn} (h:q.2≠0) (k:Int):ceilQ q≤k↔q.1≤k*(q.2:Int):=by
 have hq:(0:Int)<(q.2:Int):=by omega
 rw [qyW q h];obtain ⟨u1,u2⟩:=qkY (N:=q.1) hq;constructor
 ·intro hk
  have:=Int.mul_le_mul_of_nonneg_right hk (show (0:Int)≤(q.2:Int) by omega)
  omega
 ·intro hk;have l:upZ q.1 (q.2:Int)*(q.2:Int)<(k+1)*(q.2:Int):=by rw [Int.add_mul];omega
  have:=Int.lt_of_mul_lt_mul_right l (by omega)
  omega
theorem dn_ge {q:Qn} (h:q.2≠0) (k:Int):k≤dnQ q↔k*(q.2:Int)≤q.1:=by
 have hq:(0:Int)<(q.2:Int):=by omega
 unfold dnQ;exact Int.le_ediv_iff_mul_le hq
def reachC (q:Qn) (most:Int):Int:=if ceilQ q≤most then ceilQ q else most+1
def reachF (q:Qn) (most:Int):Int:=if dnQ q≤most then dnQ q else most+1
theorem jaQ {q:Qn} (h:q.2≠0) (most:Int):(most*(q.2:Int)<q.1→reachC q most=most+1)∧(¬most*(q.2:Int)<q.1→¬(most+1)*(q.2:Int)≤q.1∧reachC q most=ceilQ q∧ceilQ q≤most):=by
 have k:=qyX h most;refine ⟨fun g=>?_,fun g=>?_⟩
 ·unfold reachC;rw [if_neg (by rw [k];omega)]
 ·have g1:ceilQ q≤most:=k.2 (by omega);refine ⟨?_,by unfold reachC;rw [if_pos g1],g1⟩;rw [Int.add_mul];omega
theorem jaR {q:Qn} (h:q.2≠0) (most:Int):((most+1)*(q.2:Int)≤q.1→reachF q most=most+1)∧(¬(most+1)*(q.2:Int)≤q.1→reachF q most=dnQ q∧dnQ q≤most):=by
 have k:=dn_ge h (most+1);refine ⟨fun g=>?_,fun g=>?_⟩
 ·have:=k.2 g
  unfold reachF;rw [if_neg (by omega)]
 ·have g1:dnQ q≤most:=by have:=mt k.1 g;omega
  exact ⟨by unfold reachF;rw [if_pos g1],g1⟩
theorem qmO {p q:Qn} {pl:Nat} {a:Int} (hp:Pc p) (h3:pl≤6) (ha:0≤a) (h:manyQ p pl a=some q):0≤q.1∧0≤dnQ q∧0≤ceilQ q:=by
 obtain ⟨v,e⟩:=qgX hp h3 h;have hA:=qgJ hp
 have h0:0≤q.1:=by
  have:0≤q.1*wA p:=by rw [e];exact Int.mul_nonneg (Int.mul_nonneg ha (Int.natCast_nonneg _)) (Int.natCast_nonneg _)
  exact Int.le_of_mul_le_mul_right (a:=wA p) (by omega) hA
 have hq:=v.pos;refine ⟨h0,Int.ediv_nonneg h0 (Int.natCast_nonneg _),?_⟩;by_cases hc:ceilQ q≤-1
 ·have:=(qyX hq (-1)).1 hc
  omega
 ·omega
end Dl
namespace Dl
structure Fw (p:Qn):Prop where
 pc:Pc p
 num:p.1≤1000000000000
 den:p.2≤1000000000000
end Dl
namespace Dl
structure FairG (offer bid:Qn) (pl:Nat) (o:Od) (x:Nt):Prop where
 k1:o.kind=1→x.units=o.amount*(wB offer pl:Int) / wA offer
 k2:o.kind=2→x.money=upZ (x.units*wA offer) (wB offer pl:Int)
 k3:o.kind=3→x.money=x.units*wA bid / (wB bid pl:Int)
theorem qvT {offer bid:Qn} {pl:Nat} {l l':List Lot} {o:Od} {x:Nt} (hp:Pc bid) (h3:pl≤6) (ho:Ask o) (hk:subs o=false) (hs0:0≤sumU (ownL o.nom o.hol l)) (hs:sumU (ownL o.nom o.hol l)≤1000000000000000)
  (h:redO bid pl l o=.ok (l',x)):FairG offer bid pl o x:=by
 unfold subs at hk;simp only [Bool.or_eq_false_iff,decide_eq_false_iff_not] at hk;exact ⟨fun g=>absurd g hk.1,fun g=>absurd g hk.2,fun g=>(jaP hp h3 ho g hs0 hs h).1⟩
theorem qvB {offer bid:Qn} {pl:Nat} {ser:Int} {l l':List Lot} {o:Od} {x:Nt} (hp:Pc offer) (h3:pl≤6) (ho:Ask o) (hk:subs o=true) (h:subO offer pl ser l o=.ok (l',x)):FairG offer bid pl o x:=by
 unfold subs at hk;simp only [Bool.or_eq_true,decide_eq_true_eq] at hk;exact ⟨fun g=>qvD hp h3 g h,fun g=>(qvC hp h3 ho g h).2,fun g=>by omega⟩
theorem qyB {offer bid:Qn} {pl:Nat} {o p:Od} {x y:Nt} (ho:Pc offer) (hb:Pc bid) (hx:FairG offer bid pl o x) (hy:FairG offer bid pl p y) (hk:o.kind=p.kind) :
  ¬(o.kind=1∧o.amount≤p.amount∧y.units<x.units)∧¬((o.kind=2∨o.kind=3)∧x.units≤y.units∧y.money<x.money):=by
 have a1:=qgJ ho;have a2:=qgJ hb;have b1:=qhX ho pl;have b2:=qhX hb pl;refine ⟨fun ⟨g1,g2,g3⟩=>?_,fun ⟨g1,g2,g3⟩=>?_⟩
 ·have:=qyC (A:=(wB offer pl:Int)) (B:=wA offer) (by omega) a1 g2
  rw [←hx.k1 g1,←hy.k1 (by omega)] at this;omega
 ·rcases g1 with g1|g1
  ·have:=jfP (A:=wA offer) (B:=(wB offer pl:Int)) a1 (by omega) g2
   rw [←hx.k2 g1,←hy.k2 (by omega)] at this;omega
  ·have:=qyC (A:=wA bid) (B:=(wB bid pl:Int)) a2 (by omega) g2
   rw [←hx.k3 g1,←hy.k3 (by omega)] at this;omega
end Dl
end Go.Proofs.YtemoddmadfoaiaaGreat
set_option maxHeartbeats 8000000
namespace Go.Proofs.YtemoddmadfoaiaaGreat
open Go.RowKit Big Reg Al Ga Dl
open Lib (hid)
namespace Dl
def MadeP (p:Qn):Prop:=Pc p∧p.1≤30000∧p.2≤1000000
theorem qmP {n:Int} {d:Nat} {p:Qn} (h1:1≤n) (h3:d≠0) (hp:mkQ n d=some p):Pc p∧p.1.natAbs≤n.natAbs∧p.2≤d:=by
 obtain ⟨e,a,b⟩:=qmL h3 hp;have v:=qgV h3 hp;refine ⟨⟨v,?_⟩,a,b⟩;have h:0<n*(p.2:Int):=Int.mul_pos (by omega) (by have:=v.pos;omega);rw [←e] at h;rcases Int.lt_or_le 0 p.1 with h0|h0
 ·exact h0
 ·have:=Int.mul_nonpos_of_nonpos_of_nonneg h0 (Int.natCast_nonneg d)
  omega
theorem qrQ {n:Int} {d:Nat} (h1:1≤n) (h2:n≤30000) (h3:d≠0) (h4:d≤1000000):∃ p,mkQ n d=some p∧MadeP p:=by
 obtain ⟨p,hp⟩:=qmM (N:=n) (D:=d) (by have:=qeA;omega) (by have:=qeA;omega);obtain ⟨c,a,b⟩:=qmP h1 h3 hp;exact ⟨p,hp,c,by omega,by omega⟩
theorem qxA {p:Qn} (h:MadeP p):Fw p:=⟨h.1,by have:=h.2.1;omega,by have:=h.2.2;omega⟩
theorem qrR {p:Qn} {k:Int} (h:MadeP p) (h1:900≤k) (h2:k≤1100):∃ r q,mkQ k 1000=some r∧VQ r∧mulQ p r=some q∧Fw q:=by
 obtain ⟨r,hr,hm⟩:=qrQ (n:=k) (d:=1000) (by omega) (by omega) (by omega) (by omega);obtain ⟨c,a,b⟩:=qmP (by omega) (by omega) hr;have c1:=h.1.pos;have c2:=c.pos;have e0:=h.2.1;have e1:=h.2.2;have v:=h.1.vq.pos;have v2:=c.vq.pos;have hN:(p.1*r.1).natAbs≤30000*1100:=by rw [Int.natAbs_mul];exact Nat.mul_le_mul (by omega) (by omega)
 have hD:p.2*r.2≤1000000*1000:=Nat.mul_le_mul e1 b;have hD0:p.2*r.2≠0:=Nat.mul_ne_zero v v2;obtain ⟨q,hq⟩:=qmM (N:=p.1*r.1) (D:=p.2*r.2) (by have:=qeA;omega) (by have:=qeA;omega);have hpos:1≤p.1*r.1:=by have:=Int.mul_pos c1 c2;omega
 obtain ⟨d,f,g⟩:=qmP hpos hD0 hq;exact ⟨r,q,hr,c.vq,hq,d,by omega,by omega⟩
end Dl
theorem Drew.fr {w w1 w2:World} {bt Z:Nat} (h:Drew w bt w1) (hbt:bt<Z) (hZ:w.heap.size≤Z) (k:Below Z w1 w2):Drew w bt w2:=by
 have hb:∀ b,b≤bt→w2.heap[b]?=w1.heap[b]?:=fun b hb=>k.block b (by omega)
 obtain ⟨at_,a,len,cap,hle,h0,h1,h2,h3,h4⟩:=h.1;refine ⟨⟨at_,a,len,cap,hle,?_,?_,fun o=>?_,h3,fun j hj=>?_⟩,k.os.trans h.2.os,k.tape.trans h.2.tape,k.output.trans h.2.output,Nat.le_trans h.2.size k.size,fun i hi hr=>(k.block i (by omega)).trans (h.2.block i hi hr)⟩
 ·rw [World.cell?_of_block (w:=w1) (hb bt (Nat.le_refl _))];exact h0
 ·rw [World.cell?_of_block (w:=w1) (hb bt (Nat.le_refl _))];exact h1
 ·rw [World.frozen?_of_block (w:=w1) (hb bt (Nat.le_refl _))];exact h2 o
 ·obtain ⟨b,off,v,e,hne,hc⟩:=h4 j hj;exact ⟨b,off,v,e,hne,by rw [World.cell?_of_block (w:=w1) (hb b (by omega))];exact hc⟩
theorem qeJ {P:Program} {ops:Array Oper} {rest:List Oper} {o1 o2:Oper} {a:Act} {w:World} {Q:Exit→Act→World→Prop} {t:TypeId} (hg1:o1.guard=none) (hg2:o2.guard=none) (ho1:o1.op=.alloc t) {x y:Operand} (ho2:o2.op=.store t x y) {cs:List Value} (hL:∃ z,LaysAs P t z∧cs.length≤z.size)
  (hx:(a.put o1.dst (.pointer (some ⟨w.heap.size,0,none⟩))).eval x=.pointer (some ⟨w.heap.size,0,none⟩)) (hy:(a.put o1.dst (.pointer (some ⟨w.heap.size,0,none⟩))).eval y=.agg cs.toArray) (hs:(P.info? t).map (·.size)=some cs.length) (h1:cs.toArray.all (·.oneCell')=true)
  (h:∀ w',Below w.heap.size w w'→At w' w.heap.size 0 cs→w'.heap.size=w.heap.size+1→wpList P ops Q rest ((a.put o1.dst (.pointer (some ⟨w.heap.size,0,none⟩))).put o2.dst undef) w'):wpList P ops Q (o1::o2::rest) a w:=by
 obtain ⟨z,hL,hz⟩:=hL;refine wpList_plain hg1 fun K hK=>?_
 have hrun:=hL o1 ho1 a w;unfold Oper.wp;rw [hrun];refine hK _ _ ?_;have hA:At (w.alloc (.cells z t)) w.heap.size 0 z.toList:=by have:=At.fresh w z.toList t rfl;simpa using this
 have hth:(w.alloc (.cells z t)).there w.heap.size 0 cs.length:=fun j hj=>hA.there j (by simp;omega)
 refine wpList_store_mid hg2 _ _ _ ho2 w.heap.size 0 cs.toArray hx hy (by simpa using hth) (by simpa using hs) h1 ?_;refine h _ ?_ ?_ (by simp [qaU])
 ·exact qaC (Nat.le_refl _) _ _ _ ((Below.refl _ _).alloc (Nat.le_refl _) _)
 ·exact ⟨World.rangeAt_setCells_same _ _ _ _ hth,World.there_setCells hth _ _ _,by rw [qaU];simp⟩
theorem qsW (bt:Nat) (w:World) (ht:IsTp w bt) :
  Calls Tryz.prog 49 #[.pointer (some ⟨bt,0,none⟩)] w fun e w'=>∃ (p:Qn) (c:List Value),c=ratZ p.1 p.2∧e=.returned (.agg c.toArray)∧MadeP p∧Drew w bt w':=by
 have hbt:=ht.lt;obtain ⟨X,hX⟩:=nqx (w.heap.size);obtain ⟨cz,V_cz⟩:=nvx (rat false 0 false 0);obtain ⟨w0,hw0⟩:=nqx (w.alloc (.cells Tryz.zeroCells27 27));have A0:=hid (show At w0 X 0 cz by rw [hw0];exact (show At (w.alloc (.cells Tryz.zeroCells27 27)) X 0 cz from (by rw [Tryz.zeroR,V_cz.out];exact At.fresh _ (rat false 0 false 0) _ (by simp [hX]))));have D0:=hid (show Drew w bt w0 by rw [hw0];exact (Drew.refl ht).alloc _);have hbX:bt<X:=by omega
 have HX:=hid hX;go_enter Tryz.func49,Tryz.ntmps49
 go_upto_region 1 with fail
 rw [←hw0,←hX];clear hw0 hX ht;go_wp2_with fail
 refine (qbA bt 6 w0 D0.out.1 (by omega) (by omega)).mono ?_;rintro e w1 ⟨v,rfl,hv0,hv1,hd⟩;replace A0:=hid (A0.out.drw hd (by omega));replace D0:=hid (D0.out.trans hd);clear hd;by_cases h0:v=0
 ·subst h0;go_wp2_with fail
  refine (qbA bt 5000 w1 D0.out.1 (by omega) (by omega)).mono ?_;rintro e w2 ⟨x,rfl,hx0,hx1,hd⟩;replace A0:=hid (A0.out.drw hd (by omega));replace D0:=hid (D0.out.trans hd);clear hd;have wx:IntKind.i64.wrap (1+x)=1+x:=IntWalk.i64_in _ (by omega);go_wp2_with fail
  refine (qbA bt 700 w2 D0.out.1 (by omega) (by omega)).mono ?_;rintro e w3 ⟨y,rfl,hy0,hy1,hd⟩;replace A0:=hid (A0.out.drw hd (by omega));replace D0:=hid (D0.out.trans hd);clear hd;have wy:IntKind.i64.wrap (1+y)=1+y:=IntWalk.i64_in _ (by omega);obtain ⟨p,hp,hm⟩:=qrQ (n:=1+x) (d:=(1+y:Int).toNat) (by omega) (by omega) (by omega) (by omega);obtain ⟨cp,V_cp⟩:=nvx (rat (decide (p.1<0)) p.1.natAbs false p.2);have HR:=hid (qrF (cR:=cp) (x:=1+x) (y:=1+y) (d:=(1+y:Int).toNat) (by omega) (by omega) (by rw [hp,V_cp.out];rfl) (by omega) (by omega) (by omega));have HM:=hid hm;have HTH:=hid (fun W (hb:Below w3.heap.size w3 W)=>(show W.there X 0 cp.toArray.size by have:=(A0.out.below hb).there;rw [V_cz.out,qbE] at this;rw [List.size_toArray,V_cp.out,qbE];exact this));have HSA:=hid (show (Tryz.prog.info? 27).map (·.size)=some cp.toArray.size by rw [List.size_toArray];exact qR V_cp.out);have HONE:=hid (quG V_cp.out);clear hp hm;go_wp2_with (first|(go_at_call 24;refine (HR.out _).mono ?_;rintro e w7 ⟨rfl,hb1⟩;have HB1:=hid hb1;clear hb1)|(refine wpList_store_mid rfl _ _ _ rfl X 0 _ rfl rfl (HTH.out _ HB1.out) HSA.out HONE.out ?_))
  try simp only [zq]
  try simp only [List.toList_toArray]
  have AF:=hid ((A0.out.below HB1.out).stored (ds:=cp) (by rw [V_cp.out,V_cz.out,qbE,qbE]));have hld:=rdR AF V_cp;refine bodyPost_ret (v:=.agg cp.toArray) (by simp [results,Tryz.results49,asAddr,hld]) rfl ?_;exact ⟨p,cp,V_cp.out,rfl,HM.out,Drew.sets (D0.out.below HB1.out) hbt (by rw [←HX.out];exact Nat.le_refl X) cp⟩
 by_cases h1:v=1
 ·subst h1;go_wp2_with fail
  refine (qbA bt 9 w1 D0.out.1 (by omega) (by omega)).mono ?_;rintro e w2 ⟨x,rfl,hx0,hx1,hd⟩;replace A0:=hid (A0.out.drw hd (by omega));replace D0:=hid (D0.out.trans hd);clear hd;have wx:IntKind.i64.wrap (1+x)=1+x:=IntWalk.i64_in _ (by omega);have hz4:=A0.out.lt;go_wp2_with fail
  have HP:=hid (qjM w2 [1,10,1000,1000000] 3 w2.heap.size rfl);refine (qgQ bt w2.heap.size 4 4 [1,10,1000,1000000] _ rfl (D0.out.alloc _).1 (by omega) (by omega) (by omega) HP.out).mono ?_;rintro e w3 ⟨s,hs,rfl,hd⟩
  have hsb:1≤s∧s≤1000000:=by
   simp only [List.mem_cons,List.not_mem_nil,or_false] at hs;omega
  replace A0:=hid ((A0.out.alloc _).drw hd (by omega));replace D0:=hid ((D0.out.alloc _).trans hd);clear hd hs HP hz4;obtain ⟨p,hp,hm⟩:=qrQ (n:=1+x) (d:=(s:Int).toNat) (by omega) (by omega) (by omega) (by omega);obtain ⟨cp,V_cp⟩:=nvx (rat (decide (p.1<0)) p.1.natAbs false p.2);have HR:=hid (qrF (cR:=cp) (x:=1+x) (y:=s) (d:=(s:Int).toNat) (by omega) (by omega) (by rw [hp,V_cp.out];rfl) (by omega) (by omega) (by omega));have HM:=hid hm;have HTH:=hid (fun W (hb:Below w3.heap.size w3 W)=>(show W.there X 0 cp.toArray.size by have:=(A0.out.below hb).there;rw [V_cz.out,qbE] at this;rw [List.size_toArray,V_cp.out,qbE];exact this));have HSA:=hid (show (Tryz.prog.info? 27).map (·.size)=some cp.toArray.size by rw [List.size_toArray];exact qR V_cp.out);have HONE:=hid (quG V_cp.out);clear hp hm;go_wp2_with (first|(go_at_call 24;refine (HR.out _).mono ?_;rintro e w7 ⟨rfl,hb1⟩;have HB1:=hid hb1;clear hb1)|(refine wpList_store_mid rfl _ _ _ rfl X 0 _ rfl rfl (HTH.out _ HB1.out) HSA.out HONE.out ?_))
  try simp only [zq]
  try simp only [List.toList_toArray]
  have AF:=hid ((A0.out.below HB1.out).stored (ds:=cp) (by rw [V_cp.out,V_cz.out,qbE,qbE]));have hld:=rdR AF V_cp;refine bodyPost_ret (v:=.agg cp.toArray) (by simp [results,Tryz.results49,asAddr,hld]) rfl ?_;exact ⟨p,cp,V_cp.out,rfl,HM.out,Drew.sets (D0.out.below HB1.out) hbt (by rw [←HX.out];exact Nat.le_refl X) cp⟩
 go_wp2_with fail
 refine (qbA bt 30000 w1 D0.out.1 (by omega) (by omega)).mono ?_;rintro e w2 ⟨x,rfl,hx0,hx1,hd⟩;replace A0:=hid (A0.out.drw hd (by omega));replace D0:=hid (D0.out.trans hd);clear hd;have wx:IntKind.i64.wrap (1+x)=1+x:=IntWalk.i64_in _ (by omega);obtain ⟨p,hp,hm⟩:=qrQ (n:=1+x) (d:=(100:Int).toNat) (by omega) (by omega) (by omega) (by omega);obtain ⟨cp,V_cp⟩:=nvx (rat (decide (p.1<0)) p.1.natAbs false p.2);have HR:=hid (qrF (cR:=cp) (x:=1+x) (y:=100) (d:=(100:Int).toNat) (by omega) (by omega) (by rw [hp,V_cp.out];rfl) (by omega) (by omega) (by omega));have HM:=hid hm;have HTH:=hid (fun W (hb:Below w2.heap.size w2 W)=>(show W.there X 0 cp.toArray.size by have:=(A0.out.below hb).there;rw [V_cz.out,qbE] at this;rw [List.size_toArray,V_cp.out,qbE];exact this));have HSA:=hid (show (Tryz.prog.info? 27).map (·.size)=some cp.toArray.size by rw [List.size_toArray];exact qR V_cp.out);have HONE:=hid (quG V_cp.out);clear hp hm;go_wp2_with (first|(go_at_call 24;refine (HR.out _).mono ?_;rintro e w7 ⟨rfl,hb1⟩;have HB1:=hid hb1;clear hb1)|(refine wpList_store_mid rfl _ _ _ rfl X 0 _ rfl rfl (HTH.out _ HB1.out) HSA.out HONE.out ?_))
 try simp only [zq]
 try simp only [List.toList_toArray]
 have AF:=hid ((A0.out.below HB1.out).stored (ds:=cp) (by rw [V_cp.out,V_cz.out,qbE,qbE]));have hld:=rdR AF V_cp;refine bodyPost_ret (v:=.agg cp.toArray) (by simp [results,Tryz.results49,asAddr,hld]) rfl ?_;exact ⟨p,cp,V_cp.out,rfl,HM.out,Drew.sets (D0.out.below HB1.out) hbt (by rw [←HX.out];exact Nat.le_refl X) cp⟩
theorem qtH (bt:Nat) (w:World) (ht:IsTp w bt) :
  Calls Tryz.prog 15 #[.pointer (some ⟨bt,0,none⟩)] w fun e w'=>∃ (p q:Qn) (c d:List Value),c=ratZ p.1 p.2∧d=ratZ q.1 q.2∧e=.returned (.tuple #[.agg c.toArray,.agg d.toArray])∧Fw p∧Fw q∧Drew w bt w':=by
 have hbt:=ht.lt;obtain ⟨X0,hX0⟩:=nqx (w.heap.size);obtain ⟨X1,hX1⟩:=nqx (w.heap.size+1);obtain ⟨cz,V_cz⟩:=nvx (rat false 0 false 0);obtain ⟨w0,hw0⟩:∃ w0,w0=(w.alloc (.cells Tryz.zeroCells27 27)).alloc (.cells Tryz.zeroCells27 27):=⟨_,rfl⟩;have AX0:=hid (show At w0 X0 0 cz by rw [hw0];exact (show At (w.alloc (.cells Tryz.zeroCells27 27)) X0 0 cz from (by rw [Tryz.zeroR,V_cz.out];exact At.fresh _ (rat false 0 false 0) _ (by simp [hX0]))).alloc _);have AX1:=hid (show At w0 X1 0 cz by rw [hw0];exact (show At ((w.alloc (.cells Tryz.zeroCells27 27)).alloc (.cells Tryz.zeroCells27 27)) X1 0 cz from (by rw [Tryz.zeroR,V_cz.out];exact At.fresh _ (rat false 0 false 0) _ (by simp [hX1]))));have D0:=hid (show Drew w bt w0 by rw [hw0];exact ((Drew.refl ht).alloc _).alloc _);have hbX:bt<X0:=by omega
 have hX01:X0<X1:=by omega
 have hZX0:X0≤X0:=Nat.le_refl _;have HX:=hid hX0;go_enter Tryz.func15,Tryz.ntmps15
 go_upto_region 1 with fail
 rw [←hw0,←hX1,←hX0];clear hw0 hX0 hX1;go_upto_region 2 with (first|(go_at_call 49;refine (qsW bt _ D0.out.1).mono ?_;rintro e w1 ⟨p,cp,hcp,rfl,hm,hd⟩;have V_cp:=hid (show cp=rat (decide (p.1<0)) p.1.natAbs false p.2 from hcp);have HM:=hid hm;have HD1:=hid hd;clear hcp hm hd)|(refine qeJ rfl rfl rfl rfl (Tryz.alR (qR V_cp.out)) rfl rfl (qR V_cp.out) (quG V_cp.out) ?_;intro w2 hb2 hA2 hs2))
 try simp only [zq]
 replace AX0:=hid (AX0.out.drw HD1.out (by omega));replace AX1:=hid (AX1.out.drw HD1.out (by omega));have lX1:=AX1.out.lt;obtain ⟨b4,hb4⟩:=nqx (w1.heap.size);rw [←hb4] at hA2 lX1 ⊢;replace AX0:=hid (AX0.out.below hb2);replace AX1:=hid (AX1.out.below hb2);have Ab4:=hid hA2;replace D0:=hid ((D0.out.trans HD1.out).below hb2);clear hb2 hA2 hs2 hb4 HD1;go_wp2_with fail
 refine (qsM bt 3 w2 D0.out.1 (by omega) (by omega)).mono ?_;rintro e w3 ⟨t,rfl,hd⟩;replace AX0:=hid (AX0.out.drw hd (by omega));replace AX1:=hid (AX1.out.drw hd (by omega));replace Ab4:=hid (Ab4.out.drw hd (by omega));replace D0:=hid (D0.out.trans hd);clear hd
 cases t with
 | true =>
  have FR:=hid (show Fr X0 w3 w3 from ⟨Below.refl _ _,Nat.le_of_lt AX0.out.lt⟩);go_upto_region 3 with fail
  refine wF [⟨false,0,2,2,X0,0,27,11,cp,0,cp,[]⟩,⟨false,0,3,3,X1,0,27,12,cp,0,cp,[]⟩] [(11,aT cp),(12,aT cp)] (by simp only [zu];rfl) (by kernel_rfl) ?_ ?_ (oP _ _ bnC (fP1 bnC)) ?_ ?_ ?_ ?_
  ·intro W' hW';have rd0:=Ab4.out.below hW';exact ldR rd0 V_cp rfl<|ldR rd0 V_cp rfl<|fxs rfl<|fxs rfl<|fxn
  ·intro W' hK';have rd0:=At.keep hK' Ab4.out (oP _ _ (fun _=>(by show X0≠b4;omega)) (oP _ _ (fun _=>(by show X1≠b4;omega)) (oN)));exact ldR rd0 V_cp rfl<|ldR rd0 V_cp rfl<|fxs (by kernel_rfl)<|fxs (by kernel_rfl)<|fxn
  ·exact oP _ _ (fun _=>rmh AX0 (qR V_cz.out) (qR V_cp.out) rfl) (oP _ _ (fun _=>rmh AX1 (qR V_cz.out) (qR V_cp.out) rfl) (oN))
  ·intro q hq r hr hqn hrn e;simp only [List.mem_cons,List.not_mem_nil,or_false] at hq hr;rcases hq with rfl|rfl<;>rcases hr with rfl|rfl<;>first|rfl|(exact Bool.noConfusion hqn)|(exact Bool.noConfusion hrn)|(exfalso;simp only at e;omega)
  ·exact oP _ _ (stw rfl (qR V_cp.out) (quG V_cp.out) (fun _=>rfl)) (oP _ _ (stw rfl (qR V_cp.out) (quG V_cp.out) (fun _=>rfl)) (oN))
  intro β wx1 E;replace FR:=hid (FR.out.flow E (oP _ _ (fun _=>(by show X0≤X0;omega)) (oP _ _ (fun _=>(by show X0≤X1;omega)) (oN))));replace AX0:=aoh E AX0 mms;replace AX1:=aoh E AX1 (List.mem_cons_of_mem _ mms);simp only [nP,zu];go_wp2_with fail
  have hld0:=rdR AX0 V_cp;have hld1:=rdR AX1 V_cp;refine bodyPost_ret (v:=.tuple #[.agg cp.toArray,.agg cp.toArray]) (by simp [results,Tryz.results15,asAddr,hld0,hld1]) rfl ?_;exact ⟨p,p,cp,cp,V_cp.out,V_cp.out,rfl,qxA HM.out,qxA HM.out,D0.out.fr hbX (by rw [HX.out];exact Nat.le_refl _) FR.out.below⟩
 | false =>
  obtain ⟨co,V_co⟩:=nvx (nm (decide (p.1<0)) p.1.natAbs false p.2 0);have HOF:=hid (eOf V_cp.out V_co.out);go_upto_region 5 with (first|(refine wpList_load_mid rfl _ _ rfl b4 0 rfl cp _ Ab4.out.range Tryz.underlying27 rfl (qR V_cp.out) ?_)|(go_at_call 32;refine (HOF.out _).mono ?_;rintro e w4 ⟨rfl,hb⟩;have HB4:=hid hb;clear hb)|(go_at_call 23;refine (qbA bt 30 w4 (D0.out.1.below HB4.out) (by omega) (by omega)).mono ?_;rintro e w5 ⟨k,rfl,hk0,hk1,hd⟩;have HD5:=hid hd;clear hd;have wk:IntKind.i64.wrap (1000+k)=1000+k:=IntWalk.i64_in _ (by omega);obtain ⟨r,qu,hr,hvr,hq,hfwu⟩:=qrR HM.out (k:=1000+k) (by omega) (by omega);obtain ⟨ck,V_ck⟩:=nvx (nm (decide (r.1<0)) r.1.natAbs false r.2 0);obtain ⟨cu,V_cu⟩:=nvx (nm (decide (qu.1<0)) qu.1.natAbs false qu.2 0);have HOV:=hid (jfT (cN:=ck) (x:=1000+k) (y:=1000) (d:=1000) rfl (by omega) (by rw [hr,V_ck.out];rfl) (by omega) (by omega) (by omega));have HMU:=hid (eMul (ca:=co) (cb:=ck) (cN:=cu) (a:=some p) (b:=some r) V_co.out V_ck.out (fun x e=>by injection e with e;subst e;exact HM.out.1.vq) (fun x e=>by injection e with e;subst e;exact hvr) (by show _=resN (mulQ p r);rw [hq,V_cu.out];rfl));clear hr hvr hq)|(go_at_call 39;refine (HOV.out _).mono ?_;rintro e w6 ⟨rfl,hb⟩;have HB6:=hid hb;clear hb)|(go_at_call 29;refine (HMU.out _).mono ?_;rintro e w7 ⟨rfl,hb⟩;have HB7:=hid hb;clear hb)|(refine qeJ rfl rfl rfl rfl (Tryz.alN (qdG V_cu.out)) rfl rfl (qdG V_cu.out) (jgF V_cu.out) ?_;intro w8 hb8 hA8 hs8))
  try simp only [zq]
  replace AX0:=hid ((((AX0.out.below HB4.out).drw HD5.out (by omega)).below HB6.out).below HB7.out);replace AX1:=hid ((((AX1.out.below HB4.out).drw HD5.out (by omega)).below HB6.out).below HB7.out);replace Ab4:=hid ((((Ab4.out.below HB4.out).drw HD5.out (by omega)).below HB6.out).below HB7.out);have lXu:=Ab4.out.lt;obtain ⟨b5,hb5⟩:=nqx (w7.heap.size);rw [←hb5] at hA8 lXu ⊢;replace AX0:=hid (AX0.out.below hb8);replace AX1:=hid (AX1.out.below hb8);replace Ab4:=hid (Ab4.out.below hb8);have Ab5:=hid hA8;replace D0:=hid ((((((D0.out.below HB4.out).trans HD5.out).below HB6.out).below HB7.out).below hb8));have HFu:=hid hfwu;clear hb8 hA8 hs8 hb5 HB4 HD5 HB6 HB7 HOV HMU hfwu wk hk0 hk1 V_ck;go_upto_region 6 with (first|(refine wpList_load_mid rfl _ _ rfl b4 0 rfl cp _ Ab4.out.range Tryz.underlying27 rfl (qR V_cp.out) ?_)|(go_at_call 32;refine (HOF.out _).mono ?_;rintro e w9 ⟨rfl,hb⟩;have HB4:=hid hb;clear hb)|(go_at_call 23;refine (qbA bt 30 w9 (D0.out.1.below HB4.out) (by omega) (by omega)).mono ?_;rintro e w10 ⟨k,rfl,hk0,hk1,hd⟩;have HD5:=hid hd;clear hd;have wk:IntKind.i64.wrap (1000 - k)=1000 - k:=IntWalk.i64_in _ (by omega);obtain ⟨r,qd,hr,hvr,hq,hfwd⟩:=qrR HM.out (k:=1000 - k) (by omega) (by omega);obtain ⟨ck,V_ck⟩:=nvx (nm (decide (r.1<0)) r.1.natAbs false r.2 0);obtain ⟨cd,V_cd⟩:=nvx (nm (decide (qd.1<0)) qd.1.natAbs false qd.2 0);have HOV:=hid (jfT (cN:=ck) (x:=1000 - k) (y:=1000) (d:=1000) rfl (by omega) (by rw [hr,V_ck.out];rfl) (by omega) (by omega) (by omega));have HMU:=hid (eMul (ca:=co) (cb:=ck) (cN:=cd) (a:=some p) (b:=some r) V_co.out V_ck.out (fun x e=>by injection e with e;subst e;exact HM.out.1.vq) (fun x e=>by injection e with e;subst e;exact hvr) (by show _=resN (mulQ p r);rw [hq,V_cd.out];rfl));clear hr hvr hq)|(go_at_call 39;refine (HOV.out _).mono ?_;rintro e w11 ⟨rfl,hb⟩;have HB6:=hid hb;clear hb)|(go_at_call 29;refine (HMU.out _).mono ?_;rintro e w12 ⟨rfl,hb⟩;have HB7:=hid hb;clear hb)|(refine qeJ rfl rfl rfl rfl (Tryz.alN (qdG V_cd.out)) rfl rfl (qdG V_cd.out) (jgF V_cd.out) ?_;intro w13 hb8 hA8 hs8))
  try simp only [zq]
  replace AX0:=hid ((((AX0.out.below HB4.out).drw HD5.out (by omega)).below HB6.out).below HB7.out);replace AX1:=hid ((((AX1.out.below HB4.out).drw HD5.out (by omega)).below HB6.out).below HB7.out);replace Ab5:=hid ((((Ab5.out.below HB4.out).drw HD5.out (by omega)).below HB6.out).below HB7.out);have lXd:=Ab5.out.lt;obtain ⟨b6,hb6⟩:=nqx (w12.heap.size);rw [←hb6] at hA8 lXd ⊢;replace AX0:=hid (AX0.out.below hb8);replace AX1:=hid (AX1.out.below hb8);replace Ab5:=hid (Ab5.out.below hb8);have Ab6:=hid hA8;replace D0:=hid ((((((D0.out.below HB4.out).trans HD5.out).below HB6.out).below HB7.out).below hb8));have HFd:=hid hfwd;clear hb8 hA8 hs8 hb6 HB4 HD5 HB6 HB7 HOV HMU hfwd wk hk0 hk1 V_ck;obtain ⟨cur,V_cur⟩:=nvx (rat (decide (qu.1<0)) qu.1.natAbs false qu.2);obtain ⟨cdr,V_cdr⟩:=nvx (rat (decide (qd.1<0)) qd.1.natAbs false qd.2);have Ab5_v:=hid (Ab5.out.val V_cu.out V_cur.out);have Ab6_v:=hid (Ab6.out.val V_cd.out V_cdr.out);have FR:=hid (show Fr X0 w13 w13 from ⟨Below.refl _ _,Nat.le_of_lt AX0.out.lt⟩);refine wF [⟨false,0,2,4,X0,0,27,28,cur,0,cur,[]⟩,⟨false,0,3,5,X1,0,27,30,cdr,0,cdr,[]⟩] [(27,pT b5 0),(28,aT cur),(29,pT b6 0),(30,aT cdr)] (by simp only [zu];rfl) (by kernel_rfl) ?_ ?_ (oP _ _ bnC (fP1 bnC)) ?_ ?_ ?_ ?_
  ·intro W' hW';refine fxo ?_<|lhR Ab5_v hW' V_cur rfl<|fxo ?_<|lhR Ab6_v hW' V_cdr rfl<|fxs rfl<|fxs rfl<|fxn;all_goals (go_big_quiet_step (fail);exact wqn rfl)
  ·intro W' hK';have rd0:=At.keep hK' Ab5_v.out (oP _ _ (fun _=>(by show X0≠b5;omega)) (oP _ _ (fun _=>(by show X1≠b5;omega)) (oN)));have rd1:=At.keep hK' Ab6_v.out (oP _ _ (fun _=>(by show X0≠b6;omega)) (oP _ _ (fun _=>(by show X1≠b6;omega)) (oN)));refine fxi ?_<|ldR rd0 V_cur rfl<|fxi ?_<|ldR rd1 V_cdr rfl<|fxs (by kernel_rfl)<|fxs (by kernel_rfl)<|fxn;all_goals (first|(refine .inr ?_;go_big_quiet_step (fail);exact wqn rfl)|exact .inl (by kernel_rfl))
  ·exact oP _ _ (fun _=>rmh AX0 (qR V_cz.out) (qR V_cur.out) rfl) (oP _ _ (fun _=>rmh AX1 (qR V_cz.out) (qR V_cdr.out) rfl) (oN))
  ·intro q hq r hr hqn hrn e;simp only [List.mem_cons,List.not_mem_nil,or_false] at hq hr;rcases hq with rfl|rfl<;>rcases hr with rfl|rfl<;>first|rfl|(exact Bool.noConfusion hqn)|(exact Bool.noConfusion hrn)|(exfalso;simp only at e;omega)
  ·exact oP _ _ (stw rfl (qR V_cur.out) (quG V_cur.out) (fun _=>rfl)) (oP _ _ (stw rfl (qR V_cdr.out) (quG V_cdr.out) (fun _=>rfl)) (oN))
  intro β wx1 E;replace FR:=hid (FR.out.flow E (oP _ _ (fun _=>(by show X0≤X0;omega)) (oP _ _ (fun _=>(by show X0≤X1;omega)) (oN))));replace AX0:=aoh E AX0 mms;replace AX1:=aoh E AX1 (List.mem_cons_of_mem _ mms);simp only [nP,zu];go_wp2_with fail
  have hld0:=rdR AX0 V_cur;have hld1:=rdR AX1 V_cdr;refine bodyPost_ret (v:=.tuple #[.agg cur.toArray,.agg cdr.toArray]) (by simp [results,Tryz.results15,asAddr,hld0,hld1]) rfl ?_;exact ⟨qu,qd,cur,cdr,V_cur.out,V_cdr.out,rfl,HFu.out,HFd.out,D0.out.fr hbX (by rw [HX.out];exact Nat.le_refl _) FR.out.below⟩
end Go.Proofs.YtemoddmadfoaiaaGreat
set_option maxHeartbeats 8000000
namespace Go.Proofs.YtemoddmadfoaiaaGreat
open Go.RowKit Big
open Lib (hid)
theorem jeF {ca cb cN cD:List Value} {na n:Bool} {pa qa pb qb v d:Nat} (h1:ca=rat na pa false qa) (h2:cb=rat false pb false qb) (hN:cN=.bool n::lv 32 v) (hD:cD=.bool false::lv 32 d)
  (hv:v=pa*qb) (hd:d=qa*pb) (hn:n=cs1 (na != false) v) (b1:pa<B480) (b2:qa<B480) (b3:pb<B480) (b4:qb<B480) (w:World) :
  CB 153 #[.agg ca.toArray,.agg cb.toArray] (.tuple #[.agg cN.toArray,.agg cD.toArray]) w:=by
 have V_ca:=hid h1;have V_cb:=hid h2;have V_cN:=hid hN;have V_cD:=hid hD;have u30:BB^30≤BB^32:=Nat.pow_le_pow_right qbH (by omega);have hvB:v<BB^30:=by rw [hv];exact qeS b1 b4
 have hdB:d<BB^30:=by rw [hd];exact qeS b2 b3
 obtain ⟨cna,V_cna⟩:=nvx (.bool na::lv 32 pa);obtain ⟨cda,V_cda⟩:=nvx (.bool false::lv 32 qa);obtain ⟨cnb,V_cnb⟩:=nvx (.bool false::lv 32 pb);obtain ⟨cdb,V_cdb⟩:=nvx (.bool false::lv 32 qb);obtain ⟨cz,V_cz⟩:=nvx (.bool false::lv 32 0);have HPN:=hid (qhJ V_cna.out V_cdb.out V_cN.out hv hn (qaT b1) (qaT b4) (by omega));have HPD:=hid (qhJ V_cda.out V_cnb.out V_cD.out hd rfl (qaT b2) (qaT b3) (by omega));clear h1 h2 hN hD hv hd hn b1 b2 b3 b4 u30 hvB hdB;obtain ⟨B0,B1,B2,B3,w0,hw0,hB0,hB1,hB2,hB3,AB0,AB1,AB2,AB3,FR,FR0,HB0,hZB0,l01,hZB1,l12,hZB2,l23,hZB3⟩:=en4 w 27 27 25 25 (bxq ca) (bxq cb) (zQI V_cz) (zQI V_cz);unfold zero33 at hw0;go_enter Tryz.func153,Tryz.ntmps153
 go_upto_region 1 with fail
 rw [←hw0,←hB3,←hB2,←hB1,←hB0];clear hw0 hB0 hB1 hB2 hB3;have AB0_n:=hid (AB0.out.num V_ca.out V_cna.out);have AB0_d:=hid (AB0.out.den V_ca.out V_cda.out);have AB1_n:=hid (AB1.out.num V_cb.out V_cnb.out);have AB1_d:=hid (AB1.out.den V_cb.out V_cdb.out);refine wF [⟨false,0,4,10,B2,0,25,10,cN,0,cN,[]⟩,⟨false,0,5,11,B3,0,25,15,cD,0,cD,[]⟩] [(6,pT B0 0),(7,aT cna),(8,pT B1 33),(9,aT cdb),(10,aT cN),(11,pT B0 33),(12,aT cda),(13,pT B1 0),(14,aT cnb),(15,aT cD)] (by simp only [zu];rfl) (by kernel_rfl) ?_ ?_ (oP _ _ bnC (fP1 bnC)) ?_ ?_ ?_ ?_
 ·intro W' hW';refine fxo ?_<|lhI AB0_n hW' V_cna rfl<|fxo ?_<|lhI AB1_d hW' V_cdb rfl<|fo2 ?_ ?_<|lhI AB0_d hW' V_cda rfl<|fxo ?_<|lhI AB1_n hW' V_cnb rfl<|fxo (by go_big_quiet_step (exact qaA (HPD.out _));exact wqn rfl)<|fxs rfl<|fxs rfl<|fxn;all_goals (go_big_quiet_step (exact qaA (HPN.out _));exact wqn rfl)
 ·intro W' hK';have rd0:=At.keep hK' AB0_n.out (oP _ _ (fun _=>(by show B2≠B0;omega)) (oP _ _ (fun _=>(by show B3≠B0;omega)) (oN)));have rd1:=At.keep hK' AB1_d.out (oP _ _ (fun _=>(by show B2≠B1;omega)) (oP _ _ (fun _=>(by show B3≠B1;omega)) (oN)));have rd2:=At.keep hK' AB0_d.out (oP _ _ (fun _=>(by show B2≠B0;omega)) (oP _ _ (fun _=>(by show B3≠B0;omega)) (oN)));have rd3:=At.keep hK' AB1_n.out (oP _ _ (fun _=>(by show B2≠B1;omega)) (oP _ _ (fun _=>(by show B3≠B1;omega)) (oN)));refine fxi ?_<|ldI rd0 V_cna rfl<|fxi ?_<|ldI rd1 V_cdb rfl<|fxs (by kernel_rfl)<|fxi ?_<|ldI rd2 V_cda rfl<|fxi ?_<|ldI rd3 V_cnb rfl<|fxs (by kernel_rfl)<|fxs (by kernel_rfl)<|fxs (by kernel_rfl)<|fxn;all_goals (first|(refine .inr ?_;go_big_quiet_step (fail);exact wqn rfl)|exact .inl (by kernel_rfl))
 ·exact oP _ _ (fun _=>rmh AB2 (qI V_cz.out) (qI V_cN.out) rfl) (oP _ _ (fun _=>rmh AB3 (qI V_cz.out) (qI V_cD.out) rfl) (oN))
 ·intro q hq r hr hqn hrn e;simp only [List.mem_cons,List.not_mem_nil,or_false] at hq hr;rcases hq with rfl|rfl<;>rcases hr with rfl|rfl<;>first|rfl|(exact Bool.noConfusion hqn)|(exact Bool.noConfusion hrn)|(exfalso;simp only at e;omega)
 ·exact oP _ _ (stw rfl (qI V_cN.out) (qgF V_cN.out) (fun _=>rfl)) (oP _ _ (stw rfl (qI V_cD.out) (qgF V_cD.out) (fun _=>rfl)) (oN))
 intro β wx1 E;replace FR:=hid (FR.out.flow E (oP _ _ (fun _=>(by show B0≤B2;omega)) (oP _ _ (fun _=>(by show B0≤B3;omega)) (oN))));replace AB2:=aoh E AB2 mms;replace AB3:=aoh E AB3 (List.mem_cons_of_mem _ mms);simp only [nP,zu];go_wp2_with fail
 have hld0:=rdI AB2 V_cN;have hld1:=rdI AB3 V_cD;refine bodyPost_ret (v:=.tuple #[.agg cN.toArray,.agg cD.toArray]) (by simp [results,Tryz.results153,asAddr,hld0,hld1]) rfl ?_;exact ⟨rfl,qbL HB0 FR⟩
theorem jcM {ca cb cN cD cR:List Value} {na nb:Bool} {pa qa pb qb:Nat} {code:Int} (w:World) (h1:ca=rat na pa false qa) (h2:cb=rat nb pb false qb)
  (ha:∀ W,CB 106 #[.agg ca.toArray] (.bool true) W) (hb:∀ W,CB 106 #[.agg cb.toArray] (.bool true) W)
  (hC:∀ W,CB 153 #[.agg ca.toArray,.agg cb.toArray] (.tuple #[.agg cN.toArray,.agg cD.toArray]) W)
  (hMk:∀ W,CB 75 #[.agg cN.toArray,.agg cD.toArray] (.tuple #[.agg cR.toArray,.int .i64 code]) W) {rn:Bool} {rp rq:Nat} {rm:Bool} (hcR:cR=rat rn rp rm rq) :
  CB 77 #[.agg ca.toArray,.agg cb.toArray,.func (.func 153) #[] #[]] (.tuple #[.agg cR.toArray,.int .i64 code]) w:=by
 have V_ca:=hid h1;have V_cb:=hid h2;have V_cR:=hid hcR;obtain ⟨cz,V_cz⟩:=nvx (rat false 0 false 0);have HA:=hid ha;have HB:=hid hb;have HC:=hid hC;have HK:=hid hMk;clear h1 h2 ha hb hC hMk hcR;obtain ⟨B0,B1,B2,w0,hw0,hB0,hB1,hB2,AB0,AB1,AB2,FR,FR0,HB0,hZB0,l01,hZB1,l12,hZB2⟩:=en3 w 27 27 27 (bxq ca) (bxq cb) (zQR V_cz);go_enter Tryz.func77,Tryz.ntmps77
 go_upto_region 1 with fail
 rw [←hw0,←hB2,←hB1,←hB0];clear hw0 hB0 hB1 hB2;refine wE [(8,aT ca),(9,bT),(10,bF),(11,bF),(12,aT cb),(13,bT),(14,bF),(15,bF)] (by simp only [zu];rfl) (by kernel_rfl) ?_ ?_
 ·intro W' hW';refine lhR AB0 hW' V_ca rfl<|fo3 ?_ ?_ ?_<|lhR AB1 hW' V_cb rfl<|fxo (by go_big_quiet_step (exact qaA (HB.out _));exact wqn rfl)<|fo2 ?_ ?_<|fxn;all_goals (go_big_quiet_step (exact qaA (HA.out _));exact wqn rfl)
 intro β wx1 E;replace FR:=fnf FR E rfl;replace AB0:=fnh AB0 E rfl;replace AB1:=fnh AB1 E rfl;replace AB2:=fnh AB2 E rfl;simp only [nP,zu];go_upto_region 3 with fail
 refine wF [⟨false,0,6,9,B2,0,27,24,cR,0,cR,[]⟩] [(17,.func (.func 153) #[] #[]),(18,aT ca),(19,aT cb),(20,.tuple #[aT cN,aT cD]),(21,aT cN),(22,aT cD),(23,.tuple #[aT cR,iT code]),(24,aT cR),(25,iT code),(7,iT code)] (by simp only [zu];rfl) (by kernel_rfl) ?_ ?_ (fP1 bnC) ?_ uno ?_ ?_
 ·intro W' hW';refine fxo ?_<|lhR AB0 hW' V_ca rfl<|lhR AB1 hW' V_cb rfl<|fo3 ?_ ?_ ?_<|fxo (by go_big_quiet_step (exact qaA (HK.out _));exact wqn rfl)<|fo2 ?_ ?_<|fxs rfl<|fxo ?_<|fxn;all_goals (go_big_quiet_step (exact qaA (HC.out _));exact wqn rfl)
 ·intro W' hK';have rd0:=akh AB0 hK' (by omega);have rd1:=akh AB1 hK' (by omega);refine fxi ?_<|ldR rd0 V_ca rfl<|ldR rd1 V_cb rfl<|fxs (by kernel_rfl)<|fxi ?_<|fxi ?_<|fxs (by kernel_rfl)<|fxi ?_<|fxi ?_<|fxs (by kernel_rfl)<|fxi ?_<|fxn;all_goals (first|(refine .inr ?_;go_big_quiet_step (fail);exact wqn rfl)|exact .inl (by kernel_rfl))
 ·exact fP1 (fun _=>rmh AB2 (qR V_cz.out) (qR V_cR.out) rfl)
 ·exact fP1 (sR V_cR (fun _=>rfl) rfl)
 intro β wx2 E;replace FR:=ffh FR E (by omega);replace AB2:=aoh E AB2 mms;simp only [nP,zu];go_wp2_with fail
 have hld:=rdR AB2 V_cR;refine bodyPost_ret (v:=.tuple #[.agg cR.toArray,.int .i64 code]) (by simp [results,Tryz.results77,asAddr,hld]) rfl ?_;exact ⟨rfl,qbL HB0 FR⟩
theorem jeE {ca cb cR:List Value} {na nb:Bool} {pa qa pb qb:Nat} {code:Int} (w:World) (h1:ca=rat na pa false qa) (h2:cb=rat nb pb false qb) {rn:Bool} {rp rq:Nat} {rm:Bool} (hcR:cR=rat rn rp rm rq)
  (hC:∀ W,CB 77 #[.agg ca.toArray,.agg cb.toArray,.func (.func 153) #[] #[]] (.tuple #[.agg cR.toArray,.int .i64 code]) W) :
  CB 122 #[.agg ca.toArray,.agg cb.toArray] (.tuple #[.agg cR.toArray,.int .i64 code]) w:=by
 have V_ca:=hid h1;have V_cb:=hid h2;have V_cR:=hid hcR;obtain ⟨cz,V_cz⟩:=nvx (rat false 0 false 0);have HC:=hid hC;clear h1 h2 hC hcR;obtain ⟨B0,B1,B2,w0,hw0,hB0,hB1,hB2,AB0,AB1,AB2,FR,FR0,HB0,hZB0,l01,hZB1,l12,hZB2⟩:=en3 w 27 27 27 (bxq ca) (bxq cb) (zQR V_cz);go_enter Tryz.func122,Tryz.ntmps122
 go_upto_region 1 with fail
 rw [←hw0,←hB2,←hB1,←hB0];clear hw0 hB0 hB1 hB2;refine wF [⟨false,0,4,5,B2,0,27,9,cR,0,cR,[]⟩] [(6,aT ca),(7,aT cb),(8,.tuple #[aT cR,iT code]),(9,aT cR),(10,iT code),(5,iT code)] (by simp only [zu];rfl) (by kernel_rfl) ?_ ?_ (fP1 bnC) ?_ uno ?_ ?_
 ·intro W' hW';refine lhR AB0 hW' V_ca rfl<|lhR AB1 hW' V_cb rfl<|fo3 ?_ ?_ ?_<|fxs rfl<|fxo ?_<|fxn;all_goals (go_big_quiet_step (exact qaA (HC.out _));exact wqn rfl)
 ·intro W' hK';have rd0:=akh AB0 hK' (by omega);have rd1:=akh AB1 hK' (by omega);refine ldR rd0 V_ca rfl<|ldR rd1 V_cb rfl<|fxs (by kernel_rfl)<|fxi ?_<|fxi ?_<|fxs (by kernel_rfl)<|fxi ?_<|fxn;all_goals (first|(refine .inr ?_;go_big_quiet_step (fail);exact wqn rfl)|exact .inl (by kernel_rfl))
 ·exact fP1 (fun _=>rmh AB2 (qR V_cz.out) (qR V_cR.out) rfl)
 ·exact fP1 (sR V_cR (fun _=>rfl) rfl)
 intro β wx1 E;replace FR:=ffh FR E (by omega);replace AB2:=aoh E AB2 mms;simp only [nP,zu];go_wp2_with fail
 have hld:=rdR AB2 V_cR;refine bodyPost_ret (v:=.tuple #[.agg cR.toArray,.int .i64 code]) (by simp [results,Tryz.results122,asAddr,hld]) rfl ?_;exact ⟨rfl,qbL HB0 FR⟩
theorem pquoQ {ca cb cR:List Value} {a b:Qn} {code:Int} (h1:ca=ratZ a.1 a.2) (h2:cb=ratZ b.1 b.2) (ha:VQ a) (hb:VQ b) (hp:0<b.1) (hR:cR=resR (Dl.quo2 a b)) (hc:code=resE (Dl.quo2 a b)) (w:World) :
  CB 122 #[.agg ca.toArray,.agg cb.toArray] (.tuple #[.agg cR.toArray,.int .i64 code]) w:=by
 have e1:=qwT ha.num hb.den;have e2:=qwT ha.den hb.num;have B1:(a.1*(b.2:Int)).natAbs<BB^32:=by rw [Int.natAbs_mul,Int.natAbs_natCast];exact b30 e1
 have B2:a.2*b.1.natAbs<BB^32:=b30 e2;have B3:a.2*b.1.natAbs≠0:=Nat.mul_ne_zero ha.pos (by omega);have h2':cb=rat false b.1.natAbs false b.2:=by rw [h2];unfold ratZ;rw [decide_eq_false (by omega)]
 obtain ⟨cN,hN⟩:=nqx (iZ (a.1*(b.2:Int)));obtain ⟨cD,hD⟩:=nqx (iZ ((a.2*b.1.natAbs:Nat):Int))
 obtain ⟨rn,rp,rm,rq,hcr⟩:∃ rn rp rm rq,cR=rat rn rp rm rq:=by
  rw [hR];cases Dl.quo2 a b with
  | none=>exact ⟨_,_,_,_,rfl⟩
  | some r=>exact ⟨_,_,_,_,rfl⟩
 exact jeE w h1 h2' hcr fun W=>jcM W h1 h2' (qgE h1 ha) (qgE h2 hb)
  (fun W=>jeF h1 h2' hN (by rw [hD];unfold iZ;rw [Int.natAbs_natCast,decide_eq_false (Int.not_lt.2 (Int.natCast_nonneg _))]) (by rw [Int.natAbs_mul,Int.natAbs_natCast]) rfl (by rw [qiI,Int.natAbs_mul,Int.natAbs_natCast,decide_eq_false (Int.not_lt.2 (Int.natCast_nonneg b.2))]) ha.num ha.den hb.num hb.den W)
  (fun W=>qwF hN hD hR hc B1 B2 B3 W) hcr
end Go.Proofs.YtemoddmadfoaiaaGreat
namespace Go.Proofs.YtemoddmadfoaiaaGreat
open Go.RowKit Big Reg Al Ap Ga
theorem qwO (o:Od) (c:Int) (hc:c=if okA o=true then 0 else 230) (w:World):CB 86 #[.agg #[.string o.key,.string o.nom,.string o.hol,.string o.fund,.string o.cls,.int .i64 o.kind,.int .i64 o.amount,.int .i64 o.units,.int .i64 o.at_,.int .i64 o.known,.bool o.void]] (.int .i64 c) w:=by
 cases hv:o.void with
 | false=>have:=qtL o c (by rw [hc];unfold okA;rw [hv];rfl) w hv;rwa [hv] at this
 | true=>have:=qpU o c (by rw [hc];unfold okA;rw [hv];rfl) w hv;rwa [hv] at this
end Go.Proofs.YtemoddmadfoaiaaGreat
