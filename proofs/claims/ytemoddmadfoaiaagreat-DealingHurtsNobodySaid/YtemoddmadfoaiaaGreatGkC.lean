import Derived.Test.YtemoddmadfoaiaaGreatGeD
import Derived.Laws.Strings
import Derived.Test.YtemoddmadfoaiaaGreatDaB
import Derived.Test.YtemoddmadfoaiaaGreatGmC
import Derived.Test.YtemoddmadfoaiaaGreatGkB
set_option linter.unusedVariables false
set_option linter.unusedSimpArgs false
set_option maxRecDepth 100000
namespace Go.Proofs.YtemoddmadfoaiaaGreat
open Go.RowKit Big Reg Al Ap Ga
theorem qhB {N:Int} {D:Nat} (h1:N.natAbs<B480) (h2:D<B480):∃ r,mkQ N D=some r:=by
 unfold mkQ;rw [if_pos ⟨Nat.lt_of_le_of_lt (Nat.div_le_self _ _) h1,Nat.lt_of_le_of_lt (Nat.div_le_self _ _) h2⟩];exact ⟨_,rfl⟩
theorem qfW:(1000000000000000000000000000000000:Nat)<B480:=by unfold B480 BB;decide
theorem qvK {z:Int} (h:z.natAbs<1000000000000000000000000000000000):VQ (z,1):=⟨Nat.lt_trans h qfW,Nat.lt_trans (show (1:Nat)<_ by decide) qfW,Nat.one_ne_zero,by show Nat.gcd z.natAbs 1=1;simp⟩
set_option maxRecDepth 1000000 in
theorem Tryz.alN {cs:List Value} (h:(Tryz.prog.info? 70).map (·.size)=some cs.length):∃ z,LaysAs Tryz.prog 70 z∧cs.length≤z.size:=by
 refine ⟨(nm false 0 false 0 0).toArray,?_,by rw [Tryz.infoN] at h;injection h with h;rw [←h,List.size_toArray,qfC];exact Nat.le_refl _⟩;unfold nm rat;rw [qbS];intro o ho b w;unfold execOp;simp only [ho];rfl
def cI (l:List Int):List Value:=l.map (Value.int .i64)
theorem Row.at {w:World} {O:Nat} {l:List Int} (h:Row w O 0 l) (hlt:O<w.heap.size):At w O 0 (cI l):=by
 refine ⟨fun j v hj=>?_,fun j hj=>?_,hlt⟩
 ·unfold cI at hj;rw [List.getElem?_map] at hj
  cases hx:l[j]? with
  | none=>rw [hx] at hj;cases hj
  | some x=>rw [hx] at hj;injection hj with hj;subst hj;exact h.1 j x hx
 ·unfold cI at hj;rw [List.length_map] at hj;rw [h.1 j _ (List.getElem?_eq_getElem hj)];exact ⟨rfl,h.2 _⟩
theorem jiG {N:Int} {D:Nat} (h:D≠0):(N.sign*(N.natAbs / Nat.gcd N.natAbs D:Nat))*(D:Int)=N*(D / Nat.gcd N.natAbs D:Nat)∧Nat.gcd (N.sign*(N.natAbs / Nat.gcd N.natAbs D:Nat)).natAbs (D / Nat.gcd N.natAbs D)=1∧D / Nat.gcd N.natAbs D≠0:=by
 have hg:=qhZ (N:=N) h;have hs:=(qgS N (N.natAbs / Nat.gcd N.natAbs D) (fun h0=>by subst h0;simp)).1;refine ⟨?_,?_,?_⟩
 ·obtain ⟨a,ha⟩:=Nat.gcd_dvd_left N.natAbs D;obtain ⟨d,hd⟩:=Nat.gcd_dvd_right N.natAbs D;generalize Nat.gcd N.natAbs D=g at *
  have e1:N.natAbs / g=a:=by rw [ha,Nat.mul_div_cancel_left _ hg]
  have e2:D / g=d:=by rw [hd,Nat.mul_div_cancel_left _ hg]
  rw [e1,e2];have e3:N=N.sign*((g*a:Nat):Int):=by rw [←ha];exact (Int.sign_mul_natAbs N).symm
  have e4:(D:Int)=(g:Int)*d:=by rw [←Int.natCast_mul,←hd]
  rw [e4]
  conv=>rhs;rw [e3]
  rw [Int.natCast_mul];generalize N.sign=s
  grind
 ·rw [hs,Nat.gcd_div (Nat.gcd_dvd_left _ _) (Nat.gcd_dvd_right _ _),Nat.div_self hg]
 ·have:=Nat.div_pos (Nat.le_of_dvd (by omega) (Nat.gcd_dvd_right N.natAbs D)) hg
  omega
theorem qfD {N:Int} {D:Nat} (h:D≠0) {r:Qn} (hr:mkQ N D=some r):r.1*(D:Int)=N*(r.2:Int)∧r.1.natAbs≤N.natAbs∧r.2≤D:=by
 have hl:=jiG (N:=N) h;have hs:=(qgS N (N.natAbs / Nat.gcd N.natAbs D) (fun h0=>by subst h0;simp)).1;unfold mkQ at hr;split at hr
 ·injection hr with hr
  subst hr;refine ⟨hl.1,?_,Nat.div_le_self _ _⟩;show (N.sign*(N.natAbs / Nat.gcd N.natAbs D:Nat)).natAbs≤_
  rw [hs];exact Nat.div_le_self _ _
 ·cases hr
namespace Ga
end Ga
namespace Dl
def partQ (n:Int) (pl:Nat):Qn:=(mkQ (n*100) (10^pl)).getD (0,1)
def worthQ (p:Qn) (pl:Nat) (n:Int):Option Qn:=mulQ p (partQ n pl)
def quoQ (a:Int) (b:Qn):Option Qn:=mkQ (a*(b.2:Int)) b.1.natAbs
structure Pc (p:Qn):Prop where
 vq:VQ p
 pos:0<p.1
theorem qpG {n:Int} {pl:Nat} (h1:0≤n) (h2:n≤1000000000000000) (h3:pl≤6):mkQ (n*100) (10^pl)=some (partQ n pl):=by
 have h6:10^pl≤10^6:=Nat.pow_le_pow_right (by omega) h3;obtain ⟨r,hr⟩:=qhB (N:=n*100) (D:=10^pl) (by have:=qfW;omega) (by have:=qfW;omega);rw [partQ,hr];rfl
theorem qmB {n:Int} {pl:Nat} (h1:0≤n) (h2:n≤1000000000000000) (h3:pl≤6):VQ (partQ n pl)∧(partQ n pl).1*((10^pl:Nat):Int)=n*100*((partQ n pl).2:Int):=by
 have hp:10^pl≠0:=Nat.ne_of_gt (Nat.pow_pos (by decide));have hr:=qpG h1 h2 h3;exact ⟨qcR hp hr,(qfD hp hr).1⟩
def wA (p:Qn):Int:=100*p.1
def wB (p:Qn) (pl:Nat):Nat:=p.2*10^pl
theorem qkR {p:Qn} (h:Pc p):0<wA p:=by have:=h.pos;unfold wA;omega
theorem qjE {p:Qn} (h:Pc p) (pl:Nat):0<wB p pl:=Nat.mul_pos (Nat.pos_of_ne_zero h.vq.pos) (Nat.pow_pos (by decide))
theorem qeB {p w:Qn} {pl:Nat} {n:Int} (hp:Pc p) (h1:0≤n) (h2:n≤1000000000000000) (h3:pl≤6) (h:worthQ p pl n=some w) :
  VQ w∧w.1*(wB p pl:Int)=n*wA p*(w.2:Int):=by
 obtain ⟨hv,he⟩:=qmB h1 h2 h3;have hD:p.2*(partQ n pl).2≠0:=Nat.mul_ne_zero hp.vq.pos hv.pos;refine ⟨qcR hD h,?_⟩;have hx:=(qfD hD h).1;generalize partQ n pl=pq at *
 obtain ⟨s,t⟩:=pq;obtain ⟨P,Q⟩:=p;obtain ⟨a,b⟩:=w;have ht:t≠0:=hv.pos;simp only [wA,wB] at hx he ⊢;rw [Int.natCast_mul] at hx ⊢;generalize ((10^pl:Nat):Int)=T at *
 have ht':(t:Int)≠0:=by omega
 refine Int.eq_of_mul_eq_mul_left ht' ?_;generalize (t:Int)=t at *
 generalize (Q:Int)=Q at *
 generalize (b:Int)=b at *
 have e1:t*(a*(Q*T))=(a*(Q*t))*T:=by grind
 rw [e1,hx];have e2:P*s*b*T=P*b*(s*T):=by grind
 rw [e2,he];grind
theorem qoJ {p w:Qn} {pl:Nat} {n:Int} (hp:Pc p) (h1:0<n) (h2:n≤1000000000000000) (h3:pl≤6) (h:worthQ p pl n=some w):Pc w:=by
 obtain ⟨hv,he⟩:=qeB hp (by omega) h2 h3 h;refine ⟨hv,?_⟩;have ha:=qkR hp;have hb:=qjE hp pl;have h0:=hv.pos;have hr:0<n*wA p*(w.2:Int):=Int.mul_pos (Int.mul_pos h1 ha) (by omega);rw [←he] at hr;exact Int.pos_of_mul_pos_left hr (by omega)
theorem jfH {a:Int} {one q p:Qn} {pl:Nat} (hp:Pc p) (h3:pl≤6) (ho:worthQ p pl 1=some one) (h:quoQ a one=some q) :
  VQ q∧q.1*wA p=a*(wB p pl:Int)*(q.2:Int):=by
 obtain ⟨hv,he⟩:=qeB hp (by omega) (by omega) h3 ho;have hpo:=qoJ hp (by omega) (by omega) h3 ho;have h1:=hpo.pos;have hD:one.1.natAbs≠0:=by omega
 refine ⟨qcR hD h,?_⟩;have hx:=(qfD hD h).1;obtain ⟨s,t⟩:=one;obtain ⟨c,d⟩:=q;have ht:t≠0:=hv.pos;simp only at hx he h1 ⊢
 rw [show ((s.natAbs:Nat):Int)=s by omega] at hx;have ht':(t:Int)≠0:=by omega
 refine Int.eq_of_mul_eq_mul_left ht' ?_;generalize (t:Int)=t at *
 generalize (wB p pl:Int)=B at *
 generalize wA p=A at *
 generalize (d:Int)=d at *
 have e1:t*(c*A)=c*(1*A*t):=by grind
 rw [e1,←he];have e2:c*(s*B)=c*s*B:=by grind
 rw [e2,hx];grind
theorem qnR {r:Qn} {N B:Int} (hB:0<B) (h0:r.2≠0) (h:r.1*B=N*(r.2:Int)):r.1 / (r.2:Int)=N / B:=by
 have h1:r.1 / (r.2:Int)=(r.1*B) / ((r.2:Int)*B):=(Int.mul_ediv_mul_of_pos_left _ _ hB).symm;rw [h1,h,Int.mul_comm (r.2:Int) B,Int.mul_ediv_mul_of_pos_left _ _ (by omega)]
def upZ (N B:Int):Int:=-(-N / B)
theorem qmS {N B:Int} (hB:0<B):N≤upZ N B*B∧upZ N B*B<N+B:=by
 unfold upZ;have h1:=Int.emod_add_mul_ediv (-N) B;have h2:=Int.emod_nonneg (-N) (by omega:B≠0);have h3:=Int.emod_lt_of_pos (-N) hB;rw [Int.neg_mul,Int.mul_comm];generalize B*(-N / B)=z at *
 omega
theorem qnU {N B:Int} (hB:0<B):N / B*B≤N∧N<N / B*B+B:=by
 have h1:=Int.emod_add_mul_ediv N B;have h2:=Int.emod_nonneg N (by omega:B≠0);have h3:=Int.emod_lt_of_pos N hB;rw [Int.mul_comm];generalize B*(N / B)=z at *
 omega
theorem jeT {N B k:Int} (hB:0<B) (h1:N≤k*B) (h2:k*B<N+B):k=upZ N B:=by
 obtain ⟨g1,g2⟩:=qmS (N:=N) hB;have l1:k*B<(upZ N B+1)*B:=by rw [Int.add_mul];omega
 have l2:upZ N B*B<(k+1)*B:=by rw [Int.add_mul];omega
 have:=Int.lt_of_mul_lt_mul_right l1 (by omega)
 have:=Int.lt_of_mul_lt_mul_right l2 (by omega)
 omega
theorem qzL (r:Qn) (h0:r.2≠0):ceilQ r=upZ r.1 (r.2:Int):=by
 have hq:(0:Int)<(r.2:Int):=by omega
 refine jeT hq ?_ ?_
 ·obtain ⟨g1,g2⟩:=qnU (N:=r.1) hq;have e:=Int.emod_add_mul_ediv r.1 (r.2:Int);rw [Int.mul_comm] at e;unfold ceilQ;split
  ·omega
  ·rw [Int.add_mul];omega
 ·obtain ⟨g1,g2⟩:=qnU (N:=r.1) hq;have e:=Int.emod_add_mul_ediv r.1 (r.2:Int);rw [Int.mul_comm] at e
  have:=Int.emod_nonneg r.1 (by omega:(r.2:Int)≠0)
  unfold ceilQ;split
  ·omega
  ·rw [Int.add_mul];omega
theorem qzM {r:Qn} {N B:Int} (hB:0<B) (h0:r.2≠0) (h:r.1*B=N*(r.2:Int)):ceilQ r=upZ N B:=by
 rw [qzL r h0]
 have:=qnR (r:=(-r.1,r.2)) (N:=-N) hB h0 (by simp only;rw [Int.neg_mul,Int.neg_mul,h])
 unfold upZ;rw [this]
end Dl
namespace Dl
structure Nt where
 key:ByteArray
 nom:ByteArray
 hol:ByteArray
 kind:Int
 units:Int
 money:Int
 lots:List Lot
def zeroN:Nt:=⟨ByteArray.mk #[],ByteArray.mk #[],ByteArray.mk #[],0,0,0,[]⟩
def noteO (o:Od) (n m:Int) (x:List Lot):Nt:=⟨o.key,o.nom,o.hol,o.kind,n,m,x⟩
def mostZ:Int:=1000000000000000
def manyQ (p:Qn) (pl:Nat) (a:Int):Option Qn:=match worthQ p pl 1 with|none=>none|some one=>quoQ a one
def redN (bid:Qn) (pl:Nat) (has:Int) (o:Od):Except Int (Int × Int) :=
 if o.kind=3 then .ok (min has o.units,0)
 else if o.kind=4 then match manyQ bid pl o.amount with
  | none=>.error 10
  | some q=>if ceilQ q≤has then .ok (ceilQ q,o.amount) else .ok (has,0)
 else .ok (has,0)
def moneyZ (w:Option Qn) (f:Qn→Int):Except Int Int:=match w with
 | none=>.error 10
 | some w=>if f w≤mostZ then .ok (f w) else .error 33
def dnQ (q:Qn):Int:=q.1 / (q.2:Int)
def redM (bid:Qn) (pl:Nat) (n m:Int):Except Int Int:=if m=0 then moneyZ (worthQ bid pl n) dnQ else .ok m
def redO (bid:Qn) (pl:Nat) (l:List Lot) (o:Od):Except Int (List Lot × Nt) :=
 match redN bid pl (sumU (ownL o.nom o.hol l)) o with
 | .error e=>.error e
 | .ok (n,m)=>match redM bid pl n m with
  | .error e=>.error e
  | .ok m=>.ok ((takeR o.nom o.hol l n).1,noteO o n m (takeR o.nom o.hol l n).2)
def issO (ser:Int) (l:List Lot) (o:Od) (n m:Int):Except Int (List Lot × Nt) :=
 if mostZ - sumU l<n then .error 253
 else if 256<(putL l ⟨o.nom,o.hol,ser,n⟩).length then .error 254
 else .ok (putL l ⟨o.nom,o.hol,ser,n⟩,noteO o n m [⟨o.nom,o.hol,ser,n⟩])
def subO (offer:Qn) (pl:Nat) (ser:Int) (l:List Lot) (o:Od):Except Int (List Lot × Nt) :=
 if o.kind=1 then match manyQ offer pl o.amount with
  | none=>.error 10
  | some q=>if mostZ<dnQ q then .error 253 else if dnQ q=0 then .ok (l,noteO o 0 0 []) else issO ser l o (dnQ q) o.amount
 else match worthQ offer pl o.units with
  | none=>.error 10
  | some w=>if mostZ - sumU l<o.units then .error 253 else if mostZ<ceilQ w then .error 33 else issO ser l o o.units (ceilQ w)
def subs (o:Od):Bool:=decide (o.kind=1) || decide (o.kind=2)
def passP (sel:Od→Bool) (f:List Lot→Od→Except Int (List Lot × Nt)):List Tk→Nat→List Lot→List Nt→Except Int (List Lot × List Nt)
 | [],_,l,N=>.ok (l,N)
 | t::ts,k,l,N=>if sel t.o=true then match f l t.o with
   | .error e=>.error e
   | .ok (l',x)=>passP sel f ts (k+1) l' (N.set k x)
  else passP sel f ts (k+1) l N
def dealL (l:List Lot) (ts:List Tk) (offer bid:Qn) (pl:Nat) (ser:Int):Except Int (List Lot × List Nt) :=
 match passP (fun o=>!subs o) (redO bid pl) ts 0 l (List.replicate ts.length zeroN) with
 | .error e=>.error e
 | .ok (l',N)=>passP subs (subO offer pl ser) ts 0 l' N
theorem qjR {sel:Od→Bool} {f:List Lot→Od→Except Int (List Lot × Nt)} {I:List Lot→Prop} {Ok:Od→Prop} {G:Od→Nt→Prop}
  (hf:∀ l o l' x,I l→Ok o→sel o=true→f l o=.ok (l',x)→I l'∧G o x) :
  ∀ (ts:List Tk) (k:Nat) (l:List Lot) (N:List Nt) (l':List Lot) (N':List Nt),I l→(∀ t∈ts,Ok t.o)→k+ts.length=N.length→passP sel f ts k l N=.ok (l',N') →
   I l'∧N'.length=N.length∧(∀ i:Nat,i<k→N'[i]?=N[i]?)∧(∀ (j:Nat) (t:Tk),ts[j]?=some t→if sel t.o=true then ∃ x,N'[k+j]?=some x∧G t.o x else N'[k+j]?=N[k+j]?):=by
 intro ts
 induction ts with
 | nil =>
  intro k l N l' N' hI _ hk h;simp only [passP,Except.ok.injEq,Prod.mk.injEq] at h;obtain ⟨rfl,rfl⟩:=h;exact ⟨hI,rfl,fun _ _=>rfl,fun j t ht=>by simp at ht⟩
 | cons t ts ih =>
  intro k l N l' N' hI hO hk h;rw [List.length_cons] at hk;rw [passP] at h;by_cases hs:sel t.o=true
  ·rw [if_pos hs] at h;split at h
   ·cases h
   ·rename_i l1 x hx
    obtain ⟨hI1,hG⟩:=hf _ _ _ _ hI (hO t (by simp)) hs hx;obtain ⟨g1,g2,g3,g4⟩:=ih (k+1) l1 (N.set k x) l' N' hI1 (fun y hy=>hO y (by simp [hy])) (by rw [List.length_set];omega) h;rw [List.length_set] at g2;refine ⟨g1,g2,fun i hi=>?_,fun j y hj=>?_⟩
    ·rw [g3 i (by omega),List.getElem?_set_ne (by omega)]
    ·cases j with
     | zero =>
      simp only [List.getElem?_cons_zero,Option.some.injEq] at hj;subst hj;rw [if_pos hs];refine ⟨x,?_,hG⟩;rw [Nat.add_zero,g3 k (by omega),List.getElem?_set_self (by omega)]
     | succ j =>
      have:=g4 j y (by simpa using hj)
      rw [show k+1+j=k+(j+1) by omega] at this;by_cases hy:sel y.o=true
      ·rw [if_pos hy] at this ⊢;exact this
      ·rw [if_neg hy] at this ⊢;rw [this,List.getElem?_set_ne (by omega)]
  ·rw [if_neg hs] at h;obtain ⟨g1,g2,g3,g4⟩:=ih (k+1) l N l' N' hI (fun y hy=>hO y (by simp [hy])) (by omega) h;refine ⟨g1,g2,fun i hi=>g3 i (by omega),fun j y hj=>?_⟩
   cases j with
   | zero =>
    simp only [List.getElem?_cons_zero,Option.some.injEq] at hj;subst hj;rw [if_neg hs];exact g3 k (by omega)
   | succ j =>
    have:=g4 j y (by simpa using hj)
    rw [show k+1+j=k+(j+1) by omega] at this;exact this
theorem qzA {I:List Lot→Prop} {Ok:Od→Prop} {G:Od→Nt→Prop} {l l':List Lot} {ts:List Tk} {offer bid:Qn} {pl:Nat} {ser:Int} {N:List Nt}
  (h1:∀ l o l' x,I l→Ok o→subs o=false→redO bid pl l o=.ok (l',x)→I l'∧G o x)
  (h2:∀ l o l' x,I l→Ok o→subs o=true→subO offer pl ser l o=.ok (l',x)→I l'∧G o x)
  (hI:I l) (hO:∀ t∈ts,Ok t.o) (h:dealL l ts offer bid pl ser=.ok (l',N)) :
  I l'∧N.length=ts.length∧∀ (j:Nat) (t:Tk),ts[j]?=some t→∃ x,N[j]?=some x∧G t.o x:=by
 unfold dealL at h;split at h
 ·cases h
 ·rename_i l1 N1 hx
  obtain ⟨a1,a2,a3,a4⟩:=qjR (G:=G) (fun l o l' x g1 g2 g3 g4=>h1 l o l' x g1 g2 (by simpa using g3) g4) ts 0 l _ l1 N1 hI hO (by simp) hx;rw [List.length_replicate] at a2;obtain ⟨b1,b2,b3,b4⟩:=qjR (G:=G) h2 ts 0 l1 N1 l' N a1 hO (by omega) h;refine ⟨b1,by omega,fun j t ht=>?_⟩;have c1:=a4 j t ht;have c2:=b4 j t ht;rw [Nat.zero_add] at c1 c2;by_cases hs:subs t.o=true
  ·rw [if_pos hs] at c2;exact c2
  ·rw [if_neg hs] at c2;rw [if_pos (by simpa using hs)] at c1;rw [c2];exact c1
end Dl
namespace Dl
structure Ask (o:Od):Prop where
 amt:(o.kind=1∨o.kind=4)→1≤o.amount∧o.amount≤1000000000000000
 unt:(o.kind=2∨o.kind=3)→1≤o.units∧o.units≤1000000000000000
 knd:1≤o.kind∧o.kind≤5
theorem jiU {o:Od} (h:okO o=true):Ask o:=by
 unfold okO askO at h;simp only [Bool.and_eq_true] at h;obtain ⟨_,_,h⟩:=h;unfold inR at h;split at h
 ·rename_i hk
  simp only [Bool.and_eq_true,decide_eq_true_eq] at h;exact ⟨fun _=>h.1,fun _=>by omega,by omega⟩
 ·split at h
  ·rename_i hk
   simp only [Bool.and_eq_true,decide_eq_true_eq] at h;exact ⟨fun _=>by omega,fun _=>h.1,by omega⟩
  ·split at h
   ·exact ⟨fun _=>by omega,fun _=>by omega,by omega⟩
   ·cases h
structure RedG (bid:Qn) (pl:Nat) (o:Od) (x:Nt):Prop where
 key:x.key=o.key∧x.nom=o.nom∧x.hol=o.hol∧x.kind=o.kind
 unt:0≤x.units∧x.units≤1000000000000000
 mny:0≤x.money∧x.money≤1000000000000000
 top:x.money*(wB bid pl:Int)≤x.units*wA bid
 low:x.units*wA bid<x.money*(wB bid pl:Int)+wA bid+(wB bid pl:Int)
structure SubG (offer:Qn) (pl:Nat) (o:Od) (x:Nt):Prop where
 key:x.key=o.key∧x.nom=o.nom∧x.hol=o.hol∧x.kind=o.kind
 unt:0≤x.units∧x.units≤1000000000000000
 mny:0≤x.money∧x.money≤1000000000000000
 top:x.units*wA offer≤x.money*(wB offer pl:Int)
 low:x.money*(wB offer pl:Int)<x.units*wA offer+wA offer+(wB offer pl:Int)
theorem qiV {p q:Qn} {pl:Nat} {a:Int} (hp:Pc p) (h3:pl≤6) (h:manyQ p pl a=some q):VQ q∧q.1*wA p=a*(wB p pl:Int)*(q.2:Int):=by
 unfold manyQ at h;split at h
 ·cases h
 ·rename_i one ho
  exact jfH hp h3 ho h
theorem jbR {p:Qn} {pl:Nat} {n m:Int} (hp:Pc p) (h3:pl≤6) (h1:0≤n) (h2:n≤1000000000000000) (h:moneyZ (worthQ p pl n) dnQ=.ok m) :
  0≤m∧m≤1000000000000000∧m=n*wA p / (wB p pl:Int):=by
 unfold moneyZ at h;split at h
 ·cases h
 ·rename_i w hw
  obtain ⟨v,e⟩:=qeB hp h1 h2 h3 hw;split at h
  ·rename_i hm
   injection h with h
   subst h;have hb:=qjE hp pl;have hf:=qnR (by omega) v.pos e;unfold mostZ dnQ at *;refine ⟨?_,hm,hf⟩;rw [hf];exact Int.ediv_nonneg (Int.mul_nonneg h1 (by have:=qkR hp;omega)) (by omega)
  ·cases h
theorem qpC {bid:Qn} {pl:Nat} {l l':List Lot} {o:Od} {x:Nt} (hp:Pc bid) (h3:pl≤6) (ho:Ask o) (hs0:0≤sumU (ownL o.nom o.hol l)) (hs:sumU (ownL o.nom o.hol l)≤1000000000000000)
  (h:redO bid pl l o=.ok (l',x)):RedG bid pl o x∧x.units≤sumU (ownL o.nom o.hol l)∧l'=(takeR o.nom o.hol l x.units).1∧x.lots=(takeR o.nom o.hol l x.units).2:=by
 have hA:=qkR hp;have hB:=qjE hp pl;unfold redO at h;generalize sumU (ownL o.nom o.hol l)=has at *
 split at h
 ·cases h
 ·rename_i n m0 hn
  split at h
  ·cases h
  ·rename_i m hm
   simp only [Except.ok.injEq,Prod.mk.injEq] at h;obtain ⟨rfl,rfl⟩:=h
   -- the units,and the money if it was asked for
   have hN:0≤n∧n≤has∧(m0=0∨(1≤m0∧m0≤1000000000000000∧m0*(wB bid pl:Int)≤n*wA bid∧n*wA bid<m0*(wB bid pl:Int)+wA bid)):=by
    unfold redN at hn;split at hn
    ·rename_i hk
     simp only [Except.ok.injEq,Prod.mk.injEq] at hn;obtain ⟨rfl,rfl⟩:=hn
     have:=ho.unt (.inr hk)
     omega
    ·split at hn
     ·rename_i hk
      have ha:=ho.amt (.inr hk);split at hn
      ·cases hn
      ·rename_i q hq
       obtain ⟨v,e⟩:=qiV hp h3 hq;have hc:=qzM hA v.pos e;obtain ⟨u1,u2⟩:=qmS (N:=o.amount*(wB bid pl:Int)) hA;rw [←hc] at u1 u2;split at hn
       ·simp only [Except.ok.injEq,Prod.mk.injEq] at hn;obtain ⟨rfl,rfl⟩:=hn;refine ⟨?_,by omega,.inr ⟨ha.1,ha.2,u1,u2⟩⟩;have h1:0<o.amount*(wB bid pl:Int):=Int.mul_pos (by omega) (by omega);exact Int.le_of_lt (Int.pos_of_mul_pos_left (by omega) hA)
       ·simp only [Except.ok.injEq,Prod.mk.injEq] at hn;obtain ⟨rfl,rfl⟩:=hn;exact ⟨hs0,by omega,.inl rfl⟩
     ·simp only [Except.ok.injEq,Prod.mk.injEq] at hn;obtain ⟨rfl,rfl⟩:=hn;exact ⟨hs0,by omega,.inl rfl⟩
   obtain ⟨n1,n2,n3⟩:=hN
   have hM:0≤m∧m≤1000000000000000∧m*(wB bid pl:Int)≤n*wA bid∧n*wA bid<m*(wB bid pl:Int)+wA bid+(wB bid pl:Int):=by
    unfold redM at hm;split at hm
    ·obtain ⟨m1,m2,m3⟩:=jbR hp h3 n1 (by omega) hm;obtain ⟨d1,d2⟩:=qnU (N:=n*wA bid) (show (0:Int)<(wB bid pl:Int) by omega);rw [←m3] at d1 d2;exact ⟨m1,m2,d1,by omega⟩
    ·injection hm with hm
     subst hm;rcases n3 with n3|⟨n3,n4,n5,n6⟩
     ·contradiction
     ·exact ⟨by omega,n4,n5,by omega⟩
   exact ⟨⟨⟨rfl,rfl,rfl,rfl⟩,⟨n1,by simp only [noteO];omega⟩,⟨hM.1,hM.2.1⟩,hM.2.2.1,hM.2.2.2⟩,n2,rfl,rfl⟩
theorem qoU {offer:Qn} {pl:Nat} {ser:Int} {l l':List Lot} {o:Od} {x:Nt} (hp:Pc offer) (h3:pl≤6) (ho:Ask o) (hk:subs o=true) (hs0:0≤sumU l)
  (h:subO offer pl ser l o=.ok (l',x)):SubG offer pl o x∧(x.units=0∧l'=l∧x.lots=[]∨1≤x.units∧x.units≤1000000000000000 - sumU l∧l'=putL l ⟨o.nom,o.hol,ser,x.units⟩∧l'.length≤256∧x.lots=[⟨o.nom,o.hol,ser,x.units⟩]):=by
 have hA:=qkR hp;have hB:=qjE hp pl
 have hI:∀ n m:Int,1≤n→0≤m→m≤1000000000000000→n*wA offer≤m*(wB offer pl:Int)→m*(wB offer pl:Int)<n*wA offer+wA offer+(wB offer pl:Int)→issO ser l o n m=.ok (l',x) →
   SubG offer pl o x∧(x.units=0∧l'=l∧x.lots=[]∨1≤x.units∧x.units≤1000000000000000 - sumU l∧l'=putL l ⟨o.nom,o.hol,ser,x.units⟩∧l'.length≤256∧x.lots=[⟨o.nom,o.hol,ser,x.units⟩]):=by
  intro n m g1 g2 g3 g4 g5 g;unfold issO at g;split at g
  ·cases g
  ·split at g
   ·cases g
   ·rename_i q1 q2
    simp only [Except.ok.injEq,Prod.mk.injEq] at g;obtain ⟨rfl,rfl⟩:=g;unfold mostZ at q1;exact ⟨⟨⟨rfl,rfl,rfl,rfl⟩,⟨by simp only [noteO];omega,by simp only [noteO];omega⟩,⟨g2,g3⟩,g4,g5⟩,.inr ⟨g1,by simp only [noteO];omega,rfl,by omega,rfl⟩⟩
 unfold subO at h;split at h
 ·rename_i hk1
  have ha:=ho.amt (.inl hk1);split at h
  ·cases h
  ·rename_i q hq
   obtain ⟨v,e⟩:=qiV hp h3 hq;have hc:=qnR hA v.pos e;obtain ⟨d1,d2⟩:=qnU (N:=o.amount*(wB offer pl:Int)) hA;rw [←hc] at d1 d2;have h1:0<o.amount*(wB offer pl:Int):=Int.mul_pos (by omega) (by omega)
   have h0:0≤dnQ q:=by
    show 0≤q.1 / (q.2:Int)
    rw [hc];exact Int.ediv_nonneg (by omega) (by omega)
   change dnQ q*wA offer≤_ at d1
   change _<dnQ q*wA offer+_ at d2
   split at h
   ·cases h
   ·split at h
    ·simp only [Except.ok.injEq,Prod.mk.injEq] at h;obtain ⟨rfl,rfl⟩:=h;exact ⟨⟨⟨rfl,rfl,rfl,rfl⟩,by simp [noteO],by simp [noteO],by simp [noteO],by simp only [noteO];omega⟩,.inl ⟨rfl,rfl,rfl⟩⟩
    ·exact hI _ _ (by omega) (by omega) ha.2 d1 (by omega) h
 ·rename_i hk1
  have hk2:o.kind=2:=by
   unfold subs at hk;simp only [Bool.or_eq_true,decide_eq_true_eq] at hk;omega
  have hu:=ho.unt (.inl hk2);split at h
  ·cases h
  ·rename_i w hw
   obtain ⟨v,e⟩:=qeB hp (by omega) hu.2 h3 hw;have hc:=qzM (by omega) v.pos e;obtain ⟨d1,d2⟩:=qmS (N:=o.units*wA offer) (show (0:Int)<(wB offer pl:Int) by omega);rw [←hc] at d1 d2;have h1:0<o.units*wA offer:=Int.mul_pos (by omega) hA;have h0:0<ceilQ w:=Int.pos_of_mul_pos_left (show 0<ceilQ w*(wB offer pl:Int) by omega) (by omega);split at h
   ·cases h
   ·split at h
    ·cases h
    ·rename_i g1 g2
     unfold mostZ at g2;exact hI _ _ hu.1 (by omega) (by omega) d1 (by omega) h
end Dl
namespace Dl
def sumD (d:Nt→Int):List Nt→Int
 | []=>0
 | x::N=>d x+sumD d N
theorem qsA (d:Nt→Int) (x y:Nt):∀ (N:List Nt) (k:Nat),N[k]?=some y→sumD d (N.set k x)=sumD d N - d y+d x
 | [],k,h=>by simp at h
 | z::N,0,h=>by
  simp only [List.getElem?_cons_zero,Option.some.injEq] at h;subst h;simp only [List.set_cons_zero,sumD];omega
 | z::N,k+1,h=>by
  have:=qsA d x y N k (by simpa using h)
  simp only [List.set_cons_succ,sumD,this];omega
theorem qoR (d:Nt→Int) (h:d zeroN=0):∀ n:Nat,sumD d (List.replicate n zeroN)=0
 | 0=>rfl
 | n+1=>by rw [List.replicate_succ,sumD,h,qoR d h n];rfl
theorem qsI {sel:Od→Bool} {f:List Lot→Od→Except Int (List Lot × Nt)} {I:List Lot→Prop} {Ok:Od→Prop} {m:List Lot→Int} {d:Nt→Int} (h0:d zeroN=0)
  (hf:∀ l o l' x,I l→Ok o→sel o=true→f l o=.ok (l',x)→I l'∧m l'=m l+d x) :
  ∀ (ts:List Tk) (k:Nat) (l:List Lot) (N:List Nt) (l':List Lot) (N':List Nt),I l→(∀ t∈ts,Ok t.o)→(∀ (j:Nat) (t:Tk),ts[j]?=some t→sel t.o=true→N[k+j]?=some zeroN)→passP sel f ts k l N=.ok (l',N') →
   m l' - sumD d N'=m l - sumD d N:=by
 intro ts
 induction ts with
 | nil =>
  intro k l N l' N' hI _ _ h;simp only [passP,Except.ok.injEq,Prod.mk.injEq] at h;obtain ⟨rfl,rfl⟩:=h;rfl
 | cons t ts ih =>
  intro k l N l' N' hI hO hz h;rw [passP] at h;by_cases hs:sel t.o=true
  ·rw [if_pos hs] at h;split at h
   ·cases h
   ·rename_i l1 x hx
    obtain ⟨hI1,hG⟩:=hf _ _ _ _ hI (hO t (by simp)) hs hx;have hk:=hz 0 t rfl hs;rw [Nat.add_zero] at hk
    have:=ih (k+1) l1 (N.set k x) l' N' hI1 (fun y hy=>hO y (by simp [hy])) (fun j y hj hy=>by
     have:=hz (j+1) y (by simpa using hj) hy
     rw [List.getElem?_set_ne (by omega),show k+1+j=k+(j+1) by omega];exact this) h
    rw [this,qsA d x zeroN N k hk,hG,h0];omega
  ·rw [if_neg hs] at h
   exact ih (k+1) l N l' N' hI (fun y hy=>hO y (by simp [hy])) (fun j y hj hy=>by
    have:=hz (j+1) y (by simpa using hj) hy
    rw [show k+1+j=k+(j+1) by omega];exact this) h
theorem jdF {I:List Lot→Prop} {Ok:Od→Prop} {m:List Lot→Int} {d:Nt→Int} {l l':List Lot} {ts:List Tk} {offer bid:Qn} {pl:Nat} {ser:Int} {N:List Nt} (h0:d zeroN=0)
  (h1:∀ l o l' x,I l→Ok o→subs o=false→redO bid pl l o=.ok (l',x)→I l'∧m l'=m l+d x)
  (h2:∀ l o l' x,I l→Ok o→subs o=true→subO offer pl ser l o=.ok (l',x)→I l'∧m l'=m l+d x)
  (hI:I l) (hO:∀ t∈ts,Ok t.o) (h:dealL l ts offer bid pl ser=.ok (l',N)):m l'=m l+sumD d N:=by
 unfold dealL at h;split at h
 ·cases h
 ·rename_i l1 N1 hx
  have hf1:=fun l o l' x g1 g2 (g3:(!subs o)=true) g4=>h1 l o l' x g1 g2 (by simpa using g3) g4
  have a:=qsI h0 hf1 ts 0 l _ l1 N1 hI hO (fun j t ht _=>by
   have:=(List.getElem?_eq_some_iff.1 ht).1
   rw [List.getElem?_replicate,if_pos (by omega)]) hx
  obtain ⟨a1,a2,a3,a4⟩:=qjR (G:=fun _ _=>True) (fun l o l' x g1 g2 g3 g4=>⟨(hf1 l o l' x g1 g2 g3 g4).1,trivial⟩) ts 0 l _ l1 N1 hI hO (by simp) hx
  have b:=qsI h0 h2 ts 0 l1 N1 l' N a1 hO (fun j t ht hs=>by
   have:=(List.getElem?_eq_some_iff.1 ht).1
   have c:=a4 j t ht;rw [if_neg (by simp [hs])] at c;rw [c,Nat.zero_add,List.getElem?_replicate,if_pos (by omega)]) h
  rw [qoR d h0] at a;omega
end Dl
namespace Dl
def inU (x:Nt):Int:=if x.kind=1∨x.kind=2 then x.units else -x.units
def inM (x:Nt):Int:=if x.kind=1∨x.kind=2 then x.money else -x.money
theorem qsU {c e:Int}:∀ N:List Nt,(∀ x∈N,c*inU x≤e*inM x)→c*sumD inU N≤e*sumD inM N
 | [],_=>by simp [sumD]
 | x::N,h=>by
  have h1:=h x (by simp);have h2:=qsU N (fun y hy=>h y (by simp [hy]));simp only [sumD,Int.mul_add];omega
theorem jcI {offer:Qn} {pl:Nat} {o:Od} {x:Nt} {c e:Int} (hp:Pc offer) (he:0≤e) (h:SubG offer pl o x) (hk:o.kind=1∨o.kind=2) (hc:c*(wB offer pl:Int)≤e*wA offer):c*inU x≤e*inM x:=by
 have hB:=qjE hp pl;have hi:x.kind=1∨x.kind=2:=by rw [h.key.2.2.2];exact hk
 unfold inU inM;rw [if_pos hi,if_pos hi];have h1:=Int.mul_le_mul_of_nonneg_left hc h.unt.1;have h2:=Int.mul_le_mul_of_nonneg_left h.top he;have hB':(0:Int)<(wB offer pl:Int):=by omega
 refine Int.le_of_mul_le_mul_right ?_ hB';generalize (wB offer pl:Int)=B at *
 generalize wA offer=A at *
 have e1:c*x.units*B=x.units*(c*B):=by grind
 have e2:e*x.money*B=e*(x.money*B):=by grind
 have e3:x.units*(e*A)=e*(x.units*A):=by grind
 omega
theorem jcJ {bid:Qn} {pl:Nat} {o:Od} {x:Nt} {c e:Int} (hp:Pc bid) (he:0≤e) (h:RedG bid pl o x) (hk:¬(o.kind=1∨o.kind=2)) (hc:e*wA bid≤c*(wB bid pl:Int)):c*inU x≤e*inM x:=by
 have hB:=qjE hp pl;have hi:¬(x.kind=1∨x.kind=2):=by rw [h.key.2.2.2];exact hk
 unfold inU inM;rw [if_neg hi,if_neg hi];have h1:=Int.mul_le_mul_of_nonneg_left hc h.unt.1;have h2:=Int.mul_le_mul_of_nonneg_left h.top he;have hB':(0:Int)<(wB bid pl:Int):=by omega
 refine Int.le_of_mul_le_mul_right ?_ hB';generalize (wB bid pl:Int)=B at *
 generalize wA bid=A at *
 have e1:c*-x.units*B=-(x.units*(c*B)):=by grind
 have e2:e*-x.money*B=-(e*(x.money*B)):=by grind
 have e3:x.units*(e*A)=e*(x.units*A):=by grind
 omega
theorem qyJ {net before after flow:Int} (hf:net*(after - before)≤before*flow):net*after≤(net+flow)*before:=by
 have e1:net*(after - before)=net*after - net*before:=Int.mul_sub _ _ _;have e2:(net+flow)*before=net*before+before*flow:=by grind
 omega
end Dl
namespace Dl
def Val (r:Qn) (x B:Int):Prop:=r.2≠0∧r.1*B=x*(r.2:Int)
theorem jeD {R T:Qn} {x y B:Int} (hB:0<B) (hR:Val R x B) (hT:Val T y B) (h:x≤y):R.1*(T.2:Int)≤T.1*(R.2:Int):=by
 obtain ⟨r0,r1⟩:=hR;obtain ⟨t0,t1⟩:=hT;have k:=Int.mul_le_mul_of_nonneg_right h (show (0:Int)≤(R.2:Int)*(T.2:Int) from Int.mul_nonneg (by omega) (by omega));refine Int.le_of_mul_le_mul_right (a:=B) ?_ (by omega);have e1:R.1*(T.2:Int)*B=(R.1*B)*(T.2:Int):=by grind
 have e2:T.1*(R.2:Int)*B=(T.1*B)*(R.2:Int):=by grind
 rw [e1,e2,r1,t1];have e3:x*(R.2:Int)*(T.2:Int)=x*((R.2:Int)*(T.2:Int)):=by grind
 have e4:y*(T.2:Int)*(R.2:Int)=y*((R.2:Int)*(T.2:Int)):=by grind
 rw [e3,e4];exact k
theorem qtP {R:Qn} {x B:Int} (hB:0<B) (hR:Val R x B) (h:0≤x):0≤R.1:=by
 have:=jeD (R:=(0,1)) (x:=0) hB ⟨by decide,by simp⟩ hR h
 simpa using this
theorem qvL {p w:Qn} {pl:Nat} {n:Int} (hp:Pc p) (h1:0≤n) (h2:n≤1000000000000000) (h3:pl≤6) (h:worthQ p pl n=some w):Val w (n*wA p) (wB p pl:Int):=by
 obtain ⟨v,e⟩:=qeB hp h1 h2 h3 h;exact ⟨v.pos,e⟩
end Dl
namespace Dl
def quo2 (a b:Qn):Option Qn:=mkQ (a.1*(b.2:Int)) (a.2*b.1.natAbs)
theorem jbK (a:Int) (b:Qn):quoQ a b=quo2 (a,1) b:=by simp [quoQ,quo2]
theorem qvM {a b r:Qn} {x y B C:Int} (ha:Val a x B) (hb:Val b y C) (hp:0<b.1) (h:quo2 a b=some r):Val r (x*C) (B*y):=by
 obtain ⟨a0,a1⟩:=ha;obtain ⟨b0,b1⟩:=hb;have hD:a.2*b.1.natAbs≠0:=Nat.mul_ne_zero a0 (by omega);have v:=qcR hD h;have e:=(qfD hD h).1;refine ⟨v.pos,?_⟩;rw [Int.natCast_mul,show ((b.1.natAbs:Nat):Int)=b.1 by omega] at e;have h0:(a.2:Int)*(b.2:Int)≠0:=by rw [←Int.natCast_mul];have:=Nat.mul_ne_zero a0 b0;omega
 refine Int.eq_of_mul_eq_mul_right h0 ?_;have e1:r.1*(B*y)*((a.2:Int)*(b.2:Int))=r.1*(a.2:Int)*B*(y*(b.2:Int)):=by grind
 rw [e1,←b1];have e2:r.1*(a.2:Int)*B*(b.1*C)=(r.1*((a.2:Int)*b.1))*B*C:=by grind
 rw [e2,e];have e3:a.1*(b.2:Int)*(r.2:Int)*B*C=(a.1*B)*(b.2:Int)*(r.2:Int)*C:=by grind
 rw [e3,a1];grind
theorem jeS {a b r:Qn} {x y B C:Int} (ha:Val a x B) (hb:Val b y C) (h:mulQ a b=some r):Val r (x*y) (B*C):=by
 obtain ⟨a0,a1⟩:=ha;obtain ⟨b0,b1⟩:=hb;have hD:a.2*b.2≠0:=Nat.mul_ne_zero a0 b0;have v:=qcR hD h;have e:=(qfD hD h).1;refine ⟨v.pos,?_⟩;rw [Int.natCast_mul] at e;have h0:(a.2:Int)*(b.2:Int)≠0:=by rw [←Int.natCast_mul];omega
 refine Int.eq_of_mul_eq_mul_right h0 ?_;have e1:r.1*(B*C)*((a.2:Int)*(b.2:Int))=r.1*((a.2:Int)*(b.2:Int))*B*C:=by grind
 rw [e1,e];have e2:a.1*b.1*(r.2:Int)*B*C=(a.1*B)*(b.1*C)*(r.2:Int):=by grind
 rw [e2,a1,b1];grind
theorem jhJ {N:Int} {D:Nat} {r:Qn} (hD:D≠0) (h:mkQ N D=some r):Val r N (D:Int):=⟨(qcR hD h).pos,(qfD hD h).1⟩
theorem qmF {one part r:Qn} {net before s:Int} {pl:Nat} (ho:Val one (net*((10^pl:Nat):Int)) (before*100)) (hq:Val part s 100) (h:mulQ one part=some r) :
  r.1*(before*100*100)=net*((10^pl:Nat):Int)*s*(r.2:Int):=(jeS ho hq h).2
theorem quI {one part r:Qn} {net before s:Int} {pl:Nat} (ho:Val one (net*((10^pl:Nat):Int)) (before*100)) (hq:Val part s 100) (h:mulQ one part=some r) (hn:0≤net) (hs:100≤s) :
  net*(wB r pl:Int)≤before*wA r:=by
 have e:=qmF ho hq h;unfold wA wB;rw [Int.natCast_mul];have hT:(0:Int)≤((10^pl:Nat):Int):=Int.natCast_nonneg _;generalize ((10^pl:Nat):Int)=T at *
 have k:before*(100*r.1)*100=net*T*(r.2:Int)*s:=by grind
 have k2:net*((r.2:Int)*T)=net*T*(r.2:Int):=by grind
 rw [k2];have h0:0≤net*T*(r.2:Int):=Int.mul_nonneg (Int.mul_nonneg hn hT) (Int.natCast_nonneg _)
 have:=Int.mul_le_mul_of_nonneg_left hs h0
 omega
theorem jbU {one part r:Qn} {net before s:Int} {pl:Nat} (ho:Val one (net*((10^pl:Nat):Int)) (before*100)) (hq:Val part s 100) (h:mulQ one part=some r) (hn:0≤net) (hs:s≤100) :
  before*wA r≤net*(wB r pl:Int):=by
 have e:=qmF ho hq h;unfold wA wB;rw [Int.natCast_mul];have hT:(0:Int)≤((10^pl:Nat):Int):=Int.natCast_nonneg _;generalize ((10^pl:Nat):Int)=T at *
 have k:before*(100*r.1)*100=net*T*(r.2:Int)*s:=by grind
 have k2:net*((r.2:Int)*T)=net*T*(r.2:Int):=by grind
 rw [k2];have h0:0≤net*T*(r.2:Int):=Int.mul_nonneg (Int.mul_nonneg hn hT) (Int.natCast_nonneg _)
 have:=Int.mul_le_mul_of_nonneg_left hs h0
 omega
theorem qyI {now old:Qn} {net flow before after:Int} (hb:0<before) (ha:0<after) (h1:quo2 (net+flow,1) (after,1)=some now) (h2:quo2 (net,1) (before,1)=some old) (hf:net*(after - before)≤before*flow) :
  ¬(now.1*(old.2:Int)<old.1*(now.2:Int)):=by
 have hx:Val (net+flow,1) (net+flow) 1:=⟨Nat.one_ne_zero,by simp⟩;have hy:Val (net,1) net 1:=⟨Nat.one_ne_zero,by simp⟩;have hA:Val (after,1) after 1:=⟨Nat.one_ne_zero,by simp⟩;have hB:Val (before,1) before 1:=⟨Nat.one_ne_zero,by simp⟩;obtain ⟨n0,n1⟩:=qvM hx hA ha h1;obtain ⟨o0,o1⟩:=qvM hy hB hb h2
 have vN:Val now ((net+flow)*before) (after*before):=⟨n0,by
  have e:now.1*(after*before)=now.1*(1*after)*before:=by grind
  rw [e,n1];grind⟩
 have vO:Val old (net*after) (after*before):=⟨o0,by
  have e:old.1*(after*before)=old.1*(1*before)*after:=by grind
  rw [e,o1];grind⟩
 exact Int.not_lt.2 (jeD (Int.mul_pos ha hb) vO vN (qyJ hf))
end Dl
namespace Dl
end Dl
namespace Dl
theorem qzN {q:Qn} (h:q.2≠0) (k:Int):ceilQ q≤k↔q.1≤k*(q.2:Int):=by
 have hq:(0:Int)<(q.2:Int):=by omega
 rw [qzL q h];obtain ⟨u1,u2⟩:=qmS (N:=q.1) hq;constructor
 ·intro hk
  have:=Int.mul_le_mul_of_nonneg_right hk (show (0:Int)≤(q.2:Int) by omega)
  omega
 ·intro hk;have l:upZ q.1 (q.2:Int)*(q.2:Int)<(k+1)*(q.2:Int):=by rw [Int.add_mul];omega
  have:=Int.lt_of_mul_lt_mul_right l (by omega)
  omega
theorem dn_ge {q:Qn} (h:q.2≠0) (k:Int):k≤dnQ q↔k*(q.2:Int)≤q.1:=by
 have hq:(0:Int)<(q.2:Int):=by omega
 unfold dnQ;exact Int.le_ediv_iff_mul_le hq
def reachC (q:Qn) (most:Int):Int:=if ceilQ q≤most then ceilQ q else most+1
def reachF (q:Qn) (most:Int):Int:=if dnQ q≤most then dnQ q else most+1
theorem jbI {q:Qn} (h:q.2≠0) (most:Int):(most*(q.2:Int)<q.1→reachC q most=most+1)∧(¬most*(q.2:Int)<q.1→¬(most+1)*(q.2:Int)≤q.1∧reachC q most=ceilQ q∧ceilQ q≤most):=by
 have k:=qzN h most;refine ⟨fun g=>?_,fun g=>?_⟩
 ·unfold reachC;rw [if_neg (by rw [k];omega)]
 ·have g1:ceilQ q≤most:=k.2 (by omega);refine ⟨?_,by unfold reachC;rw [if_pos g1],g1⟩;rw [Int.add_mul];omega
theorem jbJ {q:Qn} (h:q.2≠0) (most:Int):((most+1)*(q.2:Int)≤q.1→reachF q most=most+1)∧(¬(most+1)*(q.2:Int)≤q.1→reachF q most=dnQ q∧dnQ q≤most):=by
 have k:=dn_ge h (most+1);refine ⟨fun g=>?_,fun g=>?_⟩
 ·have:=k.2 g
  unfold reachF;rw [if_neg (by omega)]
 ·have g1:dnQ q≤most:=by have:=mt k.1 g;omega
  exact ⟨by unfold reachF;rw [if_pos g1],g1⟩
theorem qnH {p q:Qn} {pl:Nat} {a:Int} (hp:Pc p) (h3:pl≤6) (ha:0≤a) (h:manyQ p pl a=some q):0≤q.1∧0≤dnQ q∧0≤ceilQ q:=by
 obtain ⟨v,e⟩:=qiV hp h3 h;have hA:=qkR hp
 have h0:0≤q.1:=by
  have:0≤q.1*wA p:=by rw [e];exact Int.mul_nonneg (Int.mul_nonneg ha (Int.natCast_nonneg _)) (Int.natCast_nonneg _)
  exact Int.le_of_mul_le_mul_right (a:=wA p) (by omega) hA
 have hq:=v.pos;refine ⟨h0,Int.ediv_nonneg h0 (Int.natCast_nonneg _),?_⟩;by_cases hc:ceilQ q≤-1
 ·have:=(qzN hq (-1)).1 hc
  omega
 ·omega
end Dl
namespace Dl
end Dl
namespace Dl
end Dl
end Go.Proofs.YtemoddmadfoaiaaGreat
namespace Go.Proofs.YtemoddmadfoaiaaGreat
open Go.RowKit Big Reg Al Ga Dl
namespace Dl
def MadeP (p:Qn):Prop:=Pc p∧p.1≤30000∧p.2≤1000000
theorem qnI {n:Int} {d:Nat} {p:Qn} (h1:1≤n) (h3:d≠0) (hp:mkQ n d=some p):Pc p∧p.1.natAbs≤n.natAbs∧p.2≤d:=by
 obtain ⟨e,a,b⟩:=qfD h3 hp;have v:=qcR h3 hp;refine ⟨⟨v,?_⟩,a,b⟩;have h:0<n*(p.2:Int):=Int.mul_pos (by omega) (by have:=v.pos;omega);rw [←e] at h;rcases Int.lt_or_le 0 p.1 with h0|h0
 ·exact h0
 ·have:=Int.mul_nonpos_of_nonpos_of_nonneg h0 (Int.natCast_nonneg d)
  omega
theorem jiF {n:Int} {d:Nat} (h1:1≤n) (h2:n≤30000) (h3:d≠0) (h4:d≤1000000):∃ p,mkQ n d=some p∧MadeP p:=by
 obtain ⟨p,hp⟩:=qhB (N:=n) (D:=d) (by have:=qfW;omega) (by have:=qfW;omega);obtain ⟨c,a,b⟩:=qnI h1 h3 hp;exact ⟨p,hp,c,by omega,by omega⟩
end Dl
theorem qjD {P:Program} {ops:Array Oper} {rest:List Oper} {o1 o2:Oper} {a:Act} {w:World} {Q:Exit→Act→World→Prop} {t:TypeId} (hg1:o1.guard=none) (hg2:o2.guard=none) (ho1:o1.op=.alloc t) {x y:Operand} (ho2:o2.op=.store t x y) {cs:List Value} (hL:∃ z,LaysAs P t z∧cs.length≤z.size)
  (hx:(a.put o1.dst (.pointer (some ⟨w.heap.size,0,none⟩))).eval x=.pointer (some ⟨w.heap.size,0,none⟩)) (hy:(a.put o1.dst (.pointer (some ⟨w.heap.size,0,none⟩))).eval y=.agg cs.toArray) (hs:(P.info? t).map (·.size)=some cs.length) (h1:cs.toArray.all (·.oneCell')=true)
  (h:∀ w',Below w.heap.size w w'→At w' w.heap.size 0 cs→w'.heap.size=w.heap.size+1→wpList P ops Q rest ((a.put o1.dst (.pointer (some ⟨w.heap.size,0,none⟩))).put o2.dst undef) w'):wpList P ops Q (o1::o2::rest) a w:=by
 obtain ⟨z,hL,hz⟩:=hL;refine wpList_plain hg1 fun K hK=>?_
 have hrun:=hL o1 ho1 a w;unfold Oper.wp;rw [hrun];refine hK _ _ ?_;have hA:At (w.alloc (.cells z t)) w.heap.size 0 z.toList:=by have:=At.fresh w z.toList t rfl;simpa using this
 have hth:(w.alloc (.cells z t)).there w.heap.size 0 cs.length:=fun j hj=>hA.there j (by simp;omega)
 refine wpList_store_mid hg2 _ _ _ ho2 w.heap.size 0 cs.toArray hx hy (by simpa using hth) (by simpa using hs) h1 ?_;refine h _ ?_ ?_ (by simp [qbE])
 ·exact qaC (Nat.le_refl _) _ _ _ ((Below.refl _ _).alloc (Nat.le_refl _) _)
 ·exact ⟨World.rangeAt_setCells_same _ _ _ _ hth,World.there_setCells hth _ _ _,by rw [qbE];simp⟩
end Go.Proofs.YtemoddmadfoaiaaGreat
set_option maxHeartbeats 8000000
namespace Go.Proofs.YtemoddmadfoaiaaGreat
open Go.RowKit Big
open Lib (hid)
theorem jfK {ca cb cN cD:List Value} {na n:Bool} {pa qa pb qb v d:Nat} (h1:ca=rat na pa false qa) (h2:cb=rat false pb false qb) (hN:cN=.bool n::lv 32 v) (hD:cD=.bool false::lv 32 d)
  (hv:v=pa*qb) (hd:d=qa*pb) (hn:n=cs1 (na != false) v) (b1:pa<B480) (b2:qa<B480) (b3:pb<B480) (b4:qb<B480) (w:World) :
  CB 153 #[.agg ca.toArray,.agg cb.toArray] (.tuple #[.agg cN.toArray,.agg cD.toArray]) w:=by
 have V_ca:=hid h1;have V_cb:=hid h2;have V_cN:=hid hN;have V_cD:=hid hD;have u30:BB^30≤BB^32:=Nat.pow_le_pow_right qbF (by omega);have hvB:v<BB^30:=by rw [hv];exact qeR b1 b4
 have hdB:d<BB^30:=by rw [hd];exact qeR b2 b3
 obtain ⟨cna,V_cna⟩:=nvx (.bool na::lv 32 pa);obtain ⟨cda,V_cda⟩:=nvx (.bool false::lv 32 qa);obtain ⟨cnb,V_cnb⟩:=nvx (.bool false::lv 32 pb);obtain ⟨cdb,V_cdb⟩:=nvx (.bool false::lv 32 qb);obtain ⟨cz,V_cz⟩:=nvx (.bool false::lv 32 0);have HPN:=hid (qhQ V_cna.out V_cdb.out V_cN.out hv hn (qaL b1) (qaL b4) (by omega));have HPD:=hid (qhQ V_cda.out V_cnb.out V_cD.out hd rfl (qaL b2) (qaL b3) (by omega));clear h1 h2 hN hD hv hd hn b1 b2 b3 b4 u30 hvB hdB;obtain ⟨B0,B1,B2,B3,w0,hw0,hB0,hB1,hB2,hB3,AB0,AB1,AB2,AB3,FR,FR0,HB0,hZB0,l01,hZB1,l12,hZB2,l23,hZB3⟩:=en4 w 27 27 25 25 (bxq ca) (bxq cb) (zQI V_cz) (zQI V_cz);unfold zero33 at hw0;go_enter Tryz.func153,Tryz.ntmps153
 go_upto_region 1 with fail
 rw [←hw0,←hB3,←hB2,←hB1,←hB0];clear hw0 hB0 hB1 hB2 hB3;have AB0_n:=hid (AB0.out.num V_ca.out V_cna.out);have AB0_d:=hid (AB0.out.den V_ca.out V_cda.out);have AB1_n:=hid (AB1.out.num V_cb.out V_cnb.out);have AB1_d:=hid (AB1.out.den V_cb.out V_cdb.out);refine wF [⟨false,0,4,10,B2,0,25,10,cN,0,cN,[]⟩,⟨false,0,5,11,B3,0,25,15,cD,0,cD,[]⟩] [(6,pT B0 0),(7,aT cna),(8,pT B1 33),(9,aT cdb),(10,aT cN),(11,pT B0 33),(12,aT cda),(13,pT B1 0),(14,aT cnb),(15,aT cD)] (by simp only [zu];rfl) (by kernel_rfl) ?_ ?_ (oP _ _ bnC (fP1 bnC)) ?_ ?_ ?_ ?_
 ·intro W' hW';refine fxo ?_<|lhI AB0_n hW' V_cna rfl<|fxo ?_<|lhI AB1_d hW' V_cdb rfl<|fo2 ?_ ?_<|lhI AB0_d hW' V_cda rfl<|fxo ?_<|lhI AB1_n hW' V_cnb rfl<|fxo (by go_big_quiet_step (exact qaA (HPD.out _));exact wqn rfl)<|fxs rfl<|fxs rfl<|fxn;all_goals (go_big_quiet_step (exact qaA (HPN.out _));exact wqn rfl)
 ·intro W' hK';have rd0:=At.keep hK' AB0_n.out (oP _ _ (fun _=>(by show B2≠B0;omega)) (oP _ _ (fun _=>(by show B3≠B0;omega)) (oN)));have rd1:=At.keep hK' AB1_d.out (oP _ _ (fun _=>(by show B2≠B1;omega)) (oP _ _ (fun _=>(by show B3≠B1;omega)) (oN)));have rd2:=At.keep hK' AB0_d.out (oP _ _ (fun _=>(by show B2≠B0;omega)) (oP _ _ (fun _=>(by show B3≠B0;omega)) (oN)));have rd3:=At.keep hK' AB1_n.out (oP _ _ (fun _=>(by show B2≠B1;omega)) (oP _ _ (fun _=>(by show B3≠B1;omega)) (oN)));refine fxi ?_<|ldI rd0 V_cna rfl<|fxi ?_<|ldI rd1 V_cdb rfl<|fxs (by kernel_rfl)<|fxi ?_<|ldI rd2 V_cda rfl<|fxi ?_<|ldI rd3 V_cnb rfl<|fxs (by kernel_rfl)<|fxs (by kernel_rfl)<|fxs (by kernel_rfl)<|fxn;all_goals (first|(refine .inr ?_;go_big_quiet_step (fail);exact wqn rfl)|exact .inl (by kernel_rfl))
 ·exact oP _ _ (fun _=>rmh AB2 (qI V_cz.out) (qI V_cN.out) rfl) (oP _ _ (fun _=>rmh AB3 (qI V_cz.out) (qI V_cD.out) rfl) (oN))
 ·intro q hq r hr hqn hrn e;simp only [List.mem_cons,List.not_mem_nil,or_false] at hq hr;rcases hq with rfl|rfl<;>rcases hr with rfl|rfl<;>first|rfl|(exact Bool.noConfusion hqn)|(exact Bool.noConfusion hrn)|(exfalso;simp only at e;omega)
 ·exact oP _ _ (stw rfl (qI V_cN.out) (qgL V_cN.out) (fun _=>rfl)) (oP _ _ (stw rfl (qI V_cD.out) (qgL V_cD.out) (fun _=>rfl)) (oN))
 intro β wx1 E;replace FR:=hid (FR.out.flow E (oP _ _ (fun _=>(by show B0≤B2;omega)) (oP _ _ (fun _=>(by show B0≤B3;omega)) (oN))));replace AB2:=aoh E AB2 mms;replace AB3:=aoh E AB3 (List.mem_cons_of_mem _ mms);simp only [nP,zu];go_wp2_with fail
 have hld0:=rdI AB2 V_cN;have hld1:=rdI AB3 V_cD;refine bodyPost_ret (v:=.tuple #[.agg cN.toArray,.agg cD.toArray]) (by simp [results,Tryz.results153,asAddr,hld0,hld1]) rfl ?_;exact ⟨rfl,qbH HB0 FR⟩
theorem jdM {ca cb cN cD cR:List Value} {na nb:Bool} {pa qa pb qb:Nat} {code:Int} (w:World) (h1:ca=rat na pa false qa) (h2:cb=rat nb pb false qb)
  (ha:∀ W,CB 106 #[.agg ca.toArray] (.bool true) W) (hb:∀ W,CB 106 #[.agg cb.toArray] (.bool true) W)
  (hC:∀ W,CB 153 #[.agg ca.toArray,.agg cb.toArray] (.tuple #[.agg cN.toArray,.agg cD.toArray]) W)
  (hMk:∀ W,CB 75 #[.agg cN.toArray,.agg cD.toArray] (.tuple #[.agg cR.toArray,.int .i64 code]) W) {rn:Bool} {rp rq:Nat} {rm:Bool} (hcR:cR=rat rn rp rm rq) :
  CB 77 #[.agg ca.toArray,.agg cb.toArray,.func (.func 153) #[] #[]] (.tuple #[.agg cR.toArray,.int .i64 code]) w:=by
 have V_ca:=hid h1;have V_cb:=hid h2;have V_cR:=hid hcR;obtain ⟨cz,V_cz⟩:=nvx (rat false 0 false 0);have HA:=hid ha;have HB:=hid hb;have HC:=hid hC;have HK:=hid hMk;clear h1 h2 ha hb hC hMk hcR;obtain ⟨B0,B1,B2,w0,hw0,hB0,hB1,hB2,AB0,AB1,AB2,FR,FR0,HB0,hZB0,l01,hZB1,l12,hZB2⟩:=en3 w 27 27 27 (bxq ca) (bxq cb) (zQR V_cz);go_enter Tryz.func77,Tryz.ntmps77
 go_upto_region 1 with fail
 rw [←hw0,←hB2,←hB1,←hB0];clear hw0 hB0 hB1 hB2;refine wE [(8,aT ca),(9,bT),(10,bF),(11,bF),(12,aT cb),(13,bT),(14,bF),(15,bF)] (by simp only [zu];rfl) (by kernel_rfl) ?_ ?_
 ·intro W' hW';refine lhR AB0 hW' V_ca rfl<|fo3 ?_ ?_ ?_<|lhR AB1 hW' V_cb rfl<|fxo (by go_big_quiet_step (exact qaA (HB.out _));exact wqn rfl)<|fo2 ?_ ?_<|fxn;all_goals (go_big_quiet_step (exact qaA (HA.out _));exact wqn rfl)
 intro β wx1 E;replace FR:=fnf FR E rfl;replace AB0:=fnh AB0 E rfl;replace AB1:=fnh AB1 E rfl;replace AB2:=fnh AB2 E rfl;simp only [nP,zu];go_upto_region 3 with fail
 refine wF [⟨false,0,6,9,B2,0,27,24,cR,0,cR,[]⟩] [(17,.func (.func 153) #[] #[]),(18,aT ca),(19,aT cb),(20,.tuple #[aT cN,aT cD]),(21,aT cN),(22,aT cD),(23,.tuple #[aT cR,iT code]),(24,aT cR),(25,iT code),(7,iT code)] (by simp only [zu];rfl) (by kernel_rfl) ?_ ?_ (fP1 bnC) ?_ uno ?_ ?_
 ·intro W' hW';refine fxo ?_<|lhR AB0 hW' V_ca rfl<|lhR AB1 hW' V_cb rfl<|fo3 ?_ ?_ ?_<|fxo (by go_big_quiet_step (exact qaA (HK.out _));exact wqn rfl)<|fo2 ?_ ?_<|fxs rfl<|fxo ?_<|fxn;all_goals (go_big_quiet_step (exact qaA (HC.out _));exact wqn rfl)
 ·intro W' hK';have rd0:=akh AB0 hK' (by omega);have rd1:=akh AB1 hK' (by omega);refine fxi ?_<|ldR rd0 V_ca rfl<|ldR rd1 V_cb rfl<|fxs (by kernel_rfl)<|fxi ?_<|fxi ?_<|fxs (by kernel_rfl)<|fxi ?_<|fxi ?_<|fxs (by kernel_rfl)<|fxi ?_<|fxn;all_goals (first|(refine .inr ?_;go_big_quiet_step (fail);exact wqn rfl)|exact .inl (by kernel_rfl))
 ·exact fP1 (fun _=>rmh AB2 (qR V_cz.out) (qR V_cR.out) rfl)
 ·exact fP1 (sR V_cR (fun _=>rfl) rfl)
 intro β wx2 E;replace FR:=ffh FR E (by omega);replace AB2:=aoh E AB2 mms;simp only [nP,zu];go_wp2_with fail
 have hld:=rdR AB2 V_cR;refine bodyPost_ret (v:=.tuple #[.agg cR.toArray,.int .i64 code]) (by simp [results,Tryz.results77,asAddr,hld]) rfl ?_;exact ⟨rfl,qbH HB0 FR⟩
theorem jfI {ca cb cR:List Value} {na nb:Bool} {pa qa pb qb:Nat} {code:Int} (w:World) (h1:ca=rat na pa false qa) (h2:cb=rat nb pb false qb) {rn:Bool} {rp rq:Nat} {rm:Bool} (hcR:cR=rat rn rp rm rq)
  (hC:∀ W,CB 77 #[.agg ca.toArray,.agg cb.toArray,.func (.func 153) #[] #[]] (.tuple #[.agg cR.toArray,.int .i64 code]) W) :
  CB 122 #[.agg ca.toArray,.agg cb.toArray] (.tuple #[.agg cR.toArray,.int .i64 code]) w:=by
 have V_ca:=hid h1;have V_cb:=hid h2;have V_cR:=hid hcR;obtain ⟨cz,V_cz⟩:=nvx (rat false 0 false 0);have HC:=hid hC;clear h1 h2 hC hcR;obtain ⟨B0,B1,B2,w0,hw0,hB0,hB1,hB2,AB0,AB1,AB2,FR,FR0,HB0,hZB0,l01,hZB1,l12,hZB2⟩:=en3 w 27 27 27 (bxq ca) (bxq cb) (zQR V_cz);go_enter Tryz.func122,Tryz.ntmps122
 go_upto_region 1 with fail
 rw [←hw0,←hB2,←hB1,←hB0];clear hw0 hB0 hB1 hB2;refine wF [⟨false,0,4,5,B2,0,27,9,cR,0,cR,[]⟩] [(6,aT ca),(7,aT cb),(8,.tuple #[aT cR,iT code]),(9,aT cR),(10,iT code),(5,iT code)] (by simp only [zu];rfl) (by kernel_rfl) ?_ ?_ (fP1 bnC) ?_ uno ?_ ?_
 ·intro W' hW';refine lhR AB0 hW' V_ca rfl<|lhR AB1 hW' V_cb rfl<|fo3 ?_ ?_ ?_<|fxs rfl<|fxo ?_<|fxn;all_goals (go_big_quiet_step (exact qaA (HC.out _));exact wqn rfl)
 ·intro W' hK';have rd0:=akh AB0 hK' (by omega);have rd1:=akh AB1 hK' (by omega);refine ldR rd0 V_ca rfl<|ldR rd1 V_cb rfl<|fxs (by kernel_rfl)<|fxi ?_<|fxi ?_<|fxs (by kernel_rfl)<|fxi ?_<|fxn;all_goals (first|(refine .inr ?_;go_big_quiet_step (fail);exact wqn rfl)|exact .inl (by kernel_rfl))
 ·exact fP1 (fun _=>rmh AB2 (qR V_cz.out) (qR V_cR.out) rfl)
 ·exact fP1 (sR V_cR (fun _=>rfl) rfl)
 intro β wx1 E;replace FR:=ffh FR E (by omega);replace AB2:=aoh E AB2 mms;simp only [nP,zu];go_wp2_with fail
 have hld:=rdR AB2 V_cR;refine bodyPost_ret (v:=.tuple #[.agg cR.toArray,.int .i64 code]) (by simp [results,Tryz.results122,asAddr,hld]) rfl ?_;exact ⟨rfl,qbH HB0 FR⟩
theorem pquoQ {ca cb cR:List Value} {a b:Qn} {code:Int} (h1:ca=ratZ a.1 a.2) (h2:cb=ratZ b.1 b.2) (ha:VQ a) (hb:VQ b) (hp:0<b.1) (hR:cR=resR (Dl.quo2 a b)) (hc:code=resE (Dl.quo2 a b)) (w:World) :
  CB 122 #[.agg ca.toArray,.agg cb.toArray] (.tuple #[.agg cR.toArray,.int .i64 code]) w:=by
 have e1:=qnE ha.num hb.den;have e2:=qnE ha.den hb.num;have B1:(a.1*(b.2:Int)).natAbs<BB^32:=by rw [Int.natAbs_mul,Int.natAbs_natCast];exact b30 e1
 have B2:a.2*b.1.natAbs<BB^32:=b30 e2;have B3:a.2*b.1.natAbs≠0:=Nat.mul_ne_zero ha.pos (by omega);have h2':cb=rat false b.1.natAbs false b.2:=by rw [h2];unfold ratZ;rw [decide_eq_false (by omega)]
 obtain ⟨cN,hN⟩:=nqx (iZ (a.1*(b.2:Int)));obtain ⟨cD,hD⟩:=nqx (iZ ((a.2*b.1.natAbs:Nat):Int))
 obtain ⟨rn,rp,rm,rq,hcr⟩:∃ rn rp rm rq,cR=rat rn rp rm rq:=by
  rw [hR];cases Dl.quo2 a b with
  | none=>exact ⟨_,_,_,_,rfl⟩
  | some r=>exact ⟨_,_,_,_,rfl⟩
 exact jfI w h1 h2' hcr fun W=>jdM W h1 h2' (qgK h1 ha) (qgK h2 hb)
  (fun W=>jfK h1 h2' hN (by rw [hD];unfold iZ;rw [Int.natAbs_natCast,decide_eq_false (Int.not_lt.2 (Int.natCast_nonneg _))]) (by rw [Int.natAbs_mul,Int.natAbs_natCast]) rfl (by rw [qiS,Int.natAbs_mul,Int.natAbs_natCast,decide_eq_false (Int.not_lt.2 (Int.natCast_nonneg b.2))]) ha.num ha.den hb.num hb.den W)
  (fun W=>qxB hN hD hR hc B1 B2 B3 W) hcr
end Go.Proofs.YtemoddmadfoaiaaGreat
set_option maxHeartbeats 8000000
namespace Go.Proofs.YtemoddmadfoaiaaGreat
open Go.RowKit Big
open Lib (hid)
open Dl
theorem pofQ {cR:List Value} {x y:Int} {d:Nat} {code:Int} (hy:y=(d:Int)) (hd:d≠0) (hR:cR=resR (mkQ x d)) (hc:code=resE (mkQ x d)) (h1:-9223372036854775808≤x) (h2:x≤9223372036854775807) (h3:y≤9223372036854775807) (w:World) :
  CB 43 #[.int .i64 x,.int .i64 y] (.tuple #[.agg cR.toArray,.int .i64 code]) w:=by
 obtain ⟨rn,rp,rm,rq,hcR⟩:∃ rn rp rm rq,cR=rat rn rp rm rq:=by
  rw [hR]
  cases mkQ x d with
  | none=>exact ⟨_,_,_,_,rfl⟩
  | some r=>exact ⟨_,_,_,_,rfl⟩
 have V_cR:=hid hcR;obtain ⟨cz,V_cz⟩:=nvx (rat false 0 false 0);obtain ⟨cx,V_cx⟩:=nvx (iZ x);obtain ⟨cy,V_cy⟩:=nvx (iZ y);have e1:(9223372036854775809:Nat)≤BB^2:=by unfold BB;decide
 have e2:BB^2≤BB^32:=Nat.pow_le_pow_right qbF (by omega);have HX:=hid (qsG V_cx.out h1 h2);have HY:=hid (qsG V_cy.out (by omega) h3);have HM:=hid (qxB (D:=d) (cb:=cy) V_cx.out (by rw [V_cy.out,hy]) hR hc (by omega) (by omega) hd);clear hy hd hR hc h1 h2 h3 hcR e1 e2;obtain ⟨B0,w0,hw0,hB0,AB0,FR,FR0,HB0,hZB0⟩:=en1 w 27 (zQR V_cz);go_enter Tryz.func43,Tryz.ntmps43
 go_upto_region 1 with fail
 rw [←hw0,←hB0];clear hw0 hB0;refine wF [⟨false,0,4,7,B0,0,27,11,cR,0,cR,[]⟩] [(6,iT x),(7,aT cx),(8,iT y),(9,aT cy),(10,.tuple #[aT cR,iT code]),(11,aT cR),(12,iT code),(5,iT code)] (by simp only [zu];rfl) (by kernel_rfl) ?_ ?_ (fP1 bnC) ?_ uno ?_ ?_
 ·intro W' hW';refine fo3 ?_ ?_ ?_<|fxo (by go_big_quiet_step (exact qaA (HY.out _));exact wqn rfl)<|fxo (by go_big_quiet_step (exact qaA (HM.out _));exact wqn rfl)<|fo2 ?_ ?_<|fxs rfl<|fxo ?_<|fxn;all_goals (go_big_quiet_step (exact qaA (HX.out _));exact wqn rfl)
 ·intro W' hK';refine fxi ?_<|fxs (by kernel_rfl)<|fxi ?_<|fxs (by kernel_rfl)<|fxs (by kernel_rfl)<|fxi ?_<|fxi ?_<|fxs (by kernel_rfl)<|fxi ?_<|fxn;all_goals (first|(refine .inr ?_;go_big_quiet_step (fail);exact wqn rfl)|exact .inl (by kernel_rfl))
 ·exact fP1 (fun _=>rmh AB0 (qR V_cz.out) (qR V_cR.out) rfl)
 ·exact fP1 (sR V_cR (fun _=>rfl) rfl)
 intro β wx1 E;replace FR:=ffh FR E (by omega);replace AB0:=aoh E AB0 mms;simp only [nP,zu];go_wp2_with fail
 have hld:=rdR AB0 V_cR;refine bodyPost_ret (v:=.tuple #[.agg cR.toArray,.int .i64 code]) (by simp [results,Tryz.results43,asAddr,hld]) rfl ?_;exact ⟨rfl,qbH HB0 FR⟩
theorem jaO (k:Nat) (h:k<7):IntKind.i64.wrap (((10^k:Nat):Int)*10)=((10^(k+1):Nat):Int):=by
 have:k=0∨k=1∨k=2∨k=3∨k=4∨k=5∨k=6:=by omega
 rcases this with rfl|rfl|rfl|rfl|rfl|rfl|rfl<;>rfl
theorem quR (k:Nat) (hk:k≤7) (w:World) :
  CB 44 #[.int .i64 (k:Int)] (.int .i64 ((10^k:Nat):Int)) w:=by
 go_enter Tryz.func44,Tryz.ntmps44
 go_wp2
 go_loopg [3,5] k (fun m n i wr=>∃ (j:Nat),j≤k∧k - j≤m∧i=.int .i64 j∧n=.int .i64 ((10^j:Nat):Int)∧wr=w)
 case atStart=>exact ⟨0,by omega,by omega,rfl,rfl,rfl⟩
 case round =>
  obtain ⟨j,hj,hm,rfl,rfl,rfl⟩:=hrel;by_cases hlt:j<k
  ·have hst:=jaO j (by omega);obtain ⟨P,hP⟩:=nqx (((10^j:Nat):Int):Int);obtain ⟨P2,hP2⟩:=nqx (((10^(j+1):Nat):Int):Int);rw [←hP,←hP2] at hst;rw [←hP];have HP2:=hid hP2;clear hP hP2;go_wp2
   go_roundg (gk - 1)
   case measure=>omega
   case rel=>exact ⟨j+1,by omega,by omega,by go_num,by rw [←HP2.out],rfl⟩
  ·obtain rfl:j=k:=by omega
   obtain ⟨P,hP⟩:=nqx (((10^j:Nat):Int):Int);rw [←hP];have HP:=hid hP;clear hP;go_wp2
   go_ret
   exact ⟨by rw [←HP.out];rfl,Below.refl _ _⟩
def okPc (n m:Bool) (p q:Nat):Bool:=decide (p<B480∧q<B480∧n=cs1 n p∧m=false∧q≠0∧Nat.gcd p q=1)&&decide (0<zI n p)
theorem qjQ {cr:List Value} {n m:Bool} {p q:Nat} (h:cr=rat n p m q) (hp:p<BB^32) (hq:q<BB^32) (w:World) :
  CB 42 #[.agg cr.toArray] (.bool (okPc n m p q)) w:=by
 have V_cr:=hid h;obtain ⟨ok,hok⟩:=nqx (decide (p<B480∧q<B480∧n=cs1 n p∧m=false∧q≠0∧Nat.gcd p q=1));obtain ⟨s,hs⟩:=nqx (if ok=true then sgnI n p else 0);obtain ⟨code,hc⟩:=nqx (if ok=true then 0 else 20:Int);have HS:=hid (jaY h hok hs hc hp hq)
 have HR:=hid (show okPc n m p q=(decide (code=0)&&decide (0<s)) by
  unfold okPc;rw [←hok,hs,hc]
  cases ok with
  | false=>simp
  | true =>
   have:(0<sgnI n p)↔0<zI n p:=by
    unfold sgnI zI
    cases n<;>by_cases h0:p=0<;>simp [h0]<;>omega
   simp [this])
 have hcc:code=0∨code=20:=by rw [hc];cases ok<;>simp
 clear h hok hs hc hp hq;rw [HR.out];obtain ⟨B0,w0,hw0,hB0,AB0,FR,FR0,HB0,hZB0⟩:=en1 w 27 (bxq cr);go_enter Tryz.func42,Tryz.ntmps42
 go_upto_region 1 with fail
 rw [←hw0,←hB0];clear hw0 hB0;refine wE [(6,aT cr),(7,.tuple #[iT s,iT code]),(5,.tuple #[iT s,iT code]),(8,iT s),(9,iT code),(3,iT s),(4,iT code)] (by simp only [zu];rfl) (by kernel_rfl) ?_ ?_
 ·intro W' hW';refine lhR AB0 hW' V_cr rfl<|fo4 ?_ ?_ ?_ ?_<|fo2 ?_ ?_<|fxn;all_goals (go_big_quiet_step (exact qaA (HS.out _));exact wqn rfl)
 intro β wx1 E;replace FR:=fnf FR E rfl;simp only [nP,zu];rcases hcc with rfl|rfl
 ·by_cases h0:0<s
  ·go_wp2
   go_ret
   exact ⟨qaF (by simp [h0]),qbH HB0 FR⟩
  ·go_wp2
   go_ret
   exact ⟨qaF (by simp;omega),qbH HB0 FR⟩
 ·go_wp2
  go_ret
  exact ⟨qaF (by simp),qbH HB0 FR⟩
theorem qvJ {cr cR cz:List Value} {n m b:Bool} {p q:Nat} {z k T kc code:Int} {part:Qn} {rn rm:Bool} {rp rq:Nat} (h:cr=rat n p m q) (hb:b=okPc n m p q) (hp:p<BB^32) (hq:q<BB^32) (hcR:cR=rat rn rp rm rq) (hz:cz=rat false 0 false 0)
  (hcase:(b=false∧cR=cz∧code=261)∨(b=true∧(z<0∨6<z)∧cR=cz∧code=30)∨(b=true∧¬z<0∧¬6<z∧(k<0∨1000000000000000<k)∧cR=cz∧code=253) ∨
   (b=true∧¬z<0∧¬6<z∧¬k<0∧¬1000000000000000<k∧IntKind.i64.wrap (k*100)=kc∧(∀ W,CB 44 #[.int .i64 z] (.int .i64 T) W) ∧
    (∀ cq W,cq=ratZ part.1 part.2→CB 43 #[.int .i64 kc,.int .i64 T] (.tuple #[.agg cq.toArray,.int .i64 0]) W) ∧
    ∀ cq W,cq=ratZ part.1 part.2→CB 45 #[.agg cr.toArray,.agg cq.toArray] (.tuple #[.agg cR.toArray,.int .i64 code]) W)) (w:World) :
  CB 11 #[.agg cr.toArray,.int .i64 z,.int .i64 k] (.tuple #[.agg cR.toArray,.int .i64 code]) w:=by
 have V_cr:=hid h;have V_cR:=hid hcR;have V_cz:=hid hz;obtain ⟨cq,V_cq⟩:=nvx (rat (decide (part.1<0)) part.1.natAbs false part.2);have HPR:=hid (fun W=>(hb ▸ qjQ h hp hq W));have HCASE:=hid hcase;clear h hb hp hq hcR hz hcase;obtain ⟨B0,B1,w0,hw0,hB0,hB1,AB0,AB1,FR,FR0,HB0,hZB0,l01,hZB1⟩:=en2 w 27 27 (bxq cr) (zQR V_cz);go_enter Tryz.func11,Tryz.ntmps11
 go_upto_region 1 with fail
 rw [←hw0,←hB1,←hB0];clear hw0 hB0 hB1;refine wE [(11,aT cr),(12,.bool b),(13,.bool (!b)),(10,.bool (!b))] (by simp only [zu];rfl) (by kernel_rfl) ?_ ?_
 ·intro W' hW';refine lhR AB0 hW' V_cr rfl<|fo3 ?_ ?_ ?_<|fxn;all_goals (go_big_quiet_step (exact qaA (HPR.out _));exact wqn rfl)
 intro β wx1 E;replace FR:=fnf FR E rfl;replace AB0:=fnh AB0 E rfl;replace AB1:=fnh AB1 E rfl;simp only [nP,zu];replace FR0:=hid FR.out.le;rcases HCASE.out with ⟨rfl,rfl,rfl⟩|⟨rfl,h2,rfl,rfl⟩|⟨rfl,h2,h3,h4,rfl,rfl⟩|⟨rfl,h2,h3,h4,h5,wk,g1,g2,g3⟩
 ·replace V_cR:=V_cz;clear HCASE;go_upto_region 2 with fail
  refine wF [⟨false,0,6,1,B1,0,27,14,cR,0,cR,[]⟩] [(14,aT cR),(7,iT 261)] (by simp only [zu];rfl) (by kernel_rfl) ?_ ?_ (fP1 bnC) ?_ uno ?_ ?_
  ·intro W' hW';refine fxb (qbO V_cR.out) rfl<|fxs rfl<|fxo ?_<|fxn
   go_big_quiet_step (fail);exact wqn rfl
  ·intro W' hK';refine fxb (qbO V_cR.out) rfl<|fxs (by kernel_rfl)<|fxi ?_<|fxn
   first|(refine .inr ?_;go_big_quiet_step (fail);exact wqn rfl)|exact .inl (by kernel_rfl)
  ·exact fP1 (fun _=>rmh AB1 (qR V_cz.out) (qR V_cR.out) rfl)
  ·exact fP1 (sR V_cR (fun _=>rfl) rfl)
  intro β wx2 E;replace FR:=ffh FR E (by omega);replace AB1:=aoh E AB1 mms;simp only [nP,zu];go_wp2_with fail
  have hld:=rdR AB1 V_cR;refine bodyPost_ret (v:=.tuple #[.agg cR.toArray,.int .i64 261]) (by simp [results,Tryz.results11,asAddr,hld]) rfl ?_;exact ⟨rfl,qbH HB0 FR⟩
 ·replace V_cR:=V_cz;clear HCASE;by_cases h3:z<0
  ·clear h2;go_upto_region 4 with fail
   refine wF [⟨false,0,6,1,B1,0,27,22,cR,0,cR,[]⟩] [(22,aT cR),(7,iT 30)] (by simp only [zu];rfl) (by kernel_rfl) ?_ ?_ (fP1 bnC) ?_ uno ?_ ?_
   ·intro W' hW';refine fxb (qbO V_cR.out) rfl<|fxs rfl<|fxo ?_<|fxn
    go_big_quiet_step (fail);exact wqn rfl
   ·intro W' hK';refine fxb (qbO V_cR.out) rfl<|fxs (by kernel_rfl)<|fxi ?_<|fxn
    first|(refine .inr ?_;go_big_quiet_step (fail);exact wqn rfl)|exact .inl (by kernel_rfl)
   ·exact fP1 (fun _=>rmh AB1 (qR V_cz.out) (qR V_cR.out) rfl)
   ·exact fP1 (sR V_cR (fun _=>rfl) rfl)
   intro β wx2 E;replace FR:=ffh FR E (by omega);replace AB1:=aoh E AB1 mms;simp only [nP,zu];go_wp2_with fail
   have hld:=rdR AB1 V_cR;refine bodyPost_ret (v:=.tuple #[.agg cR.toArray,.int .i64 30]) (by simp [results,Tryz.results11,asAddr,hld]) rfl ?_;exact ⟨rfl,qbH HB0 FR⟩
  ·have h2:6<z:=by omega
   go_upto_region 4 with fail
   refine wF [⟨false,0,6,1,B1,0,27,22,cR,0,cR,[]⟩] [(22,aT cR),(7,iT 30)] (by simp only [zu];rfl) (by kernel_rfl) ?_ ?_ (fP1 bnC) ?_ uno ?_ ?_
   ·intro W' hW';refine fxb (qbO V_cR.out) rfl<|fxs rfl<|fxo ?_<|fxn
    go_big_quiet_step (fail);exact wqn rfl
   ·intro W' hK';refine fxb (qbO V_cR.out) rfl<|fxs (by kernel_rfl)<|fxi ?_<|fxn
    first|(refine .inr ?_;go_big_quiet_step (fail);exact wqn rfl)|exact .inl (by kernel_rfl)
   ·exact fP1 (fun _=>rmh AB1 (qR V_cz.out) (qR V_cR.out) rfl)
   ·exact fP1 (sR V_cR (fun _=>rfl) rfl)
   intro β wx2 E;replace FR:=ffh FR E (by omega);replace AB1:=aoh E AB1 mms;simp only [nP,zu];go_wp2_with fail
   have hld:=rdR AB1 V_cR;refine bodyPost_ret (v:=.tuple #[.agg cR.toArray,.int .i64 30]) (by simp [results,Tryz.results11,asAddr,hld]) rfl ?_;exact ⟨rfl,qbH HB0 FR⟩
 ·replace V_cR:=V_cz;clear HCASE;by_cases h5:k<0
  ·clear h4;go_upto_region 6 with fail
   refine wF [⟨false,0,6,1,B1,0,27,30,cR,0,cR,[]⟩] [(30,aT cR),(7,iT 253)] (by simp only [zu];rfl) (by kernel_rfl) ?_ ?_ (fP1 bnC) ?_ uno ?_ ?_
   ·intro W' hW';refine fxb (qbO V_cR.out) rfl<|fxs rfl<|fxo ?_<|fxn
    go_big_quiet_step (fail);exact wqn rfl
   ·intro W' hK';refine fxb (qbO V_cR.out) rfl<|fxs (by kernel_rfl)<|fxi ?_<|fxn
    first|(refine .inr ?_;go_big_quiet_step (fail);exact wqn rfl)|exact .inl (by kernel_rfl)
   ·exact fP1 (fun _=>rmh AB1 (qR V_cz.out) (qR V_cR.out) rfl)
   ·exact fP1 (sR V_cR (fun _=>rfl) rfl)
   intro β wx2 E;replace FR:=ffh FR E (by omega);replace AB1:=aoh E AB1 mms;simp only [nP,zu];go_wp2_with fail
   have hld:=rdR AB1 V_cR;refine bodyPost_ret (v:=.tuple #[.agg cR.toArray,.int .i64 253]) (by simp [results,Tryz.results11,asAddr,hld]) rfl ?_;exact ⟨rfl,qbH HB0 FR⟩
  ·have h4:1000000000000000<k:=by omega
   go_upto_region 6 with fail
   refine wF [⟨false,0,6,1,B1,0,27,30,cR,0,cR,[]⟩] [(30,aT cR),(7,iT 253)] (by simp only [zu];rfl) (by kernel_rfl) ?_ ?_ (fP1 bnC) ?_ uno ?_ ?_
   ·intro W' hW';refine fxb (qbO V_cR.out) rfl<|fxs rfl<|fxo ?_<|fxn
    go_big_quiet_step (fail);exact wqn rfl
   ·intro W' hK';refine fxb (qbO V_cR.out) rfl<|fxs (by kernel_rfl)<|fxi ?_<|fxn
    first|(refine .inr ?_;go_big_quiet_step (fail);exact wqn rfl)|exact .inl (by kernel_rfl)
   ·exact fP1 (fun _=>rmh AB1 (qR V_cz.out) (qR V_cR.out) rfl)
   ·exact fP1 (sR V_cR (fun _=>rfl) rfl)
   intro β wx2 E;replace FR:=ffh FR E (by omega);replace AB1:=aoh E AB1 mms;simp only [nP,zu];go_wp2_with fail
   have hld:=rdR AB1 V_cR;refine bodyPost_ret (v:=.tuple #[.agg cR.toArray,.int .i64 253]) (by simp [results,Tryz.results11,asAddr,hld]) rfl ?_;exact ⟨rfl,qbH HB0 FR⟩
 ·have HPW:=hid g1;have HOF:=hid (fun W=>g2 cq W V_cq.out);have HMU:=hid (fun W=>g3 cq W V_cq.out);clear g1 g2 g3 HCASE;go_upto_region 7 with fail
  refine wT [⟨true,8,8,9,0,0,27,37,cq,0,cq,[]⟩] [(32,iT k),(33,iT kc),(34,iT z),(35,iT T),(36,.tuple #[aT cq,iT 0]),(31,.tuple #[aT cq,iT 0]),(37,aT cq),(38,iT 0),(9,iT 0)] (by simp only [zu];rfl) (by kernel_rfl) rfl ?_ ?_ ?_ ?_
  ·intro W' hW';refine fo4 ?_ ?_ ?_ ?_<|fxo (by go_big_quiet_step (exact qaA (HOF.out _));exact wqn rfl)<|fo3 ?_ ?_ ?_<|fxs rfl<|fxs rfl<|fxo ?_<|fxn;all_goals (go_big_quiet_step (exact qaA (HPW.out _));exact wqn rfl)
  ·exact fP1 (Tryz.alR (qR V_cq.out))
  ·exact fP1 (sR V_cq (fun _=>rfl) rfl)
  intro β wx2 E;replace FR:=fnf FR E rfl;obtain ⟨b8,hb8,eb8⟩:=nwb E mms;have lB0_b8:B0<b8:=ltb AB0 eb8.1;have lB1_b8:B1<b8:=ltb AB1 eb8.1;have hZb8:B0≤b8:=Nat.le_trans FR0.out eb8.1;replace AB0:=fnh AB0 E rfl;replace AB1:=fnh AB1 E rfl;have Ab8:=hid eb8.2;simp only [nP,zu];rw [←hb8];clear E eb8 hb8;go_upto_region 8 with fail
  refine wF [⟨false,0,6,5,B1,0,27,42,cR,0,cR,[]⟩] [(39,aT cr),(40,aT cq),(41,.tuple #[aT cR,iT code]),(42,aT cR),(43,iT code),(7,iT code)] (by simp only [zu];rfl) (by kernel_rfl) ?_ ?_ (fP1 bnC) ?_ uno ?_ ?_
  ·intro W' hW';refine lhR AB0 hW' V_cr rfl<|lhR Ab8 hW' V_cq rfl<|fo3 ?_ ?_ ?_<|fxs rfl<|fxo ?_<|fxn;all_goals (go_big_quiet_step (exact qaA (HMU.out _));exact wqn rfl)
  ·intro W' hK';have rd0:=akh AB0 hK' (by omega);have rd1:=akh Ab8 hK' (by omega);refine ldR rd0 V_cr rfl<|ldR rd1 V_cq rfl<|fxs (by kernel_rfl)<|fxi ?_<|fxi ?_<|fxs (by kernel_rfl)<|fxi ?_<|fxn;all_goals (first|(refine .inr ?_;go_big_quiet_step (fail);exact wqn rfl)|exact .inl (by kernel_rfl))
  ·exact fP1 (fun _=>rmh AB1 (qR V_cz.out) (qR V_cR.out) rfl)
  ·exact fP1 (sR V_cR (fun _=>rfl) rfl)
  intro β wx3 E;replace FR:=ffh FR E (by omega);replace AB1:=aoh E AB1 mms;simp only [nP,zu];go_wp2_with fail
  have hld:=rdR AB1 V_cR;refine bodyPost_ret (v:=.tuple #[.agg cR.toArray,.int .i64 code]) (by simp [results,Tryz.results11,asAddr,hld]) rfl ?_;exact ⟨rfl,qbH HB0 FR⟩
theorem qnC {p:Qn} (hp:Pc p):okPc (decide (p.1<0)) false p.1.natAbs p.2=true:=by
 unfold okPc;rw [qmN,decide_eq_true hp.pos,Bool.and_true];exact decide_eq_true ⟨hp.vq.num,hp.vq.den,(jdI p.1).symm,rfl,hp.vq.pos,hp.vq.low⟩
theorem qrU {cp cR:List Value} {p:Qn} {pl:Nat} {z k code:Int} (h:cp=ratZ p.1 p.2) (hp:Pc p) (hz:z=(pl:Int)) (h6:pl≤6) (k0:0≤k) (k1:k≤1000000000000000) (hR:cR=resR (worthQ p pl k)) (hc:code=resE (worthQ p pl k)) (w:World) :
  CB 11 #[.agg cp.toArray,.int .i64 z,.int .i64 k] (.tuple #[.agg cR.toArray,.int .i64 code]) w:=by
 obtain ⟨pv,pe⟩:=qmB k0 k1 h6;have hps:=qpG k0 k1 h6
 obtain ⟨rn,rp,rm,rq,hcR⟩:∃ rn rp rm rq,cR=rat rn rp rm rq:=by
  rw [hR]
  cases worthQ p pl k with
  | none=>exact ⟨_,_,_,_,rfl⟩
  | some r=>exact ⟨_,_,_,_,rfl⟩
 have h10:10^pl≤10^6:=Nat.pow_le_pow_right (by omega) h6
 refine qvJ (cz:=rat false 0 false 0) (b:=true) (part:=partQ k pl) (T:=((10^pl:Nat):Int)) (kc:=k*100) (n:=decide (p.1<0)) (m:=false) (p:=p.1.natAbs) (q:=p.2) h (qnC hp).symm (qaL hp.vq.num) (qaL hp.vq.den) hcR rfl
  (.inr (.inr (.inr ⟨rfl,by omega,by omega,by omega,by omega,IntWalk.i64_in _ (by omega),fun W=>by rw [hz];exact quR pl (by omega) W,
   fun cq W e=>pofQ (d:=10^pl) rfl (Nat.ne_of_gt (Nat.pow_pos (by decide))) (by rw [hps];exact e) (by rw [hps];rfl) (by omega) (by omega) (by omega) W,fun cq W e=>pmulQ h e hp.vq pv hR hc W⟩))) w
end Go.Proofs.YtemoddmadfoaiaaGreat
namespace Go.Proofs.YtemoddmadfoaiaaGreat
open Go.RowKit Big Reg Al Ap Ga
theorem qxL (o:Od) (c:Int) (hc:c=if okA o=true then 0 else 230) (w:World):CB 86 #[.agg #[.string o.key,.string o.nom,.string o.hol,.string o.fund,.string o.cls,.int .i64 o.kind,.int .i64 o.amount,.int .i64 o.units,.int .i64 o.at_,.int .i64 o.known,.bool o.void]] (.int .i64 c) w:=by
 cases hv:o.void with
 | false=>have:=quG o c (by rw [hc];unfold okA;rw [hv];rfl) w hv;rwa [hv] at this
 | true=>have:=qqS o c (by rw [hc];unfold okA;rw [hv];rfl) w hv;rwa [hv] at this
end Go.Proofs.YtemoddmadfoaiaaGreat
