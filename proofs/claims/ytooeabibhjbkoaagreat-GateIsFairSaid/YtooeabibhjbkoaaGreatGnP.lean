import Derived.Test.YtooeabibhjbkoaaGreatGeD
import Derived.Laws.Strings
import Derived.Test.YtooeabibhjbkoaaGreatGmA
set_option linter.unusedVariables false
set_option linter.unusedSimpArgs false
namespace Go.Proofs.YtooeabibhjbkoaaGreat
open Go.RowKit Big Reg Al Ap Ga
theorem mkQ_some {N:Int} {D:Nat} (h1:N.natAbs<B480) (h2:D<B480):∃ r,mkQ N D=some r:=by
 unfold mkQ
 rw [if_pos ⟨Nat.lt_of_le_of_lt (Nat.div_le_self _ _) h1,Nat.lt_of_le_of_lt (Nat.div_le_self _ _) h2⟩]
 exact ⟨_,rfl⟩
theorem b480_big:(1000000000000000000000000000000000:Nat)<B480:=by unfold B480 BB;decide
theorem vq_int {z:Int} (h:z.natAbs<1000000000000000000000000000000000):VQ (z,1):=⟨Nat.lt_trans h b480_big,Nat.lt_trans (show (1:Nat)<_ by decide) b480_big,Nat.one_ne_zero,by show Nat.gcd z.natAbs 1=1;simp⟩
end Go.Proofs.YtooeabibhjbkoaaGreat
namespace Go.Proofs.YtooeabibhjbkoaaGreat
open Go.RowKit Big Reg Al Ap Ga
theorem low_of {N:Int} {D:Nat} (h:D≠0):(N.sign*(N.natAbs / Nat.gcd N.natAbs D:Nat))*(D:Int)=N*(D / Nat.gcd N.natAbs D:Nat)∧Nat.gcd (N.sign*(N.natAbs / Nat.gcd N.natAbs D:Nat)).natAbs (D / Nat.gcd N.natAbs D)=1∧D / Nat.gcd N.natAbs D≠0:=by
 have hg:=gcd_pos_of (N:=N) h
 have hs:=(sign_abs N (N.natAbs / Nat.gcd N.natAbs D) (fun h0=>by subst h0;simp)).1
 refine ⟨?_,?_,?_⟩
 ·obtain ⟨a,ha⟩:=Nat.gcd_dvd_left N.natAbs D
  obtain ⟨d,hd⟩:=Nat.gcd_dvd_right N.natAbs D
  generalize Nat.gcd N.natAbs D=g at *
  have e1:N.natAbs / g=a:=by rw [ha,Nat.mul_div_cancel_left _ hg]
  have e2:D / g=d:=by rw [hd,Nat.mul_div_cancel_left _ hg]
  rw [e1,e2]
  have e3:N=N.sign*((g*a:Nat):Int):=by rw [←ha];exact (Int.sign_mul_natAbs N).symm
  have e4:(D:Int)=(g:Int)*d:=by rw [←Int.natCast_mul,←hd]
  rw [e4]
  conv=>rhs;rw [e3]
  rw [Int.natCast_mul]
  generalize N.sign=s
  grind
 ·rw [hs,Nat.gcd_div (Nat.gcd_dvd_left _ _) (Nat.gcd_dvd_right _ _),Nat.div_self hg]
 ·have:=Nat.div_pos (Nat.le_of_dvd (by omega) (Nat.gcd_dvd_right N.natAbs D)) hg
  omega
theorem mkQ_val {N:Int} {D:Nat} (h:D≠0) {r:Qn} (hr:mkQ N D=some r):r.1*(D:Int)=N*(r.2:Int)∧r.1.natAbs≤N.natAbs∧r.2≤D:=by
 have hl:=low_of (N:=N) h
 have hs:=(sign_abs N (N.natAbs / Nat.gcd N.natAbs D) (fun h0=>by subst h0;simp)).1
 unfold mkQ at hr
 split at hr
 ·injection hr with hr
  subst hr
  refine ⟨hl.1,?_,Nat.div_le_self _ _⟩
  show (N.sign*(N.natAbs / Nat.gcd N.natAbs D:Nat)).natAbs≤_
  rw [hs];exact Nat.div_le_self _ _
 ·cases hr
namespace Ga
theorem ratZ_nat (p q:Nat):ratZ (p:Int) q=rat false p false q:=by
 unfold ratZ
 rw [decide_eq_false (by omega),Int.natAbs_natCast]
theorem gate_made {k:Int} (h1:1≤k) (h2:k≤100):∃ p q:Nat,mkQ k 100=some ((p:Int),q)∧gtB false false p q=true∧p≤100∧q≤100∧q≠0∧(p:Int)*100=k*(q:Int):=by
 have hb:=b480_big
 obtain ⟨r,hr⟩:=mkQ_some (N:=k) (D:=100) (by omega) (by omega)
 have hv:=mkQ_valid (by decide) hr
 obtain ⟨e1,e2,e3⟩:=mkQ_val (by decide) hr
 have hq:(0:Int)<(r.2:Int):=by have:=hv.pos;omega
 have hpos:0<r.1:=by
  have h3:0<r.1*((100:Nat):Int):=by rw [e1];exact Int.mul_pos (by omega) hq
  omega
 have hle:k*(r.2:Int)≤100*(r.2:Int):=Int.mul_le_mul_of_nonneg_right h2 (by omega)
 obtain ⟨p,hp⟩:∃ p:Nat,r.1=(p:Int):=⟨r.1.toNat,by omega⟩
 refine ⟨p,r.2,by rw [hr,←hp],?_,by omega,e3,hv.pos,by rw [←hp];exact e1⟩
 have hn:=hv.num
 have hl:=hv.low
 rw [hp,Int.natAbs_natCast] at hn hl
 have hz:=hv.pos
 have hd:=hv.den
 unfold gtB
 rw [decide_eq_true ⟨hn,hd,by unfold cs1;simp,rfl,hz,hl⟩,decide_eq_true ⟨rfl,by omega,by omega⟩]
 rfl
theorem mul_made {p q:Nat} {net:Int} (hp:p≤100) (hq:q≤100) (hn:net.natAbs≤1000000000000000):∃ r,mulQ ((p:Int),q) (net,1)=some r:=by
 have hb:=b480_big
 refine mkQ_some ?_ ?_
 ·show ((p:Int)*net).natAbs<B480
  rw [Int.natAbs_mul,Int.natAbs_natCast]
  have:p*net.natAbs≤100*1000000000000000:=Nat.mul_le_mul hp hn
  omega
 ·show q*1<B480
  omega
theorem allowE_made {net:Int} {p q:Nat} {l:List Rq} (hg:gtB false false p q=true) (hp:p≤100) (hq:q≤100) (hn:net.natAbs≤1000000000000000) (hl:checkQ l=true):allowE net false false p q l=if l.length=0 then some 0 else none:=by
 obtain ⟨r,hr⟩:=mul_made hp hq hn
 unfold allowE
 rw [if_neg (by omega),hg,if_neg (by decide),hl,if_neg (by decide),hr,if_neg (by simp)]
theorem scI_eq {x:Rq} {p:Nat} (hv:0<x.value) (hu:0≤x.units):scI x p=((x.units.toNat*p / x.value.toNat:Nat):Int):=by
 unfold scI
 split
 ·rename_i h
  have:p=x.value.toNat:=by omega
  rw [this,Nat.mul_div_cancel _ (by omega)]
  omega
 ·rfl
theorem share_near {u v p q:Nat} (hv:0<v) (h:p≤q+1):u*p / v*v<u*q / v*v+u+v:=by
 have h1:u*p≤u*q+u:=by have:=Nat.mul_le_mul_left u h;rwa [Nat.mul_succ] at this
 have h2:=Nat.div_mul_le_self (u*p) v
 have h3:u*q<u*q / v*v+v:=by have h4:=Nat.div_add_mod' (u*q) v;have h5:=Nat.mod_lt (u*q) hv;omega
 omega
theorem valsN_at {l:List Rq} {i:Nat} {x:Rq} (h:l[i]?=some x):(valsN l).getD i 0=x.value.toNat:=by simp [valsN,List.getD,h]
theorem outs_at {r:Int} {l:List Rq} {outs:List Int} (h:Outs r l outs):outs.length=l.length∧∃ ps,CapsP r.toNat (valsN l) ps∧ps.length=l.length∧∀ i x,l[i]?=some x→outs[i]?=some (scI x (ps.getD i 0)):=by
 obtain ⟨ps,hc,rfl⟩:=h
 have hl:ps.length=l.length:=by rw [hc.1];simp [valsN]
 refine ⟨by rw [scaleL,List.length_zipWith,hl,Nat.min_self],ps,hc,hl,fun i x hx=>?_⟩
 have hi:i<ps.length:=by rw [hl];exact (List.getElem?_eq_some_iff.1 hx).1
 rw [scaleL,List.getElem?_zipWith,hx,List.getElem?_eq_getElem hi]
 simp [List.getD,hi]
theorem fair_pair {r:Int} {l:List Rq} {outs:List Int} (h:Outs r l outs) {i j:Nat} {x y:Rq} {a b:Int} (hi:l[i]?=some x) (hj:l[j]?=some y) (hu:x.units=y.units) (hv:x.value=y.value) (h0:0<x.value) (h1:1≤x.units) (ha:outs[i]?=some a) (hb:outs[j]?=some b) :
  max (a - b) (b - a)*x.value<x.units+x.value∧0≤a∧a≤x.units∧0≤b∧b≤x.units:=by
 obtain ⟨_,ps,hc,hl,hat⟩:=outs_at h
 rw [hat i x hi] at ha
 rw [hat j y hj] at hb
 injection ha with ha
 injection hb with hb
 have il:i<(valsN l).length:=by rw [valsN,List.length_map];exact (List.getElem?_eq_some_iff.1 hi).1
 have jl:j<(valsN l).length:=by rw [valsN,List.length_map];exact (List.getElem?_eq_some_iff.1 hj).1
 have ew:(valsN l).getD i 0=(valsN l).getD j 0:=by rw [valsN_at hi,valsN_at hj,hv]
 have hn:ps.getD i 0≤ps.getD j 0+1∧ps.getD j 0≤ps.getD i 0+1:=by
  rcases hc.2 with ⟨_,e⟩|⟨h2,h3⟩
  ·rw [e,ew];omega
  ·exact ⟨parts_equal (by omega) h3 il jl ew,parts_equal (by omega) h3 jl il ew.symm⟩
 have ci:=caps_le hc il
 have cj:=caps_le hc jl
 rw [valsN_at hi] at ci
 rw [valsN_at hj,←hv] at cj
 rw [scI_eq h0 (by omega)] at ha
 rw [scI_eq (by omega) (by omega),←hu,←hv] at hb
 obtain ⟨u,hu'⟩:∃ u:Nat,x.units=(u:Int):=⟨x.units.toNat,by omega⟩
 obtain ⟨v,hv'⟩:∃ v:Nat,x.value=(v:Int):=⟨x.value.toNat,by omega⟩
 rw [hu',hv',Int.toNat_natCast,Int.toNat_natCast] at ha hb
 rw [hv',Int.toNat_natCast] at ci cj
 rw [hu',hv']
 have hv0:0<v:=by omega
 have s1:=share_near (u:=u) hv0 hn.1
 have s2:=share_near (u:=u) hv0 hn.2
 have b1:u*ps.getD i 0 / v≤u:=Nat.div_le_of_le_mul (by rw [Nat.mul_comm v u];exact Nat.mul_le_mul_left _ ci)
 have b2:u*ps.getD j 0 / v≤u:=Nat.div_le_of_le_mul (by rw [Nat.mul_comm v u];exact Nat.mul_le_mul_left _ cj)
 obtain ⟨A,hA⟩:∃ A,A=u*ps.getD i 0 / v:=⟨_,rfl⟩
 obtain ⟨B,hB⟩:∃ B,B=u*ps.getD j 0 / v:=⟨_,rfl⟩
 rw [←hA] at s1 s2 b1 ha
 rw [←hB] at s1 s2 b2 hb
 refine ⟨?_,by omega,by omega,by omega,by omega⟩
 have t1:(A:Int)*v<(B:Int)*v+u+v:=by exact_mod_cast s1
 have t2:(B:Int)*v<(A:Int)*v+u+v:=by exact_mod_cast s2
 rw [←ha,←hb]
 by_cases hAB:(A:Int)≤B
 ·rw [show max ((A:Int) - B) (B - A)=B - A by omega,Int.sub_mul];omega
 ·rw [show max ((A:Int) - B) (B - A)=A - B by omega,Int.sub_mul];omega
theorem fair_less {u v d:Int} (hv:0<v) {Q S:Qn} (h1:mkQ u v.toNat=some Q) (h2:addQ Q (1,1)=some S) (hd:d*v<u+v):decide (S.1*(((1:Nat):Nat):Int)<d*(S.2:Int))=false:=by
 have hv0:v.toNat≠0:=by omega
 have vQ:=mkQ_valid hv0 h1
 obtain ⟨e1,_,_⟩:=mkQ_val hv0 h1
 unfold addQ at h2
 have hq:(0:Int)<(Q.2:Int):=by have:=vQ.pos;omega
 have hD:Q.2*1≠0:=by have:=vQ.pos;omega
 have vS:=mkQ_valid hD h2
 obtain ⟨e2,_,_⟩:=mkQ_val hD h2
 have hs:(0:Int)<(S.2:Int):=by have:=vS.pos;omega
 unfold addN at e2
 simp only [Nat.mul_one,Int.natCast_one,Int.mul_one,Int.one_mul] at e2
 rw [Int.toNat_of_nonneg (by omega)] at e1
 rw [decide_eq_false_iff_not,Int.natCast_one,Int.mul_one]
 intro hlt
 have k1:S.1*v*(Q.2:Int)=(u+v)*(S.2:Int)*(Q.2:Int):=by
  have:S.1*v*(Q.2:Int)=S.1*(Q.2:Int)*v:=by rw [Int.mul_assoc,Int.mul_comm v,←Int.mul_assoc]
  rw [this,e2]
  have:(Q.1+(Q.2:Int))*(S.2:Int)*v=(Q.1*v+(Q.2:Int)*v)*(S.2:Int):=by grind
  rw [this,e1]
  grind
 have k2:S.1*v=(u+v)*(S.2:Int):=Int.eq_of_mul_eq_mul_right (by omega) k1
 have k3:S.1*v<d*(S.2:Int)*v:=Int.mul_lt_mul_of_pos_right hlt hv
 have k4:d*(S.2:Int)*v=d*v*(S.2:Int):=by rw [Int.mul_assoc,Int.mul_comm _ v,←Int.mul_assoc]
 rw [k4,k2] at k3
 have k5:=Int.lt_of_mul_lt_mul_right k3 (by omega)
 omega
end Ga
end Go.Proofs.YtooeabibhjbkoaaGreat
