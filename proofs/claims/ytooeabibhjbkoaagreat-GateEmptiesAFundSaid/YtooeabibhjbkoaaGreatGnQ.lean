import Derived.Test.YtooeabibhjbkoaaGreatGeF
import Derived.Test.YtooeabibhjbkoaaGreatGmA
set_option linter.unusedVariables false
set_option linter.unusedSimpArgs false
namespace Go.Proofs.YtooeabibhjbkoaaGreat
open Go.RowKit Big Reg Al Ap Ga
theorem low_of {N:Int} {D:Nat} (h:D≠0):(N.sign*(N.natAbs / Nat.gcd N.natAbs D:Nat))*(D:Int)=N*(D / Nat.gcd N.natAbs D:Nat)∧Nat.gcd (N.sign*(N.natAbs / Nat.gcd N.natAbs D:Nat)).natAbs (D / Nat.gcd N.natAbs D)=1∧D / Nat.gcd N.natAbs D≠0:=by
 have hg:=gcd_pos_of (N:=N) h
 have hs:=(sign_abs N (N.natAbs / Nat.gcd N.natAbs D) (fun h0=>by subst h0;simp)).1
 refine ⟨?_,?_,?_⟩
 ·obtain ⟨a,ha⟩:=Nat.gcd_dvd_left N.natAbs D
  obtain ⟨d,hd⟩:=Nat.gcd_dvd_right N.natAbs D
  generalize Nat.gcd N.natAbs D=g at *
  have e1:N.natAbs / g=a:=by rw [ha,Nat.mul_div_cancel_left _ hg]
  have e2:D / g=d:=by rw [hd,Nat.mul_div_cancel_left _ hg]
  rw [e1,e2]
  have e3:N=N.sign*((g*a:Nat):Int):=by rw [←ha];exact (Int.sign_mul_natAbs N).symm
  have e4:(D:Int)=(g:Int)*d:=by rw [←Int.natCast_mul,←hd]
  rw [e4]
  conv=>rhs;rw [e3]
  rw [Int.natCast_mul]
  generalize N.sign=s
  grind
 ·rw [hs,Nat.gcd_div (Nat.gcd_dvd_left _ _) (Nat.gcd_dvd_right _ _),Nat.div_self hg]
 ·have:=Nat.div_pos (Nat.le_of_dvd (by omega) (Nat.gcd_dvd_right N.natAbs D)) hg
  omega
theorem mkQ_val {N:Int} {D:Nat} (h:D≠0) {r:Qn} (hr:mkQ N D=some r):r.1*(D:Int)=N*(r.2:Int)∧r.1.natAbs≤N.natAbs∧r.2≤D:=by
 have hl:=low_of (N:=N) h
 have hs:=(sign_abs N (N.natAbs / Nat.gcd N.natAbs D) (fun h0=>by subst h0;simp)).1
 unfold mkQ at hr
 split at hr
 ·injection hr with hr
  subst hr
  refine ⟨hl.1,?_,Nat.div_le_self _ _⟩
  show (N.sign*(N.natAbs / Nat.gcd N.natAbs D:Nat)).natAbs≤_
  rw [hs];exact Nat.div_le_self _ _
 ·cases hr
namespace Ga
theorem ratZ_nat (p q:Nat):ratZ (p:Int) q=rat false p false q:=by
 unfold ratZ
 rw [decide_eq_false (by omega),Int.natAbs_natCast]
theorem gate_made {k:Int} (h1:1≤k) (h2:k≤100):∃ p q:Nat,mkQ k 100=some ((p:Int),q)∧gtB false false p q=true∧p≤100∧q≤100∧q≠0∧(p:Int)*100=k*(q:Int):=by
 have hb:=b480_big
 obtain ⟨r,hr⟩:=mkQ_some (N:=k) (D:=100) (by omega) (by omega)
 have hv:=mkQ_valid (by decide) hr
 obtain ⟨e1,e2,e3⟩:=mkQ_val (by decide) hr
 have hq:(0:Int)<(r.2:Int):=by have:=hv.pos;omega
 have hpos:0<r.1:=by
  have h3:0<r.1*((100:Nat):Int):=by rw [e1];exact Int.mul_pos (by omega) hq
  omega
 have hle:k*(r.2:Int)≤100*(r.2:Int):=Int.mul_le_mul_of_nonneg_right h2 (by omega)
 obtain ⟨p,hp⟩:∃ p:Nat,r.1=(p:Int):=⟨r.1.toNat,by omega⟩
 refine ⟨p,r.2,by rw [hr,←hp],?_,by omega,e3,hv.pos,by rw [←hp];exact e1⟩
 have hn:=hv.num
 have hl:=hv.low
 rw [hp,Int.natAbs_natCast] at hn hl
 have hz:=hv.pos
 have hd:=hv.den
 unfold gtB
 rw [decide_eq_true ⟨hn,hd,by unfold cs1;simp,rfl,hz,hl⟩,decide_eq_true ⟨rfl,by omega,by omega⟩]
 rfl
theorem mul_made {p q:Nat} {net:Int} (hp:p≤100) (hq:q≤100) (hn:net.natAbs≤1000000000000000):∃ r,mulQ ((p:Int),q) (net,1)=some r:=by
 have hb:=b480_big
 refine mkQ_some ?_ ?_
 ·show ((p:Int)*net).natAbs<B480
  rw [Int.natAbs_mul,Int.natAbs_natCast]
  have:p*net.natAbs≤100*1000000000000000:=Nat.mul_le_mul hp hn
  omega
 ·show q*1<B480
  omega
theorem allowE_made {net:Int} {p q:Nat} {l:List Rq} (hg:gtB false false p q=true) (hp:p≤100) (hq:q≤100) (hn:net.natAbs≤1000000000000000) (hl:checkQ l=true):allowE net false false p q l=if l.length=0 then some 0 else none:=by
 obtain ⟨r,hr⟩:=mul_made hp hq hn
 unfold allowE
 rw [if_neg (by omega),hg,if_neg (by decide),hl,if_neg (by decide),hr,if_neg (by simp)]
theorem scI_eq {x:Rq} {p:Nat} (hv:0<x.value) (hu:0≤x.units):scI x p=((x.units.toNat*p / x.value.toNat:Nat):Int):=by
 unfold scI
 split
 ·rename_i h
  have:p=x.value.toNat:=by omega
  rw [this,Nat.mul_div_cancel _ (by omega)]
  omega
 ·rfl
theorem outs_at {r:Int} {l:List Rq} {outs:List Int} (h:Outs r l outs):outs.length=l.length∧∃ ps,CapsP r.toNat (valsN l) ps∧ps.length=l.length∧∀ i x,l[i]?=some x→outs[i]?=some (scI x (ps.getD i 0)):=by
 obtain ⟨ps,hc,rfl⟩:=h
 have hl:ps.length=l.length:=by rw [hc.1];simp [valsN]
 refine ⟨by rw [scaleL,List.length_zipWith,hl,Nat.min_self],ps,hc,hl,fun i x hx=>?_⟩
 have hi:i<ps.length:=by rw [hl];exact (List.getElem?_eq_some_iff.1 hx).1
 rw [scaleL,List.getElem?_zipWith,hx,List.getElem?_eq_getElem hi]
 simp [List.getD,hi]
end Ga
end Go.Proofs.YtooeabibhjbkoaaGreat
namespace Go.Proofs.YtooeabibhjbkoaaGreat
open Go.RowKit Big Reg Al Ap Ga
namespace Ga
end Ga
end Go.Proofs.YtooeabibhjbkoaaGreat
