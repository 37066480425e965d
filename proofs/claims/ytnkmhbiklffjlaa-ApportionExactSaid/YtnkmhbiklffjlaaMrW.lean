import Derived.Test.YtnkmhbiklffjlaaMrU
import Derived.Deep.CutRange
import Derived.Deep.CutBlock
set_option linter.unusedVariables false
set_option linter.unusedSimpArgs false
set_option maxRecDepth 100000
set_option maxHeartbeats 4000000
namespace Go.Proofs.Ytnkmhbiklffjlaa
open Go.RowKit Ap
open Lib (hid)
def CutAt (R:Nat→Nat→Prop) (A Q:List Nat) (i j:Nat):Prop:=(∀ x∈A.take i,∀ y∈Q.drop j,R x y)∧(∀ x∈Q.take j,∀ y∈A.drop i,R x y)
theorem cut_end {f:Nat→Nat} {A Q:List Nat} (hA:A.Pairwise (R f)) (hQ:Q.Pairwise (R f)) {a m mid lo hi s:Nat} (hm:a+A.length=m) (hlo:lo=a∨mid=lo+Q.length) (hhi:hi=m∨hi=mid) (h1:lo≤s) (h2:s≤hi) (h3:a≤lo) (h4:hi≤mid) (h5:hi≤m)
  (c1:s=lo∨∃ x y,A[s - 1 - a]?=some x∧Q[mid - s]?=some y∧R f x y) (c2:s=hi∨∃ x y,A[s - a]?=some x∧Q[mid - 1 - s]?=some y∧R f y x):CutAt (R f) A Q (s - a) (mid - s):=by
 have tr:∀ a b c,R f a b→R f b c→R f a c:=fun _ _ _ h1 h2=>R.trans h1 h2
 constructor
 ·refine Mr.cut_le tr hA hQ ?_
  rcases c1 with c1|⟨x,y,e1,e2,e3⟩
  ·rcases hlo with h|h
   ·left;omega
   ·right;left;omega
  ·right;right
   exact ⟨x,y,by rw [show s - a - 1=s - 1 - a by omega];exact e1,e2,e3⟩
 ·refine Mr.cut_le tr hQ hA ?_
  rcases c2 with c2|⟨x,y,e1,e2,e3⟩
  ·rcases hhi with h|h
   ·right;left;omega
   ·left;omega
  ·right;right
   exact ⟨y,x,by rw [show mid - s - 1=mid - 1 - s by omega];exact e2,e1,e3⟩
def SymOK (d off n cap B:Nat) (rs:List Nat) (N:Nat):Prop :=
 ∀ (a m b:Nat) (P A Q T:List Nat) (w:World),A.length+Q.length≤N→Row w d off ((P++A++Q++T).map Int.ofNat)→d<w.heap.size→Cmp w B d rs→(P++A++Q++T).length=n→P.length=a→a+A.length=m→m+Q.length=b→0<A.length→0<Q.length →
  A.Pairwise (R (rs.getD · 0))→Q.Pairwise (R (rs.getD · 0))→(∀ x∈A,∀ y∈Q,x<y)→(∀ x∈A,x<rs.length)→(∀ y∈Q,y<rs.length) →
  Calls Try.prog 70 #[.slice (some ⟨d,off,none⟩) n cap,.int .i64 a,.int .i64 m,.int .i64 b,.func (.func 42) #[] #[.pointer (some ⟨B,0,none⟩)]] w fun e w' =>
   e=.returned (.tuple #[])∧w.grownBy w' (some d)∧∃ C:List Nat,C.Perm (A++Q)∧C.Pairwise (R (rs.getD · 0))∧Row w' d off ((P++C++T).map Int.ofNat)
theorem sm_step (d off n cap B N:Nat) (rs:List Nat) (IH:SymOK d off n cap B rs N) (hn:n≤1000000) (a m b:Nat) (P A Q T:List Nat) (w:World) (hN:A.length+Q.length≤N+1) (hrow:Row w d off ((P++A++Q++T).map Int.ofNat)) (hd:d<w.heap.size) (hc:Cmp w B d rs) (hL:(P++A++Q++T).length=n)
  (ha:P.length=a) (hm:a+A.length=m) (hb:m+Q.length=b) (hA2:2≤A.length) (hQ2:2≤Q.length) (hA:A.Pairwise (R (rs.getD · 0))) (hQ:Q.Pairwise (R (rs.getD · 0))) (hlt:∀ x∈A,∀ y∈Q,x<y) (hAl:∀ x∈A,x<rs.length) (hQl:∀ y∈Q,y<rs.length) :
  Calls Try.prog 70 #[.slice (some ⟨d,off,none⟩) n cap,.int .i64 a,.int .i64 m,.int .i64 b,.func (.func 42) #[] #[.pointer (some ⟨B,0,none⟩)]] w fun e w' =>
   e=.returned (.tuple #[])∧w.grownBy w' (some d)∧∃ C:List Nat,C.Perm (A++Q)∧C.Pairwise (R (rs.getD · 0))∧Row w' d off ((P++C++T).map Int.ofNat):=by
 have hbn:b≤n:=by simp only [List.length_append] at hL;omega
 have w1:IntKind.i64.wrap ((m:Int) - (a:Int))=(A.length:Int):=by rw [IntWalk.i64_in _ (by omega)];omega
 have w2:IntKind.i64.wrap ((b:Int) - (m:Int))=(Q.length:Int):=by rw [IntWalk.i64_in _ (by omega)];omega
 obtain ⟨al,hal⟩:∃ al,al=A.length:=⟨_,rfl⟩
 obtain ⟨ql,hql⟩:∃ ql,ql=Q.length:=⟨_,rfl⟩
 rw [←hal] at w1 hA2 hm hN
 rw [←hql] at w2 hQ2 hb hN
 have q1:((al:Int)==1)=false:=beq_eq_false_iff_ne.2 (by omega)
 have q2:decide ((al:Int)=1)=false:=decide_eq_false (by omega)
 have q3:((ql:Int)==1)=false:=beq_eq_false_iff_ne.2 (by omega)
 have q4:decide ((ql:Int)=1)=false:=decide_eq_false (by omega)
 obtain ⟨mid,hmid⟩:∃ mid,mid=(a+b) / 2:=⟨_,rfl⟩
 have w3:((a:Int)+(b:Int)) / 2=(mid:Int):=by omega
 obtain ⟨nn,hnn⟩:∃ nn,nn=mid+m:=⟨_,rfl⟩
 have w4:(mid:Int)+(m:Int)=(nn:Int):=by omega
 have HM:=hid (And.intro hmid hnn)
 have HL:=hid (And.intro hL (And.intro ha (And.intro hm (And.intro hb (And.intro hal hql)))))
 have HS:=hid (And.intro hA (And.intro hQ (And.intro hlt (And.intro hAl hQl))))
 have HR:=hid (And.intro hrow (And.intro hd hc))
 have HI:=hid (And.intro IH hN)
 have hab:a≤b:=by omega
 have hmb:m≤b:=by omega
 have hmb2:mid≤b:=by omega
 have hnb2:nn≤2*b:=by omega
 clear hrow hd hc hL ha hm hb hA hQ hlt hAl hQl IH hN hal hql hmid hnn
 go_enter Try.func70,Try.ntmps70
 go_upto_if 140 with fail
 go_cut [20,21] from 140 to 147 (fun s r wx=>∃ lo hi:Nat,s=.int .i64 lo∧r=.int .i64 hi∧w=wx∧((mid<m∧lo+b=nn∧hi=mid)∨(m≤mid∧lo=a∧hi=m)))
 case first =>
  by_cases hmm:mid<m
  ·have w5:(nn:Int) - (b:Int)=((nn - b:Nat):Int):=by have:=HM.out;have:=HL.out;omega
   go_wp2
   go_meet
   exact ⟨nn - b,mid,by first|rfl|exact congrArg (Value.int .i64) w5,rfl,rfl,.inl ⟨hmm,by have:=HM.out;have:=HL.out;omega,rfl⟩⟩
  ·go_wp2
   go_meet
   exact ⟨a,m,rfl,rfl,rfl,.inr ⟨by omega,rfl,rfl⟩⟩
 case rest =>
  obtain ⟨lo,hi,rfl,rfl,rfl,hlh⟩:=hcut
  have hw:(nn:Int) - 1=((nn - 1:Nat):Int):=by have:=HM.out;have:=HL.out;omega
  have hfacts:a≤lo∧lo≤hi∧hi≤mid∧hi≤m∧mid≤lo+ql∧(lo=a∨mid=lo+ql)∧(hi=m∨hi=mid)∧1≤nn:=by have:=HM.out;have:=HL.out;omega
  obtain ⟨pp,hpp⟩:∃ pp,pp=nn - 1:=⟨_,rfl⟩
  rw [←hpp] at hw
  have HF:=hid (And.intro hfacts (And.intro hpp hlh))
  clear w1 w2 w3 w4 q1 q2 q3 q4 hlh hfacts hpp
  have hppb:pp≤2*b:=by have:=HF.out;omega
  go_wp2
  clear hw
  go_loopg [20,21,23] (hi - lo) (fun g sv rv cv wr=>∃ (s r:Nat),sv=.int .i64 s∧rv=.int .i64 r∧lo≤s∧s≤r∧r≤hi∧r≤g+s∧(s=lo∨∃ x y,A[s - 1 - a]?=some x∧Q[mid - s]?=some y∧R (rs.getD · 0) x y)∧(r=hi∨∃ x y,A[r - a]?=some x∧Q[mid - 1 - r]?=some y∧R (rs.getD · 0) y x)∧Row wr d off ((P++A++Q++T).map Int.ofNat)∧w.grownBy wr (some d))
  case atStart=>exact ⟨lo,hi,rfl,rfl,Nat.le_refl _,HF.out.1.2.1,Nat.le_refl _,by omega,.inl rfl,.inl rfl,HR.out.1,grownBy_refl _ _⟩
  case round =>
   obtain ⟨s,r,rfl,rfl,hls,hsr,hrh,hg,h1,h2,hrw,hgr⟩:=hrel
   have hwd:d<wr.heap.size:=by have:=hgr.size;have:=HR.out.2.1;omega
   have HC:=hid (And.intro h1 (And.intro h2 (And.intro hrw hgr)))
   clear h1 h2 hrw hgr
   have hrb:r≤b:=by have:=HF.out;omega
   by_cases hlt:s<r
   ·obtain ⟨c,hce⟩:∃ c,c=(s+r) / 2:=⟨_,rfl⟩
    have hcb:s≤c∧c<r:=by omega
    have hfx:a≤c∧c<m∧c<mid∧mid - 1 - c<ql∧c - a<al:=by have:=HF.out;have:=HL.out;omega
    obtain ⟨x,hx⟩:∃ x,A[c - a]?=some x:=⟨A[c - a]'(by have:=HL.out;omega),List.getElem?_eq_getElem (by have:=HL.out;omega)⟩
    obtain ⟨y,hy⟩:∃ y,Q[mid - 1 - c]?=some y:=⟨Q[mid - 1 - c]'(by have:=HL.out;omega),List.getElem?_eq_getElem (by have:=HL.out;omega)⟩
    have hxm:=List.mem_of_getElem? hx
    have hym:=List.mem_of_getElem? hy
    have hxy:=HS.out.2.2.1 x hxm y hym
    obtain ⟨pc,hpc⟩:∃ pc,pc=m+(mid - 1 - c):=⟨_,rfl⟩
    have hcx:wr.cell? ⟨d,off+c,none⟩=some (.int .i64 x):=HC.out.2.2.1.1 c x (by
     have hl:=HL.out
     rw [List.getElem?_map,List.append_assoc,List.append_assoc,List.getElem?_append_right (by omega),List.getElem?_append_left (by omega),show c - P.length=c - a by omega,hx];rfl)
    have hcy:wr.cell? ⟨d,off+pc,none⟩=some (.int .i64 y):=HC.out.2.2.1.1 pc y (by
     have hl:=HL.out
     rw [List.getElem?_map,List.append_assoc (P++A),List.getElem?_append_right (by rw [List.length_append];omega),List.getElem?_append_left (by rw [List.length_append];omega),show pc - (P++A).length=mid - 1 - c by rw [List.length_append];omega,hy];rfl)
    have hcm:=fun g=>cmp_any y x B d rs (wr.drewN g) (HR.out.2.2.grown (grownBy_drewN HC.out.2.2.2 _)) (HS.out.2.2.2.2 y hym) (HS.out.2.2.2.1 x hxm)
    have hr:=cmp_R (f:=(rs.getD · 0)) hxy
    obtain ⟨ry,hry⟩:∃ ry,ry=rs.getD y 0:=⟨_,rfl⟩
    obtain ⟨rx,hrx⟩:∃ rx,rx=rs.getD x 0:=⟨_,rfl⟩
    rw [←hry,←hrx] at hcm
    have hpcn:pc<n:=by have:=HL.out;omega
    have hcn:c<n:=by omega
    have wpc:(pp:Int) - (c:Int)=(pc:Int):=by have:=HF.out;have:=HM.out;omega
    have HCM:=hid hcm
    have HH:=hid (And.intro hce (And.intro hcb (And.intro hfx (And.intro hx (And.intro hy (And.intro hry (And.intro hrx (And.intro hr hpc))))))))
    have hsc:s≤c:=by omega
    have hw:((s:Int)+(r:Int)) / 2=(c:Int):=by omega
    clear hce hcb hfx hx hy hry hrx hr hpc hcm hxm hym hxy
    by_cases hlr:rx<ry
    ·have hlt':(rx:Int) - ry<0:=by omega
     have hlt2:decide ((rx:Int) - (ry:Int)<0)=true:=decide_eq_true hlt'
     go_wp2
     go_quiet (exact Calls.quiet_of (HCM.out _))
     go_wp2
     go_roundg (gk - 1)
     case measure=>have:=HH.out.2.1;omega
     case rel =>
      obtain ⟨hce,hcb,hfx,hx,hy,hry,hrx,hr,hpc⟩:=HH.out
      exact ⟨s,c,rfl,rfl,hls,by omega,by omega,by omega,HC.out.1,.inr ⟨x,y,hx,hy,hr.1 (by rw [←hrx,←hry];exact hlr)⟩,HC.out.2.2.1,grownBy_drewN HC.out.2.2.2 _⟩
    ·have hlt':¬(rx:Int) - ry<0:=by omega
     have hlt2:decide ((rx:Int) - (ry:Int)<0)=false:=decide_eq_false hlt'
     go_wp2
     go_quiet (exact Calls.quiet_of (HCM.out _))
     go_wp2
     go_roundg (gk - 1)
     case measure=>have:=HH.out.2.1;omega
     case rel =>
      obtain ⟨hce,hcb,hfx,hx,hy,hry,hrx,hr,hpc⟩:=HH.out
      exact ⟨c+1,r,by first|rfl|exact congrArg (Value.int .i64) (by omega),rfl,by omega,by omega,hrh,by omega,.inr ⟨x,y,by rw [show c+1 - 1 - a=c - a by omega];exact hx,by rw [show mid - (c+1)=mid - 1 - c by omega];exact hy,hr.2 (by rw [←hrx,←hry];exact hlr)⟩,HC.out.2.1,HC.out.2.2.1,grownBy_drewN HC.out.2.2.2 _⟩
   ·have hsr2:s=r:=by omega
    subst hsr2
    have hcut:=cut_end (f:=(rs.getD · 0)) HS.out.1 HS.out.2.1 (a:=a) (m:=m) (mid:=mid) (lo:=lo) (hi:=hi) (s:=s) (by have:=HL.out;omega) (by have:=HF.out;have:=HL.out;omega) (by have:=HF.out;omega) hls hrh (by have:=HF.out;omega) (by have:=HF.out;omega) (by have:=HF.out;omega) HC.out.1 HC.out.2.1
    obtain ⟨i,hi2⟩:∃ i,i=s - a:=⟨_,rfl⟩
    obtain ⟨j,hj2⟩:∃ j,j=mid - s:=⟨_,rfl⟩
    obtain ⟨e,he⟩:∃ e,e=m+j:=⟨_,rfl⟩
    rw [←hi2,←hj2] at hcut
    have hnum:a+i=s∧s+j=mid∧m+j=e∧i≤al∧j≤ql∧e≤b∧mid≤e∧s≤m:=by have:=HF.out;have:=HL.out;have:=HM.out;omega
    have wse:(nn:Int) - (s:Int)=(e:Int):=by have:=HM.out;omega
    have hsb:s≤m:=hnum.2.2.2.2.2.2.2
    have heb:e≤b:=hnum.2.2.2.2.2.1
    have HN:=hid (And.intro hnum hcut)
    have HW:=hid (And.intro HC.out.2.2.1 HC.out.2.2.2)
    have HP0:=hid HF.out
    clear hnum hcut hi2 hj2 he HC HF hls hsr hrh hg hlt hrb
    go_upto_region 39 with fail
    go_cut [185] from 178 to 185 (fun v wx=>∃ b1:Bool,v=.bool b1∧(b1=true↔s<m∧m<e)∧wr=wx)
    case first =>
     by_cases k1:s<m
     ·by_cases k2:m<e
      ·go_wp2
       go_meet
       exact ⟨true,rfl,by simp [k1,k2],rfl⟩
      ·go_wp2
       go_meet
       exact ⟨false,rfl,by simp [k2],rfl⟩
     ·go_wp2
      go_meet
      exact ⟨false,rfl,by simp [k1],rfl⟩
    case rest =>
     obtain ⟨b1,rfl,hb1,hww⟩:=hcut
     subst hww
     go_upto_if 185 with fail
     go_cut [] from 186 to 191 (fun wx=>Row wx d off ((P++A.take i++Q.take j++A.drop i++(Q.drop j++T)).map Int.ofNat)∧w.grownBy wx (some d))
     case first =>
      cases b1 with
      | false =>
       go_wp2
       go_meet
       refine ⟨?_,HW.out.2⟩
       have hnot:¬(s<m∧m<e):=fun h=>by have:=hb1.2 h;cases this
       have he:A.drop i=[]∨Q.take j=[]:=by
        obtain ⟨q1,q2,q3,q4,q5,q6,q7,q8⟩:=HN.out.1
        have hl:=HL.out
        by_cases k1:s<m
        ·right;exact List.take_eq_nil_iff.2 (.inl (by omega))
        ·left;exact List.drop_eq_nil_of_le (by omega)
       have hrow:=HW.out.1
       have e1:P++A.take i++Q.take j++A.drop i++(Q.drop j++T)=P++A++Q++T:=by
        rcases he with he|he
        ·have h2:A.take i=A:=by have:=List.take_append_drop i A;rw [he,List.append_nil] at this;exact this
         rw [he,h2,List.append_nil,List.append_assoc (P++A),←List.append_assoc (Q.take j),List.take_append_drop,←List.append_assoc]
        ·have h2:Q.drop j=Q:=by have:=List.take_append_drop j Q;rw [he,List.nil_append] at this;exact this
         rw [he,h2,List.append_nil,List.append_assoc P,List.take_append_drop,←List.append_assoc]
       rw [e1];exact hrow
      | true =>
       obtain ⟨k1,k2⟩:=hb1.1 rfl
       obtain ⟨q1,q2,q3,q4,q5,q6,q7,q8⟩:=HN.out.1
       have hl:=HL.out
       have hrot:=rotate_any d off n cap s m e (P++A.take i) (A.drop i) (Q.take j) (Q.drop j++T) (.func (.func 42) #[] #[.pointer (some ⟨B,0,none⟩)]) wr
        (by rw [show P++A.take i++A.drop i++Q.take j++(Q.drop j++T)=P++A++Q++T by rw [List.append_assoc P,List.take_append_drop,List.append_assoc (P++A),←List.append_assoc (Q.take j),List.take_append_drop,←List.append_assoc]];exact HW.out.1) hwd
        (by rw [show P++A.take i++A.drop i++Q.take j++(Q.drop j++T)=P++A++Q++T by rw [List.append_assoc P,List.take_append_drop,List.append_assoc (P++A),←List.append_assoc (Q.take j),List.take_append_drop,←List.append_assoc]];exact hl.1) hn
        (by rw [List.length_append,List.length_take];omega) (by rw [List.length_drop];omega) (by rw [List.length_take];omega) (by rw [List.length_drop];omega) (by rw [List.length_take];omega)
       have HRO:=hid hrot
       clear hrot q1 q2 q3 q4 q5 q6 q7 q8 hl k1 k2 hb1
       go_wp2_with fail
       refine HRO.out.mono ?_
       rintro e' w3 ⟨rfl,hg3,hr3⟩
       have HX:=hid (And.intro hg3 hr3)
       clear hg3 hr3
       go_wp2
       go_meet
       exact ⟨HX.out.2,gBt HW.out.2 HX.out.1⟩
     case rest =>
      obtain ⟨hrow,hgr⟩:=hcut
      have hwd3:d<wc.heap.size:=by have:=hgr.size;have:=HR.out.2.1;omega
      have HW3:=hid (And.intro hrow hgr)
      clear hrow hgr hb1 HW hwd
      go_upto_region 41 with fail
      go_cut [199] from 192 to 199 (fun v wx=>∃ b2:Bool,v=.bool b2∧(b2=true↔a<s∧s<mid)∧wc=wx)
      case first =>
       by_cases k1:a<s
       ·by_cases k2:s<mid
        ·go_wp2
         go_meet
         exact ⟨true,rfl,by simp [k1,k2],rfl⟩
        ·go_wp2
         go_meet
         exact ⟨false,rfl,by simp [k2],rfl⟩
       ·go_wp2
        go_meet
        exact ⟨false,rfl,by simp [k1],rfl⟩
      case rest =>
       obtain ⟨b2,rfl,hb2,hww⟩:=hcut
       subst hww
       go_upto_if 199 with fail
       go_cut [] from 200 to 205 (fun wx=>∃ C1:List Nat,C1.Perm (A.take i++Q.take j)∧C1.Pairwise (R (rs.getD · 0))∧Row wx d off ((P++C1++(A.drop i++(Q.drop j++T))).map Int.ofNat)∧w.grownBy wx (some d))
       case first =>
        obtain ⟨q1,q2,q3,q4,q5,q6,q7,q8⟩:=HN.out.1
        have hl:=HL.out
        have hs1:(A.take i).Pairwise (R (rs.getD · 0)):=HS.out.1.sublist (List.take_sublist _ _)
        have hs2:(Q.take j).Pairwise (R (rs.getD · 0)):=HS.out.2.1.sublist (List.take_sublist _ _)
        cases b2 with
        | false =>
         have hnot:¬(a<s∧s<mid):=fun h=>by have:=hb2.2 h;cases this
         have he:A.take i=[]∨Q.take j=[]:=by
          by_cases k1:a<s
          ·right;exact List.take_eq_nil_iff.2 (.inl (by omega))
          ·left;exact List.take_eq_nil_iff.2 (.inl (by omega))
         have hsort:(A.take i++Q.take j).Pairwise (R (rs.getD · 0)):=by
          rcases he with he|he
          ·rw [he,List.nil_append];exact hs2
          ·rw [he,List.append_nil];exact hs1
         have HX:=hid (And.intro hsort hnot)
         clear hsort hs1 hs2 he hnot q1 q2 q3 q4 q5 q6 q7 q8 hl hb2
         go_wp2
         go_meet
         exact ⟨_,List.Perm.refl _,HX.out.1,by have h:=HW3.out.1;simpa using h,HW3.out.2⟩
        | true =>
         obtain ⟨k1,k2⟩:=hb2.1 rfl
         have hsub:=HI.out.1 a s mid P (A.take i) (Q.take j) (A.drop i++(Q.drop j++T)) wc (by rw [List.length_take,List.length_take];have:=HI.out.2;have:=HM.out;omega)
          (by have h:=HW3.out.1;rwa [List.append_assoc (P++A.take i++Q.take j)] at h) hwd3 (HR.out.2.2.grown HW3.out.2)
          (by have h:=hl.1;simp only [List.length_append,List.length_take,List.length_drop] at h ⊢;omega)
          hl.2.1 (by rw [List.length_take];omega) (by rw [List.length_take];omega) (by rw [List.length_take];omega) (by rw [List.length_take];omega) hs1 hs2
          (fun x hx y hy=>HS.out.2.2.1 x (List.mem_of_mem_take hx) y (List.mem_of_mem_take hy)) (fun x hx=>HS.out.2.2.2.1 x (List.mem_of_mem_take hx)) (fun x hx=>HS.out.2.2.2.2 x (List.mem_of_mem_take hx))
         have HSU:=hid hsub
         clear hsub hs1 hs2 k1 k2 q1 q2 q3 q4 q5 q6 q7 q8 hl hb2
         go_wp2_with fail
         refine HSU.out.mono ?_
         rintro e' w3 ⟨rfl,hg3,C1,hp1,hs1,hr3⟩
         have HX:=hid (And.intro hg3 (And.intro hp1 (And.intro hs1 hr3)))
         clear hg3 hp1 hs1 hr3
         go_wp2
         go_meet
         exact ⟨C1,HX.out.2.1,HX.out.2.2.1,HX.out.2.2.2,gBt HW3.out.2 HX.out.1⟩
       case rest =>
        obtain ⟨C1,hp1,hs1,hrow,hgr⟩:=hcut
        have hwd4:d<wc.heap.size:=by have:=hgr.size;have:=HR.out.2.1;omega
        have HW4:=hid (And.intro hp1 (And.intro hs1 (And.intro hrow hgr)))
        clear hrow hgr hp1 hs1 hb2 HW3 hwd3
        obtain ⟨q1,q2,q3,q4,q5,q6,q7,q8⟩:=HN.out.1
        have hl:=HL.out
        have hs1:(A.drop i).Pairwise (R (rs.getD · 0)):=HS.out.1.sublist (List.drop_sublist _ _)
        have hs2:(Q.drop j).Pairwise (R (rs.getD · 0)):=HS.out.2.1.sublist (List.drop_sublist _ _)
        by_cases kk:mid<e∧e<b
        ·obtain ⟨k1,k2⟩:=kk
         have hcl:C1.length=i+j:=by rw [HW4.out.1.length_eq,List.length_append,List.length_take,List.length_take];omega
         have hsub:=HI.out.1 mid e b (P++C1) (A.drop i) (Q.drop j) T wc (by rw [List.length_drop,List.length_drop];have:=HI.out.2;have:=HM.out;omega)
          (by have h:=HW4.out.2.2.1;rwa [←List.append_assoc (P++C1),←List.append_assoc (P++C1++A.drop i)] at h) hwd4 (HR.out.2.2.grown HW4.out.2.2.2)
          (by have h:=hl.1;simp only [List.length_append,List.length_take,List.length_drop] at h ⊢;omega)
          (by rw [List.length_append];omega) (by rw [List.length_drop];omega) (by rw [List.length_drop];omega) (by rw [List.length_drop];omega) (by rw [List.length_drop];omega) hs1 hs2
          (fun x hx y hy=>HS.out.2.2.1 x (List.mem_of_mem_drop hx) y (List.mem_of_mem_drop hy)) (fun x hx=>HS.out.2.2.2.1 x (List.mem_of_mem_drop hx)) (fun x hx=>HS.out.2.2.2.2 x (List.mem_of_mem_drop hx))
         have HSU:=hid hsub
         clear hsub hs1 hs2 q1 q2 q3 q4 q5 q6 q7 q8 hl hcl
         go_wp2_with fail
         refine HSU.out.mono ?_
         rintro e' w3 ⟨rfl,hg3,C2,hp2,hs2,hr3⟩
         have HX:=hid (And.intro hg3 (And.intro hp2 (And.intro hs2 hr3)))
         clear hg3 hp2 hs2 hr3
         go_wp2
         first|go_end0|refine bodyPost_ret (results_none rfl _ _ _) rfl ?_
         have hh:=Mr.halves HS.out.1 HS.out.2.1 HN.out.2.1 HN.out.2.2 HW4.out.1 HW4.out.2.1 HX.out.2.1 HX.out.2.2.1
         exact ⟨rfl,gBt HW4.out.2.2.2 HX.out.1,_,hh.2,hh.1,by have h:=HX.out.2.2.2;rwa [List.append_assoc P C1] at h⟩
        ·have he:A.drop i=[]∨Q.drop j=[]:=by
          by_cases k1:mid<e
          ·right;exact List.drop_eq_nil_of_le (by omega)
          ·left;exact List.drop_eq_nil_of_le (by omega)
         have hsort:(A.drop i++Q.drop j).Pairwise (R (rs.getD · 0)):=by
          rcases he with he|he
          ·rw [he,List.nil_append];exact hs2
          ·rw [he,List.append_nil];exact hs1
         have HX:=hid hsort
         clear hsort hs1 hs2 he q1 q2 q3 q4 q5 q6 q7 q8 hl
         by_cases k1:mid<e
         ·have k2:¬e<b:=fun h=>kk ⟨k1,h⟩
          clear kk
          go_wp2
          first|go_end0|refine bodyPost_ret (results_none rfl _ _ _) rfl ?_
          have hh:=Mr.halves HS.out.1 HS.out.2.1 HN.out.2.1 HN.out.2.2 HW4.out.1 HW4.out.2.1 (List.Perm.refl _) HX.out
          exact ⟨rfl,HW4.out.2.2.2,_,hh.2,hh.1,by have h:=HW4.out.2.2.1;simpa using h⟩
         ·clear kk
          go_wp2
          first|go_end0|refine bodyPost_ret (results_none rfl _ _ _) rfl ?_
          have hh:=Mr.halves HS.out.1 HS.out.2.1 HN.out.2.1 HN.out.2.2 HW4.out.1 HW4.out.2.1 (List.Perm.refl _) HX.out
          exact ⟨rfl,HW4.out.2.2.2,_,hh.2,hh.1,by have h:=HW4.out.2.2.1;simpa using h⟩
theorem symMerge_any (d off n cap B:Nat) (rs:List Nat) (hn:n≤1000000):∀ N,SymOK d off n cap B rs N:=by
 intro N
 induction N with
 | zero=>intro a m b P A Q T w hN _ _ _ _ _ _ _ hA;omega
 | succ N IH =>
  intro a m b P A Q T w hN hrow hd hc hL ha hm hb hA0 hQ0 hA hQ hlt hAl hQl
  by_cases h1:A.length=1
  ·obtain ⟨x,rfl⟩:=List.length_eq_one_iff.1 h1
   exact sm_one d off n cap B a m b x P Q T rs w hrow hd hc hL hn ha hm hb hQ (hAl x (by simp)) (fun y hy=>⟨hlt x (by simp) y hy,hQl y hy⟩)
  ·by_cases h2:Q.length=1
   ·obtain ⟨y,rfl⟩:=List.length_eq_one_iff.1 h2
    exact sm_last d off n cap B a m b y P A T rs w hrow hd hc hL hn ha hm (by simpa using hb) (by omega) hA (hQl y (by simp)) (fun x hx=>⟨hlt x hx y (by simp),hAl x hx⟩)
   ·exact sm_step d off n cap B N rs IH hn a m b P A Q T w hN hrow hd hc hL ha hm hb (by omega) (by omega) hA hQ hlt hAl hQl
end Go.Proofs.Ytnkmhbiklffjlaa
set_option maxHeartbeats 4000000
namespace Go.Proofs.Ytnkmhbiklffjlaa
open Go.RowKit Ap
open Lib (hid)
theorem stable_any (d off n cap B:Nat) (M:List Nat) (rs:List Nat) (w:World) (hrow:Row w d off (M.map Int.ofNat)) (hd:d<w.heap.size) (hc:Cmp w B d rs)
  (hn:M.length=n) (hbig:n≤100000) (hM:∀ x∈M,x<rs.length) (hlt:M.Pairwise (·<·)) :
  Calls Try.prog 56 #[.slice (some ⟨d,off,none⟩) n cap,.int .i64 n,.func (.func 42) #[] #[.pointer (some ⟨B,0,none⟩)]] w fun e w' =>
   e=.returned (.tuple #[])∧w.grownBy w' (some d)∧∃ M':List Nat,M'.Perm M∧M'.Pairwise (R (rs.getD · 0))∧Row w' d off (M'.map Int.ofNat):=by
 have HR:=hid (And.intro hrow (And.intro hd hc))
 have HM:=hid (And.intro hn (And.intro hM hlt))
 clear hrow hd hc hn hM hlt
 go_enter Try.func56,Try.ntmps56
 go_wp2
 go_loopg [7,8] (n+20) (fun g av bv wr=>∃ (p q c:Nat) (L:List Nat),av=.int .i64 p∧bv=.int .i64 q∧p=c*20∧q=p+20∧p≤n∧n≤g+p∧Mr.Pre (R (rs.getD · 0)) 20 c L M∧Row wr d off (L.map Int.ofNat)∧w.grownBy wr (some d))
 case atStart=>exact ⟨0,20,0,M,rfl,rfl,rfl,rfl,by omega,by omega,Mr.Pre.start 20 M,HR.out.1,grownBy_refl _ _⟩
 case round =>
  obtain ⟨p,q,c,L,rfl,rfl,hp,hq,hpn,hg,hpre,hrw,hgr⟩:=hrel
  have hwd:d<wr.heap.size:=by have:=hgr.size;have:=HR.out.2.1;omega
  obtain ⟨P,X,T,rfl,hP,hX,hT⟩:=hpre.parts (by rw [HM.out.1];omega)
  have hXM:∀ x∈X,x<rs.length:=fun x hx=>HM.out.2.1 x (by rw [hX] at hx;exact List.mem_of_mem_drop (List.mem_of_mem_take hx))
  have hXs:X.Pairwise (·<·):=by rw [hX];exact (HM.out.2.2.sublist (List.drop_sublist _ _)).sublist (List.take_sublist _ _)
  have hll:=hpre.len
  rw [HM.out.1] at hll
  have hXl:X.length=min 20 (n - p):=by rw [hX,List.length_take,List.length_drop,HM.out.1,←hp]
  by_cases hqn:q≤n
  ·have HC:=hid (isort_any d off n cap B p q P X T rs wr hrw hwd (HR.out.2.2.grown hgr) (by omega) (by omega) hqn hll (by omega) hXM hXs)
   have HP:=hid (And.intro hpre (And.intro hP (And.intro hXl (And.intro hgr (And.intro hp hq)))))
   obtain ⟨q2,hq2⟩:∃ q2,q2=q+20:=⟨_,rfl⟩
   have hqq:(q:Int)+20=(q2:Int):=by omega
   have HQ2:=hid hq2
   have hq2b:q2≤n+20:=by omega
   clear hpre hP hXl hgr hp hq hrw hX hT hXM hXs hll hq2
   go_wp2_with fail
   refine HC.out.mono ?_
   rintro e w3 ⟨rfl,hg3,X',hp3,hs3,hr3⟩
   have HX:=hid (And.intro hg3 (And.intro hp3 (And.intro hs3 hr3)))
   clear hg3 hp3 hs3 hr3
   go_wp2
   go_roundg (gk - 1)
   case measure=>have:=HP.out;omega
   case rel =>
    obtain ⟨hpre,hP,hXl,hgr,hp,hq⟩:=HP.out
    exact ⟨q,q2,c+1,P++X'++T,rfl,by first|rfl|exact congrArg (Value.int .i64) hqq,by omega,HQ2.out,hqn,by omega,hpre.step (by omega) (.inl (by omega)) HX.out.2.1 HX.out.2.2.1,HX.out.2.2.2,gBt hgr HX.out.1⟩
  ·have hT0:T=[]:=by rw [hT];exact List.drop_eq_nil_of_le (by rw [HM.out.1];omega)
   subst hT0
   have hXl2:X.length=n - p:=by omega
   have HC:=hid (isort_any d off n cap B p n P X [] rs wr hrw hwd (HR.out.2.2.grown hgr) (by omega) (by omega) (Nat.le_refl _) hll (by omega) hXM hXs)
   have HP:=hid (And.intro hpre (And.intro hP (And.intro hXl (And.intro hgr (And.intro hp hq)))))
   clear hpre hP hXl hgr hp hq hrw hX hT hXM hXs hll hXl2
   go_wp2_with fail
   refine HC.out.mono ?_
   rintro e w3 ⟨rfl,hg3,X',hp3,hs3,hr3⟩
   have hblk:Mr.Blk (R (rs.getD · 0)) 20 (P++X'++[]) M:=by
    obtain ⟨hpre,hP,hXl,hgr,hp,hq⟩:=HP.out
    exact (hpre.step (by omega) (.inr ⟨rfl,by omega⟩) hp3 hs3).done (by rw [HM.out.1];omega)
   have HB:=hid (And.intro hblk (And.intro hr3 (gBt HP.out.2.2.2.1 hg3)))
   obtain ⟨L,hL⟩:∃ L,L=P++X'++[]:=⟨_,rfl⟩
   rw [←hL] at HB
   clear hg3 hp3 hs3 hr3 hblk HC HP hL
   go_wp2
   go_loopg [6,7,8,9] n (fun g sv av bv mv wr=>∃ (bs:Nat) (L:List Nat),sv=.int .i64 bs∧1≤bs∧bs≤2*n+20∧n≤g+bs∧Mr.Blk (R (rs.getD · 0)) bs L M∧Row wr d off (L.map Int.ofNat)∧w.grownBy wr (some d))
   case atStart=>exact ⟨20,L,rfl,by omega,by omega,by omega,HB.out.1,HB.out.2.1,HB.out.2.2⟩
   case round =>
    obtain ⟨bs,L1,rfl,hb1,hb2,hg,hblk,hrw,hgr⟩:=hrel
    have HK:=hid (And.intro hblk (And.intro hrw hgr))
    clear hblk hrw hgr
    by_cases hbn:bs<n
    ·obtain ⟨tb,htb⟩:∃ tb,tb=2*bs:=⟨_,rfl⟩
     have wt:(2:Int)*(bs:Int)=(tb:Int):=by omega
     have wt2:(bs:Int)*2=(tb:Int):=by omega
     have htb2:tb≤2*n:=by omega
     have HT:=hid htb
     clear htb
     go_wp2
     obtain ⟨gk0,rfl⟩:∃ g0,g0=gk:=⟨gk,rfl⟩
     have HG0:=hid (show n≤gk0+bs by omega)
     clear hg
     go_loopg [7,8] (n+1) (fun g av bv wr=>∃ (p q c:Nat) (L:List Nat),av=.int .i64 p∧bv=.int .i64 q∧p=c*(2*bs)∧q=p+tb∧p≤n∧n+1≤g+p∧Mr.Mid (R (rs.getD · 0)) bs c L M∧Row wr d off (L.map Int.ofNat)∧w.grownBy wr (some d))
     case atStart=>exact ⟨0,tb,0,L1,rfl,rfl,(Nat.zero_mul _).symm,(Nat.zero_add _).symm,Nat.zero_le _,by omega,Mr.Mid.start HK.out.1,HK.out.2.1,HK.out.2.2⟩
     case round =>
      obtain ⟨p,q,c,L,rfl,rfl,hp,hq,hpn,hg,hmid,hrw,hgr⟩:=hrel
      have hwd:d<wr.heap.size:=by have:=hgr.size;have:=HR.out.2.1;omega
      by_cases hsn:p+bs≤n
      ·obtain ⟨P,A,Q,T,rfl,hP,hA,hQ,hQT,hAs,hQs,hAp,hQp⟩:=hmid.parts (by rw [HM.out.1];omega)
       have hll:=hmid.len
       rw [HM.out.1] at hll
       have hAl:∀ x∈A,x<rs.length:=fun x hx=>HM.out.2.1 x (List.mem_of_mem_drop (List.mem_of_mem_take (hAp.mem_iff.1 hx)))
       have hQl:∀ x∈Q,x<rs.length:=fun x hx=>HM.out.2.1 x (List.mem_of_mem_drop (List.mem_of_mem_take (hQp.mem_iff.1 hx)))
       have hlow:=Mr.blocks_lt HM.out.2.2 hAp hQp
       have hll2:P.length+A.length+Q.length+T.length=n:=by rw [←hll];simp only [List.length_append]
       have hT:=HT.out
       obtain ⟨m,hm⟩:∃ m,m=p+bs:=⟨_,rfl⟩
       have wm:(p:Int)+(bs:Int)=(m:Int):=by omega
       by_cases hqn:q≤n
       ·have hQb:Q.length=bs:=by
         rcases hQT with h|h
         ·exact h
         ·subst h;simp only [List.length_nil] at hll2;omega
        have HC:=hid (symMerge_any d off n cap B rs (by omega) (A.length+Q.length) p m q P A Q T wr (Nat.le_refl _) hrw hwd (HR.out.2.2.grown hgr) hll (by omega) (by omega) (by omega) (by omega) (by omega) hAs hQs hlow hAl hQl)
        obtain ⟨q2,hq2⟩:∃ q2,q2=q+tb:=⟨_,rfl⟩
        have wq:(q:Int)+(tb:Int)=(q2:Int):=by omega
        have hq2b:q2≤4*n:=by omega
        have hmb:m≤n:=by omega
        have HP:=hid (And.intro hmid (And.intro hP (And.intro hA (And.intro hQ (And.intro hQT (And.intro hgr (And.intro hp (And.intro hq hq2))))))))
        clear hmid hP hA hQ hQT hgr hp hq hq2 hrw hAs hQs hAp hQp hAl hQl hlow hll hll2 hT hm hQb
        go_wp2_with fail
        refine HC.out.mono ?_
        rintro e w3 ⟨rfl,hg3,C,hp3,hs3,hr3⟩
        have HX:=hid (And.intro hg3 (And.intro hp3 (And.intro hs3 hr3)))
        clear hg3 hp3 hs3 hr3
        go_wp2
        go_roundg (gk - 1)
        case measure=>have:=HP.out;have:=HT.out;omega
        case rel =>
         obtain ⟨hmid,hP,hA,hQ,hQT,hgr,hp,hq,hq2⟩:=HP.out
         have hT:=HT.out
         exact ⟨q,q2,c+1,P++C++T,rfl,by first|rfl|exact congrArg (Value.int .i64) wq,by rw [Nat.succ_mul];omega,hq2,hqn,by omega,hmid.step (by omega) hA hQ hQT HX.out.2.1 HX.out.2.2.1,HX.out.2.2.2,gBt hgr HX.out.1⟩
       ·have hT0:T=[]:=by
         rcases hQT with h|h
         ·exact List.length_eq_zero_iff.1 (by omega)
         ·exact h
        subst hT0
        simp only [List.length_nil,Nat.add_zero] at hll2
        by_cases hmn:m<n
        ·have HC:=hid (symMerge_any d off n cap B rs (by omega) (A.length+Q.length) p m n P A Q [] wr (Nat.le_refl _) hrw hwd (HR.out.2.2.grown hgr) hll (by omega) (by omega) (by omega) (by omega) (by omega) hAs hQs hlow hAl hQl)
         have HP:=hid (And.intro hmid (And.intro hP (And.intro hA (And.intro hQ (And.intro hgr (And.intro hp hq))))))
         clear hmid hP hA hQ hQT hgr hp hq hrw hAs hQs hAp hQp hAl hQl hlow hll hll2 hT hm
         go_wp2_with fail
         refine HC.out.mono ?_
         rintro e w3 ⟨rfl,hg3,C,hp3,hs3,hr3⟩
         have HX:=hid (And.intro hg3 (And.intro hp3 (And.intro hs3 hr3)))
         clear hg3 hp3 hs3 hr3
         go_wp2
         go_roundg (gk0 - 1)
         case measure=>have:=HG0.out;have:=HT.out;omega
         case rel =>
          obtain ⟨hmid,hP,hA,hQ,hgr,hp,hq⟩:=HP.out
          have hT:=HT.out
          exact ⟨tb,P++C++[],by first|rfl|exact congrArg (Value.int .i64) wt2,by omega,by omega,by have:=HG0.out;omega,by rw [hT];exact (hmid.step (by omega) hA hQ (.inr rfl) HX.out.2.1 HX.out.2.2.1).done (by rw [HM.out.1,Nat.succ_mul];omega),HX.out.2.2.2,gBt hgr HX.out.1⟩
        ·have HP:=hid (And.intro hmid (And.intro hP (And.intro hrw (And.intro hgr (And.intro hp hq)))))
         have hmb:m≤3*n:=by omega
         clear hmid hP hA hQ hQT hgr hp hq hrw hAs hQs hAp hQp hAl hQl hlow hll hll2 hT hm
         go_wp2
         go_roundg (gk0 - 1)
         case measure=>have:=HG0.out;have:=HT.out;omega
         case rel =>
          obtain ⟨hmid,hP,hrw,hgr,hp,hq⟩:=HP.out
          have hT:=HT.out
          exact ⟨tb,P++A++Q++[],by first|rfl|exact congrArg (Value.int .i64) wt2,by omega,by omega,by have:=HG0.out;omega,by rw [hT];exact hmid.alone (by rw [HM.out.1];omega),hrw,hgr⟩
      ·have hqn:¬q≤n:=by have:=HT.out;omega
       obtain ⟨m,hm⟩:∃ m,m=p+bs:=⟨_,rfl⟩
       have wm:(p:Int)+(bs:Int)=(m:Int):=by omega
       have hmn:¬m<n:=by omega
       have hmb:m≤3*n:=by omega
       have HP:=hid (And.intro hmid (And.intro hrw (And.intro hgr (And.intro hp (And.intro hq hm)))))
       clear hmid hgr hp hq hrw hm
       go_wp2
       go_roundg (gk0 - 1)
       case measure=>have:=HG0.out;have:=HT.out;omega
       case rel =>
        obtain ⟨hmid,hrw,hgr,hp,hq,hm⟩:=HP.out
        have hT:=HT.out
        exact ⟨tb,L,by first|rfl|exact congrArg (Value.int .i64) wt2,by omega,by omega,by have:=HG0.out;omega,by rw [hT];exact hmid.alone (by rw [HM.out.1];omega),hrw,hgr⟩
    ·go_wp2
     first|go_end0|refine bodyPost_ret (results_none rfl _ _ _) rfl ?_
     have h:=HK.out.1.all (by rw [HM.out.1];omega)
     exact ⟨rfl,HK.out.2.2,L1,h.1,h.2,HK.out.2.1⟩
theorem sort_any (d off n cap B:Nat) (M:List Nat) (rs:List Nat) (w:World) (hrow:Row w d off (M.map Int.ofNat)) (hd:d<w.heap.size) (hc:Cmp w B d rs)
  (hn:M.length=n) (hbig:n≤100000) (hM:∀ x∈M,x<rs.length) (hlt:M.Pairwise (·<·)) :
  Calls Try.prog 41 #[.slice (some ⟨d,off,none⟩) n cap,.func (.func 42) #[] #[.pointer (some ⟨B,0,none⟩)]] w fun e w' =>
   e=.returned (.tuple #[])∧w.grownBy w' (some d)∧∃ M':List Nat,M'.Perm M∧M'.Pairwise (R (rs.getD · 0))∧Row w' d off (M'.map Int.ofNat):=by
 have HS:=hid (stable_any d off n cap B M rs w hrow hd hc hn hbig hM hlt)
 clear hrow hd hc hn hM hlt
 go_enter Try.func41,Try.ntmps41
 go_wp2_with fail
 refine HS.out.mono ?_
 rintro e w' ⟨rfl,hF⟩
 have HF:=hid hF
 clear hF
 go_wp2
 first|go_end0|refine bodyPost_ret (results_none rfl _ _ _) rfl ?_
 exact ⟨rfl,HF.out⟩
end Go.Proofs.Ytnkmhbiklffjlaa
