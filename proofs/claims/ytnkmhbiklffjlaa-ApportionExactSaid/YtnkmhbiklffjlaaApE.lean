import Derived.Test.YtnkmhbiklffjlaaApB
import Derived.Test.YtnkmhbiklffjlaaApP
set_option linter.unusedVariables false
set_option linter.unusedSimpArgs false
set_option maxRecDepth 100000
set_option maxHeartbeats 4000000
namespace Go.Proofs.Ytnkmhbiklffjlaa
open Go.RowKit Ap
open Lib (hid)
namespace Ap
theorem drewN0 (w:World):w=w.drewN 0:=by cases w;rfl
theorem wrap_ok (a:Int) (n:Nat) (h:a=n) (hn:n<18446744073709551616):IntKind.u64.wrap a=(n:Int):=by rw [IntKind.wrap_u64];omega
theorem wrap_sub2 (x z:Int) (r:Nat) (h:x - z=r) (hr:r<18446744073709551616):IntKind.u64.wrap (x - IntKind.u64.wrap z)=(r:Int):=by
 rw [IntKind.wrap_u64,IntKind.wrap_u64];omega
theorem wrap_sub3 (x d z:Int) (r:Nat) (h:x+d - z=r) (hr:r<18446744073709551616):IntKind.u64.wrap (IntKind.u64.wrap (IntKind.u64.wrap x+d) - IntKind.u64.wrap z)=(r:Int):=by
 rw [IntKind.wrap_u64,IntKind.wrap_u64,IntKind.wrap_u64,IntKind.wrap_u64];omega
theorem wrap_add2 (x d:Int) (r:Nat) (h:x+d=r) (hr:r<18446744073709551616):IntKind.u64.wrap (IntKind.u64.wrap x+d)=(r:Int):=by
 rw [IntKind.wrap_u64,IntKind.wrap_u64];omega
theorem or_parts (hi lo s:Nat) (h:hi*2^s+lo / 2^(64 - s)<18446744073709551616) (hlt:lo / 2^(64 - s)<2^s) (hlo:lo<18446744073709551616) :
  bits .or .u64 (IntKind.u64.wrap ((hi:Int)*2^s)) ((lo:Int) / 2^(64 - s))=((hi*2^s+lo / 2^(64 - s):Nat):Int):=by
 have k1:hi*2^s<18446744073709551616:=Nat.lt_of_le_of_lt (Nat.le_add_right _ _) h
 have k2:lo / 2^(64 - s)<18446744073709551616:=Nat.lt_of_le_of_lt (Nat.le_add_left _ _) h
 have e1:IntKind.u64.wrap ((hi:Int)*2^s)=((hi*2^s:Nat):Int):=wrap_ok _ _ (by simp) k1
 have e2:((lo:Int) / 2^(64 - s))=((lo / 2^(64 - s):Nat):Int):=by simp
 rw [e1,e2,bits_or_u64_nat _ _ k1 k2]
 rw [Nat.mul_comm hi,←Nat.two_pow_add_eq_or_of_lt hlt]
theorem div_word {B hi lo y:Nat} (hhi:hi<y) (hlo:lo<B):(hi*B+lo) / y<B:=by
 refine Nat.div_lt_of_lt_mul ?_
 have:=Nat.mul_le_mul_right B (show hi+1≤y from hhi)
 rw [Nat.add_mul] at this
 omega
theorem last_two {hi lo y u L Y s d1 d0 q1 v q0:Nat}
  (HD:∀ x1 x2 x3 x4:Nat,x1*Y+x2=u*4294967296+L / 4294967296→x3*Y+x4=x2*4294967296+L%4294967296→x4<Y→x1*4294967296+x3=(hi*18446744073709551616+lo) / y∧x4 / 2^s=(hi*18446744073709551616+lo)%y)
  (hhi:hi<y) (hlo:lo<18446744073709551616) (hL:L=d1*4294967296+d0) (hd1:d1<4294967296) (hd0:d0<4294967296) (hY:Y<18446744073709551616) (hv:v=u*4294967296+d1 - q1*Y) (h1:q1*Y≤u*4294967296+d1)
  (h3:q0*Y≤v*4294967296+d0) (h4:v*4294967296+d0<(q0+1)*Y) :
  ∃ r9:Nat,IntKind.u64.wrap (IntKind.u64.wrap ((q1:Int)*4294967296)+(q0:Int))=(((hi*18446744073709551616+lo) / y:Nat):Int) ∧
   IntKind.u64.wrap (IntKind.u64.wrap (IntKind.u64.wrap ((v:Int)*4294967296)+(d0:Int)) - IntKind.u64.wrap ((q0:Int)*(Y:Int)))=(r9:Int)∧(r9:Int) / 2^s=(((hi*18446744073709551616+lo)%y:Nat):Int):=by
 rw [Nat.add_mul] at h4
 have e1:L / 4294967296=d1:=by omega
 have e2:L%4294967296=d0:=by omega
 obtain ⟨k1,k2⟩:=HD q1 v q0 (v*4294967296+d0 - q0*Y) (by omega) (by omega) (by omega)
 have hN:(hi*18446744073709551616+lo) / y<18446744073709551616:=by
  exact div_word (B:=18446744073709551616) hhi hlo
 refine ⟨v*4294967296+d0 - q0*Y,wrap_add2 _ _ _ (by omega) hN,wrap_sub3 _ _ _ _ (by rw [mulN];omega) (by omega),?_⟩
 rw [←k2];simp
theorem top_X {q a r u d b Y:Nat} (h:q*a+r=u) (hY:Y=a*4294967296+b) (hr:r<a) (ha:a<4294967296) (hd:d<4294967296):u*4294967296+d<(q+1)*Y:=by
 rw [hY,Nat.mul_add,←Nat.mul_assoc,←h,Nat.add_mul,Nat.add_mul,Nat.add_mul]
 have:1*a*4294967296≤1*a*4294967296+(q+1)*b:=by omega
 omega
theorem mul_small {q b:Nat} (h:q≤4294967297) (hb:b<4294967296):q*b<18446744073709551616:=by
 have:=Nat.mul_le_mul h (show b≤4294967295 by omega)
 omega
end Ap
theorem div64_any (hi lo y:Nat) (w:World) (hhi:hi<y) (hlo:lo<18446744073709551616) (hy:y<9223372036854775808) :
  Calls Try.prog 44 #[.int .u64 hi,.int .u64 lo,.int .u64 y] w fun e w'=>e=.returned (.tuple #[.int .u64 (((hi*18446744073709551616+lo) / y:Nat):Int),.int .u64 (((hi*18446744073709551616+lo)%y:Nat):Int)])∧∃ n,w'=w.drewN n:=by
 by_cases h0:hi=0
 ·subst h0
  have hy0:¬y=0:=by omega
  have e1:IntKind.u64.wrap ((lo:Int) / (y:Int))=((lo / y:Nat):Int):=wrap_ok _ _ (by simp) (Nat.lt_of_le_of_lt (Nat.div_le_self lo y) hlo)
  go_enter Try.func44,Try.ntmps44
  go_wp2
  go_quiet (fail)
  go_wp2
  go_ret2
  refine ⟨?_,_,rfl⟩
  simp
 ·go_enter Try.func44,Try.ntmps44
  go_wp2_with fail
  refine (lz64_s y w (by omega) hy).mono ?_
  rintro e w' ⟨s,rfl,s1,s2,s3,s4,rfl⟩
  have hPQ:2^s*2^(64 - s)=18446744073709551616:=by rw [←Nat.pow_add,show s+(64 - s)=64 by omega]
  obtain ⟨n1,n2,n3⟩:=norm_parts hi lo y _ _ hPQ hhi hlo
  have g4:=or_parts hi lo s (by omega) n3 hlo
  obtain ⟨Y,hY⟩:∃ Y,Y=y*2^s:=⟨_,rfl⟩
  obtain ⟨u,hu⟩:∃ u,u=hi*2^s+lo / 2^(64 - s):=⟨_,rfl⟩
  obtain ⟨L,hL⟩:∃ L,L=lo*2^s%18446744073709551616:=⟨_,rfl⟩
  have g5:IntKind.u64.wrap ((lo:Int)*2^s)=(L:Int):=by rw [hL,←wrapM];simp
  have g1:(y:Int)*2^s=(Y:Int):=by rw [hY];simp
  rw [←hu] at g4 n2
  rw [←hY] at n2 s3 s4
  have hL2:L<18446744073709551616:=by omega
  have HD:=hid (div_two hi lo y (2^s) (2^(64 - s)) · · · · hPQ hhi hlo)
  rw [←hY,←hu,←hL] at HD
  clear n1 n3 hY hu hL
  obtain ⟨a,ha⟩:∃ a,a=Y / 4294967296:=⟨_,rfl⟩
  obtain ⟨b,hb⟩:∃ b,b=Y%4294967296:=⟨_,rfl⟩
  obtain ⟨d1,hd1⟩:∃ d1,d1=L / 4294967296:=⟨_,rfl⟩
  obtain ⟨d0,hd0⟩:∃ d0,d0=L%4294967296:=⟨_,rfl⟩
  have g2:=maskN Y s4
  have g3:(Y:Int) / 4294967296=(a:Int):=by omega
  have g6:(L:Int) / 4294967296=(d1:Int):=by omega
  have g7:=maskN L hL2
  rw [←hb] at g2
  rw [←hd0] at g7
  have ga:¬(a:Int)=0:=by omega
  have HB:=hid (show 2147483648≤a∧a<4294967296∧b<4294967296∧d1<4294967296∧d0<4294967296∧Y=a*4294967296+b∧u<Y∧Y<18446744073709551616∧L=d1*4294967296+d0 by omega)
  obtain ⟨q,hq⟩:∃ q,q=u / a:=⟨_,rfl⟩
  obtain ⟨r,hr⟩:∃ r,r=u%a:=⟨_,rfl⟩
  have g8:IntKind.u64.wrap ((u:Int).tdiv (a:Int))=(q:Int):=wrap_ok _ _ (by rw [hq];simp [Int.tdiv_eq_ediv_of_nonneg]) (by
   rw [hq];exact Nat.lt_of_le_of_lt (Nat.div_le_self _ _) (by omega))
  have g8':IntKind.u64.wrap ((u:Int) / (a:Int))=(q:Int):=wrap_ok _ _ (by rw [hq];simp) (by
   rw [hq];exact Nat.lt_of_le_of_lt (Nat.div_le_self _ _) (by omega))
  have g1':IntKind.u64.wrap (Y:Int)=(Y:Int):=wrapN Y s4
  have hqr:q*a+r=u:=by rw [hq,hr,Nat.mul_comm];exact Nat.div_add_mod _ _
  have g9:IntKind.u64.wrap ((u:Int) - IntKind.u64.wrap ((q:Int)*(a:Int)))=(r:Int):=wrap_sub2 _ _ _ (by rw [mulN];omega) (by omega)
  have HQ:=hid (show q≤4294967297∧r<a∧q*a+r=u from ⟨by rw [hq];exact dig_first u a b (by omega) (by omega) (by omega),by rw [hr];exact Nat.mod_lt _ (by omega),hqr⟩)
  clear hq hr hqr hd1 hd0 ha hb n2 s3 s4 hL2
  go_wp2
  go_loopg [15,16] 4294967297 (fun n qv rv wr=>∃ q r:Nat,qv=.int .u64 q∧rv=.int .u64 r∧w=wr∧q*a+r=u∧r<4294967296∧u*4294967296+d1<(q+1)*Y∧q≤4294967297∧q≤n)
  case atStart=>exact ⟨q,r,rfl,rfl,rfl,HQ.out.2.2,by have:=HQ.out;have:=HB.out;omega,top_X HQ.out.2.2 HB.out.2.2.2.2.2.1 HQ.out.2.1 HB.out.2.1 (by have:=HB.out;omega),HQ.out.1,HQ.out.1⟩
  case round =>
   obtain ⟨q1,r1,rfl,rfl,rfl,h1,h2,h3,h4,h5⟩:=hrel
   have HX:=hid (show u*4294967296+d1<4294967296*Y by have:=HB.out;omega)
   have HH:=hid (And.intro h1 (And.intro h2 (And.intro h3 (And.intro h4 h5))))
   have s1:IntKind.u64.wrap ((r1:Int)+(a:Int))=((r1+a:Nat):Int):=wrap_ok _ _ (by omega) (by have:=HB.out;omega)
   have s0:IntKind.u64.wrap ((q1:Int)*(b:Int))=((q1*b:Nat):Int):=wrap_ok _ _ (by rw [mulN]) (mul_small h4 HB.out.2.2.1)
   have s2:IntKind.u64.wrap (4294967296*(r1:Int))=((4294967296*r1:Nat):Int):=wrap_ok _ _ (by omega) (by omega)
   have s3:IntKind.u64.wrap (((4294967296*r1:Nat):Int)+(d1:Int))=((4294967296*r1+d1:Nat):Int):=wrap_ok _ _ (by omega) (by have:=HB.out;omega)
   obtain ⟨m,hm⟩:∃ m,m=q1*b:=⟨_,rfl⟩
   obtain ⟨e,he⟩:∃ e,e=4294967296*r1+d1:=⟨_,rfl⟩
   obtain ⟨e2,he2⟩:∃ e2,e2=4294967296*r1:=⟨_,rfl⟩
   obtain ⟨r2,hr2⟩:∃ r2,r2=r1+a:=⟨_,rfl⟩
   rw [←hr2] at s1
   rw [←hm] at s0
   rw [←he2] at s2
   rw [←he,←he2] at s3
   have HM:=hid (And.intro hm (And.intro he hr2))
   clear h1 h2 h3 h4 h5 hm he he2 hr2
   by_cases p1:(4294967296:Int)≤q1
   ·have hdown:u*4294967296+d1<q1*Y:=by
     have hh:=HH.out;have hx:=HX.out;have hb:=HB.out;have hmm:=HM.out
     rw [hb.2.2.2.2.2.1] at hx ⊢
     exact dig_down u d1 a b q1 r1 hh.1 hx (.inl (by omega))
    have hq1:1≤q1:=by
     apply Nat.pos_of_ne_zero;intro h0;rw [h0,Nat.zero_mul] at hdown;omega
    have s4:IntKind.u64.wrap ((q1:Int) - 1)=((q1 - 1:Nat):Int):=wrap_ok _ _ (by omega) (by have:=HH.out;omega)
    have HN:=hid (show (q1 - 1)*a+r2=u∧u*4294967296+d1<(q1 - 1+1)*Y∧q1 - 1≤4294967296∧q1 - 1≤gk - 1∧1≤gk by
     have hh:=HH.out;have hmm:=HM.out
     refine ⟨?_,?_,by omega,by omega,by omega⟩
     ·obtain ⟨q2,rfl⟩:∃ q2,q1=q2+1:=⟨q1 - 1,by omega⟩
      rw [hmm.2.2,Nat.add_sub_cancel]
      have:=hh.1
      rw [Nat.add_mul] at this;omega
     ·rw [show q1 - 1+1=q1 by omega];exact hdown)
    clear hdown hq1
    obtain ⟨q3,hq3⟩:∃ q3,q3=q1 - 1:=⟨_,rfl⟩
    rw [←hq3] at s4 HN
    clear hq3
    by_cases p3:(4294967296:Int)≤r2
    ·have HF:=hid (show q3*Y≤u*4294967296+d1∧u*4294967296+d1<(q3+1)*Y by
      have hn:=HN.out;have hb:=HB.out
      refine ⟨?_,hn.2.1⟩
      rw [hb.2.2.2.2.2.1]
      exact dig_exit u d1 a b q3 r2 hn.1 hb.2.2.1 (.inr ⟨hn.2.2.1,by omega⟩))
     obtain ⟨v,hv⟩:∃ v,v=u*4294967296+d1 - q3*Y:=⟨_,rfl⟩
     have k1:IntKind.u64.wrap (IntKind.u64.wrap (IntKind.u64.wrap ((u:Int)*4294967296)+(d1:Int)) - IntKind.u64.wrap ((q3:Int)*(Y:Int)))=(v:Int):=wrap_sub3 _ _ _ _ (by rw [mulN,hv];have:=HF.out;omega) (by have:=HF.out;have:=HB.out;rw [Nat.add_mul] at *;omega)
     have HV:=hid (show v<Y∧v=u*4294967296+d1 - q3*Y∧q3*Y≤u*4294967296+d1 by have h:=HF.out;rw [Nat.add_mul] at h;omega)
     clear hv
     obtain ⟨q0,hq0⟩:∃ q0,q0=v / a:=⟨_,rfl⟩
     obtain ⟨r0,hr0⟩:∃ r0,r0=v%a:=⟨_,rfl⟩
     have k2:IntKind.u64.wrap ((v:Int).tdiv (a:Int))=(q0:Int):=wrap_ok _ _ (by rw [hq0];simp [Int.tdiv_eq_ediv_of_nonneg]) (by
      rw [hq0];exact Nat.lt_of_le_of_lt (Nat.div_le_self _ _) (by have:=HV.out;have:=HB.out;omega))
     have k2':IntKind.u64.wrap ((v:Int) / (a:Int))=(q0:Int):=wrap_ok _ _ (by rw [hq0];simp) (by
      rw [hq0];exact Nat.lt_of_le_of_lt (Nat.div_le_self _ _) (by have:=HV.out;have:=HB.out;omega))
     have hqr0:q0*a+r0=v:=by rw [hq0,hr0,Nat.mul_comm];exact Nat.div_add_mod _ _
     have k3:IntKind.u64.wrap ((v:Int) - IntKind.u64.wrap ((q0:Int)*(a:Int)))=(r0:Int):=wrap_sub2 _ _ _ (by rw [mulN];omega) (by have:=HV.out;have:=HB.out;omega)
     have HQ0:=hid (show q0≤4294967297∧r0<a∧q0*a+r0=v from ⟨by have:=HV.out;have:=HB.out;rw [hq0];exact dig_first v a b (by omega) (by omega) (by omega),by have:=HB.out;rw [hr0];exact Nat.mod_lt _ (by omega),hqr0⟩)
     clear hq0 hr0 hqr0
     have HB:=hid (show 2147483648≤a∧a<4294967296∧b<4294967296∧d1<4294967296∧d0<4294967296∧Y=a*4294967296+b∧v<Y∧Y<18446744073709551616∧L=d1*4294967296+d0 by have:=HB.out;have:=HV.out;omega)
     go_wp2
     try clear HN
     try clear s4
     try clear p3
     try clear p2
     clear HX HH HM s0 s1 s2 s3 p1 HQ g8 g8' g9 k2 k2' k3 k1
     go_loopg [16,18] 4294967297 (fun n rv qv wr=>∃ q r:Nat,qv=.int .u64 q∧rv=.int .u64 r∧w=wr∧q*a+r=v∧r<4294967296∧v*4294967296+d0<(q+1)*Y∧q≤4294967297∧q≤n)
     case atStart=>exact ⟨q0,r0,rfl,rfl,rfl,HQ0.out.2.2,by have:=HQ0.out;have:=HB.out;omega,top_X HQ0.out.2.2 HB.out.2.2.2.2.2.1 HQ0.out.2.1 HB.out.2.1 (by have:=HB.out;omega),HQ0.out.1,HQ0.out.1⟩
     case round =>
      obtain ⟨q1,r1,rfl,rfl,rfl,h1,h2,h3,h4,h5⟩:=hrel
      have HX:=hid (show v*4294967296+d0<4294967296*Y by have:=HB.out;omega)
      have HH:=hid (And.intro h1 (And.intro h2 (And.intro h3 (And.intro h4 h5))))
      have s1:IntKind.u64.wrap ((r1:Int)+(a:Int))=((r1+a:Nat):Int):=wrap_ok _ _ (by omega) (by have:=HB.out;omega)
      have s0:IntKind.u64.wrap ((q1:Int)*(b:Int))=((q1*b:Nat):Int):=wrap_ok _ _ (by rw [mulN]) (mul_small h4 HB.out.2.2.1)
      have s2:IntKind.u64.wrap (4294967296*(r1:Int))=((4294967296*r1:Nat):Int):=wrap_ok _ _ (by omega) (by omega)
      have s3:IntKind.u64.wrap (((4294967296*r1:Nat):Int)+(d0:Int))=((4294967296*r1+d0:Nat):Int):=wrap_ok _ _ (by omega) (by have:=HB.out;omega)
      obtain ⟨m,hm⟩:∃ m,m=q1*b:=⟨_,rfl⟩
      obtain ⟨e,he⟩:∃ e,e=4294967296*r1+d0:=⟨_,rfl⟩
      obtain ⟨e2,he2⟩:∃ e2,e2=4294967296*r1:=⟨_,rfl⟩
      obtain ⟨r2,hr2⟩:∃ r2,r2=r1+a:=⟨_,rfl⟩
      rw [←hr2] at s1
      rw [←hm] at s0
      rw [←he2] at s2
      rw [←he,←he2] at s3
      have HM:=hid (And.intro hm (And.intro he hr2))
      clear h1 h2 h3 h4 h5 hm he he2 hr2
      by_cases p1:(4294967296:Int)≤q1
      ·have hdown:v*4294967296+d0<q1*Y:=by
        have hh:=HH.out;have hx:=HX.out;have hb:=HB.out;have hmm:=HM.out
        rw [hb.2.2.2.2.2.1] at hx ⊢
        exact dig_down v d0 a b q1 r1 hh.1 hx (.inl (by omega))
       have hq1:1≤q1:=by
        apply Nat.pos_of_ne_zero;intro h0;rw [h0,Nat.zero_mul] at hdown;omega
       have s4:IntKind.u64.wrap ((q1:Int) - 1)=((q1 - 1:Nat):Int):=wrap_ok _ _ (by omega) (by have:=HH.out;omega)
       have HN:=hid (show (q1 - 1)*a+r2=v∧v*4294967296+d0<(q1 - 1+1)*Y∧q1 - 1≤4294967296∧q1 - 1≤gk - 1∧1≤gk by
        have hh:=HH.out;have hmm:=HM.out
        refine ⟨?_,?_,by omega,by omega,by omega⟩
        ·obtain ⟨q2,rfl⟩:∃ q2,q1=q2+1:=⟨q1 - 1,by omega⟩
         rw [hmm.2.2,Nat.add_sub_cancel]
         have:=hh.1
         rw [Nat.add_mul] at this;omega
        ·rw [show q1 - 1+1=q1 by omega];exact hdown)
       clear hdown hq1
       obtain ⟨q3,hq3⟩:∃ q3,q3=q1 - 1:=⟨_,rfl⟩
       rw [←hq3] at s4 HN
       clear hq3
       by_cases p3:(4294967296:Int)≤r2
       ·have HF2:=hid (show q3*Y≤v*4294967296+d0∧v*4294967296+d0<(q3+1)*Y by
         have hn:=HN.out;have hb:=HB.out
         refine ⟨?_,hn.2.1⟩
         rw [hb.2.2.2.2.2.1]
         exact dig_exit v d0 a b q3 r2 hn.1 hb.2.2.1 (.inr ⟨hn.2.2.1,by omega⟩))
        obtain ⟨r9,t1,t2,t3⟩:=last_two HD.out hhi hlo HB.out.2.2.2.2.2.2.2.2 HB.out.2.2.2.1 HB.out.2.2.2.2.1 HB.out.2.2.2.2.2.2.2.1 HV.out.2.1 HF.out.1 HF2.out.1 HF2.out.2
        go_wp2
        go_ret2
        exact ⟨by simp,_,drewN0 _⟩
       ·go_wp2
        go_roundg (gk - 1)
        case measure=>have:=HN.out;omega
        case rel=>exact ⟨q3,r2,rfl,rfl,rfl,HN.out.1,by omega,HN.out.2.1,by have:=HN.out;omega,HN.out.2.2.2.1⟩
      ·by_cases p2:(e:Int)<m
       ·have hdown:v*4294967296+d0<q1*Y:=by
         have hh:=HH.out;have hx:=HX.out;have hb:=HB.out;have hmm:=HM.out
         rw [hb.2.2.2.2.2.1] at hx ⊢
         exact dig_down v d0 a b q1 r1 hh.1 hx (.inr (by rw [←hmm.1,←hmm.2.1];omega))
        have hq1:1≤q1:=by
         apply Nat.pos_of_ne_zero;intro h0;rw [h0,Nat.zero_mul] at hdown;omega
        have s4:IntKind.u64.wrap ((q1:Int) - 1)=((q1 - 1:Nat):Int):=wrap_ok _ _ (by omega) (by have:=HH.out;omega)
        have HN:=hid (show (q1 - 1)*a+r2=v∧v*4294967296+d0<(q1 - 1+1)*Y∧q1 - 1≤4294967296∧q1 - 1≤gk - 1∧1≤gk by
         have hh:=HH.out;have hmm:=HM.out
         refine ⟨?_,?_,by omega,by omega,by omega⟩
         ·obtain ⟨q2,rfl⟩:∃ q2,q1=q2+1:=⟨q1 - 1,by omega⟩
          rw [hmm.2.2,Nat.add_sub_cancel]
          have:=hh.1
          rw [Nat.add_mul] at this;omega
         ·rw [show q1 - 1+1=q1 by omega];exact hdown)
        clear hdown hq1
        obtain ⟨q3,hq3⟩:∃ q3,q3=q1 - 1:=⟨_,rfl⟩
        rw [←hq3] at s4 HN
        clear hq3
        by_cases p3:(4294967296:Int)≤r2
        ·have HF2:=hid (show q3*Y≤v*4294967296+d0∧v*4294967296+d0<(q3+1)*Y by
          have hn:=HN.out;have hb:=HB.out
          refine ⟨?_,hn.2.1⟩
          rw [hb.2.2.2.2.2.1]
          exact dig_exit v d0 a b q3 r2 hn.1 hb.2.2.1 (.inr ⟨hn.2.2.1,by omega⟩))
         obtain ⟨r9,t1,t2,t3⟩:=last_two HD.out hhi hlo HB.out.2.2.2.2.2.2.2.2 HB.out.2.2.2.1 HB.out.2.2.2.2.1 HB.out.2.2.2.2.2.2.2.1 HV.out.2.1 HF.out.1 HF2.out.1 HF2.out.2
         go_wp2
         go_ret2
         exact ⟨by simp,_,drewN0 _⟩
        ·go_wp2
         go_roundg (gk - 1)
         case measure=>have:=HN.out;omega
         case rel=>exact ⟨q3,r2,rfl,rfl,rfl,HN.out.1,by omega,HN.out.2.1,by have:=HN.out;omega,HN.out.2.2.2.1⟩
       ·have HF2:=hid (show q1*Y≤v*4294967296+d0∧v*4294967296+d0<(q1+1)*Y by
         have hh:=HH.out;have hb:=HB.out;have hmm:=HM.out
         refine ⟨?_,hh.2.2.1⟩
         rw [hb.2.2.2.2.2.1]
         exact dig_exit v d0 a b q1 r1 hh.1 hb.2.2.1 (.inl ⟨by omega,by rw [←hmm.1,←hmm.2.1];omega⟩))
        obtain ⟨r9,t1,t2,t3⟩:=last_two HD.out hhi hlo HB.out.2.2.2.2.2.2.2.2 HB.out.2.2.2.1 HB.out.2.2.2.2.1 HB.out.2.2.2.2.2.2.2.1 HV.out.2.1 HF.out.1 HF2.out.1 HF2.out.2
        go_wp2
        go_ret2
        exact ⟨by simp,_,drewN0 _⟩
    ·go_wp2
     go_roundg (gk - 1)
     case measure=>have:=HN.out;omega
     case rel=>exact ⟨q3,r2,rfl,rfl,rfl,HN.out.1,by omega,HN.out.2.1,by have:=HN.out;omega,HN.out.2.2.2.1⟩
   ·by_cases p2:(e:Int)<m
    ·have hdown:u*4294967296+d1<q1*Y:=by
      have hh:=HH.out;have hx:=HX.out;have hb:=HB.out;have hmm:=HM.out
      rw [hb.2.2.2.2.2.1] at hx ⊢
      exact dig_down u d1 a b q1 r1 hh.1 hx (.inr (by rw [←hmm.1,←hmm.2.1];omega))
     have hq1:1≤q1:=by
      apply Nat.pos_of_ne_zero;intro h0;rw [h0,Nat.zero_mul] at hdown;omega
     have s4:IntKind.u64.wrap ((q1:Int) - 1)=((q1 - 1:Nat):Int):=wrap_ok _ _ (by omega) (by have:=HH.out;omega)
     have HN:=hid (show (q1 - 1)*a+r2=u∧u*4294967296+d1<(q1 - 1+1)*Y∧q1 - 1≤4294967296∧q1 - 1≤gk - 1∧1≤gk by
      have hh:=HH.out;have hmm:=HM.out
      refine ⟨?_,?_,by omega,by omega,by omega⟩
      ·obtain ⟨q2,rfl⟩:∃ q2,q1=q2+1:=⟨q1 - 1,by omega⟩
       rw [hmm.2.2,Nat.add_sub_cancel]
       have:=hh.1
       rw [Nat.add_mul] at this;omega
      ·rw [show q1 - 1+1=q1 by omega];exact hdown)
     clear hdown hq1
     obtain ⟨q3,hq3⟩:∃ q3,q3=q1 - 1:=⟨_,rfl⟩
     rw [←hq3] at s4 HN
     clear hq3
     by_cases p3:(4294967296:Int)≤r2
     ·have HF:=hid (show q3*Y≤u*4294967296+d1∧u*4294967296+d1<(q3+1)*Y by
       have hn:=HN.out;have hb:=HB.out
       refine ⟨?_,hn.2.1⟩
       rw [hb.2.2.2.2.2.1]
       exact dig_exit u d1 a b q3 r2 hn.1 hb.2.2.1 (.inr ⟨hn.2.2.1,by omega⟩))
      obtain ⟨v,hv⟩:∃ v,v=u*4294967296+d1 - q3*Y:=⟨_,rfl⟩
      have k1:IntKind.u64.wrap (IntKind.u64.wrap (IntKind.u64.wrap ((u:Int)*4294967296)+(d1:Int)) - IntKind.u64.wrap ((q3:Int)*(Y:Int)))=(v:Int):=wrap_sub3 _ _ _ _ (by rw [mulN,hv];have:=HF.out;omega) (by have:=HF.out;have:=HB.out;rw [Nat.add_mul] at *;omega)
      have HV:=hid (show v<Y∧v=u*4294967296+d1 - q3*Y∧q3*Y≤u*4294967296+d1 by have h:=HF.out;rw [Nat.add_mul] at h;omega)
      clear hv
      obtain ⟨q0,hq0⟩:∃ q0,q0=v / a:=⟨_,rfl⟩
      obtain ⟨r0,hr0⟩:∃ r0,r0=v%a:=⟨_,rfl⟩
      have k2:IntKind.u64.wrap ((v:Int).tdiv (a:Int))=(q0:Int):=wrap_ok _ _ (by rw [hq0];simp [Int.tdiv_eq_ediv_of_nonneg]) (by
       rw [hq0];exact Nat.lt_of_le_of_lt (Nat.div_le_self _ _) (by have:=HV.out;have:=HB.out;omega))
      have k2':IntKind.u64.wrap ((v:Int) / (a:Int))=(q0:Int):=wrap_ok _ _ (by rw [hq0];simp) (by
       rw [hq0];exact Nat.lt_of_le_of_lt (Nat.div_le_self _ _) (by have:=HV.out;have:=HB.out;omega))
      have hqr0:q0*a+r0=v:=by rw [hq0,hr0,Nat.mul_comm];exact Nat.div_add_mod _ _
      have k3:IntKind.u64.wrap ((v:Int) - IntKind.u64.wrap ((q0:Int)*(a:Int)))=(r0:Int):=wrap_sub2 _ _ _ (by rw [mulN];omega) (by have:=HV.out;have:=HB.out;omega)
      have HQ0:=hid (show q0≤4294967297∧r0<a∧q0*a+r0=v from ⟨by have:=HV.out;have:=HB.out;rw [hq0];exact dig_first v a b (by omega) (by omega) (by omega),by have:=HB.out;rw [hr0];exact Nat.mod_lt _ (by omega),hqr0⟩)
      clear hq0 hr0 hqr0
      have HB:=hid (show 2147483648≤a∧a<4294967296∧b<4294967296∧d1<4294967296∧d0<4294967296∧Y=a*4294967296+b∧v<Y∧Y<18446744073709551616∧L=d1*4294967296+d0 by have:=HB.out;have:=HV.out;omega)
      go_wp2
      try clear HN
      try clear s4
      try clear p3
      try clear p2
      clear HX HH HM s0 s1 s2 s3 p1 HQ g8 g8' g9 k2 k2' k3 k1
      go_loopg [16,18] 4294967297 (fun n rv qv wr=>∃ q r:Nat,qv=.int .u64 q∧rv=.int .u64 r∧w=wr∧q*a+r=v∧r<4294967296∧v*4294967296+d0<(q+1)*Y∧q≤4294967297∧q≤n)
      case atStart=>exact ⟨q0,r0,rfl,rfl,rfl,HQ0.out.2.2,by have:=HQ0.out;have:=HB.out;omega,top_X HQ0.out.2.2 HB.out.2.2.2.2.2.1 HQ0.out.2.1 HB.out.2.1 (by have:=HB.out;omega),HQ0.out.1,HQ0.out.1⟩
      case round =>
       obtain ⟨q1,r1,rfl,rfl,rfl,h1,h2,h3,h4,h5⟩:=hrel
       have HX:=hid (show v*4294967296+d0<4294967296*Y by have:=HB.out;omega)
       have HH:=hid (And.intro h1 (And.intro h2 (And.intro h3 (And.intro h4 h5))))
       have s1:IntKind.u64.wrap ((r1:Int)+(a:Int))=((r1+a:Nat):Int):=wrap_ok _ _ (by omega) (by have:=HB.out;omega)
       have s0:IntKind.u64.wrap ((q1:Int)*(b:Int))=((q1*b:Nat):Int):=wrap_ok _ _ (by rw [mulN]) (mul_small h4 HB.out.2.2.1)
       have s2:IntKind.u64.wrap (4294967296*(r1:Int))=((4294967296*r1:Nat):Int):=wrap_ok _ _ (by omega) (by omega)
       have s3:IntKind.u64.wrap (((4294967296*r1:Nat):Int)+(d0:Int))=((4294967296*r1+d0:Nat):Int):=wrap_ok _ _ (by omega) (by have:=HB.out;omega)
       obtain ⟨m,hm⟩:∃ m,m=q1*b:=⟨_,rfl⟩
       obtain ⟨e,he⟩:∃ e,e=4294967296*r1+d0:=⟨_,rfl⟩
       obtain ⟨e2,he2⟩:∃ e2,e2=4294967296*r1:=⟨_,rfl⟩
       obtain ⟨r2,hr2⟩:∃ r2,r2=r1+a:=⟨_,rfl⟩
       rw [←hr2] at s1
       rw [←hm] at s0
       rw [←he2] at s2
       rw [←he,←he2] at s3
       have HM:=hid (And.intro hm (And.intro he hr2))
       clear h1 h2 h3 h4 h5 hm he he2 hr2
       by_cases p1:(4294967296:Int)≤q1
       ·have hdown:v*4294967296+d0<q1*Y:=by
         have hh:=HH.out;have hx:=HX.out;have hb:=HB.out;have hmm:=HM.out
         rw [hb.2.2.2.2.2.1] at hx ⊢
         exact dig_down v d0 a b q1 r1 hh.1 hx (.inl (by omega))
        have hq1:1≤q1:=by
         apply Nat.pos_of_ne_zero;intro h0;rw [h0,Nat.zero_mul] at hdown;omega
        have s4:IntKind.u64.wrap ((q1:Int) - 1)=((q1 - 1:Nat):Int):=wrap_ok _ _ (by omega) (by have:=HH.out;omega)
        have HN:=hid (show (q1 - 1)*a+r2=v∧v*4294967296+d0<(q1 - 1+1)*Y∧q1 - 1≤4294967296∧q1 - 1≤gk - 1∧1≤gk by
         have hh:=HH.out;have hmm:=HM.out
         refine ⟨?_,?_,by omega,by omega,by omega⟩
         ·obtain ⟨q2,rfl⟩:∃ q2,q1=q2+1:=⟨q1 - 1,by omega⟩
          rw [hmm.2.2,Nat.add_sub_cancel]
          have:=hh.1
          rw [Nat.add_mul] at this;omega
         ·rw [show q1 - 1+1=q1 by omega];exact hdown)
        clear hdown hq1
        obtain ⟨q3,hq3⟩:∃ q3,q3=q1 - 1:=⟨_,rfl⟩
        rw [←hq3] at s4 HN
        clear hq3
        by_cases p3:(4294967296:Int)≤r2
        ·have HF2:=hid (show q3*Y≤v*4294967296+d0∧v*4294967296+d0<(q3+1)*Y by
          have hn:=HN.out;have hb:=HB.out
          refine ⟨?_,hn.2.1⟩
          rw [hb.2.2.2.2.2.1]
          exact dig_exit v d0 a b q3 r2 hn.1 hb.2.2.1 (.inr ⟨hn.2.2.1,by omega⟩))
         obtain ⟨r9,t1,t2,t3⟩:=last_two HD.out hhi hlo HB.out.2.2.2.2.2.2.2.2 HB.out.2.2.2.1 HB.out.2.2.2.2.1 HB.out.2.2.2.2.2.2.2.1 HV.out.2.1 HF.out.1 HF2.out.1 HF2.out.2
         go_wp2
         go_ret2
         exact ⟨by simp,_,drewN0 _⟩
        ·go_wp2
         go_roundg (gk - 1)
         case measure=>have:=HN.out;omega
         case rel=>exact ⟨q3,r2,rfl,rfl,rfl,HN.out.1,by omega,HN.out.2.1,by have:=HN.out;omega,HN.out.2.2.2.1⟩
       ·by_cases p2:(e:Int)<m
        ·have hdown:v*4294967296+d0<q1*Y:=by
          have hh:=HH.out;have hx:=HX.out;have hb:=HB.out;have hmm:=HM.out
          rw [hb.2.2.2.2.2.1] at hx ⊢
          exact dig_down v d0 a b q1 r1 hh.1 hx (.inr (by rw [←hmm.1,←hmm.2.1];omega))
         have hq1:1≤q1:=by
          apply Nat.pos_of_ne_zero;intro h0;rw [h0,Nat.zero_mul] at hdown;omega
         have s4:IntKind.u64.wrap ((q1:Int) - 1)=((q1 - 1:Nat):Int):=wrap_ok _ _ (by omega) (by have:=HH.out;omega)
         have HN:=hid (show (q1 - 1)*a+r2=v∧v*4294967296+d0<(q1 - 1+1)*Y∧q1 - 1≤4294967296∧q1 - 1≤gk - 1∧1≤gk by
          have hh:=HH.out;have hmm:=HM.out
          refine ⟨?_,?_,by omega,by omega,by omega⟩
          ·obtain ⟨q2,rfl⟩:∃ q2,q1=q2+1:=⟨q1 - 1,by omega⟩
           rw [hmm.2.2,Nat.add_sub_cancel]
           have:=hh.1
           rw [Nat.add_mul] at this;omega
          ·rw [show q1 - 1+1=q1 by omega];exact hdown)
         clear hdown hq1
         obtain ⟨q3,hq3⟩:∃ q3,q3=q1 - 1:=⟨_,rfl⟩
         rw [←hq3] at s4 HN
         clear hq3
         by_cases p3:(4294967296:Int)≤r2
         ·have HF2:=hid (show q3*Y≤v*4294967296+d0∧v*4294967296+d0<(q3+1)*Y by
           have hn:=HN.out;have hb:=HB.out
           refine ⟨?_,hn.2.1⟩
           rw [hb.2.2.2.2.2.1]
           exact dig_exit v d0 a b q3 r2 hn.1 hb.2.2.1 (.inr ⟨hn.2.2.1,by omega⟩))
          obtain ⟨r9,t1,t2,t3⟩:=last_two HD.out hhi hlo HB.out.2.2.2.2.2.2.2.2 HB.out.2.2.2.1 HB.out.2.2.2.2.1 HB.out.2.2.2.2.2.2.2.1 HV.out.2.1 HF.out.1 HF2.out.1 HF2.out.2
          go_wp2
          go_ret2
          exact ⟨by simp,_,drewN0 _⟩
         ·go_wp2
          go_roundg (gk - 1)
          case measure=>have:=HN.out;omega
          case rel=>exact ⟨q3,r2,rfl,rfl,rfl,HN.out.1,by omega,HN.out.2.1,by have:=HN.out;omega,HN.out.2.2.2.1⟩
        ·have HF2:=hid (show q1*Y≤v*4294967296+d0∧v*4294967296+d0<(q1+1)*Y by
          have hh:=HH.out;have hb:=HB.out;have hmm:=HM.out
          refine ⟨?_,hh.2.2.1⟩
          rw [hb.2.2.2.2.2.1]
          exact dig_exit v d0 a b q1 r1 hh.1 hb.2.2.1 (.inl ⟨by omega,by rw [←hmm.1,←hmm.2.1];omega⟩))
         obtain ⟨r9,t1,t2,t3⟩:=last_two HD.out hhi hlo HB.out.2.2.2.2.2.2.2.2 HB.out.2.2.2.1 HB.out.2.2.2.2.1 HB.out.2.2.2.2.2.2.2.1 HV.out.2.1 HF.out.1 HF2.out.1 HF2.out.2
         go_wp2
         go_ret2
         exact ⟨by simp,_,drewN0 _⟩
     ·go_wp2
      go_roundg (gk - 1)
      case measure=>have:=HN.out;omega
      case rel=>exact ⟨q3,r2,rfl,rfl,rfl,HN.out.1,by omega,HN.out.2.1,by have:=HN.out;omega,HN.out.2.2.2.1⟩
    ·have HF:=hid (show q1*Y≤u*4294967296+d1∧u*4294967296+d1<(q1+1)*Y by
      have hh:=HH.out;have hb:=HB.out;have hmm:=HM.out
      refine ⟨?_,hh.2.2.1⟩
      rw [hb.2.2.2.2.2.1]
      exact dig_exit u d1 a b q1 r1 hh.1 hb.2.2.1 (.inl ⟨by omega,by rw [←hmm.1,←hmm.2.1];omega⟩))
     obtain ⟨v,hv⟩:∃ v,v=u*4294967296+d1 - q1*Y:=⟨_,rfl⟩
     have k1:IntKind.u64.wrap (IntKind.u64.wrap (IntKind.u64.wrap ((u:Int)*4294967296)+(d1:Int)) - IntKind.u64.wrap ((q1:Int)*(Y:Int)))=(v:Int):=wrap_sub3 _ _ _ _ (by rw [mulN,hv];have:=HF.out;omega) (by have:=HF.out;have:=HB.out;rw [Nat.add_mul] at *;omega)
     have HV:=hid (show v<Y∧v=u*4294967296+d1 - q1*Y∧q1*Y≤u*4294967296+d1 by have h:=HF.out;rw [Nat.add_mul] at h;omega)
     clear hv
     obtain ⟨q0,hq0⟩:∃ q0,q0=v / a:=⟨_,rfl⟩
     obtain ⟨r0,hr0⟩:∃ r0,r0=v%a:=⟨_,rfl⟩
     have k2:IntKind.u64.wrap ((v:Int).tdiv (a:Int))=(q0:Int):=wrap_ok _ _ (by rw [hq0];simp [Int.tdiv_eq_ediv_of_nonneg]) (by
      rw [hq0];exact Nat.lt_of_le_of_lt (Nat.div_le_self _ _) (by have:=HV.out;have:=HB.out;omega))
     have k2':IntKind.u64.wrap ((v:Int) / (a:Int))=(q0:Int):=wrap_ok _ _ (by rw [hq0];simp) (by
      rw [hq0];exact Nat.lt_of_le_of_lt (Nat.div_le_self _ _) (by have:=HV.out;have:=HB.out;omega))
     have hqr0:q0*a+r0=v:=by rw [hq0,hr0,Nat.mul_comm];exact Nat.div_add_mod _ _
     have k3:IntKind.u64.wrap ((v:Int) - IntKind.u64.wrap ((q0:Int)*(a:Int)))=(r0:Int):=wrap_sub2 _ _ _ (by rw [mulN];omega) (by have:=HV.out;have:=HB.out;omega)
     have HQ0:=hid (show q0≤4294967297∧r0<a∧q0*a+r0=v from ⟨by have:=HV.out;have:=HB.out;rw [hq0];exact dig_first v a b (by omega) (by omega) (by omega),by have:=HB.out;rw [hr0];exact Nat.mod_lt _ (by omega),hqr0⟩)
     clear hq0 hr0 hqr0
     have HB:=hid (show 2147483648≤a∧a<4294967296∧b<4294967296∧d1<4294967296∧d0<4294967296∧Y=a*4294967296+b∧v<Y∧Y<18446744073709551616∧L=d1*4294967296+d0 by have:=HB.out;have:=HV.out;omega)
     go_wp2
     try clear HN
     try clear s4
     try clear p3
     try clear p2
     clear HX HH HM s0 s1 s2 s3 p1 HQ g8 g8' g9 k2 k2' k3 k1
     go_loopg [16,18] 4294967297 (fun n rv qv wr=>∃ q r:Nat,qv=.int .u64 q∧rv=.int .u64 r∧w=wr∧q*a+r=v∧r<4294967296∧v*4294967296+d0<(q+1)*Y∧q≤4294967297∧q≤n)
     case atStart=>exact ⟨q0,r0,rfl,rfl,rfl,HQ0.out.2.2,by have:=HQ0.out;have:=HB.out;omega,top_X HQ0.out.2.2 HB.out.2.2.2.2.2.1 HQ0.out.2.1 HB.out.2.1 (by have:=HB.out;omega),HQ0.out.1,HQ0.out.1⟩
     case round =>
      obtain ⟨q1,r1,rfl,rfl,rfl,h1,h2,h3,h4,h5⟩:=hrel
      have HX:=hid (show v*4294967296+d0<4294967296*Y by have:=HB.out;omega)
      have HH:=hid (And.intro h1 (And.intro h2 (And.intro h3 (And.intro h4 h5))))
      have s1:IntKind.u64.wrap ((r1:Int)+(a:Int))=((r1+a:Nat):Int):=wrap_ok _ _ (by omega) (by have:=HB.out;omega)
      have s0:IntKind.u64.wrap ((q1:Int)*(b:Int))=((q1*b:Nat):Int):=wrap_ok _ _ (by rw [mulN]) (mul_small h4 HB.out.2.2.1)
      have s2:IntKind.u64.wrap (4294967296*(r1:Int))=((4294967296*r1:Nat):Int):=wrap_ok _ _ (by omega) (by omega)
      have s3:IntKind.u64.wrap (((4294967296*r1:Nat):Int)+(d0:Int))=((4294967296*r1+d0:Nat):Int):=wrap_ok _ _ (by omega) (by have:=HB.out;omega)
      obtain ⟨m,hm⟩:∃ m,m=q1*b:=⟨_,rfl⟩
      obtain ⟨e,he⟩:∃ e,e=4294967296*r1+d0:=⟨_,rfl⟩
      obtain ⟨e2,he2⟩:∃ e2,e2=4294967296*r1:=⟨_,rfl⟩
      obtain ⟨r2,hr2⟩:∃ r2,r2=r1+a:=⟨_,rfl⟩
      rw [←hr2] at s1
      rw [←hm] at s0
      rw [←he2] at s2
      rw [←he,←he2] at s3
      have HM:=hid (And.intro hm (And.intro he hr2))
      clear h1 h2 h3 h4 h5 hm he he2 hr2
      by_cases p1:(4294967296:Int)≤q1
      ·have hdown:v*4294967296+d0<q1*Y:=by
        have hh:=HH.out;have hx:=HX.out;have hb:=HB.out;have hmm:=HM.out
        rw [hb.2.2.2.2.2.1] at hx ⊢
        exact dig_down v d0 a b q1 r1 hh.1 hx (.inl (by omega))
       have hq1:1≤q1:=by
        apply Nat.pos_of_ne_zero;intro h0;rw [h0,Nat.zero_mul] at hdown;omega
       have s4:IntKind.u64.wrap ((q1:Int) - 1)=((q1 - 1:Nat):Int):=wrap_ok _ _ (by omega) (by have:=HH.out;omega)
       have HN:=hid (show (q1 - 1)*a+r2=v∧v*4294967296+d0<(q1 - 1+1)*Y∧q1 - 1≤4294967296∧q1 - 1≤gk - 1∧1≤gk by
        have hh:=HH.out;have hmm:=HM.out
        refine ⟨?_,?_,by omega,by omega,by omega⟩
        ·obtain ⟨q2,rfl⟩:∃ q2,q1=q2+1:=⟨q1 - 1,by omega⟩
         rw [hmm.2.2,Nat.add_sub_cancel]
         have:=hh.1
         rw [Nat.add_mul] at this;omega
        ·rw [show q1 - 1+1=q1 by omega];exact hdown)
       clear hdown hq1
       obtain ⟨q3,hq3⟩:∃ q3,q3=q1 - 1:=⟨_,rfl⟩
       rw [←hq3] at s4 HN
       clear hq3
       by_cases p3:(4294967296:Int)≤r2
       ·have HF2:=hid (show q3*Y≤v*4294967296+d0∧v*4294967296+d0<(q3+1)*Y by
         have hn:=HN.out;have hb:=HB.out
         refine ⟨?_,hn.2.1⟩
         rw [hb.2.2.2.2.2.1]
         exact dig_exit v d0 a b q3 r2 hn.1 hb.2.2.1 (.inr ⟨hn.2.2.1,by omega⟩))
        obtain ⟨r9,t1,t2,t3⟩:=last_two HD.out hhi hlo HB.out.2.2.2.2.2.2.2.2 HB.out.2.2.2.1 HB.out.2.2.2.2.1 HB.out.2.2.2.2.2.2.2.1 HV.out.2.1 HF.out.1 HF2.out.1 HF2.out.2
        go_wp2
        go_ret2
        exact ⟨by simp,_,drewN0 _⟩
       ·go_wp2
        go_roundg (gk - 1)
        case measure=>have:=HN.out;omega
        case rel=>exact ⟨q3,r2,rfl,rfl,rfl,HN.out.1,by omega,HN.out.2.1,by have:=HN.out;omega,HN.out.2.2.2.1⟩
      ·by_cases p2:(e:Int)<m
       ·have hdown:v*4294967296+d0<q1*Y:=by
         have hh:=HH.out;have hx:=HX.out;have hb:=HB.out;have hmm:=HM.out
         rw [hb.2.2.2.2.2.1] at hx ⊢
         exact dig_down v d0 a b q1 r1 hh.1 hx (.inr (by rw [←hmm.1,←hmm.2.1];omega))
        have hq1:1≤q1:=by
         apply Nat.pos_of_ne_zero;intro h0;rw [h0,Nat.zero_mul] at hdown;omega
        have s4:IntKind.u64.wrap ((q1:Int) - 1)=((q1 - 1:Nat):Int):=wrap_ok _ _ (by omega) (by have:=HH.out;omega)
        have HN:=hid (show (q1 - 1)*a+r2=v∧v*4294967296+d0<(q1 - 1+1)*Y∧q1 - 1≤4294967296∧q1 - 1≤gk - 1∧1≤gk by
         have hh:=HH.out;have hmm:=HM.out
         refine ⟨?_,?_,by omega,by omega,by omega⟩
         ·obtain ⟨q2,rfl⟩:∃ q2,q1=q2+1:=⟨q1 - 1,by omega⟩
          rw [hmm.2.2,Nat.add_sub_cancel]
          have:=hh.1
          rw [Nat.add_mul] at this;omega
         ·rw [show q1 - 1+1=q1 by omega];exact hdown)
        clear hdown hq1
        obtain ⟨q3,hq3⟩:∃ q3,q3=q1 - 1:=⟨_,rfl⟩
        rw [←hq3] at s4 HN
        clear hq3
        by_cases p3:(4294967296:Int)≤r2
        ·have HF2:=hid (show q3*Y≤v*4294967296+d0∧v*4294967296+d0<(q3+1)*Y by
          have hn:=HN.out;have hb:=HB.out
          refine ⟨?_,hn.2.1⟩
          rw [hb.2.2.2.2.2.1]
          exact dig_exit v d0 a b q3 r2 hn.1 hb.2.2.1 (.inr ⟨hn.2.2.1,by omega⟩))
         obtain ⟨r9,t1,t2,t3⟩:=last_two HD.out hhi hlo HB.out.2.2.2.2.2.2.2.2 HB.out.2.2.2.1 HB.out.2.2.2.2.1 HB.out.2.2.2.2.2.2.2.1 HV.out.2.1 HF.out.1 HF2.out.1 HF2.out.2
         go_wp2
         go_ret2
         exact ⟨by simp,_,drewN0 _⟩
        ·go_wp2
         go_roundg (gk - 1)
         case measure=>have:=HN.out;omega
         case rel=>exact ⟨q3,r2,rfl,rfl,rfl,HN.out.1,by omega,HN.out.2.1,by have:=HN.out;omega,HN.out.2.2.2.1⟩
       ·have HF2:=hid (show q1*Y≤v*4294967296+d0∧v*4294967296+d0<(q1+1)*Y by
         have hh:=HH.out;have hb:=HB.out;have hmm:=HM.out
         refine ⟨?_,hh.2.2.1⟩
         rw [hb.2.2.2.2.2.1]
         exact dig_exit v d0 a b q1 r1 hh.1 hb.2.2.1 (.inl ⟨by omega,by rw [←hmm.1,←hmm.2.1];omega⟩))
        obtain ⟨r9,t1,t2,t3⟩:=last_two HD.out hhi hlo HB.out.2.2.2.2.2.2.2.2 HB.out.2.2.2.1 HB.out.2.2.2.2.1 HB.out.2.2.2.2.2.2.2.1 HV.out.2.1 HF.out.1 HF2.out.1 HF2.out.2
        go_wp2
        go_ret2
        exact ⟨by simp,_,drewN0 _⟩
end Go.Proofs.Ytnkmhbiklffjlaa
set_option maxHeartbeats 2000000
namespace Go.Proofs.Ytnkmhbiklffjlaa
open Go.RowKit Ap
open Lib (hid)
theorem share_any (t v s:Nat) (w:World) (ht:t≤1000000000000000) (hv:v≤s) (hs:0<s) (hs2:s≤4000000000000000000) :
  Calls Try.prog 28 #[.int .i64 t,.int .i64 v,.int .i64 s] w fun e w'=>e=.returned (.tuple #[.int .i64 ((t*v / s:Nat):Int),.int .i64 ((t*v%s:Nat):Int)])∧∃ n,w'=w.drewN n:=by
 have hle:t*v≤t*s:=Nat.mul_le_mul_left _ hv
 have hq:t*v / s≤t:=Nat.div_le_of_le_mul (by rw [Nat.mul_comm s t];exact hle)
 have hr:t*v%s<s:=Nat.mod_lt _ hs
 have hhi:t*v / 18446744073709551616<s:=by
  refine Nat.div_lt_of_lt_mul ?_
  have:t*s≤1000000000000000*s:=Nat.mul_le_mul_right _ ht
  omega
 have hsum:t*v / 18446744073709551616*18446744073709551616+t*v%18446744073709551616=t*v:=Nat.div_add_mod' _ _
 obtain ⟨p,hp⟩:∃ p,p=t*v:=⟨_,rfl⟩
 have HD:=div64_any (p / 18446744073709551616) (p%18446744073709551616) s
 rw [←hp] at hq hr hhi hsum ⊢
 rw [hsum] at HD
 obtain ⟨a,ha⟩:∃ a,a=p / 18446744073709551616:=⟨_,rfl⟩
 obtain ⟨b,hb⟩:∃ b,b=p%18446744073709551616:=⟨_,rfl⟩
 have HM:=mul64_any t v
 rw [←hp,←ha,←hb] at HM
 rw [←ha,←hb] at HD
 rw [←ha] at hhi
 have hb2:b<18446744073709551616:=by omega
 have w1:IntKind.u64.wrap (t:Int)=(t:Int):=wrapN _ (by omega)
 have w2:IntKind.u64.wrap (v:Int)=(v:Int):=wrapN _ (by omega)
 have w3:IntKind.u64.wrap (s:Int)=(s:Int):=wrapN _ (by omega)
 obtain ⟨x,hx⟩:∃ x,x=p / s:=⟨_,rfl⟩
 obtain ⟨y,hy⟩:∃ y,y=p%s:=⟨_,rfl⟩
 rw [←hx,←hy] at HD ⊢
 rw [←hx] at hq
 rw [←hy] at hr
 have w4:IntKind.i64.wrap (x:Int)=(x:Int):=IntWalk.i64_in _ (by omega)
 have w5:IntKind.i64.wrap (y:Int)=(y:Int):=IntWalk.i64_in _ (by omega)
 have HH:=hid (And.intro hhi (And.intro hb2 hs2))
 have HT:=hid (show t<18446744073709551616∧v<18446744073709551616 by omega)
 clear hle hp ha hb hx hy hhi hb2 hsum hq hr ht hv hs hs2
 go_enter Try.func28,Try.ntmps28
 go_wp2_with (go_at_call 43;refine (HM HT.out.1 HT.out.2 _).mono ?_;rintro e w' ⟨rfl,rfl⟩)
 go_wp2_with (go_at_call 44;refine (HD _ HH.out.1 HH.out.2.1 (by have:=HH.out;omega)).mono ?_;rintro e w' ⟨rfl,n,rfl⟩)
 go_ret2
 exact ⟨rfl,_,rfl⟩
def checkL:List Int→Int→Option Int
 | [],a=>some a
 | x::l,a=>if x<0∨1000000000000000<x then none else checkL l (a+x)
def checkR (l:List Int):Int × Int:=if l.length=0∨512<l.length then (0,40) else match checkL l 0 with|none=>(0,41)|some a=>(a,0)
theorem check_any (l:List Int) (v:Value) (w:World) (h:Reads w 1 v l.length (l.map (Value.int .i64))) :
  Calls Try.prog 25 #[v] w fun e w'=>e=.returned (.tuple #[.int .i64 (checkR l).1,.int .i64 (checkR l).2])∧w=w':=by
 by_cases h0:l.length=0
 ·obtain ⟨a,cap,rfl⟩:=h.zero h0
  have HE:=hid (show checkR l=(0,40) by unfold checkR;rw [if_pos (.inl h0)])
  clear h
  go_enter Try.func25,Try.ntmps25
  go_wp2
  go_ret2
  rw [HE.out];exact ⟨rfl,rfl⟩
 ·obtain ⟨g,off,cap,rfl,hc⟩:=h.some h0
  have hmx:=h.2.1
  have h00:((l.length:Int)==0)=false:=beq_eq_false_iff_ne.2 (by omega)
  by_cases h1:512<l.length
  ·have h1':(512:Int)<l.length:=by omega
   have HE:=hid (show checkR l=(0,40) by unfold checkR;rw [if_pos (.inr h1)])
   clear h hc h0 h1
   go_enter Try.func25,Try.ntmps25
   go_wp2
   go_ret2
   rw [HE.out];exact ⟨rfl,rfl⟩
  ·have h1':¬(512:Int)<l.length:=by omega
   have HE:=hid (show checkR l=match checkL l 0 with|none=>(0,41)|some a=>(a,0) by unfold checkR;rw [if_neg (by omega)])
   have HC:=hid hc
   have HL:=hid h1
   clear h hc h0 h1
   go_enter Try.func25,Try.ntmps25
   go_wp2
   go_loopg [4,17] l.length (fun n sv iv wr=>∃ (k:Nat) (s:Int),sv=.int .i64 s∧iv=.int .i64 k∧w=wr∧k≤l.length∧l.length - k≤n∧0≤s∧s≤1000000000000000*k∧checkL (l.drop k) s=checkL l 0)
   case atStart=>exact ⟨0,0,rfl,rfl,rfl,by omega,by omega,by omega,by omega,rfl⟩
   case round =>
    obtain ⟨k,s,rfl,rfl,rfl,hk,hm,hs0,hs1,hck⟩:=hrel
    have HK:=hid hck
    clear hck
    have hl512:=HL.out
    by_cases hlt:k<l.length
    ·obtain ⟨x,hx⟩:∃ x,l[k]?=some x:=⟨l[k],by simp [hlt]⟩
     have hcx:w.cell? ⟨g,off+k,none⟩=some (.int .i64 x):=HC.out k _ (by simp [hx])
     have HD:=hid (show l.drop k=x::l.drop (k+1) by
      rw [List.drop_eq_getElem_cons hlt];congr 1
      rw [List.getElem?_eq_getElem hlt] at hx;exact Option.some.inj hx)
     clear hx
     by_cases p1:x<0
     ·have HF:=hid (show checkR l=(0,41) by rw [HE.out,←HK.out,HD.out,checkL,if_pos (.inl p1)])
      go_wp2
      go_ret2
      rw [HF.out];exact ⟨rfl,rfl⟩
     ·by_cases p2:1000000000000000<x
      ·have HF:=hid (show checkR l=(0,41) by rw [HE.out,←HK.out,HD.out,checkL,if_pos (.inr p2)])
       go_wp2
       go_ret2
       rw [HF.out];exact ⟨rfl,rfl⟩
      ·have HF:=hid (show checkL (l.drop (k+1)) (s+x)=checkL l 0 by rw [←HK.out,HD.out,checkL,if_neg (by omega)])
       have w1:IntKind.i64.wrap (s+x)=s+x:=IntWalk.i64_in _ (by omega)
       go_wp2
       go_roundg (gk - 1)
       case measure=>omega
       case rel=>exact ⟨k+1,s+x,by go_num,by go_num,rfl,by omega,by omega,by omega,by omega,HF.out⟩
    ·have HF:=hid (show checkR l=(s,0) by
      have:=HK.out
      rw [List.drop_eq_nil_of_le (by omega),checkL] at this
      rw [HE.out,←this])
     go_wp2
     go_ret2
     rw [HF.out];exact ⟨rfl,rfl⟩
end Go.Proofs.Ytnkmhbiklffjlaa
set_option maxHeartbeats 4000000
namespace Go.Proofs.Ytnkmhbiklffjlaa
open Go.RowKit Ap
open Lib (hid)
def Row (w:World) (d off:Nat) (l:List Int):Prop:=(∀ k x,l[k]?=some x→w.cell? ⟨d,off+k,none⟩=some (.int .i64 x))∧∀ o,w.frozen? ⟨d,o,none⟩=false
theorem Row.set {w:World} {d off:Nat} {l:List Int} (h:Row w d off l) (k:Nat) (x:Int):Row (w.setCell ⟨d,off+k,none⟩ (.int .i64 x)) d off (l.set k x):=by
 refine ⟨fun j y hj=>?_,fun o=>by rw [World.frozen?_setCell];exact h.2 o⟩
 by_cases e:j=k
 ·subst e
  rw [List.getElem?_set_self'] at hj
  cases hq:l[j]? with
  | none=>rw [hq] at hj;simp at hj
  | some z =>
   rw [hq] at hj
   have:x=y:=by simpa using hj
   subst this
   exact World.cell?_setCell_same _ _ _ (h.1 j z hq)
 ·rw [List.getElem?_set_ne (by omega)] at hj
  rw [World.cell?_setCell_other _ _ _ _ (fun e=>by injection e with e1 e2;omega)]
  exact h.1 j y hj
theorem Row.grown {w w':World} {d off:Nat} {l:List Int} {row:Option Nat} (h:Row w d off l) (hg:w.grownBy w' row) (hr:row≠some d) (hd:d<w.heap.size):Row w' d off l:=by
 have hb:=hg.block d hd (fun e=>hr e.symm)
 exact ⟨fun k x hk=>by rw [World.cell?_of_block (w:=w) hb];exact h.1 k x hk,fun o=>by rw [World.frozen?_of_block (w:=w) hb];exact h.2 o⟩
theorem Row.drewN {w:World} {d off:Nat} {l:List Int} (h:Row w d off l) (n:Nat):Row (w.drewN n) d off l:=h
def Cmp (w:World) (B d:Nat) (rs:List Nat):Prop:=∃ g off n cap,w.cell? ⟨B,0,none⟩=some (.slice (some ⟨g,off,none⟩) n cap)∧n=rs.length∧(∀ (k x:Nat),rs[k]?=some x→w.cell? ⟨g,off+k,none⟩=some (.int .i64 (x:Int)))∧B≠d∧g≠d∧B<w.heap.size∧g<w.heap.size∧(∀ x∈rs,x≤4000000000000000000)
theorem Cmp.grown {w w':World} {B d:Nat} {rs:List Nat} (h:Cmp w B d rs) (hg:w.grownBy w' (some d)):Cmp w' B d rs:=by
 obtain ⟨g,off,n,cap,h1,h2,h3,h4,h5,h6,h7,h8⟩:=h
 have hs:=hg.size
 refine ⟨g,off,n,cap,?_,h2,fun k x hk=>?_,h4,h5,by omega,by omega,h8⟩
 ·rw [World.cell?_of_block (w:=w) (hg.block B h6 (fun e=>h4 (by injection e)))];exact h1
 ·rw [World.cell?_of_block (w:=w) (hg.block g h7 (fun e=>h5 (by injection e)))];exact h3 k x hk
theorem cmp_any (i j B d:Nat) (rs:List Nat) (w:World) (h:Cmp w B d rs) (hi:i<rs.length) (hj:j<rs.length) :
  Calls Try.prog 42 #[.int .i64 i,.int .i64 j,.pointer (some ⟨B,0,none⟩)] w fun e w'=>e=.returned (.int .i64 ((rs.getD j 0:Nat) - (rs.getD i 0:Nat):Int))∧∃ n,w'=w.drewN n:=by
 obtain ⟨g,off,n,cap,h1,rfl,h3,h4,h5,h6,h7,h8⟩:=h
 obtain ⟨x,hx⟩:∃ x,x=rs.getD i 0:=⟨_,rfl⟩
 obtain ⟨y,hy⟩:∃ y,y=rs.getD j 0:=⟨_,rfl⟩
 have ex:rs[i]?=some x:=by rw [hx];simp [List.getD,hi]
 have ey:rs[j]?=some y:=by rw [hy];simp [List.getD,hj]
 have cx:=h3 i x ex
 have cy:=h3 j y ey
 have bx:=h8 x (List.mem_of_getElem? ex)
 have by':=h8 y (List.mem_of_getElem? ey)
 rw [←hx,←hy]
 have hw:IntKind.i64.wrap ((y:Int) - (x:Int))=(y:Int) - x:=IntWalk.i64_in _ (by omega)
 clear hx hy ex ey h3 h4 h5 h6 h7 h8 bx by'
 go_enter Try.func42,Try.ntmps42
 go_wp2
 go_quiet (fail)
 go_wp2
 go_ret
 exact ⟨rfl,_,rfl⟩
theorem isort_any (d off n cap B a b:Nat) (P M T:List Nat) (rs:List Nat) (w:World) (hrow:Row w d off ((P++M++T).map Int.ofNat)) (hd:d<w.heap.size) (hc:Cmp w B d rs)
  (ha:P.length=a) (hb:a+M.length=b) (hn:b≤n) (hT:(P++M++T).length=n) (hbig:n≤1000000) (hM:∀ x∈M,x<rs.length) (hlt:M.Pairwise (·<·)) :
  Calls Try.prog 69 #[.slice (some ⟨d,off,none⟩) n cap,.int .i64 a,.int .i64 b,.func (.func 42) #[] #[.pointer (some ⟨B,0,none⟩)]] w fun e w' =>
   e=.returned (.tuple #[])∧w.grownBy w' (some d)∧∃ M':List Nat,M'.Perm M∧M'.Pairwise (R (rs.getD · 0))∧Row w' d off ((P++M'++T).map Int.ofNat):=by
 have HT:=hid hT
 have HP:=hid (And.intro ha (And.intro hb hn))
 have HM:=hid (And.intro hM hlt)
 have HR:=hid hrow
 have HC:=hid hc
 clear hM hlt hrow hc hT hb ha
 go_enter Try.func69,Try.ntmps69
 go_wp2
 go_loopg [8,9] b (fun m iv jv wr=>∃ (i:Nat) (S:List Nat),iv=.int .i64 i∧a+1≤i∧b≤i+m∧S.Perm (M.take (i - a))∧S.Pairwise (R (rs.getD · 0))∧Row wr d off ((P++S++(M.drop (i - a)++T)).map Int.ofNat)∧w.grownBy wr (some d))
 case atStart =>
  have hP:=HP.out
  refine ⟨a+1,M.take 1,congrArg (Value.int .i64) (by unfold wrap64;omega),Nat.le_refl _,Nat.le_add_left _ _,by rw [Nat.add_sub_cancel_left],?_,?_,grownBy_refl _ _⟩
  ·cases M<;>simp
  ·rw [Nat.add_sub_cancel_left]
   have:=HR.out
   have e:P++M.take 1++(M.drop 1++T)=P++M++T:=by rw [List.append_assoc P (M.take 1),←List.append_assoc (M.take 1),List.take_append_drop,List.append_assoc]
   rw [e];exact this
 case round =>
  obtain ⟨i,S,rfl,hai,hm,hSp,hss,hrw,hg⟩:=hrel
  by_cases hib:i<b
  ·have hk:i - a<M.length:=by have:=HP.out;omega
   obtain ⟨x,hx⟩:∃ x,M[i - a]?=some x:=⟨M[i - a],by simp [hk]⟩
   have hdrop:M.drop (i - a)=x::M.drop (i - a+1):=by
    rw [List.drop_eq_getElem_cons hk];congr 1
    rw [List.getElem?_eq_getElem hk] at hx;exact Option.some.inj hx
   have htake:M.take (i - a+1)=M.take (i - a)++[x]:=by
    rw [List.take_add_one,hx];rfl
   have hxl:x<rs.length:=HM.out.1 x (List.mem_of_getElem? hx)
   have hlow:∀ y∈M.take (i - a),y<x:=by
    have h2:=HM.out.2
    rw [←List.take_append_drop (i - a) M,hdrop] at h2
    intro y hy
    exact (List.pairwise_append.1 h2).2.2 y hy x (by simp)
   have hSl:S.length=i - a:=by rw [hSp.length_eq,List.length_take];omega
   rw [hdrop] at hrw
   have HS:=hid (And.intro (ins_start hSp hlow hss) (And.intro hSl (And.intro hrw htake)))
   have HG:=hid hg
   have hwd:d<wr.heap.size:=by have:=hg.size;omega
   clear hx hdrop htake hlow hSl hrw hSp hss hg
   go_wp2
   obtain ⟨gk0,rfl⟩:∃ m,m=gk:=⟨gk,rfl⟩
   obtain ⟨wr0,rfl⟩:∃ m,m=wr:=⟨wr,rfl⟩
   go_loopg [9] i (fun m2 jv w2=>∃ (j:Nat) (A C:List Nat),jv=.int .i64 j∧j=a+A.length∧j≤m2∧Ins (rs.getD · 0) x (M.take (i - a)) A C∧Row w2 d off ((P++A++x::(C++(M.drop (i - a+1)++T))).map Int.ofNat)∧w.grownBy w2 (some d)∧A.length+C.length=i - a)
   case atStart=>exact ⟨i,S,[],rfl,by have:=HS.out.2.1;omega,by omega,HS.out.1,by have:=HS.out.2.2.1;simpa using this,HG.out,by have:=HS.out.2.1;simpa using this⟩
   case round =>
    obtain ⟨j,A,C,rfl,hj,hm2,hins,hrow2,hg2,hAC⟩:=hrel
    have hwd2:d<wr.heap.size:=by have:=hg2.size;omega
    have HI:=hid hins
    have HW:=hid hrow2
    have HG2:=hid hg2
    have HA:=hid hAC
    clear hins hrow2 hg2 hAC
    rcases List.eq_nil_or_concat A with rfl|⟨A,z,rfl⟩
    ·have hja:¬a<j:=by simp at hj;omega
     clear hj
     go_wp2
     go_quiet (fail)
     go_wp2
     have he:=ins_end HI.out (by intro B' z h;simp at h)
     go_roundg (gk0 - 1)
     case measure=>omega
     case rel=>exact ⟨i+1,[]++x::C,by go_num,by omega,by omega,by rw [show i+1 - a=i - a+1 by omega,HS.out.2.2.2];exact he.1,he.2,by rw [show i+1 - a=i - a+1 by omega];exact Row.drewN (by have:=HW.out;simpa using this) _,grownBy_drewN HG2.out _⟩
    ·rw [List.concat_eq_append] at *
     obtain ⟨k,hjk⟩:∃ k,j=k+1:=⟨a+A.length,by simp at hj;omega⟩
     have hk2:k=a+A.length:=by simp at hj;omega
     have hja:a<j:=by omega
     have HK:=hid (And.intro hk2 hjk)
     have hj1:(j:Int) - 1=(k:Int):=by omega
     have hj0:1≤j:=by omega
     have hjn:j<n:=by have:=HA.out;have:=HP.out;simp at *;omega
     have hkn:k<n:=by have:=HA.out;have:=HP.out;simp at *;omega
     have hz:z<rs.length:=HM.out.1 z (List.mem_of_mem_take (HI.out.perm.subset (by simp)))
     have hcz:wr.cell? ⟨d,off+k,none⟩=some (.int .i64 z):=HW.out.1 k z (by
      rw [List.getElem?_map,show P++(A++[z])++x::(C++(M.drop (i - a+1)++T))=(P++A)++z::(x::(C++(M.drop (i - a+1)++T))) by simp,get_mid _ _ _ _ (by simp [HP.out.1];omega)];rfl)
     have hcx:wr.cell? ⟨d,off+j,none⟩=some (.int .i64 x):=HW.out.1 j x (by
      rw [List.getElem?_map,get_mid _ _ _ _ (by simp [HP.out.1];omega)];rfl)
     have hfz:=HW.out.2
     have hwk:IntKind.i64.wrap (k:Int)=(k:Int):=IntWalk.i64_in _ (by omega)
     clear hj hk2 hjk
     have hcm:=fun m=>cmp_any x z B d rs (wr.drewN m) (HC.out.grown (grownBy_drewN HG2.out _)) hxl hz
     obtain ⟨rz,hrz⟩:∃ rz,rz=rs.getD z 0:=⟨_,rfl⟩
     obtain ⟨rx,hrx⟩:∃ rx,rx=rs.getD x 0:=⟨_,rfl⟩
     rw [←hrz,←hrx] at hcm
     have HCM:=hid hcm
     have HRZ:=hid (And.intro hrz hrx)
     clear hcm hrz hrx
     by_cases hlt:rz<rx
     ·have hlt':(rz:Int) - rx<0:=by omega
      go_wp2
      go_quiet (exact Calls.quiet_of (HCM.out _))
      go_wp2
      go_region
      go_wp2
      go_roundg (gk - 1)
      case measure=>omega
      case rel =>
       have hK:=HK.out
       have hP:=HP.out
       refine ⟨k,A,z::C,congrArg (Value.int .i64) (by first|rfl|omega),hK.1,by omega,ins_step HI.out (by have:=HRZ.out;omega),?_,?_,by have:=HA.out;simp at this ⊢;omega⟩
       ·have h:=((HW.out.drewN (nq+1)).set j (Int.ofNat z)).set k (Int.ofNat x)
        rw [←List.map_set,←List.map_set,hK.2,show P++(A++[z])++x::(C++(M.drop (i - a+1)++T))=(P++A)++z::x::(C++(M.drop (i - a+1)++T)) by simp,
         swap_mid (P++A) _ z x k (by simp [hP.1];omega)] at h
        rw [hK.2]
        exact h
       ·exact gBt (gBt (grownBy_drewN HG2.out _) (grownBy_setCell _ rfl _)) (grownBy_setCell _ rfl _)
     ·have hlt':¬(rz:Int) - rx<0:=by omega
      go_wp2
      go_quiet (exact Calls.quiet_of (HCM.out _))
      go_wp2
      have he:=ins_end HI.out (by
       intro B' z' h
       have h2:z=z':=by simpa using (List.append_inj_right' h rfl)
       subst h2
       have:=HRZ.out
       omega)
      go_roundg (gk0 - 1)
      case measure=>omega
      case rel=>exact ⟨i+1,(A++[z])++x::C,by go_num,by omega,by omega,by rw [show i+1 - a=i - a+1 by omega,HS.out.2.2.2];exact he.1,he.2,by rw [show i+1 - a=i - a+1 by omega];exact Row.drewN (by have:=HW.out;simpa using this) _,grownBy_drewN HG2.out _⟩
  ·have hfin:M.take (i - a)=M:=List.take_of_length_le (by have:=HP.out;omega)
   have hfin2:M.drop (i - a)=[]:=List.drop_eq_nil_of_le (by have:=HP.out;omega)
   rw [hfin] at hSp
   rw [hfin2] at hrw
   have HF:=hid (And.intro hg (And.intro hSp (And.intro hss hrw)))
   clear hg hSp hss hrw hfin hfin2
   go_wp2
   first|go_end0|refine bodyPost_ret (results_none rfl _ _ _) rfl ?_
   exact ⟨rfl,HF.out.1,S,HF.out.2.1,HF.out.2.2.1,by have:=HF.out.2.2.2;simpa using this⟩
end Go.Proofs.Ytnkmhbiklffjlaa
