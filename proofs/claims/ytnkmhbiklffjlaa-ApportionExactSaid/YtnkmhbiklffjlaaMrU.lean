import Derived.Test.YtnkmhbiklffjlaaApE
import Derived.Test.YtnkmhbiklffjlaaMrQ
import Derived.BigRegion
set_option linter.unusedVariables false
set_option linter.unusedSimpArgs false
set_option maxRecDepth 100000
set_option maxHeartbeats 2000000
namespace Go.Proofs.Ytnkmhbiklffjlaa
open Go.RowKit Ap
open Lib (hid)
theorem swapL_at {L:List Nat} {a b k:Nat} (h1:a+k<b) (h2:b+k<L.length):∃ x y,L[a+k]?=some x∧L[b+k]?=some y∧(Mr.swapL L a b k)[a+k]?=some x∧(Mr.swapL L a b k)[b+k]?=some y∧Mr.swapL L a b (k+1)=((Mr.swapL L a b k).set (a+k) y).set (b+k) x:=by
 have ga:=Mr.swapL_get L a b k (by omega) (by omega) (a+k)
 have gb:=Mr.swapL_get L a b k (by omega) (by omega) (b+k)
 rw [if_neg (by omega),if_neg (by omega)] at ga gb
 have ea:L[a+k]?=some (L[a+k]'(by omega)):=List.getElem?_eq_getElem (by omega)
 have eb:L[b+k]?=some (L[b+k]'(by omega)):=List.getElem?_eq_getElem (by omega)
 refine ⟨L[a+k]'(by omega),L[b+k]'(by omega),ea,eb,by rw [ga,ea],by rw [gb,eb],?_⟩
 show ((Mr.swapL L a b k).set (a+k) ((Mr.swapL L a b k).getD (b+k) 0)).set (b+k) ((Mr.swapL L a b k).getD (a+k) 0)=_
 rw [List.getD_eq_getElem?_getD,List.getD_eq_getElem?_getD,ga,gb,ea,eb]
 rfl
theorem swapr_any (d off n cap a b k:Nat) (L:List Nat) (F:Value) (w:World) (hrow:Row w d off (L.map Int.ofNat)) (hd:d<w.heap.size) (hL:L.length=n) (hn:n≤1000000) (hab:a+k≤b) (hb:b+k≤n) :
  Calls Try.prog 75 #[.slice (some ⟨d,off,none⟩) n cap,.int .i64 a,.int .i64 b,.int .i64 k,F] w fun e w' =>
   e=.returned (.tuple #[])∧w.grownBy w' (some d)∧Row w' d off ((Mr.swapL L a b k).map Int.ofNat):=by
 have HR:=hid hrow
 have HL:=hid hL
 clear hrow hL
 go_enter Try.func75,Try.ntmps75
 go_wp2
 go_loopg [10] k (fun m iv wr=>∃ i:Nat,iv=.int .i64 i∧i≤k∧k≤m+i∧Row wr d off ((Mr.swapL L a b i).map Int.ofNat)∧w.grownBy wr (some d))
 case atStart=>exact ⟨0,rfl,by omega,by omega,HR.out,grownBy_refl _ _⟩
 case round =>
  obtain ⟨i,rfl,hik,hm,hrw,hg⟩:=hrel
  have HG:=hid hg
  by_cases hlt:i<k
  ·obtain ⟨x,y,q1,q2,q3,q4,q5⟩:=swapL_at (L:=L) (a:=a) (b:=b) (k:=i) (by omega) (by rw [HL.out];omega)
   obtain ⟨p,hp⟩:∃ p,p=a+i:=⟨_,rfl⟩
   obtain ⟨q,hq⟩:∃ q,q=b+i:=⟨_,rfl⟩
   rw [←hp] at q3 q5
   rw [←hq] at q4 q5
   have cx:wr.cell? ⟨d,off+p,none⟩=some (.int .i64 x):=hrw.1 p x (by rw [List.getElem?_map,q3];rfl)
   have cy:wr.cell? ⟨d,off+q,none⟩=some (.int .i64 y):=hrw.1 q y (by rw [List.getElem?_map,q4];rfl)
   have hfz:=hrw.2
   have hpn:p<n:=by omega
   have hqn:q<n:=by omega
   have hpq:¬off+p=off+q:=by omega
   have hpq2:¬off+q=off+p:=by omega
   have wp:IntKind.i64.wrap ((a:Int)+(i:Int))=(p:Int):=by rw [IntWalk.i64_in _ (by omega)];omega
   have wq:IntKind.i64.wrap ((b:Int)+(i:Int))=(q:Int):=by rw [IntWalk.i64_in _ (by omega)];omega
   have hwd:d<wr.heap.size:=by have:=hg.size;omega
   have HQ:=hid (And.intro q5 (And.intro hp (And.intro hq hrw)))
   clear q1 q2 q3 q4 q5 hp hq hrw hg
   go_wp2
   go_region
   go_wp2
   go_roundg (gk - 1)
   case measure=>omega
   case rel =>
    refine ⟨i+1,by go_num,by omega,by omega,?_,?_⟩
    ·rw [HQ.out.1,List.map_set,List.map_set]
     exact ((HQ.out.2.2.2.drewN _).set p (Int.ofNat y)).set q (Int.ofNat x)
    ·exact grownBy_drewN (gBt (gBt HG.out (grownBy_setCell _ rfl _)) (grownBy_setCell _ rfl _)) 1
  ·have hik:i=k:=by omega
   subst hik
   have HW:=hid hrw
   clear hrw hg
   go_wp2
   first|go_end0|refine bodyPost_ret (results_none rfl _ _ _) rfl ?_
   exact ⟨rfl,HG.out,HW.out⟩
theorem rotate_any (d off n cap a m b:Nat) (P X Y T:List Nat) (F:Value) (w:World) (hrow:Row w d off ((P++X++Y++T).map Int.ofNat)) (hd:d<w.heap.size) (hL:(P++X++Y++T).length=n) (hn:n≤1000000)
  (ha:P.length=a) (hm:a+X.length=m) (hb:m+Y.length=b) (hX:0<X.length) (hY:0<Y.length) :
  Calls Try.prog 73 #[.slice (some ⟨d,off,none⟩) n cap,.int .i64 a,.int .i64 m,.int .i64 b,F] w fun e w' =>
   e=.returned (.tuple #[])∧w.grownBy w' (some d)∧Row w' d off ((P++Y++X++T).map Int.ofNat):=by
 obtain ⟨G,hG⟩:∃ G,G=P++Y++X++T:=⟨_,rfl⟩
 have hGl:(P++X++Y++T).length=n:=hL
 rw [←hG]
 have hbn:b≤n:=by simp only [List.length_append] at hL;omega
 have w1:IntKind.i64.wrap ((m:Int) - (a:Int))=(X.length:Int):=by rw [IntWalk.i64_in _ (by omega)];omega
 have w2:IntKind.i64.wrap ((b:Int) - (m:Int))=(Y.length:Int):=by rw [IntWalk.i64_in _ (by omega)];omega
 obtain ⟨xl,hxl⟩:∃ xl,xl=X.length:=⟨_,rfl⟩
 obtain ⟨yl,hyl⟩:∃ yl,yl=Y.length:=⟨_,rfl⟩
 rw [←hxl] at w1 hm hX
 rw [←hyl] at w2 hb hY
 have HS:=hid (And.intro hrow (And.intro hL (And.intro ha (And.intro hG.symm (And.intro hxl hyl)))))
 have HB:=hid (And.intro hm hb)
 have hxm:xl+yl≤n:=by omega
 clear hrow hL ha hG hxl hyl hGl
 go_enter Try.func73,Try.ntmps73
 go_wp2
 go_loopg [10,11] (xl+yl) (fun g iv jv wr=>∃ (i j:Nat) (P' X' Y' T':List Nat),iv=.int .i64 i∧jv=.int .i64 j∧0<i∧0<j∧i+j≤g∧P'.length+i=m∧X'.length=i∧Y'.length=j∧Row wr d off ((P'++X'++Y'++T').map Int.ofNat)∧(P'++X'++Y'++T').length=n∧P'++Y'++X'++T'=G∧w.grownBy wr (some d))
 case atStart=>exact ⟨xl,yl,P,X,Y,T,rfl,rfl,hX,hY,Nat.le_refl _,by have:=HS.out;have:=HB.out;omega,HS.out.2.2.2.2.1.symm,HS.out.2.2.2.2.2.symm,HS.out.1,HS.out.2.1,HS.out.2.2.2.1,grownBy_refl _ _⟩
 case round =>
  obtain ⟨i,j,P',X',Y',T',rfl,rfl,hi,hj,hmm,hp,hx,hy,hrw,hln,hgo,hg⟩:=hrel
  have hwd:d<wr.heap.size:=by have:=hg.size;omega
  have hjn:m+j≤n:=by simp only [List.length_append] at hln;omega
  have him:i≤m:=by omega
  have wmi:IntKind.i64.wrap ((m:Int) - (i:Int))=((m - i:Nat):Int):=by rw [IntWalk.i64_in _ (by omega)];omega
  obtain ⟨mi,hmi⟩:∃ mi,mi=m - i:=⟨_,rfl⟩
  rw [←hmi] at wmi
  rcases Nat.lt_trichotomy i j with hij|hij|hij
  ·-- i<j: the last i of Y' come to the front
   have e1:Y'=Y'.take (j - i)++Y'.drop (j - i):=(List.take_append_drop _ _).symm
   have l1:(Y'.take (j - i)).length=j - i:=by rw [List.length_take];omega
   have l2:(Y'.drop (j - i)).length=i:=by rw [List.length_drop];omega
   have wa:IntKind.i64.wrap ((m:Int)+(j:Int))=((m+j:Nat):Int):=by rw [IntWalk.i64_in _ (by omega)];omega
   have wb:IntKind.i64.wrap (((m+j:Nat):Int) - (i:Int))=((m+j - i:Nat):Int):=by rw [IntWalk.i64_in _ (by omega)];omega
   have wc:IntKind.i64.wrap ((j:Int) - (i:Int))=((j - i:Nat):Int):=by rw [IntWalk.i64_in _ (by omega)];omega
   have HC:=hid (swapr_any d off n cap mi (m+j - i) i (P'++X'++Y'++T') F wr hrw hwd hln hn (by omega) (by omega))
   have hsw:=Mr.rot_lt P' X' (Y'.take (j - i)) (Y'.drop (j - i)) T' (by omega)
   rw [←e1,l1,hx,show P'.length=mi by omega,show mi+i+(j - i)=m+j - i by omega] at hsw
   obtain ⟨mj,hmj⟩:∃ mj,mj=m+j:=⟨_,rfl⟩
   obtain ⟨mji,hmji⟩:∃ mji,mji=m+j - i:=⟨_,rfl⟩
   obtain ⟨ji,hji⟩:∃ ji,ji=j - i:=⟨_,rfl⟩
   rw [←hmj] at wa wb
   rw [show mj - i=m+j - i by omega] at wb
   rw [←hmji] at wb HC hsw
   rw [←hji] at wc l1 l2 hsw e1
   have HI:=hid (And.intro hsw (And.intro hgo (And.intro l1 (And.intro l2 (And.intro e1 (And.intro hln (And.intro hp (And.intro hx hy))))))))
   have HJ:=hid (And.intro hmi (And.intro hmj (And.intro hmji hji)))
   have HG:=hid hg
   clear hsw hgo l1 l2 e1 hln hp hx hy hmi hmj hmji hji hg hrw
   go_wp2_with fail
   refine HC.out.mono ?_
   rintro e wx ⟨rfl,hgx,hrx⟩
   have HX:=hid (And.intro hgx hrx)
   clear hgx hrx
   go_wp2
   go_roundg (gk - 1)
   case measure=>omega
   case rel =>
    obtain ⟨hsw,hgo,l1,l2,e1,hln,hp,hx,hy⟩:=HI.out
    obtain ⟨hmi,hmj,hmji,hji⟩:=HJ.out
    refine ⟨i,ji,P',Y'.drop ji,Y'.take ji,X'++T',rfl,rfl,hi,by omega,by omega,hp,l2,l1,?_,?_,?_,gBt HG.out HX.out.1⟩
    ·have h:=HX.out.2
     rw [hsw] at h
     exact h
    ·simp only [List.length_append] at hln ⊢;omega
    ·rw [←hgo,List.append_assoc P' (Y'.take ji),←e1,←List.append_assoc]
  ·-- i=j: the last exchange
   subst hij
   have HC:=hid (swapr_any d off n cap mi m i (P'++X'++Y'++T') F wr hrw hwd hln hn (by omega) (by omega))
   have hsw:=Mr.rot_eq P' X' Y' T' (by omega)
   rw [hx,show P'.length=mi by omega,show mi+i=m by omega,hgo] at hsw
   have HI:=hid hsw
   have HG:=hid hg
   clear hsw hgo hln hp hx hy hmi hg hrw
   go_wp2_with fail
   refine HC.out.mono ?_
   rintro e wx ⟨rfl,hgx,hrx⟩
   have HX:=hid (And.intro hgx hrx)
   clear hgx hrx
   go_wp2
   first|go_end0|refine bodyPost_ret (results_none rfl _ _ _) rfl ?_
   exact ⟨rfl,gBt HG.out HX.out.1,by have h:=HX.out.2;rw [HI.out] at h;exact h⟩
  ·-- j<i: Y' comes to the front
   have e1:X'=X'.take j++X'.drop j:=(List.take_append_drop _ _).symm
   have l1:(X'.take j).length=j:=by rw [List.length_take];omega
   have l2:(X'.drop j).length=i - j:=by rw [List.length_drop];omega
   have wc:IntKind.i64.wrap ((i:Int) - (j:Int))=((i - j:Nat):Int):=by rw [IntWalk.i64_in _ (by omega)];omega
   have HC:=hid (swapr_any d off n cap mi m j (P'++X'++Y'++T') F wr hrw hwd hln hn (by omega) (by omega))
   have hsw:=Mr.rot_gt P' (X'.take j) (X'.drop j) Y' T' (by omega)
   rw [←e1,hx,hy,show P'.length=mi by omega,show mi+i=m by omega] at hsw
   obtain ⟨ij,hij2⟩:∃ ij,ij=i - j:=⟨_,rfl⟩
   rw [←hij2] at wc l2
   have HI:=hid (And.intro hsw (And.intro hgo (And.intro l1 (And.intro l2 (And.intro e1 (And.intro hln (And.intro hp (And.intro hx hy))))))))
   have HJ:=hid (And.intro hmi hij2)
   have HG:=hid hg
   clear hsw hgo l1 l2 e1 hln hp hx hy hmi hij2 hg hrw
   go_wp2_with fail
   refine HC.out.mono ?_
   rintro e wx ⟨rfl,hgx,hrx⟩
   have HX:=hid (And.intro hgx hrx)
   clear hgx hrx
   go_wp2
   go_roundg (gk - 1)
   case measure=>omega
   case rel =>
    obtain ⟨hsw,hgo,l1,l2,e1,hln,hp,hx,hy⟩:=HI.out
    obtain ⟨hmi,hij2⟩:=HJ.out
    refine ⟨ij,j,P'++Y',X'.drop j,X'.take j,T',rfl,rfl,by omega,hj,by omega,by rw [List.length_append];omega,l2,l1,?_,?_,?_,gBt HG.out HX.out.1⟩
    ·have h:=HX.out.2
     rw [hsw] at h
     exact h
    ·simp only [List.length_append] at hln ⊢;omega
    ·rw [←hgo,List.append_assoc (P'++Y') (X'.take j),←e1]
end Go.Proofs.Ytnkmhbiklffjlaa
set_option maxHeartbeats 4000000
namespace Go.Proofs.Ytnkmhbiklffjlaa
open Go.RowKit Ap
open Lib (hid)
theorem cmp_R {f:Nat→Nat} {x y:Nat} (h:x<y):(f x<f y→R f y x)∧(¬f x<f y→R f x y):=by unfold R;omega
theorem sm_one (d off n cap B a m b x:Nat) (P Q T:List Nat) (rs:List Nat) (w:World) (hrow:Row w d off ((P++[x]++Q++T).map Int.ofNat)) (hd:d<w.heap.size) (hc:Cmp w B d rs) (hL:(P++[x]++Q++T).length=n) (hn:n≤1000000)
  (ha:P.length=a) (hm:a+1=m) (hb:m+Q.length=b) (hQ:Q.Pairwise (R (rs.getD · 0))) (hx:x<rs.length) (hlt:∀ y∈Q,x<y∧y<rs.length) :
  Calls Try.prog 70 #[.slice (some ⟨d,off,none⟩) n cap,.int .i64 a,.int .i64 m,.int .i64 b,.func (.func 42) #[] #[.pointer (some ⟨B,0,none⟩)]] w fun e w' =>
   e=.returned (.tuple #[])∧w.grownBy w' (some d)∧∃ C:List Nat,C.Perm ([x]++Q)∧C.Pairwise (R (rs.getD · 0))∧Row w' d off ((P++C++T).map Int.ofNat):=by
 have hbn:b≤n:=by simp only [List.length_append,List.length_cons,List.length_nil] at hL;omega
 have han:a<n:=by simp only [List.length_append,List.length_cons,List.length_nil] at hL;omega
 have w1:IntKind.i64.wrap ((m:Int) - (a:Int))=1:=by rw [IntWalk.i64_in _ (by omega)];omega
 have hcx:w.cell? ⟨d,off+a,none⟩=some (.int .i64 x):=hrow.1 a x (by rw [List.getElem?_map,List.append_assoc,List.append_assoc,List.singleton_append,get_mid _ _ _ _ ha.symm];rfl)
 have HL:=hid (And.intro hL (And.intro ha (And.intro hm hb)))
 have HQ:=hid (And.intro hQ (And.intro hx hlt))
 have HR:=hid (And.intro hrow (And.intro hd hc))
 have HX:=hid hcx
 clear hrow hd hc hL ha hm hb hQ hx hlt hcx
 go_enter Try.func70,Try.ntmps70
 go_wp2
 clear w1
 go_loopg [10,11,12] Q.length (fun g iv jv hv wr=>∃ (p q:Nat),iv=.int .i64 ((m+p:Nat):Int)∧jv=.int .i64 ((m+q:Nat):Int)∧p≤q∧q≤Q.length∧q≤g+p∧(p=0∨∃ y,Q[p - 1]?=some y∧R (rs.getD · 0) y x)∧(Q.length≤q∨∃ y,Q[q]?=some y∧R (rs.getD · 0) x y)∧Row wr d off ((P++[x]++Q++T).map Int.ofNat)∧w.grownBy wr (some d))
 case atStart=>exact ⟨0,Q.length,congrArg (Value.int .i64) (by omega),congrArg (Value.int .i64) (by have:=HL.out;omega),by omega,by omega,by omega,.inl rfl,.inl (Nat.le_refl _),HR.out.1,grownBy_refl _ _⟩
 case round =>
  obtain ⟨p,q,rfl,rfl,hpq,hqQ,hg,h1,h2,hrw,hgr⟩:=hrel
  have HI:=hid (And.intro h1 (And.intro h2 (And.intro hqQ (And.intro hrw hgr))))
  have hwd:d<wr.heap.size:=by have:=hgr.size;have:=HR.out.2.1;omega
  clear h1 h2 hrw hgr
  obtain ⟨i,hi⟩:∃ i,i=m+p:=⟨_,rfl⟩
  obtain ⟨j,hj⟩:∃ j,j=m+q:=⟨_,rfl⟩
  rw [←hi,←hj]
  by_cases hlt:p<q
  ·have hh:i<j:=by omega
   obtain ⟨h,hhe⟩:∃ h,h=(i+j) / 2:=⟨_,rfl⟩
   have hjb:j≤n:=by have:=HL.out;have:=HI.out.2.2.1;omega
   have hhn:h<n:=by omega
   have hq1:h - m<Q.length:=by have:=HI.out.2.2.1;omega
   obtain ⟨z,hz⟩:∃ z,Q[h - m]?=some z:=⟨Q[h - m]'hq1,List.getElem?_eq_getElem hq1⟩
   have hzm:=List.mem_of_getElem? hz
   obtain ⟨hxz,hzl⟩:=HQ.out.2.2 z hzm
   have hcz:wr.cell? ⟨d,off+h,none⟩=some (.int .i64 z):=HI.out.2.2.2.1.1 h z (by
    have hl:=HL.out
    rw [List.getElem?_map,List.append_assoc,List.getElem?_append_right (by simp;omega),List.getElem?_append_left (by simp;omega)]
    rw [show h - (P++[x]).length=h - m by simp;omega,hz];rfl)
   have hcx:wr.cell? ⟨d,off+a,none⟩=some (.int .i64 x):=HI.out.2.2.2.1.1 a x (by rw [List.getElem?_map,List.append_assoc,List.append_assoc,List.singleton_append,get_mid _ _ _ _ HL.out.2.1.symm];rfl)
   have hcm:=fun g=>cmp_any z x B d rs (wr.drewN g) (HR.out.2.2.grown (grownBy_drewN HI.out.2.2.2.2 _)) hzl HQ.out.2.1
   have hw1:IntKind.i64.wrap ((h:Int)+1)=((h+1:Nat):Int):=by rw [IntWalk.i64_in _ (by omega)];omega
   have hr:=cmp_R (f:=(rs.getD · 0)) hxz
   obtain ⟨rz,hrz⟩:∃ rz,rz=rs.getD z 0:=⟨_,rfl⟩
   obtain ⟨rx,hrx⟩:∃ rx,rx=rs.getD x 0:=⟨_,rfl⟩
   rw [←hrz,←hrx] at hcm
   have HCM:=hid hcm
   have HH:=hid (And.intro hi (And.intro hj (And.intro hhe (And.intro hz (And.intro hrz (And.intro hrx hr))))))
   have hw:((i:Int)+(j:Int)) / 2=(h:Int):=by omega
   clear hi hj hhe hcm hrz hrx hr hz hzm hq1
   by_cases hlr:rx<rz
   ·have hlt':(rx:Int) - rz<0:=by omega
    go_wp2
    go_quiet (exact Calls.quiet_of (HCM.out _))
    go_wp2
    go_roundg (gk - 1)
    case measure=>omega
    case rel =>
     obtain ⟨hi,hj,hhe,hz,hrz,hrx,hr⟩:=HH.out
     refine ⟨h+1 - m,q,congrArg (Value.int .i64) (by omega),congrArg (Value.int .i64) (by omega),by omega,HI.out.2.2.1,by omega,.inr ⟨z,?_,hr.1 (by rw [←hrx,←hrz];exact hlr)⟩,HI.out.2.1,HI.out.2.2.2.1,grownBy_drewN HI.out.2.2.2.2 _⟩
     rw [show h+1 - m - 1=h - m by omega];exact hz
   ·have hlt':¬(rx:Int) - rz<0:=by omega
    go_wp2
    go_quiet (exact Calls.quiet_of (HCM.out _))
    go_wp2
    go_roundg (gk - 1)
    case measure=>omega
    case rel =>
     obtain ⟨hi,hj,hhe,hz,hrz,hrx,hr⟩:=HH.out
     exact ⟨p,h - m,congrArg (Value.int .i64) (by omega),congrArg (Value.int .i64) (by omega),by omega,by omega,by omega,HI.out.1,.inr ⟨z,hz,hr.2 (by rw [←hrx,←hrz];exact hlr)⟩,HI.out.2.2.2.1,grownBy_drewN HI.out.2.2.2.2 _⟩
  ·have hpq2:p=q:=by omega
   subst hpq2
   have hij:i=j:=by omega
   subst hij
   obtain ⟨e,he⟩:∃ e,e=a+p:=⟨_,rfl⟩
   have hie:(i:Int) - 1=(e:Int):=by have:=HL.out;omega
   have hen:e<n:=by have:=HL.out;have:=HI.out.2.2.1;omega
   have HE:=hid (And.intro he hi)
   clear he hi hj hg hpq hqQ hlt
   go_wp2
   go_loopg [13] e (fun g kv w2=>∃ (k t:Nat),kv=.int .i64 k∧k=a+t∧k≤e∧e≤g+k∧Row w2 d off ((P++Q.take t++x::(Q.drop t++T)).map Int.ofNat)∧w.grownBy w2 (some d))
   case atStart=>exact ⟨a,0,rfl,rfl,by have:=HE.out;omega,by omega,by have:=HI.out.2.2.2.1;simpa using this,HI.out.2.2.2.2⟩
   case round =>
    obtain ⟨k,t,rfl,hkt,hke,hm2,hrw2,hg2⟩:=hrel
    have HG2:=hid hg2
    have HW2:=hid hrw2
    have hwd2:d<wr.heap.size:=by have:=hg2.size;have:=HR.out.2.1;omega
    clear hg2 hrw2 hwd
    by_cases hlt:k<e
    ·have htq:t<Q.length:=by have:=HE.out;have:=HI.out.2.2.1;omega
     obtain ⟨y,hy⟩:∃ y,Q[t]?=some y:=⟨Q[t]'htq,List.getElem?_eq_getElem htq⟩
     have hdrop:Q.drop t=y::Q.drop (t+1):=by
      rw [List.drop_eq_getElem_cons htq];congr 1
      rw [List.getElem?_eq_getElem htq] at hy;exact Option.some.inj hy
     have htake:Q.take (t+1)=Q.take t++[y]:=by rw [List.take_add_one,hy];rfl
     have hpl:(P++Q.take t).length=k:=by rw [List.length_append,List.length_take,HL.out.2.1];omega
     have HW3:=HW2.out
     rw [hdrop,List.cons_append] at HW3
     have ck:wr.cell? ⟨d,off+k,none⟩=some (.int .i64 x):=HW3.1 k x (by rw [List.getElem?_map,get_mid _ _ _ _ hpl.symm];rfl)
     have ck1:wr.cell? ⟨d,off+(k+1),none⟩=some (.int .i64 y):=HW3.1 (k+1) y (by
      rw [List.getElem?_map,show P++Q.take t++x::(y::(Q.drop (t+1)++T))=(P++Q.take t++[x])++y::(Q.drop (t+1)++T) by simp,get_mid _ _ _ _ (by rw [List.length_append,hpl];rfl)];rfl)
     have hfz:=HW3.2
     have hkn:k<n:=by omega
     obtain ⟨k1,hk1⟩:∃ k1,k1=k+1:=⟨_,rfl⟩
     rw [←hk1] at ck1
     have hk1n:k1<n:=by omega
     have hwk:(k:Int)+1=(k1:Int):=by omega
     have hne1:¬off+k=off+k1:=by omega
     have hne2:¬off+k1=off+k:=by omega
     have HK:=hid (And.intro hk1 (And.intro htake (And.intro hpl HW3)))
     have HKT:=hid hkt
     clear hk1 htake hpl HW3 hdrop hy htq hkt
     go_wp2
     go_region
     go_wp2
     go_roundg (gk - 1)
     case measure=>have:=HK.out.1;omega
     case rel =>
      obtain ⟨hk1,htake,hpl,HW3⟩:=HK.out
      have hkt:=HKT.out
      refine ⟨k1,t+1,by first|rfl|exact congrArg (Value.int .i64) (by omega),by omega,by omega,by omega,?_,?_⟩
      ·have h:=(HW3.set k (Int.ofNat y)).set k1 (Int.ofNat x)
       rw [←List.map_set,←List.map_set,hk1,swap_mid' _ _ x y k hpl.symm] at h
       rw [hk1,htake]
       have e2:P++(Q.take t++[y])++x::(Q.drop (t+1)++T)=P++Q.take t++y::x::(Q.drop (t+1)++T):=by simp
       rw [e2]
       exact h
      ·exact grownBy_drewN (gBt (gBt HG2.out (grownBy_setCell _ rfl _)) (grownBy_setCell _ rfl _)) 1
    ·have hke2:k=e:=by omega
     have htp:t=p:=by have:=HE.out;omega
     subst htp
     go_wp2
     first|go_end0|refine bodyPost_ret (results_none rfl _ _ _) rfl ?_
     have ho:=Mr.one_in (R:=R (rs.getD · 0)) (B:=Q) (x:=x) (i:=t) (fun a b c h1 h2=>R.trans h1 h2) HQ.out.1 HI.out.1 HI.out.2.1
     exact ⟨rfl,HG2.out,_,ho.2,ho.1,by have h:=HW2.out;simpa using h⟩
end Go.Proofs.Ytnkmhbiklffjlaa
set_option maxHeartbeats 4000000
namespace Go.Proofs.Ytnkmhbiklffjlaa
open Go.RowKit Ap
open Lib (hid)
theorem sm_last (d off n cap B a m b y:Nat) (P Q T:List Nat) (rs:List Nat) (w:World) (hrow:Row w d off ((P++Q++[y]++T).map Int.ofNat)) (hd:d<w.heap.size) (hc:Cmp w B d rs) (hL:(P++Q++[y]++T).length=n) (hn:n≤1000000)
  (ha:P.length=a) (hm:a+Q.length=m) (hb:m+1=b) (hq2:2≤Q.length) (hQ:Q.Pairwise (R (rs.getD · 0))) (hx:y<rs.length) (hlt:∀ z∈Q,z<y∧z<rs.length) :
  Calls Try.prog 70 #[.slice (some ⟨d,off,none⟩) n cap,.int .i64 a,.int .i64 m,.int .i64 b,.func (.func 42) #[] #[.pointer (some ⟨B,0,none⟩)]] w fun e w' =>
   e=.returned (.tuple #[])∧w.grownBy w' (some d)∧∃ C:List Nat,C.Perm (Q++[y])∧C.Pairwise (R (rs.getD · 0))∧Row w' d off ((P++C++T).map Int.ofNat):=by
 have hbn:b≤n:=by simp only [List.length_append,List.length_cons,List.length_nil] at hL;omega
 have hmn:m<n:=by omega
 have w1:IntKind.i64.wrap ((m:Int) - (a:Int))=(Q.length:Int):=by rw [IntWalk.i64_in _ (by omega)];omega
 have w2:IntKind.i64.wrap ((b:Int) - (m:Int))=1:=by rw [IntWalk.i64_in _ (by omega)];omega
 obtain ⟨ql,hql⟩:∃ ql,ql=Q.length:=⟨_,rfl⟩
 rw [←hql] at w1 hq2
 have hq3:((ql:Int)==1)=false:=beq_eq_false_iff_ne.2 (by omega)
 have hq4:decide ((ql:Int)=1)=false:=decide_eq_false (by omega)
 have HL:=hid (And.intro hL (And.intro ha (And.intro hm (And.intro hb hql))))
 have HQ:=hid (And.intro hQ (And.intro hx hlt))
 have HR:=hid (And.intro hrow (And.intro hd hc))
 clear hrow hd hc hL ha hm hb hQ hx hlt hql
 go_enter Try.func70,Try.ntmps70
 go_wp2
 clear w1 w2 hq3 hq4
 go_loopg [14,15,16] Q.length (fun g iv jv hv wr=>∃ (p q:Nat),iv=.int .i64 ((a+p:Nat):Int)∧jv=.int .i64 ((a+q:Nat):Int)∧p≤q∧q≤Q.length∧q≤g+p∧(p=0∨∃ z,Q[p - 1]?=some z∧R (rs.getD · 0) z y)∧(Q.length≤q∨∃ z,Q[q]?=some z∧R (rs.getD · 0) y z)∧Row wr d off ((P++Q++[y]++T).map Int.ofNat)∧w.grownBy wr (some d))
 case atStart=>refine ⟨0,Q.length,congrArg (Value.int .i64) (by omega),congrArg (Value.int .i64) (by have:=HL.out;omega),by omega,by omega,by omega,.inl rfl,.inl (Nat.le_refl _),HR.out.1,grownBy_refl _ _⟩
 case round =>
  obtain ⟨p,q,rfl,rfl,hpq,hqQ,hg,h1,h2,hrw,hgr⟩:=hrel
  have HI:=hid (And.intro h1 (And.intro h2 (And.intro hqQ (And.intro hrw hgr))))
  have hwd:d<wr.heap.size:=by have:=hgr.size;have:=HR.out.2.1;omega
  clear h1 h2 hrw hgr
  obtain ⟨i,hi⟩:∃ i,i=a+p:=⟨_,rfl⟩
  obtain ⟨j,hj⟩:∃ j,j=a+q:=⟨_,rfl⟩
  rw [←hi,←hj]
  by_cases hlt:p<q
  ·have hh:i<j:=by omega
   obtain ⟨h,hhe⟩:∃ h,h=(i+j) / 2:=⟨_,rfl⟩
   have hjb:j≤n:=by have:=HL.out;have:=HI.out.2.2.1;omega
   have hhn:h<n:=by omega
   have hq1:h - a<Q.length:=by have:=HI.out.2.2.1;omega
   obtain ⟨z,hz⟩:∃ z,Q[h - a]?=some z:=⟨Q[h - a]'hq1,List.getElem?_eq_getElem hq1⟩
   have hzm:=List.mem_of_getElem? hz
   obtain ⟨hzy,hzl⟩:=HQ.out.2.2 z hzm
   have hcz:wr.cell? ⟨d,off+h,none⟩=some (.int .i64 z):=HI.out.2.2.2.1.1 h z (by
    have hl:=HL.out
    rw [List.getElem?_map,List.append_assoc,List.append_assoc,List.getElem?_append_right (by omega),List.getElem?_append_left (by omega)]
    rw [show h - P.length=h - a by omega,hz];rfl)
   have hcy:wr.cell? ⟨d,off+m,none⟩=some (.int .i64 y):=HI.out.2.2.2.1.1 m y (by rw [List.getElem?_map,List.append_assoc _ [y],List.singleton_append,get_mid _ _ _ _ (by rw [List.length_append];have:=HL.out;omega)];rfl)
   have hcm:=fun g=>cmp_any y z B d rs (wr.drewN g) (HR.out.2.2.grown (grownBy_drewN HI.out.2.2.2.2 _)) HQ.out.2.1 hzl
   have hw1:IntKind.i64.wrap ((h:Int)+1)=((h+1:Nat):Int):=by rw [IntWalk.i64_in _ (by omega)];omega
   have hr:=cmp_R (f:=(rs.getD · 0)) hzy
   obtain ⟨rz,hrz⟩:∃ rz,rz=rs.getD z 0:=⟨_,rfl⟩
   obtain ⟨rx,hrx⟩:∃ rx,rx=rs.getD y 0:=⟨_,rfl⟩
   rw [←hrz,←hrx] at hcm
   have HCM:=hid hcm
   have HH:=hid (And.intro hi (And.intro hj (And.intro hhe (And.intro hz (And.intro hrz (And.intro hrx hr))))))
   have hw:((i:Int)+(j:Int)) / 2=(h:Int):=by omega
   clear hi hj hhe hcm hrz hrx hr hz hzm hq1
   by_cases hlr:rz<rx
   ·have hlt':(rz:Int) - rx<0:=by omega
    go_wp2
    go_quiet (exact Calls.quiet_of (HCM.out _))
    go_wp2
    go_roundg (gk - 1)
    case measure=>omega
    case rel =>
     obtain ⟨hi,hj,hhe,hz,hrz,hrx,hr⟩:=HH.out
     exact ⟨p,h - a,congrArg (Value.int .i64) (by omega),congrArg (Value.int .i64) (by omega),by omega,by omega,by omega,HI.out.1,.inr ⟨z,hz,hr.1 (by rw [←hrx,←hrz];exact hlr)⟩,HI.out.2.2.2.1,grownBy_drewN HI.out.2.2.2.2 _⟩
   ·have hlt':¬(rz:Int) - rx<0:=by omega
    have hlt2:decide ((rz:Int) - (rx:Int)<0)=false:=decide_eq_false hlt'
    go_wp2
    go_quiet (exact Calls.quiet_of (HCM.out _))
    go_wp2
    go_roundg (gk - 1)
    case measure=>omega
    case rel =>
     obtain ⟨hi,hj,hhe,hz,hrz,hrx,hr⟩:=HH.out
     refine ⟨h+1 - a,q,congrArg (Value.int .i64) (by omega),congrArg (Value.int .i64) (by omega),by omega,HI.out.2.2.1,by omega,.inr ⟨z,?_,hr.2 (by rw [←hrx,←hrz];exact hlr)⟩,HI.out.2.1,HI.out.2.2.2.1,grownBy_drewN HI.out.2.2.2.2 _⟩
     rw [show h+1 - a - 1=h - a by omega];exact hz
  ·have hpq2:p=q:=by omega
   subst hpq2
   have hij:i=j:=by omega
   subst hij
   have HE:=hid hi
   clear hi hj hg hpq hqQ hlt
   go_wp2
   go_loopg [17] m (fun g kv w2=>∃ (k t:Nat),kv=.int .i64 k∧k=a+t∧p≤t∧t≤Q.length∧k≤g∧Row w2 d off ((P++Q.take t++y::(Q.drop t++T)).map Int.ofNat)∧w.grownBy w2 (some d))
   case atStart=>exact ⟨m,Q.length,rfl,HL.out.2.2.1.symm,HI.out.2.2.1,Nat.le_refl _,Nat.le_refl _,by have:=HI.out.2.2.2.1;simpa using this,HI.out.2.2.2.2⟩
   case round =>
    obtain ⟨k,t,rfl,hkt,hpt,htq,hm2,hrw2,hg2⟩:=hrel
    have HG2:=hid hg2
    have HW2:=hid hrw2
    have hwd2:d<wr.heap.size:=by have:=hg2.size;have:=HR.out.2.1;omega
    clear hg2 hrw2 hwd
    by_cases hlt:p<t
    ·have hki:i<k:=by have:=HE.out;omega
     obtain ⟨s,rfl⟩:∃ s,t=s+1:=⟨t - 1,by omega⟩
     have hsq:s<Q.length:=by omega
     obtain ⟨z,hz⟩:∃ z,Q[s]?=some z:=⟨Q[s]'hsq,List.getElem?_eq_getElem hsq⟩
     have hdrop:Q.drop s=z::Q.drop (s+1):=by
      rw [List.drop_eq_getElem_cons hsq];congr 1
      rw [List.getElem?_eq_getElem hsq] at hz;exact Option.some.inj hz
     have htake:Q.take (s+1)=Q.take s++[z]:=by rw [List.take_add_one,hz];rfl
     obtain ⟨k0,hk0⟩:∃ k0,k0=a+s:=⟨_,rfl⟩
     have hpl:(P++Q.take s).length=k0:=by rw [List.length_append,List.length_take,HL.out.2.1];omega
     have HW3:=HW2.out
     rw [htake,←List.append_assoc P,List.append_assoc _ [z],List.singleton_append] at HW3
     have ck0:wr.cell? ⟨d,off+k0,none⟩=some (.int .i64 z):=HW3.1 k0 z (by rw [List.getElem?_map,get_mid _ _ _ _ hpl.symm];rfl)
     have ck:wr.cell? ⟨d,off+k,none⟩=some (.int .i64 y):=HW3.1 k y (by
      rw [List.getElem?_map,show P++Q.take s++z::(y::(Q.drop (s+1)++T))=(P++Q.take s++[z])++y::(Q.drop (s+1)++T) by simp,get_mid _ _ _ _ (by rw [List.length_append,hpl,List.length_singleton];omega)];rfl)
     have hfz:=HW3.2
     have hkn:k<n:=by have:=HL.out;omega
     have hk0n:k0<n:=by omega
     have hwk:(k:Int) - 1=(k0:Int):=by omega
     have hne1:¬off+k=off+k0:=by omega
     have hne2:¬off+k0=off+k:=by omega
     have HK:=hid (And.intro hk0 (And.intro hdrop (And.intro hpl (And.intro HW3 hkt))))
     clear hk0 htake hpl HW3 hdrop hz hsq hkt
     go_wp2
     go_region
     go_wp2
     go_roundg (gk - 1)
     case measure=>omega
     case rel =>
      obtain ⟨hk0,hdrop,hpl,HW3,hkt⟩:=HK.out
      refine ⟨k0,s,by first|rfl|exact congrArg (Value.int .i64) (by omega),hk0,by omega,by omega,by omega,?_,?_⟩
      ·have h:=(HW3.set k (Int.ofNat z)).set k0 (Int.ofNat y)
       have hk:k=k0+1:=by omega
       rw [←List.map_set,←List.map_set,hk,swap_mid _ _ z y k0 hpl.symm] at h
       rw [hk,hdrop]
       exact h
      ·exact grownBy_drewN (gBt (gBt HG2.out (grownBy_setCell _ rfl _)) (grownBy_setCell _ rfl _)) 1
    ·have htp:t=p:=by omega
     subst htp
     have hki:¬i<k:=by have:=HE.out;omega
     have HKT:=hid hkt
     clear hkt
     go_wp2
     first|go_end0|refine bodyPost_ret (results_none rfl _ _ _) rfl ?_
     have ho:=Mr.one_in (R:=R (rs.getD · 0)) (B:=Q) (x:=y) (i:=t) (fun a b c h1 h2=>R.trans h1 h2) HQ.out.1 HI.out.1 HI.out.2.1
     exact ⟨rfl,HG2.out,_,ho.2.trans (List.perm_append_singleton y Q).symm,ho.1,by have h:=HW2.out;simpa using h⟩
end Go.Proofs.Ytnkmhbiklffjlaa
