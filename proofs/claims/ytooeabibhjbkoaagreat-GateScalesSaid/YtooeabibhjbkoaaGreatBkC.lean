import Derived.Test.YtooeabibhjbkoaaGreatBiX
import Derived.Test.YtooeabibhjbkoaaGreatBkP
set_option linter.unusedVariables false
set_option linter.unusedSimpArgs false
set_option maxRecDepth 100000
namespace Go.Proofs.YtooeabibhjbkoaaGreat
open Go.RowKit Big
open Lib (hid)
namespace Big
theorem qeH {X:Nat} (h:X<4294967296):X.testBit 31=decide (2147483648≤X):=by
 rw [Nat.testBit_eq_decide_div_mod_eq]
 have e:(2:Nat)^31=2147483648:=by decide
 rw [e]
 congr 1
 simp only [eq_iff_iff]
 omega
theorem jaG {E:Nat} (h:E<4294967296):E / 2147483648=if E.testBit 31 then 1 else 0:=by
 rw [qeH h]
 by_cases h2:2147483648≤E
 ·simp [h2];omega
 ·simp [h2];omega
theorem qqQ {X Y b D:Nat} (hX:X<4294967296) (hY:Y<4294967296) (hb:b≤1) (hD:D=(X+8589934592 - Y - b)%4294967296) :
  (((4294967295 - X) &&& Y) ||| ((4294967295 - (X ^^^ Y)) &&& D)) / 2147483648=if X<Y+b then 1 else 0:=by
 have hDl:D<4294967296:=by rw [hD];exact Nat.mod_lt _ (by omega)
 have hxy:X ^^^ Y<4294967296:=Nat.xor_lt_two_pow (n:=32) hX hY
 have hE:(((4294967295 - X) &&& Y) ||| ((4294967295 - (X ^^^ Y)) &&& D))<4294967296 :=
  Nat.or_lt_two_pow (n:=32) (Nat.lt_of_le_of_lt Nat.and_le_right hY) (Nat.lt_of_le_of_lt Nat.and_le_right hDl)
 rw [jaG hE,Nat.testBit_or,Nat.testBit_and,Nat.testBit_and,qeH (by omega:4294967295 - X<4294967296),qeH hY,qeH hDl,qeH (by omega:4294967295 - (X ^^^ Y)<4294967296)]
 have ex:decide (2147483648≤4294967295 - (X ^^^ Y))=!((decide (2147483648≤X)) ^^ (decide (2147483648≤Y))):=by
  have:=qeH hxy
  rw [Nat.testBit_xor,qeH hX,qeH hY] at this
  rw [this]
  by_cases h:2147483648≤X ^^^ Y
  ·simp [h];omega
  ·simp [h];omega
 rw [ex]
 by_cases h1:2147483648≤X<;>by_cases h2:2147483648≤Y<;>by_cases h3:2147483648≤D<;>by_cases h4:X<Y+b<;>by_cases h5:2147483648≤4294967295 - X<;>simp [h1,h2,h3,h4,h5]<;>omega
theorem qtQ {x:Nat} (hx:x<4294967296):4294967295 ^^^ x=4294967295 - x:=by
 apply Nat.eq_of_testBit_eq
 intro i
 have e:(4294967295 - x)=2^32 - (x+1):=by omega
 have e2:(4294967295:Nat)=2^32 - 1:=by decide
 rw [e,Nat.testBit_two_pow_sub_succ (n:=32) (by omega),Nat.testBit_xor,e2,Nat.testBit_two_pow_sub_one]
 by_cases h:i<32
 ·simp [h]
 ·have hb:x.testBit i=false:=Nat.testBit_lt_two_pow (Nat.lt_of_lt_of_le (show x<2^32 by omega) (Nat.pow_le_pow_right (by omega) (by omega)))
  simp [h,hb]
theorem qqP {x y b d b2:Nat} (hx:x<4294967296) (hy:y<4294967296) (hd:d<4294967296) (hE:(((4294967295 - x) &&& y) ||| ((4294967295 - (x ^^^ y)) &&& d)) / 2147483648=b2) :
  bits BinOp.or IntKind.u32 (bits BinOp.and IntKind.u32 (bits BinOp.xor IntKind.u32 IntKind.u32.max (x:Int)) (y:Int)) (bits BinOp.and IntKind.u32 (bits BinOp.xor IntKind.u32 IntKind.u32.max (bits BinOp.xor IntKind.u32 (x:Int) (y:Int))) (d:Int)) / 2147483648=(b2:Int):=by
 have hm:IntKind.u32.max=((4294967295:Nat):Int):=by decide
 have hxy:x ^^^ y<4294967296:=Nat.xor_lt_two_pow (n:=32) hx hy
 have a1:4294967295 - x &&& y<4294967296:=Nat.lt_of_le_of_lt Nat.and_le_right hy
 have a2:4294967295 - (x ^^^ y) &&& d<4294967296:=Nat.lt_of_le_of_lt Nat.and_le_right hd
 rw [hm,u32_xor_nat x y hx hy,u32_xor_nat 4294967295 x (by omega) hx,u32_xor_nat 4294967295 (x ^^^ y) (by omega) hxy,qtQ hx,qtQ hxy,u32_and_nat _ _ (by omega) hy,u32_and_nat _ _ (by omega) hd,u32_or_nat _ _ a1 a2]
 omega
end Big
theorem qpI (x y c d c2:Nat) (w:World) (hx:x<BB) (hy:y<BB) (hc:c≤1) (hd:d+c2*BB=x+y+c) (hdB:d<BB) :
  Calls Tryz.prog 152 #[.int .u32 (x:Int),.int .u32 (y:Int),.int .u32 (c:Int)] w fun e w'=>e=.returned (.tuple #[.int .u32 (d:Int),.int .u32 (c2:Int)])∧w=w':=by
 unfold BB at hx hy hd hdB
 have w1:IntKind.u64.wrap ((x:Int)+(y:Int))=(x:Int)+(y:Int):=by rw [IntKind.wrap_u64];omega
 have w2:IntKind.u64.wrap ((x:Int)+(y:Int)+(c:Int))=(x:Int)+(y:Int)+(c:Int):=by rw [IntKind.wrap_u64];omega
 have w3:IntKind.u32.wrap ((x:Int)+(y:Int)+(c:Int))=(d:Int):=by rw [IntKind.wrap_u32];omega
 have w4:((x:Int)+(y:Int)+(c:Int)) / 4294967296=(c2:Int):=by omega
 have w5:IntKind.u32.wrap (c2:Int)=(c2:Int):=by rw [IntKind.wrap_u32];omega
 have wx:IntKind.u64.wrap (x:Int)=(x:Int):=by rw [IntKind.wrap_u64];omega
 have wy:IntKind.u64.wrap (y:Int)=(y:Int):=by rw [IntKind.wrap_u64];omega
 have wc:IntKind.u64.wrap (c:Int)=(c:Int):=by rw [IntKind.wrap_u64];omega
 have HX:=hid (And.intro hx (And.intro hy (And.intro hd hdB)))
 clear hx hy hd hdB
 go_enter Tryz.func152,Tryz.ntmps152
 go_wp2
 go_ret2
 exact ⟨rfl,rfl⟩
theorem qjB (x y b d b2:Nat) (w:World) (hx:x<BB) (hy:y<BB) (hb:b≤1) (hd:d+y+b=x+b2*BB) (hdB:d<BB) :
  Calls Tryz.prog 151 #[.int .u32 (x:Int),.int .u32 (y:Int),.int .u32 (b:Int)] w fun e w'=>e=.returned (.tuple #[.int .u32 (d:Int),.int .u32 (b2:Int)])∧w=w':=by
 unfold BB at hx hy hd hdB
 have hb2:b2=if x<y+b then 1 else 0:=by split<;>omega
 have hdd:d=(x+8589934592 - y - b)%4294967296:=by omega
 have hE:=qqQ hx hy hb hdd
 rw [←hb2] at hE
 obtain ⟨m,hm⟩:∃ m:Nat,IntKind.u32.wrap ((x:Int) - (y:Int))=(m:Int)∧IntKind.u32.wrap ((m:Int) - (b:Int))=(d:Int):=by
  refine ⟨(x+4294967296 - y)%4294967296,?_,?_⟩
  ·rw [IntKind.wrap_u32];omega
  ·rw [IntKind.wrap_u32];omega
 obtain ⟨w1,w2⟩:=hm
 have hxy:x ^^^ y<4294967296:=Nat.xor_lt_two_pow (n:=32) hx hy
 have HE:=hid (qqP (b:=b) hx hy hdB hE)
 clear hx hy hd hdB hb2 hdd hE hb hxy
 go_enter Tryz.func151,Tryz.ntmps151
 go_wp2
 go_ret2
 exact ⟨by rw [HE.out];rfl,rfl⟩
set_option maxHeartbeats 4000000
theorem At.limb {w:World} {b o v:Nat} (h:At w b o (lv 32 v)) {j:Nat} (hj:j<32):w.cell? ⟨b,o+j,none⟩=some (.int .u32 (lim v j:Nat)):=h.range j _ (lv_get v hj)
theorem qeG (v N b o:Nat) (w:World) (h:At w b o (lv 32 v)) (hv:v<BB^32) (hN:IsLimbs v N) :
  Calls Tryz.prog 140 #[.pointer (some ⟨b,o,none⟩)] w fun e w'=>e=.returned (.int .i64 (N:Int))∧w=w':=by
 have HA:=hid h
 have HN:=hid hN
 have HV:=hid hv
 clear h hv hN
 go_enter Tryz.func140,Tryz.ntmps140
 go_wp2
 go_loopg [3] 32 (fun m kv wr=>∃ k:Nat,kv=.int .i64 (k:Int)∧k≤32∧k≤m∧v<BB^k∧w=wr)
 case atStart=>exact ⟨32,rfl,by omega,by omega,HV.out,rfl⟩
 case round =>
  obtain ⟨k,rfl,hk,hm,hvk,rfl⟩:=hrel
  have HVK:=hid hvk
  clear hvk
  cases k with
  | zero =>
   have HE:=hid (show (0:Int)=(N:Int) by
    have h0:v=0:=by have:=HVK.out;simpa using this
    have:=HN.out
    rw [h0] at this
    rw [this.zero];rfl)
   go_wp2
   go_ret
   exact ⟨qaT HE.out,rfl⟩
  | succ j =>
   have hc:=HA.out.limb (j:=j) (by omega)
   obtain ⟨x,hx⟩:∃ x,x=lim v j:=⟨_,rfl⟩
   rw [←hx] at hc
   have e1:((j+1:Nat):Int) - 1=(j:Int):=by omega
   have e2:IntKind.i64.wrap (((j+1:Nat):Int) - 1)=(j:Int):=by rw [IntWalk.i64_in _ (by omega)];omega
   have e3:(0:Int)<((j+1:Nat):Int):=by omega
   obtain ⟨J,hJ⟩:∃ J:Nat,J=j+1:=⟨_,rfl⟩
   rw [←hJ] at e1 e2 e3 ⊢
   have hj32:j<32:=by omega
   by_cases h0:x=0
   ·have hx0:((x:Int)==0)=true:=by simp [h0]
    have HZ:=hid (And.intro hx (And.intro h0 hJ))
    clear hx h0 hJ
    go_wp2
    go_roundg (gk - 1)
    case measure=>have:=HZ.out;omega
    case rel=>exact ⟨j,rfl,by omega,by have:=HZ.out;omega,qcR HVK.out (by rw [←HZ.out.1];exact HZ.out.2.1),rfl⟩
   ·have hx0:((x:Int)==0)=false:=beq_eq_false_iff_ne.2 (by omega)
    have HE:=hid (show (J:Int)=(N:Int) by
     have h1:IsLimbs v (j+1):=⟨HVK.out,fun _=>by rw [Nat.add_sub_cancel];exact qgN (by rw [←hx];exact h0)⟩
     rw [hJ,h1.unique HN.out])
    clear hx h0 hJ
    go_wp2
    go_ret
    exact ⟨qaT HE.out,rfl⟩
theorem qjU (a b b1 o1 b2 o2:Nat) (w:World) (hA:At w b1 o1 (lv 32 a)) (hB:At w b2 o2 (lv 32 b)) (ha:a<BB^32) (hb:b<BB^32) :
  Calls Tryz.prog 125 #[.pointer (some ⟨b1,o1,none⟩),.pointer (some ⟨b2,o2,none⟩)] w fun e w'=>e=.returned (.int .i64 (cmpI a b))∧Below w.heap.size w w':=by
 have H0:=hid (show a / BB^32=b / BB^32 by rw [Nat.div_eq_of_lt ha,Nat.div_eq_of_lt hb])
 have HA:=hid hA
 have HB:=hid hB
 have HW:=hid (Below.refl w.heap.size w)
 clear ha hb hA hB
 go_enter Tryz.func125,Tryz.ntmps125
 go_wp2
 go_loopg [5] 33 (fun g i wr=>∃ (k d:Nat) (z:Int),k≤32∧k≤g∧z=(k:Int) - 1∧i=.int .i64 z∧a / BB^k=b / BB^k∧wr=w.drewN d)
 case atStart=>exact ⟨32,0,31,by omega,by omega,by omega,rfl,H0.out,by cases w;rfl⟩
 case round =>
  obtain ⟨k,d,z,hk,hg,hz,rfl,he,rfl⟩:=hrel
  have HE:=hid he
  clear he
  cases k with
  | zero =>
   have hz1:z=-1:=by omega
   subst hz1
   have HR:=hid (show cmpI a b=0 by
    have h:=HE.out
    simp only [Nat.pow_zero,Nat.div_one] at h
    unfold cmpI;rw [if_neg (by omega),if_pos h])
   clear hz
   go_wp2
   go_ret
   exact ⟨qaT HR.out.symm,by first|exact below_drewN HW.out _|exact below_drewN (below_drewN HW.out _) _|exact below_drewN (below_drewN (below_drewN HW.out _) _) _⟩
  | succ k =>
   have hz1:z=(k:Int):=by omega
   subst hz1
   have hk32:k<32:=by omega
   have ca:=HA.out.limb hk32
   have cb:=HB.out.limb hk32
   obtain ⟨x,hx⟩:∃ x,x=lim a k:=⟨_,rfl⟩
   obtain ⟨y,hy⟩:∃ y,y=lim b k:=⟨_,rfl⟩
   rw [←hx] at ca
   rw [←hy] at cb
   have hj:(k:Int) - 1=((k:Int) - 1):=rfl
   have hwk:IntKind.i64.wrap ((k:Int) - 1)=(k:Int) - 1:=IntWalk.i64_in _ (by omega)
   have hk0:(0:Int)≤(k:Int):=by omega
   clear hz
   by_cases h1:x<y
   ·have HR:=hid (show cmpI a b=-1 by
     have:=qfV HE.out (by rw [←hx,←hy];exact h1)
     unfold cmpI;rw [if_pos this])
    clear hx hy
    go_wp2
    go_quiet (fail)
    go_wp2
    go_ret
    exact ⟨qaT HR.out.symm,by first|exact below_drewN HW.out _|exact below_drewN (below_drewN HW.out _) _|exact below_drewN (below_drewN (below_drewN HW.out _) _) _⟩
   ·by_cases h2:y<x
    ·have HR:=hid (show cmpI a b=1 by
      have:=qfV HE.out.symm (by rw [←hx,←hy];exact h2)
      unfold cmpI;rw [if_neg (by omega),if_neg (by omega)])
     clear hx hy
     go_wp2
     go_quiet (fail)
     go_wp2
     go_quiet (fail)
     go_wp2
     go_ret
     exact ⟨qaT HR.out.symm,by first|exact below_drewN HW.out _|exact below_drewN (below_drewN HW.out _) _|exact below_drewN (below_drewN (below_drewN HW.out _) _) _⟩
    ·have HD:=hid (qiB HE.out (show lim a k=lim b k by omega))
     clear hx hy
     go_wp2
     go_quiet (fail)
     go_wp2
     go_quiet (fail)
     go_wp2
     go_roundg (gk - 1)
     case measure=>omega
     case rel=>exact ⟨k,_,_,by omega,by omega,rfl,rfl,HD.out,rfl⟩
set_option maxHeartbeats 8000000
theorem Tryz.infoU:(Tryz.prog.info? 22).map (·.size)=some 1:=by kernel_rfl
theorem Tryz.infoG:(Tryz.prog.info? 123).map (·.size)=some 32:=by kernel_rfl
theorem qG {cs:List Value} {v:Nat} (h:cs=lv 32 v):(Tryz.prog.info? 123).map (·.size)=some cs.length:=by rw [h,qlL];exact Tryz.infoG
theorem qdK {cs:List Value} {v:Nat} (h:cs=lv 32 v):cs.toArray.all (·.oneCell')=true:=qxK h
theorem Tryz.laysG:LaysAs Tryz.prog 123 (lv 32 0).toArray:=by
 rw [qbF]
 intro o h b w
 unfold execOp
 simp only [h]
 rfl
theorem Tryz.alG {cs:List Value} (h:(Tryz.prog.info? 123).map (·.size)=some cs.length):∃ z,LaysAs Tryz.prog 123 z∧cs.length≤z.size :=
 ⟨_,Tryz.laysG,by rw [Tryz.infoG] at h;injection h with h;rw [←h,List.size_toArray,qlL];exact Nat.le_refl _⟩
theorem qdG {c c2:List Value} {P i d:Nat} (h:c=lv 32 P) (h2:c2=lv 32 (upd P i d)) (hi:i<32) (hd:d<BB):c2=c.set i (.int .u32 (d:Int)):=by
 subst h h2;exact (qsP P hi hd).symm
theorem At.limbV {w:World} {b v j x:Nat} {c:List Value} (h:At w b 0 c) (hc:c=lv 32 v) (hx:x=lim v j) (hj:j<32):w.cell? ⟨b,j,none⟩=some (.int .u32 (x:Int)):=by
 subst hc hx
 have:=h.limb (j:=j) hj
 rwa [Nat.zero_add] at this
theorem At.limbO {w:World} {b o v j x:Nat} {c:List Value} (h:At w b o c) (hc:c=lv 32 v) (hx:x=lim v j) (hj:j<32):w.cell? ⟨b,o+j,none⟩=some (.int .u32 (x:Int)):=by
 subst hc hx;exact h.limb (j:=j) hj
theorem qrB {x y c:Nat} (hx:x<BB) (hy:y<BB) (hc:c≤1):∃ d c':Nat,d<BB∧c'≤1∧d+c'*BB=x+y+c :=
 ⟨(x+y+c)%BB,(x+y+c) / BB,Nat.mod_lt _ qaN,by unfold BB at *;omega,by unfold BB;omega⟩
theorem qjT {x y c:Nat} (hx:x<BB) (hy:y<BB) (hc:c≤1):∃ d c':Nat,d<BB∧c'≤1∧d+y+c=x+c'*BB:=by
 by_cases h:x<y+c
 ·exact ⟨x+BB - y - c,1,by unfold BB at *;omega,by omega,by unfold BB at *;omega⟩
 ·exact ⟨x - y - c,0,by omega,by omega,by omega⟩
theorem qrZ {ca cb cv:List Value} {a b v ba oa bb ob:Nat} {c2:Nat} (w:World) (h1:At w ba oa ca) (h2:At w bb ob cb) (hca:ca=lv 32 a) (hcb:cb=lv 32 b) (hcv:cv=lv 32 v) (ha:a<BB^32) (hb:b<BB^32) (hv:v<BB^32) (hd:a+b=v+c2*BB^32) :
  Calls Tryz.prog 133 #[.pointer (some ⟨ba,oa,none⟩),.pointer (some ⟨bb,ob,none⟩)] w fun e w'=>e=.returned (.tuple #[.agg cv.toArray,.bool (decide (c2=0))])∧Below w.heap.size w w':=by
 have V_ca:=hid hca
 have V_cb:=hid hcb
 have V_cv:=hid hcv
 have HV:=hid (And.intro ha (And.intro hb (And.intro hv hd)))
 have Aba:=hid h1
 have Abb:=hid h2
 have lba:=h1.lt
 have lbb:=h2.lt
 clear hca hcb hcv ha hb hv hd h1 h2
 obtain ⟨cz,V_cz⟩:∃ c:List Value,Hid (c=lv 32 0):=⟨_,hid rfl⟩
 obtain ⟨B0,hB0⟩:∃ B,B=w.heap.size:=⟨_,rfl⟩
 obtain ⟨B1,hB1⟩:∃ B,B=w.heap.size+1:=⟨_,rfl⟩
 obtain ⟨w0,hw0⟩:∃ w0,w0=((w.alloc (.cells (lv 32 0).toArray 123)).alloc (.cells (lv 32 0).toArray 123)):=⟨_,rfl⟩
 have AB0:=hid (show At w0 B0 0 cz by rw [hw0];exact ((show At (w.alloc (.cells (lv 32 0).toArray 123)) B0 0 cz from (by rw [V_cz.out];exact At.fresh _ (lv 32 0) _ (by simp [hB0]))).alloc _))
 have AB1:=hid (show At w0 B1 0 cz by rw [hw0];exact (show At ((w.alloc (.cells (lv 32 0).toArray 123)).alloc (.cells (lv 32 0).toArray 123)) B1 0 cz from (by rw [V_cz.out];exact At.fresh _ (lv 32 0) _ (by simp [hB1]))))
 have FR:=hid (show Fr B0 w w0 by rw [hw0,hB0];exact ((Fr.start w).alloc _).alloc _)
 have FR0:=hid FR.out.le
 have l01:B0<B1:=by omega
 have hZB1:B0≤B1:=by omega
 have hZB0:B0≤B0:=Nat.le_refl _
 rw [qbF] at hw0
 have HB0:=hid hB0
 go_enter Tryz.func133,Tryz.ntmps133
 go_wp2
 rw [←hw0,←hB1,←hB0]
 clear hw0 hB0 hB1
 replace Aba:=hid (Aba.out.below (by have:=FR.out.below;rwa [HB0.out] at this))
 replace Abb:=hid (Abb.out.below (by have:=FR.out.below;rwa [HB0.out] at this))
 rw [←HB0.out] at lba lbb
 go_loopg [7,9] 32 (fun g bw iv wr=>∃ (i P c:Nat),i≤32∧32 - i≤g∧c≤1∧P<BB^i∧P+c*BB^i=a%BB^i+b%BB^i∧bw=.int .u32 (c:Int)∧iv=.int .i64 (i:Int)∧At wr ba oa ca∧At wr bb ob cb∧At wr B0 0 cz∧At wr B1 0 (lv 32 P)∧Fr B0 w wr)
 case atStart=>exact ⟨0,0,0,by omega,by omega,by omega,BP 0,by simp [Nat.mod_one],rfl,rfl,Aba.out,Abb.out,AB0.out,by have:=AB1.out;rwa [V_cz.out] at this,FR.out⟩
 case round =>
  obtain ⟨i,P,c,hi,hg,hc,hP,he,rfl,rfl,hA,hB,hR,hO,hF⟩:=hrel
  replace Aba:=hid hA
  replace Abb:=hid hB
  replace AB0:=hid hR
  replace FR:=hid hF
  have FR0:=hid FR.out.le
  obtain ⟨cp,V_cp⟩:∃ c:List Value,Hid (c=lv 32 P):=⟨_,hid rfl⟩
  have AB1:=hid (show At wr B1 0 cp by rw [V_cp.out];exact hO)
  have HE:=hid (And.intro hP (And.intro he hc))
  clear hP he hA hB hR hO hF
  by_cases hlt:i<32
  ·obtain ⟨x,hx⟩:∃ x,x=lim a i:=⟨_,rfl⟩
   obtain ⟨y,hy⟩:∃ y,y=lim b i:=⟨_,rfl⟩
   obtain ⟨d,c',hd,hc',hn⟩:=qrB (x:=x) (y:=y) (hx ▸ qaC a i) (hy ▸ qaC b i) hc
   have HXY:=hid (And.intro hx (And.intro hy (And.intro hd hlt)))
   have HAD:=hid (fun W=>qpI x y c d c' W (hx ▸ qaC a i) (hy ▸ qaC b i) hc hn hd)
   have HS:=hid (qoG HE.out.2.1 (by rw [←hx,←hy];exact hn.symm))
   have HPL:=hid (qgM HE.out.1 hd)
   have HU:=hid (qdC (d:=d) HE.out.1)
   have HC:=hid hc'
   obtain ⟨cq,V_cq⟩:∃ c:List Value,Hid (c=lv 32 (upd P i d)):=⟨_,hid rfl⟩
   clear hx hy hd hc hn hc'
   go_upto_region 6 with fail
   refine qcW [⟨false,0,28,17,B1,0,22,26,cq,i,[.int .u32 (d:Int)],cp⟩] [(13,.int .i64 (i:Int)),(14,.pointer (some ⟨ba,oa,none⟩)),(15,.int .i64 (i:Int)),(16,.pointer (some ⟨ba,oa,none⟩)),(17,.pointer (some ⟨ba,(oa+i),none⟩)),(18,.int .u32 (x:Int)),(19,.pointer (some ⟨bb,ob,none⟩)),(20,.int .i64 (i:Int)),(21,.pointer (some ⟨bb,ob,none⟩)),(22,.pointer (some ⟨bb,(ob+i),none⟩)),(23,.int .u32 (y:Int)),(24,.int .u32 (c:Int)),(25,.tuple #[.int .u32 (d:Int),.int .u32 (c':Int)]),(12,.tuple #[.int .u32 (d:Int),.int .u32 (c':Int)]),(26,.int .u32 (d:Int)),(27,.int .u32 (c':Int)),(28,.pointer (some ⟨B1,i,none⟩)),(7,.int .u32 (c':Int))] [(7,.int .u32 (c:Int))] _ _ (by simp only [zz4,zz5,zq];rfl) (by simp only [zz4,zz5,zq];rfl) (qzM _ _ rfl (qnN)) (by kernel_rfl) (by kernel_rfl) ?_ ?_ ?_ ?_ ?_ ?_ ?_
   ·intro W' hW'
    have cl1:=fun p os=>qaF ((Aba.out.below hW').limbO V_ca.out HXY.out.1 hlt) p os
    have cl2:=fun p os=>qaF ((Abb.out.below hW').limbO V_cb.out HXY.out.2.1 hlt) p os
    iterate 11 (refine qcG (by kernel_rfl) ?_ ?_;(go_big_quiet_step (fail);(try simp only [zq]);exact wqn rfl))
    refine qoW (by kernel_rfl) ?_ ?_;(go_big_quiet_step (fail);(try simp only [zq]);exact wqn rfl)
    refine qcG (by kernel_rfl) ?_ ?_;(go_big_quiet_step ((go_at_call 152;exact qaL (HAD.out _)));(try simp only [zq]);exact wqn rfl)
    iterate 4 (refine qcG (by kernel_rfl) ?_ ?_;(go_big_quiet_step (fail);(try simp only [zq]);exact wqn rfl))
    refine qeB (by rfl) ?_
    refine qcG (by kernel_rfl) ?_ ?_;(go_big_quiet_step (fail);(try simp only [zq]);exact wqn rfl)
    exact qaU
   ·intro W' hK'
    iterate 11 (first|(refine qcG (by kernel_rfl) ?_ ?_;(go_big_quiet_step (fail);(try simp only [zq]);exact wqn rfl))|(refine qeB (by kernel_rfl) ?_))
    first|(refine qoW (by kernel_rfl) ?_ ?_;(go_big_quiet_step (fail);(try simp only [zq]);exact wqn rfl))|(refine qeB (by kernel_rfl) ?_)
    refine qeB (by kernel_rfl) ?_
    iterate 4 (first|(refine qcG (by kernel_rfl) ?_ ?_;(go_big_quiet_step (fail);(try simp only [zq]);exact wqn rfl))|(refine qeB (by kernel_rfl) ?_))
    refine qeB (by kernel_rfl) ?_
    first|(refine qcG (by kernel_rfl) ?_ ?_;(go_big_quiet_step (fail);(try simp only [zq]);exact wqn rfl))|(refine qeB (by kernel_rfl) ?_)
    exact qaU
   ·exact oP _ _ (bnc) (oN)
   ·exact oP _ _ (fun _=>⟨AB1.out.lt,rfl,At.roomC AB1.out ((qdG V_cp.out V_cq.out hlt HXY.out.2.2.1))⟩) (oN)
   ·exact uno
   ·exact oP _ _ (qdU rfl rfl Tryz.infoU rfl (by rw [V_cp.out,qlL];omega) (qdG V_cp.out V_cq.out hlt HXY.out.2.2.1)) (oN)
   intro β wx1 E
   replace FR:=hid (FR.out.flow E (oP _ _ (fun _=>(by show B0≤B1;omega)) (oN)))
   replace AB0:=hid (At.flow E AB0.out (oP _ _ (fun _=>(by show B1≠B0;omega)) (oN)))
   replace AB1:=hid (show At wx1 B1 0 cq from E.atOld mms rfl AB1.out.lt)
   replace Aba:=hid (At.flow E Aba.out (oP _ _ (fun _=>(by show B1≠ba;omega)) (oN)))
   replace Abb:=hid (At.flow E Abb.out (oP _ _ (fun _=>(by show B1≠bb;omega)) (oN)))
   simp only [nP,zr,zq]
   replace FR0:=hid FR.out.le
   clear E
   go_wp2
   go_roundg (gk - 1)
   case measure=>omega
   case rel=>exact ⟨i+1,P+d*BB^i,c',by omega,by omega,HC.out,HPL.out,HS.out,rfl,by go_num,Aba.out,Abb.out,AB0.out,by have:=AB1.out;rwa [V_cq.out,HU.out] at this,FR.out⟩
  ·have hi32:i=32:=by omega
   subst hi32
   have hPv:P=v∧c=c2:=by
    obtain ⟨h1,h2,h3,h4⟩:=HV.out
    have h5:=HE.out.2.1
    rw [Nat.mod_eq_of_lt h1,Nat.mod_eq_of_lt h2,h4] at h5
    exact qmZ h3 HE.out.1 hc h5
   obtain ⟨hPv,hcc⟩:=hPv
   have hcb:((c:Int)==0)=decide (c2=0):=by rw [hcc,Bool.eq_iff_iff];simp only [beq_iff_eq,decide_eq_true_eq];omega
   have HCV:=hid (show cp=cv by rw [V_cp.out,V_cv.out,hPv])
   clear hPv hcc
   go_upto_region 8 with fail
   refine qwf [⟨false,0,4,3,B0,0,123,30,cp,0,cp,[]⟩] [(30,.agg cp.toArray),(31,.int .u32 (c:Int)),(32,.bool (decide (c2=0))),(5,.bool (decide (c2=0)))] _ (by simp only [zz4,zz5,zq];rfl) (by kernel_rfl) (by kernel_rfl) ?_ ?_ ?_ ?_ ?_ ?_ ?_
   ·intro W' hW'
    have rd0:=AB1.out.below hW'
    refine fxo (wlg (by rfl) rfl rfl rd0 Tryz.underlying123 rfl (qG V_cp.out) (wqn (by simp only [zq]))) ?_
    iterate 2 (refine fxo ?_ ?_;(go_big_quiet_step (fail);(try simp only [zq]);exact wqn rfl))
    refine fxs (by rfl) ?_
    refine fxo ?_ ?_;(go_big_quiet_step (fail);(try simp only [zq]);exact wqn rfl)
    exact fxn
   ·intro W' hK'
    have rd0:=At.keep hK' AB1.out (oP _ _ (fun _=>(by show B0≠B1;omega)) (oN))
    refine fxo (wlg (by rfl) rfl rfl rd0 Tryz.underlying123 rfl (qG V_cp.out) (wqn (by simp only [zq]))) ?_
    iterate 2 (first|(refine fxo ?_ ?_;(go_big_quiet_step (fail);(try simp only [zq]);exact wqn rfl))|(refine fxs (by kernel_rfl) ?_))
    refine fxs (by kernel_rfl) ?_
    first|(refine fxo ?_ ?_;(go_big_quiet_step (fail);(try simp only [zq]);exact wqn rfl))|(refine fxs (by kernel_rfl) ?_)
    exact fxn
   ·exact oP _ _ (bnc) (oN)
   ·exact oP _ _ (fun _=>⟨AB0.out.lt,rfl,At.room AB0.out (qG V_cz.out) (qG V_cp.out)⟩) (oN)
   ·exact uno
   ·exact oP _ _ (stw rfl (qG V_cp.out) (qdK V_cp.out) (fun _=>rfl)) (oN)
   intro β wx1 E
   replace FR:=hid (FR.out.flow E (oP _ _ (fun _=>(by show B0≤B0;omega)) (oN)))
   replace AB0:=hid (show At wx1 B0 0 cp from E.atOld mms rfl AB0.out.lt)
   replace AB1:=hid (At.flow E AB1.out (oP _ _ (fun _=>(by show B0≠B1;omega)) (oN)))
   replace Aba:=hid (At.flow E Aba.out (oP _ _ (fun _=>(by show B0≠ba;omega)) (oN)))
   replace Abb:=hid (At.flow E Abb.out (oP _ _ (fun _=>(by show B0≠bb;omega)) (oN)))
   simp only [nP,zr,zq]
   replace FR0:=hid FR.out.le
   clear E
   rw [HCV.out] at AB0
   go_wp2_with fail
   have hld:=AB0.out.read (P:=Tryz.prog) Tryz.underlying123 rfl (qG V_cv.out)
   refine bodyPost_ret (v:=.tuple #[.agg cv.toArray,.bool (decide (c2=0))]) (by simp [results,Tryz.results133,asAddr,hld]) rfl ?_
   exact ⟨rfl,fend HB0 FR⟩
theorem qjO {ca cb cv:List Value} {a b v ba oa bb ob:Nat} {c2:Nat} (w:World) (h1:At w ba oa ca) (h2:At w bb ob cb) (hca:ca=lv 32 a) (hcb:cb=lv 32 b) (hcv:cv=lv 32 v) (ha:a<BB^32) (hb:b<BB^32) (hv:v<BB^32) (hd:v+b=a+c2*BB^32) :
  Calls Tryz.prog 132 #[.pointer (some ⟨ba,oa,none⟩),.pointer (some ⟨bb,ob,none⟩)] w fun e w'=>e=.returned (.agg cv.toArray)∧Below w.heap.size w w':=by
 have V_ca:=hid hca
 have V_cb:=hid hcb
 have V_cv:=hid hcv
 have HV:=hid (And.intro ha (And.intro hb (And.intro hv hd)))
 have Aba:=hid h1
 have Abb:=hid h2
 have lba:=h1.lt
 have lbb:=h2.lt
 clear hca hcb hcv ha hb hv hd h1 h2
 obtain ⟨cz,V_cz⟩:∃ c:List Value,Hid (c=lv 32 0):=⟨_,hid rfl⟩
 obtain ⟨B0,hB0⟩:∃ B,B=w.heap.size:=⟨_,rfl⟩
 obtain ⟨B1,hB1⟩:∃ B,B=w.heap.size+1:=⟨_,rfl⟩
 obtain ⟨w0,hw0⟩:∃ w0,w0=((w.alloc (.cells (lv 32 0).toArray 123)).alloc (.cells (lv 32 0).toArray 123)):=⟨_,rfl⟩
 have AB0:=hid (show At w0 B0 0 cz by rw [hw0];exact ((show At (w.alloc (.cells (lv 32 0).toArray 123)) B0 0 cz from (by rw [V_cz.out];exact At.fresh _ (lv 32 0) _ (by simp [hB0]))).alloc _))
 have AB1:=hid (show At w0 B1 0 cz by rw [hw0];exact (show At ((w.alloc (.cells (lv 32 0).toArray 123)).alloc (.cells (lv 32 0).toArray 123)) B1 0 cz from (by rw [V_cz.out];exact At.fresh _ (lv 32 0) _ (by simp [hB1]))))
 have FR:=hid (show Fr B0 w w0 by rw [hw0,hB0];exact ((Fr.start w).alloc _).alloc _)
 have FR0:=hid FR.out.le
 have l01:B0<B1:=by omega
 have hZB1:B0≤B1:=by omega
 have hZB0:B0≤B0:=Nat.le_refl _
 rw [qbF] at hw0
 have HB0:=hid hB0
 go_enter Tryz.func132,Tryz.ntmps132
 go_wp2
 rw [←hw0,←hB1,←hB0]
 clear hw0 hB0 hB1
 replace Aba:=hid (Aba.out.below (by have:=FR.out.below;rwa [HB0.out] at this))
 replace Abb:=hid (Abb.out.below (by have:=FR.out.below;rwa [HB0.out] at this))
 rw [←HB0.out] at lba lbb
 go_loopg [6,8] 32 (fun g bw iv wr=>∃ (i P c:Nat),i≤32∧32 - i≤g∧c≤1∧P<BB^i∧P+b%BB^i=a%BB^i+c*BB^i∧bw=.int .u32 (c:Int)∧iv=.int .i64 (i:Int)∧At wr ba oa ca∧At wr bb ob cb∧At wr B0 0 cz∧At wr B1 0 (lv 32 P)∧Fr B0 w wr)
 case atStart=>exact ⟨0,0,0,by omega,by omega,by omega,BP 0,by simp [Nat.mod_one],rfl,rfl,Aba.out,Abb.out,AB0.out,by have:=AB1.out;rwa [V_cz.out] at this,FR.out⟩
 case round =>
  obtain ⟨i,P,c,hi,hg,hc,hP,he,rfl,rfl,hA,hB,hR,hO,hF⟩:=hrel
  replace Aba:=hid hA
  replace Abb:=hid hB
  replace AB0:=hid hR
  replace FR:=hid hF
  have FR0:=hid FR.out.le
  obtain ⟨cp,V_cp⟩:∃ c:List Value,Hid (c=lv 32 P):=⟨_,hid rfl⟩
  have AB1:=hid (show At wr B1 0 cp by rw [V_cp.out];exact hO)
  have HE:=hid (And.intro hP (And.intro he hc))
  clear hP he hA hB hR hO hF
  by_cases hlt:i<32
  ·obtain ⟨x,hx⟩:∃ x,x=lim a i:=⟨_,rfl⟩
   obtain ⟨y,hy⟩:∃ y,y=lim b i:=⟨_,rfl⟩
   obtain ⟨d,c',hd,hc',hn⟩:=qjT (x:=x) (y:=y) (hx ▸ qaC a i) (hy ▸ qaC b i) hc
   have HXY:=hid (And.intro hx (And.intro hy (And.intro hd hlt)))
   have HAD:=hid (fun W=>qjB x y c d c' W (hx ▸ qaC a i) (hy ▸ qaC b i) hc hn hd)
   have HS:=hid (qmK HE.out.2.1 (by rw [←hx,←hy];exact hn))
   have HPL:=hid (qgM HE.out.1 hd)
   have HU:=hid (qdC (d:=d) HE.out.1)
   have HC:=hid hc'
   obtain ⟨cq,V_cq⟩:∃ c:List Value,Hid (c=lv 32 (upd P i d)):=⟨_,hid rfl⟩
   clear hx hy hd hc hn hc'
   go_upto_region 6 with fail
   refine qcW [⟨false,0,27,17,B1,0,22,25,cq,i,[.int .u32 (d:Int)],cp⟩] [(12,.int .i64 (i:Int)),(13,.pointer (some ⟨ba,oa,none⟩)),(14,.int .i64 (i:Int)),(15,.pointer (some ⟨ba,oa,none⟩)),(16,.pointer (some ⟨ba,(oa+i),none⟩)),(17,.int .u32 (x:Int)),(18,.pointer (some ⟨bb,ob,none⟩)),(19,.int .i64 (i:Int)),(20,.pointer (some ⟨bb,ob,none⟩)),(21,.pointer (some ⟨bb,(ob+i),none⟩)),(22,.int .u32 (y:Int)),(23,.int .u32 (c:Int)),(24,.tuple #[.int .u32 (d:Int),.int .u32 (c':Int)]),(11,.tuple #[.int .u32 (d:Int),.int .u32 (c':Int)]),(25,.int .u32 (d:Int)),(26,.int .u32 (c':Int)),(27,.pointer (some ⟨B1,i,none⟩)),(6,.int .u32 (c':Int))] [(6,.int .u32 (c:Int))] _ _ (by simp only [zz4,zz5,zq];rfl) (by simp only [zz4,zz5,zq];rfl) (qzM _ _ rfl (qnN)) (by kernel_rfl) (by kernel_rfl) ?_ ?_ ?_ ?_ ?_ ?_ ?_
   ·intro W' hW'
    have cl1:=fun p os=>qaF ((Aba.out.below hW').limbO V_ca.out HXY.out.1 hlt) p os
    have cl2:=fun p os=>qaF ((Abb.out.below hW').limbO V_cb.out HXY.out.2.1 hlt) p os
    iterate 11 (refine qcG (by kernel_rfl) ?_ ?_;(go_big_quiet_step (fail);(try simp only [zq]);exact wqn rfl))
    refine qoW (by kernel_rfl) ?_ ?_;(go_big_quiet_step (fail);(try simp only [zq]);exact wqn rfl)
    refine qcG (by kernel_rfl) ?_ ?_;(go_big_quiet_step ((go_at_call 151;exact qaL (HAD.out _)));(try simp only [zq]);exact wqn rfl)
    iterate 4 (refine qcG (by kernel_rfl) ?_ ?_;(go_big_quiet_step (fail);(try simp only [zq]);exact wqn rfl))
    refine qeB (by rfl) ?_
    refine qcG (by kernel_rfl) ?_ ?_;(go_big_quiet_step (fail);(try simp only [zq]);exact wqn rfl)
    exact qaU
   ·intro W' hK'
    iterate 11 (first|(refine qcG (by kernel_rfl) ?_ ?_;(go_big_quiet_step (fail);(try simp only [zq]);exact wqn rfl))|(refine qeB (by kernel_rfl) ?_))
    first|(refine qoW (by kernel_rfl) ?_ ?_;(go_big_quiet_step (fail);(try simp only [zq]);exact wqn rfl))|(refine qeB (by kernel_rfl) ?_)
    refine qeB (by kernel_rfl) ?_
    iterate 4 (first|(refine qcG (by kernel_rfl) ?_ ?_;(go_big_quiet_step (fail);(try simp only [zq]);exact wqn rfl))|(refine qeB (by kernel_rfl) ?_))
    refine qeB (by kernel_rfl) ?_
    first|(refine qcG (by kernel_rfl) ?_ ?_;(go_big_quiet_step (fail);(try simp only [zq]);exact wqn rfl))|(refine qeB (by kernel_rfl) ?_)
    exact qaU
   ·exact oP _ _ (bnc) (oN)
   ·exact oP _ _ (fun _=>⟨AB1.out.lt,rfl,At.roomC AB1.out ((qdG V_cp.out V_cq.out hlt HXY.out.2.2.1))⟩) (oN)
   ·exact uno
   ·exact oP _ _ (qdU rfl rfl Tryz.infoU rfl (by rw [V_cp.out,qlL];omega) (qdG V_cp.out V_cq.out hlt HXY.out.2.2.1)) (oN)
   intro β wx1 E
   replace FR:=hid (FR.out.flow E (oP _ _ (fun _=>(by show B0≤B1;omega)) (oN)))
   replace AB0:=hid (At.flow E AB0.out (oP _ _ (fun _=>(by show B1≠B0;omega)) (oN)))
   replace AB1:=hid (show At wx1 B1 0 cq from E.atOld mms rfl AB1.out.lt)
   replace Aba:=hid (At.flow E Aba.out (oP _ _ (fun _=>(by show B1≠ba;omega)) (oN)))
   replace Abb:=hid (At.flow E Abb.out (oP _ _ (fun _=>(by show B1≠bb;omega)) (oN)))
   simp only [nP,zr,zq]
   replace FR0:=hid FR.out.le
   clear E
   go_wp2
   go_roundg (gk - 1)
   case measure=>omega
   case rel=>exact ⟨i+1,P+d*BB^i,c',by omega,by omega,HC.out,HPL.out,HS.out,rfl,by go_num,Aba.out,Abb.out,AB0.out,by have:=AB1.out;rwa [V_cq.out,HU.out] at this,FR.out⟩
  ·have hi32:i=32:=by omega
   subst hi32
   have hPv:P=v:=by
    obtain ⟨h1,h2,h3,h4⟩:=HV.out
    have h5:=HE.out.2.1
    rw [Nat.mod_eq_of_lt h1,Nat.mod_eq_of_lt h2] at h5
    exact qpB h1 h2 h3 HE.out.1 hc h5 h4
   have HCV:=hid (show cp=cv by rw [V_cp.out,V_cv.out,hPv])
   clear hPv
   go_upto_region 8 with fail
   refine qwf [⟨false,0,4,1,B0,0,123,29,cp,0,cp,[]⟩] [(29,.agg cp.toArray)] _ (by simp only [zz4,zz5,zq];rfl) (by kernel_rfl) (by kernel_rfl) ?_ ?_ ?_ ?_ ?_ ?_ ?_
   ·intro W' hW'
    have rd0:=AB1.out.below hW'
    refine fxo (wlg (by rfl) rfl rfl rd0 Tryz.underlying123 rfl (qG V_cp.out) (wqn (by simp only [zq]))) ?_
    refine fxs (by rfl) ?_
    exact fxn
   ·intro W' hK'
    have rd0:=At.keep hK' AB1.out (oP _ _ (fun _=>(by show B0≠B1;omega)) (oN))
    refine fxo (wlg (by rfl) rfl rfl rd0 Tryz.underlying123 rfl (qG V_cp.out) (wqn (by simp only [zq]))) ?_
    refine fxs (by kernel_rfl) ?_
    exact fxn
   ·exact oP _ _ (bnc) (oN)
   ·exact oP _ _ (fun _=>⟨AB0.out.lt,rfl,At.room AB0.out (qG V_cz.out) (qG V_cp.out)⟩) (oN)
   ·exact uno
   ·exact oP _ _ (stw rfl (qG V_cp.out) (qdK V_cp.out) (fun _=>rfl)) (oN)
   intro β wx1 E
   replace FR:=hid (FR.out.flow E (oP _ _ (fun _=>(by show B0≤B0;omega)) (oN)))
   replace AB0:=hid (show At wx1 B0 0 cp from E.atOld mms rfl AB0.out.lt)
   replace AB1:=hid (At.flow E AB1.out (oP _ _ (fun _=>(by show B0≠B1;omega)) (oN)))
   replace Aba:=hid (At.flow E Aba.out (oP _ _ (fun _=>(by show B0≠ba;omega)) (oN)))
   replace Abb:=hid (At.flow E Abb.out (oP _ _ (fun _=>(by show B0≠bb;omega)) (oN)))
   simp only [nP,zr,zq]
   replace FR0:=hid FR.out.le
   clear E
   rw [HCV.out] at AB0
   go_wp2_with fail
   have hld:=AB0.out.read (P:=Tryz.prog) Tryz.underlying123 rfl (qG V_cv.out)
   refine bodyPost_ret (v:=.agg cv.toArray) (by simp [results,Tryz.results132,asAddr,hld]) rfl ?_
   exact ⟨rfl,fend HB0 FR⟩
end Go.Proofs.YtooeabibhjbkoaaGreat
