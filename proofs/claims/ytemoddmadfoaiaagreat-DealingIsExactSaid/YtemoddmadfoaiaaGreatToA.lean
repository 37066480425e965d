import Derived.Test.YtemoddmadfoaiaaGreatBigU
import Derived.StillTailTactics
import Derived.Laws.BitsAllLaws
import Derived.Deep.RegionHeld3
import Derived.Deep.CutRange
set_option linter.unusedVariables false
set_option linter.unusedSimpArgs false
set_option maxRecDepth 100000
set_option maxHeartbeats 4000000
namespace Go.Proofs.YtemoddmadfoaiaaGreat
open Go.RowKit Big
open Lib (hid)
theorem qnO (w:World) (a:Nat) (t:TypeId):∃ w0:World,w0=w.alloc (.cells (lv 32 a).toArray t)∧Below w.heap.size w w0∧w0.heap.size=w.heap.size+1∧qMO w0 w.heap.size 0 32 a :=
 ⟨_,rfl,(Below.refl _ _).alloc (Nat.le_refl _) _,by simp,qMO.new w 32 a t⟩
def mixN (P m i:Nat):Nat:=P+m / BB^i*BB^i
theorem jfZ {P m i:Nat} (hP:P<BB^i):lim (mixN P m i) i=lim m i:=by
 unfold mixN;rw [qsL hP (Nat.le_refl _),Nat.sub_self];unfold lim;simp
theorem jfY {P m i d:Nat} (hP:P<BB^i) (hd:d<BB):upd (mixN P m i) i d=mixN (P+d*BB^i) m (i+1):=by
 unfold upd mixN;have h1:(P+m / BB^i*BB^i)%BB^i=P:=by rw [Nat.add_mul_mod_self_right,Nat.mod_eq_of_lt hP]
 have h2:(P+m / BB^i*BB^i) / BB^(i+1)=m / BB^(i+1):=by
  rw [Nat.pow_succ,←Nat.div_div_eq_div_mul,Nat.add_mul_div_right _ _ (BP i),Nat.div_eq_of_lt hP,Nat.zero_add,Nat.div_div_eq_div_mul]
 rw [h1,h2]
theorem mix_zero (m:Nat):mixN 0 m 0=m:=by simp [mixN]
theorem jgA {P m n:Nat} (hm:m<BB^n):mixN P m n=P:=by unfold mixN;rw [Nat.div_eq_of_lt hm];simp
theorem jgR {x c:Nat} (hx:x<BB) (hc:c≤1):∃ d c':Nat,d<BB∧c'≤1∧d+c'*BB=2*x+c∧bits BinOp.or IntKind.u32 ((x:Int)*2%4294967296) (c:Int)=(d:Int)∧(x:Int) / 2147483648=(c':Int):=by
 have ho:2*x%BB ||| c=2*x%BB+c:=qiG (i:=1) (by simpa using (show c<2 by omega)) (by unfold BB;omega)
 refine ⟨2*x%BB+c,x / 2147483648,?_,?_,?_,?_,by omega⟩
 ·unfold BB at *;omega
 ·unfold BB at *;omega
 ·unfold BB at *;omega
 ·have e:(x:Int)*2%4294967296=((2*x%BB:Nat):Int):=by unfold BB;omega
  rw [e,u32_or_nat _ _ (by unfold BB;omega) (by omega),ho]
theorem qyV (m bit v c2:Nat) (w:World) (hm:m<BB^32) (hbit:bit≤1) (hv:v<BB^32) (hd:2*m+bit=v+c2*BB^32) :
  Calls Tryz.prog 187 #[mV m,.int .u32 bit] w fun e w'=>e=.returned (.tuple #[mV v,.bool (decide (c2=1))])∧Below w.heap.size w w':=by
 obtain ⟨w0,hw0,hb0,hs0,hA⟩:=qnO w m 23;obtain ⟨w1,hw1⟩:∃ w1,w1=w0.alloc (.cells (lv 32 0).toArray 23):=⟨_,rfl⟩;have hb1:Below w0.heap.size w0 w1:=by rw [hw1];exact (Below.refl _ _).alloc (Nat.le_refl _) _
 have hR:qMO w1 (w.heap.size+1) 0 32 0:=by rw [hw1,←hs0];exact qMO.new w0 32 0 _
 have HA:=hid (hA.up hb1 (by omega));have HR:=hid hR;have HW:=hid (hb0.trans (hb1.mono hb0.size));rw [hw0] at hw1;have HV:=hid (And.intro hm (And.intro hv hd));rw [qbW] at hw1;unfold mV;obtain ⟨va,hva⟩:∃ va,va=(lv 32 m).toArray:=⟨_,rfl⟩;obtain ⟨vv,hvv⟩:∃ vv,vv=(lv 32 v).toArray:=⟨_,rfl⟩;have HVV:=hid hvv;rw [←hva] at hw1 ⊢;rw [←hvv];clear hm hv hd hb0 hs0 hA hva hw0 hb1 hR hvv;go_enter Tryz.func187,Tryz.ntmps187
 go_wp2_with fail
 rw [←hw1];clear hw1;obtain ⟨B0,hB0⟩:∃ B0,B0=w.heap.size:=⟨_,rfl⟩;have HBE:=hid hB0;rw [←hB0] at HA HR ⊢;clear hB0;go_loopg [1,6] 32 (fun g bw iv wr=>∃ (i P c:Nat),i≤32∧32 - i≤g∧c≤1∧P<BB^i∧P+c*BB^i=2*(m%BB^i)+bit∧bw=.int .u32 c∧iv=.int .i64 i∧qMO wr B0 0 32 (mixN P m i)∧qMO wr (B0+1) 0 32 0∧Below w.heap.size w wr)
 case atStart=>exact ⟨0,0,bit,by omega,by omega,hbit,BP 0,by simp [Nat.mod_one],rfl,rfl,by rw [mix_zero];exact HA.out,HR.out,HW.out⟩
 case round =>
  obtain ⟨i,P,c,hi,hg,hc,hP,he,rfl,rfl,hA,hR,hW⟩:=hrel;have HE:=hid he;have HP:=hid hP;have HA1:=hid hA;have HR1:=hid hR;have HW1:=hid hW;clear he hP hA hR hW;by_cases hlt:i<32
  ·have ca:=HA1.out.1.get hlt;have fa:=HA1.out.2 i hlt;rw [Nat.zero_add] at ca fa;rw [jfZ HP.out] at ca;obtain ⟨x,hx⟩:∃ x,x=lim m i:=⟨_,rfl⟩;have hxl:x<BB:=hx ▸ qaI m i;obtain ⟨d,c',hd,hc',hn,e1,e3⟩:=jgR hxl hc;rw [←hx] at ca;have HS:=hid (jdE HE.out (by rw [←hx];exact hn));have HPL:=hid (qhR HP.out hd);have HO2:=hid (HA1.out.set hlt hd);have HDD:=hid hd;have E1:=hid e1;have E3:=hid e3;clear hx hd hn e1 e3 hxl;go_wp2
   have e3:=E3.out;have e1:=E1.out
   go_region
   have HU2:=hid (show qMO (wr.setCell ⟨B0,i,none⟩ (.int .u32 (d:Nat))) B0 0 32 (mixN (P+d*BB^i) m (i+1)) by
    have:=HO2.out;rwa [jfY HP.out HDD.out,Nat.zero_add] at this)
   have hR2:=HR1.out.setOther ⟨B0,i,none⟩ (.int .u32 (d:Nat)) (show B0≠B0+1 by omega);have hW2:=qbZ HW1.out ⟨B0,i,none⟩ (.int .u32 (d:Nat)) (show w.heap.size≤B0 by rw [←HBE.out];omega);clear e1 e3;go_wp2
   go_roundg (gk - 1)
   case measure=>omega
   case rel=>exact ⟨i+1,P+d*BB^i,c',by omega,by omega,hc',HPL.out,HS.out,rfl,by go_num,HU2.out,hR2,⟨hW2.os,hW2.tape,hW2.output,hW2.size,hW2.block⟩⟩
  ·have hi32:i=32:=by omega
   subst hi32
   have hPv:P=v∧c=c2:=by
    obtain ⟨h1,h2,h3⟩:=HV.out;have h5:=HE.out;rw [Nat.mod_eq_of_lt h1,h3] at h5;exact qqI h2 HP.out hc h5
   obtain ⟨hPv,hcc⟩:=hPv;have hcb:((c:Int)==1)=decide (c2=1):=by rw [hcc,Bool.eq_iff_iff];simp only [beq_iff_eq,decide_eq_true_eq];omega
   subst hPv;have HA2:=hid (show qMO wr B0 0 32 P by have:=HA1.out;rwa [jgA HV.out.1] at this);obtain ⟨cs,hcs⟩:∃ cs,cs=lv 32 P:=⟨_,rfl⟩;have HST:=hid (qdO (v:=P) HR1.out);have HBS:=hid (qaC (show w.heap.size≤B0+1 by rw [←HBE.out];omega) (lv 32 P) 0 wr HW1.out);have HTH:=hid (show wr.there (B0+1) 0 (lv 32 P).toArray.size by rw [List.size_toArray,qlL];exact HR1.out.there);have HLD:=hid (show wr.rangeAt B0 0 (lv 32 P) from HA2.out.1);have HSZ:=hid (qbS P);have HSA:=hid (show (Tryz.prog.info? 23).map (·.size)=some (lv 32 P).toArray.size by rw [List.size_toArray];exact qbS P);have HONE:=hid (all_oneCell_toArray (qcM 32 P));have HCS:=hid hcs;have hvc:vv=cs.toArray:=by rw [HVV.out,hcs]
   rw [←hcs] at HBS HTH HLD HSZ HSA HONE;have HVC:=hid hvc;clear hcs hvc hcc
   go_wp2_with (first
    | (refine wpList_load_mid rfl _ _ rfl B0 0 rfl cs _ HLD.out Tryz.underlying23 rfl HSZ.out ?_)
    | (refine wpList_store_mid rfl _ _ _ rfl (B0+1) 0 _ rfl rfl HTH.out HSA.out HONE.out ?_))
   have hld:=run_loadVar_mid (P:=Tryz.prog) _ _ _ _ _ _ (show World.rangeAt (wr.setCells (B0+1) 0 cs) (B0+1) 0 cs by have:=HST.out;rw [←HCS.out] at this;unfold MagAt at this;rwa [←HCS.out] at this) Tryz.underlying23 rfl HSZ.out
   try simp only [Act.put,List.setIfInBounds_toArray,List.set_cons_zero,List.set_cons_succ]
   refine bodyPost_ret (v:=.tuple #[.agg cs.toArray,.bool (decide (c2=1))]) (by simp [results,Tryz.results187,asAddr,hld]) rfl ?_;exact ⟨by rw [HVC.out],HBS.out⟩
namespace Big
theorem qfD {X:Nat} (h:X<4294967296):X.testBit 31=decide (2147483648≤X):=by
 rw [Nat.testBit_eq_decide_div_mod_eq];have e:(2:Nat)^31=2147483648:=by decide
 rw [e];congr 1
 simp only [eq_iff_iff];omega
theorem jhE {E:Nat} (h:E<4294967296):E / 2147483648=if E.testBit 31 then 1 else 0:=by
 rw [qfD h];by_cases h2:2147483648≤E
 ·simp [h2];omega
 ·simp [h2];omega
theorem qvB {X Y b D:Nat} (hX:X<4294967296) (hY:Y<4294967296) (hb:b≤1) (hD:D=(X+8589934592 - Y - b)%4294967296) :
  (((4294967295 - X) &&& Y) ||| ((4294967295 - (X ^^^ Y)) &&& D)) / 2147483648=if X<Y+b then 1 else 0:=by
 have hDl:D<4294967296:=by rw [hD];exact Nat.mod_lt _ (by omega)
 have hxy:X ^^^ Y<4294967296:=Nat.xor_lt_two_pow (n:=32) hX hY
 have hE:(((4294967295 - X) &&& Y) ||| ((4294967295 - (X ^^^ Y)) &&& D))<4294967296 :=
  Nat.or_lt_two_pow (n:=32) (Nat.lt_of_le_of_lt Nat.and_le_right hY) (Nat.lt_of_le_of_lt Nat.and_le_right hDl)
 rw [jhE hE,Nat.testBit_or,Nat.testBit_and,Nat.testBit_and,qfD (by omega:4294967295 - X<4294967296),qfD hY,qfD hDl,qfD (by omega:4294967295 - (X ^^^ Y)<4294967296)]
 have ex:decide (2147483648≤4294967295 - (X ^^^ Y))=!((decide (2147483648≤X)) ^^ (decide (2147483648≤Y))):=by
  have:=qfD hxy
  rw [Nat.testBit_xor,qfD hX,qfD hY] at this;rw [this];by_cases h:2147483648≤X ^^^ Y
  ·simp [h];omega
  ·simp [h];omega
 rw [ex];by_cases h1:2147483648≤X<;>by_cases h2:2147483648≤Y<;>by_cases h3:2147483648≤D<;>by_cases h4:X<Y+b<;>by_cases h5:2147483648≤4294967295 - X<;>simp [h1,h2,h3,h4,h5]<;>omega
theorem qzD {x:Nat} (hx:x<4294967296):4294967295 ^^^ x=4294967295 - x:=by
 apply Nat.eq_of_testBit_eq
 intro i;have e:(4294967295 - x)=2^32 - (x+1):=by omega
 have e2:(4294967295:Nat)=2^32 - 1:=by decide
 rw [e,Nat.testBit_two_pow_sub_succ (n:=32) (by omega),Nat.testBit_xor,e2,Nat.testBit_two_pow_sub_one];by_cases h:i<32
 ·simp [h]
 ·have hb:x.testBit i=false:=Nat.testBit_lt_two_pow (Nat.lt_of_lt_of_le (show x<2^32 by omega) (Nat.pow_le_pow_right (by omega) (by omega)));simp [h,hb]
theorem qvA {x y b d b2:Nat} (hx:x<4294967296) (hy:y<4294967296) (hd:d<4294967296) (hE:(((4294967295 - x) &&& y) ||| ((4294967295 - (x ^^^ y)) &&& d)) / 2147483648=b2) :
  bits BinOp.or IntKind.u32 (bits BinOp.and IntKind.u32 (bits BinOp.xor IntKind.u32 IntKind.u32.max (x:Int)) (y:Int)) (bits BinOp.and IntKind.u32 (bits BinOp.xor IntKind.u32 IntKind.u32.max (bits BinOp.xor IntKind.u32 (x:Int) (y:Int))) (d:Int)) / 2147483648=(b2:Int):=by
 have hm:IntKind.u32.max=((4294967295:Nat):Int):=by decide
 have hxy:x ^^^ y<4294967296:=Nat.xor_lt_two_pow (n:=32) hx hy;have a1:4294967295 - x &&& y<4294967296:=Nat.lt_of_le_of_lt Nat.and_le_right hy;have a2:4294967295 - (x ^^^ y) &&& d<4294967296:=Nat.lt_of_le_of_lt Nat.and_le_right hd;rw [hm,u32_xor_nat x y hx hy,u32_xor_nat 4294967295 x (by omega) hx,u32_xor_nat 4294967295 (x ^^^ y) (by omega) hxy,qzD hx,qzD hxy,u32_and_nat _ _ (by omega) hy,u32_and_nat _ _ (by omega) hd,u32_or_nat _ _ a1 a2];omega
end Big
theorem qtH (x y c d c2:Nat) (w:World) (hx:x<BB) (hy:y<BB) (hc:c≤1) (hd:d+c2*BB=x+y+c) (hdB:d<BB) :
  Calls Tryz.prog 169 #[.int .u32 (x:Int),.int .u32 (y:Int),.int .u32 (c:Int)] w fun e w'=>e=.returned (.tuple #[.int .u32 (d:Int),.int .u32 (c2:Int)])∧w=w':=by
 unfold BB at hx hy hd hdB;have w1:IntKind.u64.wrap ((x:Int)+(y:Int))=(x:Int)+(y:Int):=by rw [IntKind.wrap_u64];omega
 have w2:IntKind.u64.wrap ((x:Int)+(y:Int)+(c:Int))=(x:Int)+(y:Int)+(c:Int):=by rw [IntKind.wrap_u64];omega
 have w3:IntKind.u32.wrap ((x:Int)+(y:Int)+(c:Int))=(d:Int):=by rw [IntKind.wrap_u32];omega
 have w4:((x:Int)+(y:Int)+(c:Int)) / 4294967296=(c2:Int):=by omega
 have w5:IntKind.u32.wrap (c2:Int)=(c2:Int):=by rw [IntKind.wrap_u32];omega
 have wx:IntKind.u64.wrap (x:Int)=(x:Int):=by rw [IntKind.wrap_u64];omega
 have wy:IntKind.u64.wrap (y:Int)=(y:Int):=by rw [IntKind.wrap_u64];omega
 have wc:IntKind.u64.wrap (c:Int)=(c:Int):=by rw [IntKind.wrap_u64];omega
 have HX:=hid (And.intro hx (And.intro hy (And.intro hd hdB)));clear hx hy hd hdB;go_enter Tryz.func169,Tryz.ntmps169
 go_wp2
 go_ret2
 exact ⟨rfl,rfl⟩
theorem qmM (x y b d b2:Nat) (w:World) (hx:x<BB) (hy:y<BB) (hb:b≤1) (hd:d+y+b=x+b2*BB) (hdB:d<BB) :
  Calls Tryz.prog 168 #[.int .u32 (x:Int),.int .u32 (y:Int),.int .u32 (b:Int)] w fun e w'=>e=.returned (.tuple #[.int .u32 (d:Int),.int .u32 (b2:Int)])∧w=w':=by
 unfold BB at hx hy hd hdB;have hb2:b2=if x<y+b then 1 else 0:=by split<;>omega
 have hdd:d=(x+8589934592 - y - b)%4294967296:=by omega
 have hE:=qvB hx hy hb hdd;rw [←hb2] at hE
 obtain ⟨m,hm⟩:∃ m:Nat,IntKind.u32.wrap ((x:Int) - (y:Int))=(m:Int)∧IntKind.u32.wrap ((m:Int) - (b:Int))=(d:Int):=by
  refine ⟨(x+4294967296 - y)%4294967296,?_,?_⟩
  ·rw [IntKind.wrap_u32];omega
  ·rw [IntKind.wrap_u32];omega
 obtain ⟨w1,w2⟩:=hm;have hxy:x ^^^ y<4294967296:=Nat.xor_lt_two_pow (n:=32) hx hy;have HE:=hid (qvA (b:=b) hx hy hdB hE);clear hx hy hd hdB hb2 hdd hE hb hxy;go_enter Tryz.func168,Tryz.ntmps168
 go_wp2
 go_ret2
 exact ⟨by rw [HE.out];rfl,rfl⟩
set_option maxHeartbeats 2000000
theorem qoY {v:Nat} (hv:v<BB^2):lv 32 v=[.int .u32 (lim v 0:Nat),.int .u32 (lim v 1:Nat),.int .u32 0,.int .u32 0,.int .u32 0,.int .u32 0,.int .u32 0,.int .u32 0,.int .u32 0,.int .u32 0,.int .u32 0,.int .u32 0,.int .u32 0,.int .u32 0,.int .u32 0,.int .u32 0,.int .u32 0,.int .u32 0,.int .u32 0,.int .u32 0,.int .u32 0,.int .u32 0,.int .u32 0,.int .u32 0,.int .u32 0,.int .u32 0,.int .u32 0,.int .u32 0,.int .u32 0,.int .u32 0,.int .u32 0,.int .u32 0]:=by
 have hz:∀ k,2≤k→lim v k=0:=fun k hk=>qjS hv hk
 unfold lv cells dg;simp [List.range,List.range.loop,hz]
theorem qmZ (n v:Nat):(lv n v).toArray.size=n:=by rw [List.size_toArray,qlL]
theorem qeH {v:Nat} (hv:v<BB^2):v=lim v 0+lim v 1*BB:=by
 have h1:=qbJ v 1;have h0:=qbJ v 0;rw [Nat.mod_eq_of_lt hv] at h1;simp only [Nat.pow_zero,Nat.mul_one,Nat.mod_one,Nat.zero_add,Nat.pow_one] at h0 h1;omega
theorem qnY {v:Nat} (hv:v<18446744073709551616):v<BB^2:=by unfold BB;omega
theorem jeH (v:Nat) (w:World) (hv:v<BB^2) :
  Calls Tryz.prog 185 #[mV v] w fun e w'=>e=.returned (.int .u64 v)∧Below w.heap.size w w':=by
 obtain ⟨w0,hw0,hb0,hs0,hA⟩:=qnO w v 23;have HW:=hid hb0;have c0:=hA.1.get (k:=0) (by omega);have c1:=hA.1.get (k:=1) (by omega);rw [Nat.zero_add] at c0 c1;have h2:=qeH hv;have l0:=qaI v 0;have l1:=qaI v 1;obtain ⟨x,hx⟩:∃ x,x=lim v 0:=⟨_,rfl⟩;obtain ⟨y,hy⟩:∃ y,y=lim v 1:=⟨_,rfl⟩;rw [←hx] at c0 l0 h2;rw [←hy] at c1 l1 h2;have w1:IntKind.u64.wrap (x:Int)=(x:Int):=by unfold BB at l0;rw [IntKind.wrap_u64];omega
 have w2:IntKind.u64.wrap (y:Int)=(y:Int):=by unfold BB at l1;rw [IntKind.wrap_u64];omega
 have hor:bits BinOp.or IntKind.u64 (IntKind.u64.wrap ((y:Int)*4294967296)) (x:Int)=(v:Int):=by
  have e:IntKind.u64.wrap ((y:Int)*4294967296)=((y*4294967296:Nat):Int):=by unfold BB at l1;rw [IntKind.wrap_u64];omega
  rw [e,u64_or_nat _ _ (by unfold BB at l1;omega) (by unfold BB at l0;omega),qiG (i:=32) (by unfold BB at l0;omega) (by omega),h2];unfold BB;omega
 unfold mV;obtain ⟨va,hva⟩:∃ va,va=(lv 32 v).toArray:=⟨_,rfl⟩;rw [←hva] at hw0 ⊢;clear hv hb0 hs0 hA hx hy l0 l1 h2 hva;go_enter Tryz.func185,Tryz.ntmps185
 go_upto_region 1 with fail
 rw [←hw0];clear hw0;go_wp2
 go_ret
 exact ⟨rfl,HW.out⟩
theorem qrU (n:Nat) (w:World) (hn:n<BB^2) :
  Calls Tryz.prog 184 #[.int .u64 n] w fun e w'=>e=.returned (mV n)∧Below w.heap.size w w':=by
 obtain ⟨w1,hw1⟩:∃ w1,w1=(w.alloc (.cells (lv 32 0).toArray 23)).alloc (.cells (lv 32 n).toArray 23):=⟨_,rfl⟩;have hR:qMO w1 w.heap.size 0 32 0:=by rw [hw1];exact (qMO.new w 32 0 _).up ((Below.refl _ _).alloc (Nat.le_refl _) _) (by simp)
 have hO:qMO w1 (w.heap.size+1) 0 32 n:=by
  rw [hw1]
  have:=qMO.new (w.alloc (.cells (lv 32 0).toArray 23)) 32 n 23
  rwa [World.size_alloc] at this
 have hb1:Below w.heap.size w w1:=by rw [hw1];exact ((Below.refl _ _).alloc (Nat.le_refl _) _).alloc (by simp) _
 have h2:=qeH hn;have l0:=qaI n 0;have l1:=qaI n 1;rw [qbW,qoY hn] at hw1;obtain ⟨x,hx⟩:∃ x,x=lim n 0:=⟨_,rfl⟩;obtain ⟨y,hy⟩:∃ y,y=lim n 1:=⟨_,rfl⟩;rw [←hx] at hw1 l0 h2;rw [←hy] at hw1 l1 h2;have e1:IntKind.u32.wrap (n:Int)=(x:Int):=by unfold BB at h2 l0;rw [IntKind.wrap_u32];omega
 have e2:IntKind.u32.wrap ((n:Int) / 4294967296)=(y:Int):=by unfold BB at h2 l0 l1;rw [IntKind.wrap_u32];omega
 have HR:=hid hR;have HO:=hid hO;have HB:=hid hb1;unfold mV;obtain ⟨vv,hvv⟩:∃ vv,vv=(lv 32 n).toArray:=⟨_,rfl⟩;have HVV:=hid hvv;rw [←hvv];clear hn h2 l0 l1 hx hy hR hO hb1 hvv;go_enter Tryz.func184,Tryz.ntmps184
 go_upto_region 3 with fail
 rw [←hw1];clear hw1 e1 e2;obtain ⟨cs,hcs⟩:∃ cs,cs=lv 32 n:=⟨_,rfl⟩;have HST:=hid (qdO (v:=n) HR.out);have HBS:=hid (qaC (Nat.le_refl w.heap.size) (lv 32 n) 0 w1 HB.out);have HTH:=hid (show w1.there w.heap.size 0 (lv 32 n).toArray.size by rw [qmZ];exact HR.out.there);have HLD:=hid (show w1.rangeAt (w.heap.size+1) 0 (lv 32 n) from HO.out.1);have HSZ:=hid (qbS n);have HSA:=hid (show (Tryz.prog.info? 23).map (·.size)=some (lv 32 n).toArray.size by rw [qmZ];exact Tryz.infoM);have HONE:=hid (all_oneCell_toArray (qcM 32 n));have HCS:=hid hcs;have hvc:vv=cs.toArray:=by rw [HVV.out,hcs]
 rw [←hcs] at HBS HTH HLD HSZ HSA HONE;have HVC:=hid hvc;clear hcs hvc
 go_wp2_with (first
  | (refine wpList_load_mid rfl _ _ rfl (w.heap.size+1) 0 rfl cs _ HLD.out Tryz.underlying23 rfl HSZ.out ?_)
  | (refine wpList_store_mid rfl _ _ _ rfl w.heap.size 0 _ rfl rfl HTH.out HSA.out HONE.out ?_))
 have hld:=run_loadVar_mid (P:=Tryz.prog) _ _ _ _ _ _ (show World.rangeAt (w1.setCells w.heap.size 0 cs) w.heap.size 0 cs by have:=HST.out;rw [←HCS.out] at this;unfold MagAt at this;rwa [←HCS.out] at this) Tryz.underlying23 rfl HSZ.out
 try simp only [Act.put,List.setIfInBounds_toArray,List.set_cons_zero,List.set_cons_succ]
 refine bodyPost_ret (v:=.agg cs.toArray) (by simp [results,Tryz.results184,asAddr,hld]) rfl ?_;exact ⟨by rw [HVC.out],HBS.out⟩
def zV (z:Int):Value:=iV (decide (z<0)) z.natAbs
theorem qbX:(Value.bool false::lv 32 0)=[.bool false,.int .u32 0,.int .u32 0,.int .u32 0,.int .u32 0,.int .u32 0,.int .u32 0,.int .u32 0,.int .u32 0,.int .u32 0,.int .u32 0,.int .u32 0,.int .u32 0,.int .u32 0,.int .u32 0,.int .u32 0,.int .u32 0,.int .u32 0,.int .u32 0,.int .u32 0,.int .u32 0,.int .u32 0,.int .u32 0,.int .u32 0,.int .u32 0,.int .u32 0,.int .u32 0,.int .u32 0,.int .u32 0,.int .u32 0,.int .u32 0,.int .u32 0,.int .u32 0]:=by rw [qbW]
theorem infoI33 (b:Bool) (v:Nat):(Tryz.prog.info? 25).map (·.size)=some (Value.bool b::lv 32 v).length:=by rw [List.length_cons,qlL];exact Tryz.infoI
theorem qhC (b:Bool) (v:Nat):(Value.bool b::lv 32 v).toArray.size=33:=by rw [List.size_toArray,List.length_cons,qlL]
theorem qfJ (b:Bool) (v:Nat):∀ x∈Value.bool b::lv 32 v,x.oneCell'=true:=by
 intro x hx;rcases List.mem_cons.1 hx with rfl|hx
 ·rfl
 ·exact qcM 32 v x hx
theorem qjB (X:World) (t:TypeId):(X.alloc (.cells (Value.bool false::lv 32 0).toArray t)).there X.heap.size 0 33:=by
 intro j hj;have hh:=heap_alloc_new X (.cells (Value.bool false::lv 32 0).toArray t);refine ⟨?_,frozen_of_row _ _ _ _ _ hh⟩;rw [cell_of_row _ X.heap.size (0+j) _ t (0,0) hh,Array.getElem?_eq_getElem (by rw [qhC];omega)];rfl
theorem jgK (z:Int) (w:World) (hz1:-9223372036854775808≤z) (hz2:z≤9223372036854775807) :
  Calls Tryz.prog 101 #[.int .i64 z] w fun e w'=>e=.returned (zV z)∧Below w.heap.size w w':=by
 obtain ⟨n,hn⟩:∃ n,n=z.natAbs:=⟨_,rfl⟩;obtain ⟨s,hs⟩:∃ s,s=decide (z<0):=⟨_,rfl⟩;have hn2:n<BB^2:=qnY (by omega);obtain ⟨w1,hw1⟩:∃ w1,w1=(w.alloc (.cells (Value.bool false::lv 32 0).toArray 25)).alloc (.cells (Value.bool s::lv 32 n).toArray 25):=⟨_,rfl⟩;have hR:w1.there w.heap.size 0 33:=by rw [hw1];exact World.there_alloc (qjB w _) _
 have hO:w1.rangeAt (w.heap.size+1) 0 (Value.bool s::lv 32 n):=by
  rw [hw1]
  have:=qdD (w.alloc (.cells (Value.bool false::lv 32 0).toArray 25)) (Value.bool s::lv 32 n) 25
  rwa [World.size_alloc] at this
 have hb1:Below w.heap.size w w1:=by rw [hw1];exact ((Below.refl _ _).alloc (Nat.le_refl _) _).alloc (by simp) _
 have h2:=qeH hn2;have l0:=qaI n 0;have l1:=qaI n 1;rw [qbX,qoY hn2] at hw1;obtain ⟨x,hx⟩:∃ x,x=lim n 0:=⟨_,rfl⟩;obtain ⟨y,hy⟩:∃ y,y=lim n 1:=⟨_,rfl⟩;rw [←hx] at hw1 l0 h2;rw [←hy] at hw1 l1 h2;have e1:IntKind.u32.wrap (n:Int)=(x:Int):=by unfold BB at h2 l0;rw [IntKind.wrap_u32];omega
 have e2:IntKind.u32.wrap ((n:Int) / 4294967296)=(y:Int):=by unfold BB at h2 l0 l1;rw [IntKind.wrap_u32];omega
 have HR:=hid hR;have HO:=hid hO;have HB:=hid hb1;unfold zV iV;rw [←hs,←hn];obtain ⟨cs,hcs⟩:∃ cs,cs=Value.bool s::lv 32 n:=⟨_,rfl⟩;have HST:=hid (World.rangeAt_setCells_same w1 w.heap.size 0 (Value.bool s::lv 32 n) (by rw [List.length_cons,qlL];exact hR));have HBS:=hid (qaC (Nat.le_refl w.heap.size) (Value.bool s::lv 32 n) 0 w1 hb1);have HTH:=hid (show w1.there w.heap.size 0 (Value.bool s::lv 32 n).toArray.size by rw [qhC];exact hR);have HSZ:=hid (infoI33 s n);have HSA:=hid (show (Tryz.prog.info? 25).map (·.size)=some (Value.bool s::lv 32 n).toArray.size by rw [qhC];exact Tryz.infoI);have HONE:=hid (all_oneCell_toArray (qfJ s n));rw [←hcs] at HST HBS HTH HO HSZ HSA HONE ⊢;by_cases hneg:z<0
 ·obtain rfl:s=true:=by rw [hs,decide_eq_true hneg]
  have e0:IntKind.u64.wrap (-(IntKind.u64.wrap z))=(n:Int):=by rw [IntKind.wrap_u64,IntKind.wrap_u64];omega
  clear hn2 h2 l0 l1 hx hy hR hO hb1 hcs hs hn hz1 hz2;go_enter Tryz.func101,Tryz.ntmps101
  go_upto_region 7 with fail
  rw [←hw1];clear hw1 e0 e1 e2
  go_wp2_with (first
   | (refine wpList_load_mid rfl _ _ rfl (w.heap.size+1) 0 rfl cs _ HO.out Tryz.underlying25 rfl HSZ.out ?_)
   | (refine wpList_store_mid rfl _ _ _ rfl w.heap.size 0 _ rfl rfl HTH.out HSA.out HONE.out ?_))
  have hld:=run_loadVar_mid (P:=Tryz.prog) _ _ _ _ _ _ HST.out Tryz.underlying25 rfl HSZ.out
  try simp only [Act.put,List.setIfInBounds_toArray,List.set_cons_zero,List.set_cons_succ]
  refine bodyPost_ret (v:=.agg cs.toArray) (by simp [results,Tryz.results101,asAddr,hld]) rfl ?_;exact ⟨rfl,HBS.out⟩
 ·obtain rfl:s=false:=by rw [hs,decide_eq_false hneg]
  have e0:IntKind.u64.wrap z=(n:Int):=by rw [IntKind.wrap_u64];omega
  clear hn2 h2 l0 l1 hx hy hR hO hb1 hcs hs hn hz1 hz2;go_enter Tryz.func101,Tryz.ntmps101
  go_upto_region 7 with fail
  rw [←hw1];clear hw1 e0 e1 e2
  go_wp2_with (first
   | (refine wpList_load_mid rfl _ _ rfl (w.heap.size+1) 0 rfl cs _ HO.out Tryz.underlying25 rfl HSZ.out ?_)
   | (refine wpList_store_mid rfl _ _ _ rfl w.heap.size 0 _ rfl rfl HTH.out HSA.out HONE.out ?_))
  have hld:=run_loadVar_mid (P:=Tryz.prog) _ _ _ _ _ _ HST.out Tryz.underlying25 rfl HSZ.out
  try simp only [Act.put,List.setIfInBounds_toArray,List.set_cons_zero,List.set_cons_succ]
  refine bodyPost_ret (v:=.agg cs.toArray) (by simp [results,Tryz.results101,asAddr,hld]) rfl ?_;exact ⟨rfl,HBS.out⟩
set_option maxHeartbeats 2000000
theorem qhZ (w:World) (neg:Bool) (v:Nat) (t:TypeId):∃ w0:World,w0=w.alloc (.cells (Value.bool neg::lv 32 v).toArray t)∧Below w.heap.size w w0∧w0.heap.size=w.heap.size+1∧w0.cell? ⟨w.heap.size,0,none⟩=some (.bool neg)∧MagAt w0 w.heap.size 1 32 v :=
 ⟨_,rfl,(Below.refl _ _).alloc (Nat.le_refl _) _,by simp,(qyJ w neg v t).1,(qyJ w neg v t).2⟩
theorem qzW {x m k:Nat} (hx:x<2^k) (h:IsBits x m):m≤k:=by
 rcases Nat.lt_or_ge k m with hlt|hle
 ·have h1:=h.2 (by omega);have h2:=Nat.pow_le_pow_right (show 0<2 by omega) (show k≤m - 1 by omega);omega
 ·exact hle
theorem qnP {x m:Nat} (k:Nat) (hx:x<BB^k) (h:IsBits x m):m≤32*k:=qzW (by rw [qgF] at hx;exact hx) h
theorem qrH (neg:Bool) (v n:Nat) (w:World) (hv:v<BB^32) (hn:IsBits v n) :
  Calls Tryz.prog 132 #[iV neg v] w fun e w'=>e=.returned (.int .i64 n)∧Below w.heap.size w w':=by
 obtain ⟨N,hN32,hN⟩:=qLE v 32 hv;have hnb:n≤1024:=qnP 32 hv hn;obtain ⟨w0,hw0,hb0,hs0,hc0,hA⟩:=qhZ w neg v 25;have HL:=hid (fun W=>qeU v N W hv hN);have HW:=hid hb0;have HA:=hid hA;have HN:=hid hN;have HBN:=hid hn;obtain ⟨B0,hB0⟩:∃ B0,B0=w.heap.size:=⟨_,rfl⟩;have HBE:=hid hB0;have hB1:B0<w0.heap.size:=by rw [hs0,hB0];omega
 rw [←hB0] at HA;unfold iV;obtain ⟨va,hva⟩:∃ va,va=(Value.bool neg::lv 32 v).toArray:=⟨_,rfl⟩;obtain ⟨cs,hcs⟩:∃ cs,cs=lv 32 v:=⟨_,rfl⟩;have HLD:=hid (show w0.rangeAt B0 1 (lv 32 v) from HA.out);have HSZ:=hid (qbS v);have HL2:=hid (fun W=>show Calls Tryz.prog 162 #[.agg cs.toArray] W (fun e w'=>e=.returned (.int .i64 N)∧Below W.heap.size W w') by rw [hcs];exact HL.out W);rw [←hcs] at HLD HSZ;rw [←hva] at hw0 ⊢;clear hv hn hb0 hs0 hc0 hA hva hcs hN;go_enter Tryz.func132,Tryz.ntmps132
 go_upto_region 1 with fail
 rw [←hw0,←hB0];clear hw0 hB0;go_wp2_with (refine wpList_load_mid rfl _ _ rfl B0 1 rfl cs _ HLD.out Tryz.underlying23 rfl HSZ.out ?_)
 refine (HL2.out _).mono ?_;rintro e w1 ⟨rfl,hb1⟩;have HB1:=hid (HW.out.trans (hb1.mono HW.out.size));have HA1:=hid (HA.out.up hb1);clear hb1 hB1;by_cases h0:N=0
 ·subst h0;have hv0:v=0:=HN.out.eq_zero;have hn0:n=0:=by have:=HBN.out;rw [hv0] at this;exact this.zero
  subst hn0;clear hv0;go_wp2
  go_ret
  exact ⟨rfl,HB1.out⟩
 ·obtain ⟨j,hj⟩:∃ j,N=j+1:=⟨N - 1,by omega⟩;have hj32:j<32:=by omega
  have ca:=HA1.out.get hj32;have hN2:=HN.out;rw [hj] at hN2
  have hz:lim v j≠0:=fun h=>by
   have h1:=qdS hN2.1 h;have h2:=hN2.2 (by omega);simp only [Nat.add_sub_cancel] at h2;omega
  obtain ⟨x,hx⟩:∃ x,x=lim v j:=⟨_,rfl⟩;obtain ⟨m,hm⟩:=qaJ x;have HT:=hid (show 32*j+m=n from IsBits.unique (qpV hN2.1 hz (by rw [←hx];exact hm)) HBN.out);rw [←hx] at ca;have hxl:x<BB:=hx ▸ qaI v j;have HXM:=hid (And.intro hm hxl);have hj1:(N:Int) - 1=(j:Int):=by omega
  have hwj:IntKind.i64.wrap (j:Int)=(j:Int):=IntWalk.i64_in _ (by omega);have hw32:IntKind.i64.wrap (32*(j:Int))=((32*j:Nat):Int):=by rw [show (32:Int)*(j:Int)=((32*j:Nat):Int) by omega];exact IntWalk.i64_in _ (by omega)
  have hN0:((N:Int)==0)=false:=beq_eq_false_iff_ne.2 (by omega);have hk0:(0:Int)≤(j:Int):=by omega
  clear hN2 hz hx hm hxl hj;go_wp2
  go_loopg [4,5] n (fun g kv xv wr=>∃ (x m K:Nat),x<BB∧IsBits x m∧K+m=n∧m≤g∧kv=.int .i64 K∧xv=.int .u32 x∧wr=w1)
  case atStart=>exact ⟨x,m,32*j,HXM.out.2,HXM.out.1,HT.out,by have:=HT.out;omega,by go_num,rfl,rfl⟩
  case round =>
   obtain ⟨x2,m2,K,hx2,hm2,hK,hg,rfl,rfl,hwr⟩:=hrel;subst wr;have HM2:=hid hm2;have HX2:=hid hx2;clear hm2 hx2;by_cases hx0:x2=0
   ·subst hx0;have hm0:=HM2.out.zero;subst hm0;have hKn:K=n:=by omega
    subst hKn;clear hK;go_wp2
    go_ret
    exact ⟨rfl,HB1.out⟩
   ·have hh:=HM2.out.half (by omega);have HH:=hid hh.2;have hm0:=hh.1;obtain ⟨y,hy⟩:∃ y,y=x2 / 2:=⟨_,rfl⟩;have hdiv:(x2:Int) / 2=(y:Int):=by omega
    have hpos:(0:Int)<(x2:Int):=by omega
    have HY:=hid (show y<BB by have:=HX2.out;omega);have HHY:=hid (show IsBits y (m2 - 1) by rw [hy];exact HH.out);clear hh hy hx0;go_wp2
    go_roundg (gk - 1)
    case measure=>omega
    case rel=>exact ⟨y,m2 - 1,K+1,HY.out,HHY.out,by omega,by omega,by go_num,rfl,rfl⟩
set_option maxHeartbeats 4000000
theorem qpO {m k s:Nat} (hm:m<BB^32) (hk:k≤32):m / 2^(32*k+s)<BB^(32 - k):=by
 have h1:m / 2^(32*k+s)≤m / BB^k:=by
  rw [Nat.pow_add,←qgF,←Nat.div_div_eq_div_mul];exact Nat.div_le_self _ _
 have h2:m / BB^k<BB^(32 - k):=by
  rw [Nat.div_lt_iff_lt_mul (BP k),←Nat.pow_add,show 32 - k+k=32 by omega];exact hm
 omega
theorem qvM {P i lo d:Nat} (hP:P<BB^i) (hlo:lo<BB):upd (P+lo*BB^i) i d=P+d*BB^i:=by
 have h:=qhR hP hlo;unfold upd;rw [Nat.add_mul_mod_self_right,Nat.mod_eq_of_lt hP,Nat.div_eq_of_lt h];simp
theorem jeT {x y s:Nat} (hx:x<BB) (hy:y<BB) (hs0:0<s) (hs:s<32):∃ hi:Nat,IntKind.u32.wrap ((y:Int)*2^(32 - s))=(hi:Int)∧hi=y%2^s*2^(32 - s) ∧
  bits BinOp.or IntKind.u32 ((x / 2^s:Nat):Int) (hi:Int)=((x / 2^s+hi:Nat):Int)∧x / 2^s+hi<BB:=by
 have e3:BB=2^s*2^(32 - s):=by rw [qdF,←Nat.pow_add];congr 1;omega
 obtain ⟨T,hT⟩:∃ T,T=2^(32 - s):=⟨_,rfl⟩;have hT0:0<T:=by rw [hT];exact tp _
 have hcast:((2:Int)^(32 - s))=(T:Int):=by rw [hT];simp
 have h1:y%2^s<2^s:=Nat.mod_lt _ (tp s);have h2:y%2^s*T+T≤BB:=by rw [←Nat.succ_mul,e3,←hT];exact Nat.mul_le_mul_right _ h1
 have hlo:x / 2^s<T:=by rw [Nat.div_lt_iff_lt_mul (tp s),hT,Nat.mul_comm,←e3];exact hx
 have hm:y*T%BB=y%2^s*T:=by rw [e3,←hT];exact Nat.mul_mod_mul_right _ _ _
 rw [←hT,hcast];refine ⟨y%2^s*T,?_,rfl,?_,by omega⟩
 ·rw [IntKind.wrap_u32,←hm];unfold BB;omega
 ·rw [u32_or_nat _ _ (by unfold BB at h2;omega) (by unfold BB at h2;omega),Nat.or_comm,qiG (i:=32 - s) (by rw [←hT];exact hlo) (by rw [←hT];exact Nat.mul_mod_left _ _),Nat.add_comm]
theorem qtU (m n:Nat) (w:World) (hm:m<BB^32) (hn:n≤1024) :
  Calls Tryz.prog 186 #[mV m,.int .i64 n] w fun e w'=>e=.returned (mV (m / 2^n))∧Below w.heap.size w w':=by
 obtain ⟨k,hk⟩:∃ k,k=n / 32:=⟨_,rfl⟩;obtain ⟨s,hs⟩:∃ s,s=n%32:=⟨_,rfl⟩;obtain ⟨v,hv⟩:∃ v,v=m / 2^n:=⟨_,rfl⟩;have hns:32*k+s=n:=by omega
 have hvb:v<BB^(32 - k):=by rw [hv,←hns];exact qpO hm (by omega)
 have HLIM:=hid (fun i=>show lim v i=lim m (i+k) / 2^s+lim m (i+k+1)%2^s*2^(32 - s) by rw [hv,←hns];exact qgR m k s i (by omega));have HVB:=hid (And.intro hvb hm);obtain ⟨w0,hw0,hb0,hs0,hA⟩:=qnO w m 23;obtain ⟨w1,hw1⟩:∃ w1,w1=(w0.alloc (.cells (lv 32 0).toArray 23)).alloc (.cells (lv 32 0).toArray 23):=⟨_,rfl⟩;have hb1:Below w0.heap.size w0 w1:=by rw [hw1];exact ((Below.refl _ _).alloc (Nat.le_refl _) _).alloc (by simp) _
 have hR:qMO w1 (w.heap.size+1) 0 32 0:=by
  rw [hw1,←hs0];exact (qMO.new w0 32 0 _).up ((Below.refl _ _).alloc (Nat.le_refl _) _) (by simp)
 have hO:qMO w1 (w.heap.size+1+1) 0 32 0:=by
  rw [hw1,←hs0]
  have:=qMO.new (w0.alloc (.cells (lv 32 0).toArray 23)) 32 0 23
  rwa [World.size_alloc] at this
 have HA:=hid (hA.1.up hb1);have HR:=hid hR;have HO:=hid hO;have HW:=hid (hb0.trans (hb1.mono hb0.size));rw [hw0,qbW] at hw1;have hq1:(n:Int) / 32=(k:Int):=by omega
 have hq2:(n:Int)%32=(s:Int):=by omega
 have hq3:IntKind.u64.wrap (s:Int)=(s:Int):=by rw [IntKind.wrap_u64];omega
 have hk32:k<33:=by omega
 have hs32:s<32:=by omega
 rw [←hv];unfold mV;obtain ⟨va,hva⟩:∃ va,va=(lv 32 m).toArray:=⟨_,rfl⟩;obtain ⟨vv,hvv⟩:∃ vv,vv=(lv 32 v).toArray:=⟨_,rfl⟩;have HVV:=hid hvv;rw [←hva] at hw1 ⊢;rw [←hvv];clear hm hk hs hv hns hvb hb0 hs0 hA hb1 hR hO hw0 hva hvv;go_enter Tryz.func186,Tryz.ntmps186
 go_upto_region 2 with fail
 rw [←hw1];clear hw1;obtain ⟨B0,hB0⟩:∃ B0,B0=w.heap.size:=⟨_,rfl⟩;have HBE:=hid hB0;rw [←hB0] at HA HR HO ⊢;clear hB0;go_wp2
 clear hq1 hq2 hq3;go_loopg [8] 33 (fun g iv wr=>∃ (i P:Nat),i+k≤32∧33 - i≤g∧P=v%BB^i∧iv=.int .i64 i∧MagAt wr B0 0 32 m∧qMO wr (B0+1) 0 32 0∧qMO wr (B0+1+1) 0 32 P∧Below w.heap.size w wr)
 case atStart=>exact ⟨0,0,by omega,by omega,by simp [Nat.mod_one],rfl,HA.out,HR.out,HO.out,HW.out⟩
 case round =>
  obtain ⟨i,P,hi,hg,hP,rfl,hA,hR,hO,hW⟩:=hrel;have HP:=hid hP;have HA1:=hid hA;have HR1:=hid hR;have HO1:=hid hO;have HW1:=hid hW;clear hP hA hR hO hW;by_cases hlt:i+k<32
  ·obtain ⟨j,hj⟩:∃ j,j=i+k:=⟨_,rfl⟩;have hji:(i:Int)+(k:Int)=(j:Int):=by omega
   have hwij:IntKind.i64.wrap ((i:Int)+(k:Int))=(j:Int):=by rw [hji];exact IntWalk.i64_in _ (by omega)
   have hj32:j<32:=by omega
   have hi32:i<32:=by omega
   have ca:=HA1.out.get hj32;have co:=HO1.out.1.get hi32;have fo:=HO1.out.2 i hi32;rw [Nat.zero_add] at ca co fo;obtain ⟨x,hx⟩:∃ x,x=lim m j:=⟨_,rfl⟩;rw [←hx] at ca;have hxl:x<BB:=hx ▸ qaI m j;obtain ⟨lo,hlo⟩:∃ lo,lo=x / 2^s:=⟨_,rfl⟩;have hlob:lo<BB:=by rw [hlo];exact Nat.lt_of_le_of_lt (Nat.div_le_self _ _) hxl
   have hshr:(x:Int) / 2^s=(lo:Int):=by rw [hlo];simp
   have HPB:=hid (show P<BB^i by rw [HP.out];exact Nat.mod_lt _ (BP i))
   have HO2:=hid (show qMO (wr.setCell ⟨B0+1+1,i,none⟩ (.int .u32 (lo:Nat))) (B0+1+1) 0 32 (P+lo*BB^i) by
    have:=HO1.out.set hi32 hlob;rwa [qeC HPB.out,Nat.zero_add] at this)
   have HW2:=hid (qbZ HW1.out ⟨B0+1+1,i,none⟩ (.int .u32 (lo:Nat)) (show w.heap.size≤B0+1+1 by rw [←HBE.out];omega));have HR2:=hid (HR1.out.setOther ⟨B0+1+1,i,none⟩ (.int .u32 (lo:Nat)) (show B0+1+1≠B0+1 by omega));have HA2:=hid (HA1.out.setOther ⟨B0+1+1,i,none⟩ (.int .u32 (lo:Nat)) (show B0+1+1≠B0 by omega));have HVI:=hid (HLIM.out i);have HX:=hid hx;have HJ:=hid hj;by_cases hB:0<s∧j+1<32
   ·obtain ⟨hsp,hj1⟩:=hB;obtain ⟨y,hy⟩:∃ y,y=lim m (j+1):=⟨_,rfl⟩;have hyl:y<BB:=hy ▸ qaI m (j+1);obtain ⟨hi',e1,e2,e3,e4⟩:=jeT hxl hyl hsp hs32;rw [←hlo] at e3 e4;obtain ⟨d,hd⟩:∃ d,d=lo+hi':=⟨_,rfl⟩;rw [←hd] at e3 e4
    have HDV:=hid (show P+d*BB^i=v%BB^(i+1) by
     rw [qbJ,HP.out,HVI.out,←hj,←hx,←hy,←hlo,←e2,←hd])
    have HO3:=hid (show qMO ((wr.setCell ⟨B0+1+1,i,none⟩ (.int .u32 (lo:Nat))).setCell ⟨B0+1+1,i,none⟩ (.int .u32 (d:Nat))) (B0+1+1) 0 32 (P+d*BB^i) by
     have:=HO2.out.set hi32 e4;rwa [qvM HPB.out hlob,Nat.zero_add] at this)
    have HW3:=hid (qbZ HW2.out ⟨B0+1+1,i,none⟩ (.int .u32 (d:Nat)) (show w.heap.size≤B0+1+1 by rw [←HBE.out];omega));have HR3:=hid (HR2.out.setOther ⟨B0+1+1,i,none⟩ (.int .u32 (d:Nat)) (show B0+1+1≠B0+1 by omega));have HA3:=hid (HA2.out.setOther ⟨B0+1+1,i,none⟩ (.int .u32 (d:Nat)) (show B0+1+1≠B0 by omega));obtain ⟨r,hr⟩:∃ r,r=32 - s:=⟨_,rfl⟩;have hrs:(32:Int) - (s:Int)=(r:Int):=by omega
    have hwr':IntKind.u64.wrap (r:Int)=(r:Int):=by rw [IntKind.wrap_u64];omega
    rw [←hr] at e1;have hd1:decide ((j:Int)+1<32)=true:=decide_eq_true (by omega);have cy:=HA1.out.get hj1;rw [Nat.zero_add,←hy] at cy;have hspi:(0:Int)<(s:Int):=by omega
    have hr32:r<32:=by omega
    clear hx hj hji hlo hxl hlob hy hyl e2 e4 hd hr;go_wp2
    go_region
    go_wp2
    go_roundg (gk - 1)
    case measure=>omega
    case rel=>exact ⟨i+1,P+d*BB^i,by have:=HJ.out;omega,by omega,HDV.out,by go_num,HA3.out,HR3.out,HO3.out,⟨HW3.out.os,HW3.out.tape,HW3.out.output,HW3.out.size,HW3.out.block⟩⟩
   ·have HDV:=hid (show P+lo*BB^i=v%BB^(i+1) by
     rw [qbJ,HP.out,HVI.out,←hj,←hx,←hlo];by_cases h0:s=0
     ·subst h0;simp [Nat.mod_one]
     ·have hj1:32≤j+1:=by omega
      rw [qjS (k:=j+1) (i:=32) HVB.out.2 hj1];simp)
    by_cases h0:0<s
    ·have hd1:decide ((j:Int)+1<32)=false:=decide_eq_false (by omega);have hspi:(0:Int)<(s:Int):=by omega
     clear hx hj hji hlo hxl hlob hB;go_wp2
     go_roundg (gk - 1)
     case measure=>omega
     case rel=>exact ⟨i+1,P+lo*BB^i,by have:=HJ.out;omega,by omega,HDV.out,by go_num,HA2.out,HR2.out,HO2.out,HW2.out⟩
    ·have hspi:¬(0:Int)<(s:Int):=by omega
     clear hx hj hji hlo hxl hlob hB;go_wp2
     go_roundg (gk - 1)
     case measure=>omega
     case rel=>exact ⟨i+1,P+lo*BB^i,by have:=HJ.out;omega,by omega,HDV.out,by go_num,HA2.out,HR2.out,HO2.out,HW2.out⟩
  ·have hik:i+k=32:=by omega
   have hPv:P=v:=by
    rw [HP.out,show i=32 - k by omega];exact Nat.mod_eq_of_lt HVB.out.1
   have hik2:IntKind.i64.wrap ((i:Int)+(k:Int))=32:=by rw [show (i:Int)+(k:Int)=32 by omega];exact IntWalk.i64_in _ (by omega)
   subst hPv;obtain ⟨cs,hcs⟩:∃ cs,cs=lv 32 P:=⟨_,rfl⟩;have HST:=hid (qdO (v:=P) HR1.out);have HBS:=hid (qaC (show w.heap.size≤B0+1 by rw [←HBE.out];omega) (lv 32 P) 0 wr HW1.out);have HTH:=hid (show wr.there (B0+1) 0 (lv 32 P).toArray.size by rw [qmZ];exact HR1.out.there);have HLD:=hid (show wr.rangeAt (B0+1+1) 0 (lv 32 P) from HO1.out.1);have HSZ:=hid (qbS P);have HSA:=hid (show (Tryz.prog.info? 23).map (·.size)=some (lv 32 P).toArray.size by rw [qmZ];exact Tryz.infoM);have HONE:=hid (all_oneCell_toArray (qcM 32 P));have HCS:=hid hcs;have hvc:vv=cs.toArray:=by rw [HVV.out,hcs]
   rw [←hcs] at HBS HTH HLD HSZ HSA HONE;have HVC:=hid hvc;clear hcs hvc hik hlt
   go_wp2_with (first
    | (refine wpList_load_mid rfl _ _ rfl (B0+1+1) 0 rfl cs _ HLD.out Tryz.underlying23 rfl HSZ.out ?_)
    | (refine wpList_store_mid rfl _ _ _ rfl (B0+1) 0 _ rfl rfl HTH.out HSA.out HONE.out ?_))
   have hld:=run_loadVar_mid (P:=Tryz.prog) _ _ _ _ _ _ (show World.rangeAt (wr.setCells (B0+1) 0 cs) (B0+1) 0 cs by have:=HST.out;rw [←HCS.out] at this;unfold MagAt at this;rwa [←HCS.out] at this) Tryz.underlying23 rfl HSZ.out
   try simp only [Act.put,List.setIfInBounds_toArray,List.set_cons_zero,List.set_cons_succ]
   refine bodyPost_ret (v:=.agg cs.toArray) (by simp [results,Tryz.results186,asAddr,hld]) rfl ?_;exact ⟨by rw [HVC.out],HBS.out⟩
end Go.Proofs.YtemoddmadfoaiaaGreat
namespace Go.Proofs.YtemoddmadfoaiaaGreat
open Go.RowKit
instance:Inhabited GB:=⟨⟨0,#[]⟩⟩
theorem qaO {w w':World} {b o:Nat} {cs:List Value} (h:w.rangeAt b o cs) (hb:Below w.heap.size w w'):w'.rangeAt b o cs:=fun j v hv=>qcU (h j v hv) hb
theorem qaK {P:Program} {ops:Array Oper} {w:World} {Q:Act→Prop} {a:Act} {op:Oper} {rest:List Oper} (hgd:op.guard=none) (ty:TypeId) (x:Operand) (ho:op.op=.load ty x)
  (b o:Nat) (hx:a.eval x=.pointer (some ⟨b,o,none⟩)) (cs:List Value) (d:TypeDesc) (hc:w.rangeAt b o cs)
  (hu:P.underlying ty=some d) (hd:d.isRow=true) (hi:(P.info? ty).map (·.size)=some cs.length) (h:wpQuiet P ops (fun w'=>∃ p:GB,w'=gw w p.d p.os) Q rest (a.put op.dst (.agg cs.toArray))) :
  wpQuiet P ops (fun w'=>∃ p:GB,w'=gw w p.d p.os) Q (op::rest) a:=by
 refine wpQuiet_step (fun K hK=>?_);rw [if_pos (by simp [Region.wanted,hgd])];refine ⟨.agg cs.toArray,fun W hW=>?_,hK _ h⟩;obtain ⟨p,rfl⟩:=hW;unfold Oper.quietAt execOp;simp only [ho,hx,Instr.loadAt,Instr.sureAddr,Sem.run_bind,Sem.run_pure,Result.andThen_ok,run_loadVar_mid (gw w p.d p.os) b o ty cs d (qaO hc (qbG w p.d p.os)) hu hd hi];exact ⟨rfl,rfl⟩
end Go.Proofs.YtemoddmadfoaiaaGreat
set_option maxHeartbeats 8000000
namespace Go.Proofs.YtemoddmadfoaiaaGreat
open Go.RowKit Big
open Lib (hid)
theorem qoZ:lv 64 0=[.int .u32 0,.int .u32 0,.int .u32 0,.int .u32 0,.int .u32 0,.int .u32 0,.int .u32 0,.int .u32 0,.int .u32 0,.int .u32 0,.int .u32 0,.int .u32 0,.int .u32 0,.int .u32 0,.int .u32 0,.int .u32 0,.int .u32 0,.int .u32 0,.int .u32 0,.int .u32 0,.int .u32 0,.int .u32 0,.int .u32 0,.int .u32 0,.int .u32 0,.int .u32 0,.int .u32 0,.int .u32 0,.int .u32 0,.int .u32 0,.int .u32 0,.int .u32 0,.int .u32 0,.int .u32 0,.int .u32 0,.int .u32 0,.int .u32 0,.int .u32 0,.int .u32 0,.int .u32 0,.int .u32 0,.int .u32 0,.int .u32 0,.int .u32 0,.int .u32 0,.int .u32 0,.int .u32 0,.int .u32 0,.int .u32 0,.int .u32 0,.int .u32 0,.int .u32 0,.int .u32 0,.int .u32 0,.int .u32 0,.int .u32 0,.int .u32 0,.int .u32 0,.int .u32 0,.int .u32 0,.int .u32 0,.int .u32 0,.int .u32 0,.int .u32 0]:=by
 unfold lv cells dg;simp [List.range,List.range.loop,qfV]
theorem qxP {x y z c:Nat} (hx:x<BB) (hy:y<BB) (hz:z<BB) (hc:c<BB):∃ d c' V:Nat,d<BB∧c'<BB∧x*y+z+c=d+c'*BB∧IntKind.u64.wrap (IntKind.u64.wrap (IntKind.u64.wrap ((x:Int)*y)+z)+c)=(V:Int) ∧
  IntKind.u32.wrap (V:Int)=(d:Int)∧(V:Int) / 4294967296=(c':Int):=by
 have h1:x*y≤(BB - 1)*(BB - 1):=Nat.mul_le_mul (by omega) (by omega);have h2:(BB - 1)*(BB - 1)=18446744065119617025:=by unfold BB;decide
 obtain ⟨p,hp⟩:∃ p,p=x*y:=⟨_,rfl⟩;have hpi:(x:Int)*y=(p:Int):=by rw [hp];simp
 rw [←hp] at h1 ⊢;rw [hpi];rw [h2] at h1;unfold BB at *;refine ⟨(p+z+c)%4294967296,(p+z+c) / 4294967296,p+z+c,by omega,by omega,by omega,?_,?_,by omega⟩
 ·rw [IntKind.wrap_u64,IntKind.wrap_u64,IntKind.wrap_u64];omega
 ·rw [IntKind.wrap_u32];omega
theorem qaX {w w':World} {b o n:Nat} (h:w.there b o n) (hb:Below w.heap.size w w') (hl:b<w.heap.size):w'.there b o n:=fun j hj=>by
 obtain ⟨h1,h2⟩:=h j hj;obtain ⟨v,hv⟩:=Option.isSome_iff_exists.1 h1;exact ⟨by rw [qcU hv hb];rfl,by rw [hb.frozen (by simpa using hl)];exact h2⟩
theorem qcF {w:World} {a:Addr} {v:Value} (h:w.cell? a=some v) (p:Addr) (u:Value) (hp:p.block≠a.block):(w.setCell p u).cell? a=some v:=by
 rw [World.cell?_setCell_other _ _ _ _ (fun e=>by subst e;exact hp rfl)];exact h
theorem qfE {w:World} {b o n:Nat} (h:w.there b o n) (p:Addr) (u:Value) (hp:p.block≠b):(w.setCell p u).there b o n:=fun j hj=>by
 obtain ⟨h1,h2⟩:=h j hj;refine ⟨?_,by rw [World.frozen?_setCell];exact h2⟩;rw [World.cell?_setCell_other _ _ _ _ (fun e=>by subst e;exact hp rfl)];exact h1
theorem jhW (na nb:Bool) (a b:Nat) (R:Value) (nR:Bool) (vR:Nat) (w:World) (ha:a<BB^32) (hb:b<BB^32) (hab:a*b<BB^32) (hR:R=iV nR vR)
  (hcan:∀ W,Calls Tryz.prog 139 #[.bool (na != nb),mV (a*b)] W fun e w'=>e=.returned R∧Below W.heap.size W w') :
  Calls Tryz.prog 136 #[iV na a,iV nb b] w fun e w'=>e=.returned (.tuple #[R,.int .i64 0])∧Below w.heap.size w w':=by
 obtain ⟨N,hN32,hN⟩:=qLE a 32 ha;obtain ⟨K,hK32,hK⟩:=qLE b 32 hb;obtain ⟨w0,hw0,hb0,hs0,hcA,hA⟩:=qhZ w na a 25;obtain ⟨w1,hw1,hb1,hs1,hcB,hB⟩:=qhZ w0 nb b 25;obtain ⟨w2,hw2⟩:∃ w2,w2=(w1.alloc (.cells (Value.bool false::lv 32 0).toArray 25)).alloc (.cells (lv 64 0).toArray 180):=⟨_,rfl⟩;have hb2:Below w1.heap.size w1 w2:=by rw [hw2];exact ((Below.refl _ _).alloc (Nat.le_refl _) _).alloc (by simp) _
 have hs2:w2.heap.size=w1.heap.size+1+1:=by rw [hw2];simp
 have hT:w2.there w1.heap.size 0 33:=by rw [hw2];exact World.there_alloc (qjB w1 _) _
 have hO:qMO w2 (w1.heap.size+1) 0 64 0:=by
  rw [hw2]
  have:=qMO.new (w1.alloc (.cells (Value.bool false::lv 32 0).toArray 25)) 64 0 180
  rwa [World.size_alloc] at this
 have hb02:Below w0.heap.size w0 w2:=hb1.trans (hb2.mono hb1.size);have HA:=hid (hA.up hb02);have HB:=hid (hB.up hb2);have hcA2:=qcU hcA hb02;have hcB2:=qcU hcB hb2;have HW:=hid (hb0.trans (hb02.mono hb0.size));obtain ⟨B0,hB0⟩:∃ B0,B0=w.heap.size:=⟨_,rfl⟩;have hz1:w1.heap.size=B0+1+1:=by rw [hs1,hs0,hB0]
 have hz0:w0.heap.size=B0+1:=by rw [hs0,hB0]
 rw [hz1] at hT hO hs2;rw [←hB0] at HA hcA2;rw [hz0] at HB hcB2;have HT:=hid hT;have HO:=hid hO;have HBE:=hid hB0;rw [hw1,hw0,qbX,qoZ] at hw2;have HNK:=hid (And.intro hN hK);have HBD:=hid (And.intro ha (And.intro hb hab));have HLA:=hid (fun W=>qeU a N W ha hN);have HLB:=hid (fun W=>qeU b K W hb hK);have HCAN:=hid hcan;have HSZ:=hid (qbS a);unfold iV;obtain ⟨va,hva⟩:∃ va,va=(Value.bool na::lv 32 a).toArray:=⟨_,rfl⟩;obtain ⟨vb,hvb⟩:∃ vb,vb=(Value.bool nb::lv 32 b).toArray:=⟨_,rfl⟩;rw [←hva,←hvb] at hw2 ⊢;clear ha hb hab hN hK hw0 hb0 hs0 hcA hA hw1 hb1 hs1 hcB hB hb2 hT hO hb02 hz1 hz0 hva hvb hcan;go_enter Tryz.func136,Tryz.ntmps136
 go_upto_region 2 with fail
 rw [←hw2,←hB0];clear hw2 hB0;obtain ⟨ca,hca⟩:∃ ca,ca=lv 32 a:=⟨_,rfl⟩;obtain ⟨cb,hcb⟩:∃ cb,cb=lv 32 b:=⟨_,rfl⟩
 have HLX:=hid (fun W (cs:List Value) (n:Nat) (h:(cs=ca∧n=N)∨(cs=cb∧n=K))=>show Calls Tryz.prog 162 #[.agg cs.toArray] W (fun e w'=>e=.returned (.int .i64 n)∧Below W.heap.size W w') by
  rcases h with ⟨h1,h2⟩|⟨h1,h2⟩
  ·rw [h1,h2,hca];exact HLA.out W
  ·rw [h1,h2,hcb];exact HLB.out W)
 have ra:w2.rangeAt B0 1 ca:=by rw [hca];exact HA.out
 have rb:w2.rangeAt (B0+1) 1 cb:=by rw [hcb];exact HB.out
 have sa:(Tryz.prog.info? 23).map (·.size)=some ca.length:=by rw [hca];exact qbS a
 have sb:(Tryz.prog.info? 23).map (·.size)=some cb.length:=by rw [hcb];exact qbS b
 have HCAB:=hid (And.intro hca hcb);have u49:=Tryz.underlying23;clear hca hcb
 go_cut [7,8] from 15 to 20 (fun p q wx=>p=.int .i64 N∧q=.int .i64 K∧Below w2.heap.size w2 wx)
 case first =>
  refine qaE (by kernel_rfl) (by kernel_rfl) ?_
  repeat (first
   | (refine qaK rfl _ _ rfl B0 1 rfl ca _ ra u49 rfl sa ?_;try simp only [Act.put,List.setIfInBounds_toArray,List.set_cons_zero,List.set_cons_succ])
   | (refine qaK rfl _ _ rfl (B0+1) 1 rfl cb _ rb u49 rfl sb ?_;try simp only [Act.put,List.setIfInBounds_toArray,List.set_cons_zero,List.set_cons_succ])
   | go_big_quiet_step ((go_at_call 162;exact qaA (HLX.out _ _ _ (by first|exact .inl ⟨rfl,rfl⟩|exact .inr ⟨rfl,rfl⟩)))))
  refine wpQuiet_nil ?_;intro w' hw';obtain ⟨p,rfl⟩:=hw';go_wp2_with fail
  go_meet
  exact ⟨rfl,rfl,qbG _ _ _⟩
 case rest =>
  obtain ⟨rfl,rfl,hbc⟩:=hcut;have hNN:=HNK.out;obtain ⟨B3,hB3⟩:∃ B3,B3=B0+1+1+1:=⟨_,rfl⟩;have hszc:B3<wc.heap.size:=by have:=hbc.size;omega
  have HA2:=hid (HA.out.up hbc);have HB2:=hid (HB.out.up hbc);have hO2:=HO.out.up hbc (by omega);rw [←hB3] at hO2;have HO2:=hid hO2;have HT2:=hid (qaX HT.out hbc (by omega));have HW2:=hid (HW.out.trans (hbc.mono HW.out.size));have HS:=hid (And.intro (qcU hcA2 hbc) (qcU hcB2 hbc));have HB3:=hid hB3;rw [←hB3];clear hNN hbc ra rb hB3 hO2 hcA2 hcB2 hs2 u49 sa sb;go_wp2
  go_loopg [9,10,11] N (fun g iv c0 j0 wr=>∃ (i P:Nat),i≤N∧N - i≤g∧iv=.int .i64 i∧P=(a%BB^i)*b∧MagAt wr B0 1 32 a∧MagAt wr (B0+1) 1 32 b∧qMO wr B3 0 64 P∧wr.there (B0+1+1) 0 33∧wr.cell? ⟨B0,0,none⟩=some (.bool na)∧wr.cell? ⟨B0+1,0,none⟩=some (.bool nb)∧Below w.heap.size w wr∧B3<wr.heap.size)
  case atStart=>exact ⟨0,0,by omega,by omega,rfl,by simp [Nat.mod_one],HA2.out,HB2.out,HO2.out,HT2.out,HS.out.1,HS.out.2,HW2.out,hszc⟩
  case round =>
   obtain ⟨i,P,hi,hg,rfl,hP,hA,hB,hO,hT,hcA,hcB,hW,hsz⟩:=hrel;have HP:=hid hP;have HA3:=hid hA;have HB3':=hid hB;have HO3:=hid hO;have HT3:=hid hT;have HW3:=hid hW;have HCS3:=hid (And.intro hcA hcB)
   have HPB:=hid (show P<BB^(i+K) by
    rw [hP,Nat.pow_add];exact Nat.mul_lt_mul'' (Nat.mod_lt _ (BP i)) HNK.out.2.1)
   clear hP hA hB hO hT hW hcA hcB;by_cases hlt:i<N
   ·have ca':=HA3.out.get (show i<32 by omega);obtain ⟨x,hx⟩:∃ x,x=lim a i:=⟨_,rfl⟩;rw [←hx] at ca';have hxl:x<BB:=hx ▸ qaI a i;have HX:=hid (And.intro hx hxl);clear hx hxl ca';obtain ⟨G,hG⟩:∃ G,G=gk:=⟨_,rfl⟩;rw [←hG] at hg;have HGG:=hid hG;clear hG;go_wp2
    go_loopg [10,11] K (fun g2 cv jv wr2=>∃ (j P2 c:Nat),j≤K∧K - j≤g2∧jv=.int .i64 j∧cv=.int .u64 c∧c<BB∧P2<BB^(i+K)∧P2+c*BB^(i+j)=(a%BB^i)*b+x*(b%BB^j)*BB^i∧MagAt wr2 B0 1 32 a∧MagAt wr2 (B0+1) 1 32 b∧qMO wr2 B3 0 64 P2∧wr2.there (B0+1+1) 0 33∧wr2.cell? ⟨B0,0,none⟩=some (.bool na)∧wr2.cell? ⟨B0+1,0,none⟩=some (.bool nb)∧Below w.heap.size w wr2∧B3<wr2.heap.size)
    case atStart=>exact ⟨0,P,0,by omega,by omega,rfl,rfl,qbK,HPB.out,by rw [HP.out];simp [Nat.mod_one],HA3.out,HB3'.out,HO3.out,HT3.out,HCS3.out.1,HCS3.out.2,HW3.out,hsz⟩
    case round =>
     obtain ⟨j,P2,c,hj,hg2,rfl,rfl,hc,hP2,he,hA,hB,hO,hT,hcA,hcB,hW,hsz2⟩:=hrel;have HE:=hid he;have HP2:=hid hP2;have HA4:=hid hA;have HB4:=hid hB;have HO4:=hid hO;have HT4:=hid hT;have HW4:=hid hW;have HCS4:=hid (And.intro hcA hcB);have HC4:=hid hc;have hNN:=HNK.out;clear he hP2 hA hB hO hT hW hcA hcB hc;by_cases hlt2:j<K
     ·obtain ⟨t,ht⟩:∃ t,t=i+j:=⟨_,rfl⟩;have ht64:t<64:=by omega
      have hij:IntKind.i64.wrap ((i:Int)+(j:Int))=(t:Int):=by rw [show (i:Int)+(j:Int)=(t:Int) by omega];exact IntWalk.i64_in _ (by omega)
      have ca':=HA4.out.get (show i<32 by omega);have cb':=HB4.out.get (show j<32 by omega);have co':=HO4.out.1.get ht64;have fo':=HO4.out.2 t ht64;rw [Nat.zero_add] at co' fo';rw [←HX.out.1] at ca';obtain ⟨y,hy⟩:∃ y,y=lim b j:=⟨_,rfl⟩;obtain ⟨zz,hzz⟩:∃ zz,zz=lim P2 t:=⟨_,rfl⟩;rw [←hy] at cb';rw [←hzz] at co';have hyl:y<BB:=hy ▸ qaI b j;have hzl:zz<BB:=hzz ▸ qaI P2 t;obtain ⟨d,c',V,hd,hc',hn,e1,e2,e4⟩:=qxP HX.out.2 hyl hzl HC4.out;have HSTEP:=hid (qsF HE.out HX.out.1 hy (by rw [←ht,←hzz];exact hn));have HUB:=hid (show upd P2 t d<BB^(i+K) from qkP HP2.out (by omega) hd);have hset:=HO4.out.set ht64 hd;rw [Nat.zero_add] at hset;have HSET:=hid hset;have HD:=hid (And.intro hd hc');have hw1':IntKind.u64.wrap (x:Int)=(x:Int):=by have:=HX.out.2;unfold BB at this;rw [IntKind.wrap_u64];omega
      have hw2':IntKind.u64.wrap (y:Int)=(y:Int):=by unfold BB at hyl;rw [IntKind.wrap_u64];omega
      have hw3':IntKind.u64.wrap (zz:Int)=(zz:Int):=by unfold BB at hzl;rw [IntKind.wrap_u64];omega
      have HT':=hid ht;have hi32:i<32:=by omega
      have hj32:j<32:=by omega
      clear ht hy hzz hyl hzl hd hc' hn hset hNN;have hne0:B3≠B0:=by have:=HB3.out;omega
      have hne1:B3≠B0+1:=by have:=HB3.out;omega
      have hne2:B3≠B0+1+1:=by have:=HB3.out;omega
      have HA5:=hid (HA4.out.setOther ⟨B3,t,none⟩ (.int .u32 (d:Nat)) hne0);have HB5:=hid (HB4.out.setOther ⟨B3,t,none⟩ (.int .u32 (d:Nat)) hne1);have HT5:=hid (qfE HT4.out ⟨B3,t,none⟩ (.int .u32 (d:Nat)) hne2);have HW5:=hid (qbZ HW4.out ⟨B3,t,none⟩ (.int .u32 (d:Nat)) (show w.heap.size≤B3 by have:=HB3.out;have:=HBE.out;omega));have HCS5:=hid (And.intro (qcF HCS4.out.1 ⟨B3,t,none⟩ (.int .u32 (d:Nat)) hne0) (qcF HCS4.out.2 ⟨B3,t,none⟩ (.int .u32 (d:Nat)) hne1));go_wp2
      go_quiet (fail)
      go_wp2
      go_roundg (gk - 1)
      case measure=>omega
      case rel=>exact ⟨j+1,upd P2 t d,c',by omega,by omega,by go_num,rfl,HD.out.2,HUB.out,by have:=HSTEP.out;rwa [←HT'.out] at this,HA5.out,HB5.out,HSET.out,HT5.out,HCS5.out.1,HCS5.out.2,⟨HW5.out.os,HW5.out.tape,HW5.out.output,HW5.out.size,HW5.out.block⟩,by simpa [World.setCell] using hsz2⟩
     ·have hjK:j=K:=by omega
      obtain ⟨t,ht⟩:∃ t,t=i+K:=⟨_,rfl⟩;have ht64:t<64:=by omega
      have hij:IntKind.i64.wrap ((i:Int)+(K:Int))=(t:Int):=by rw [show (i:Int)+(K:Int)=(t:Int) by omega];exact IntWalk.i64_in _ (by omega)
      have hwc:IntKind.u32.wrap (c:Int)=(c:Int):=by have:=HC4.out;unfold BB at this;rw [IntKind.wrap_u32];omega
      have co':=HO4.out.1.get ht64;have fo':=HO4.out.2 t ht64;rw [Nat.zero_add] at co' fo';have hset:=HO4.out.set ht64 HC4.out;rw [Nat.zero_add,ht,qeC HP2.out,←ht] at hset;have HSET:=hid hset
      have HROW:=hid (show P2+c*BB^(i+K)=(a%BB^(i+1))*b by
       have h:=HE.out;rw [hjK,Nat.mod_eq_of_lt hNN.2.1] at h;exact qxO h HX.out.1)
      have hne0:B3≠B0:=by have:=HB3.out;omega
      have hne1:B3≠B0+1:=by have:=HB3.out;omega
      have hne2:B3≠B0+1+1:=by have:=HB3.out;omega
      have HA5:=hid (HA4.out.setOther ⟨B3,t,none⟩ (.int .u32 (c:Nat)) hne0);have HB5:=hid (HB4.out.setOther ⟨B3,t,none⟩ (.int .u32 (c:Nat)) hne1);have HT5:=hid (qfE HT4.out ⟨B3,t,none⟩ (.int .u32 (c:Nat)) hne2);have HW5:=hid (qbZ HW4.out ⟨B3,t,none⟩ (.int .u32 (c:Nat)) (show w.heap.size≤B3 by have:=HB3.out;have:=HBE.out;omega));have HCS5:=hid (And.intro (qcF HCS4.out.1 ⟨B3,t,none⟩ (.int .u32 (c:Nat)) hne0) (qcF HCS4.out.2 ⟨B3,t,none⟩ (.int .u32 (c:Nat)) hne1));have HT':=hid ht;clear ht hset hjK hNN;go_wp2
      go_roundg (G - 1)
      case measure=>have:=HGG.out;omega
      case rel=>exact ⟨i+1,P2+c*BB^(i+K),by omega,by have:=HGG.out;omega,by go_num,HROW.out,HA5.out,HB5.out,by have h:=HSET.out;have h2:=HT'.out;subst h2;exact h,HT5.out,HCS5.out.1,HCS5.out.2,HW5.out,by simpa [World.setCell] using hsz2⟩
   ·have hPv:P=a*b:=by
     have h:=HP.out;rw [show i=N by omega,Nat.mod_eq_of_lt HNK.out.1.1] at h;exact h
    obtain ⟨v,hv⟩:∃ v,v=a*b:=⟨_,rfl⟩;rw [←hv] at hPv;subst hPv;have HPV:=hid hv;obtain ⟨w4,hw4⟩:∃ w4,w4=wr.alloc (.cells (lv 32 0).toArray 23):=⟨_,rfl⟩;have hb4:Below wr.heap.size wr w4:=by rw [hw4];exact (Below.refl _ _).alloc (Nat.le_refl _) _
    obtain ⟨Q,hQ⟩:∃ Q,Q=wr.heap.size:=⟨_,rfl⟩;have hM:qMO w4 Q 0 32 0:=by rw [hw4,hQ];exact qMO.new wr 32 0 _
    have HM:=hid hM;have HO4:=hid (HO3.out.1.up hb4);have HT4:=hid (qaX HT3.out hb4 (by have:=HB3.out;omega));have HW4:=hid (HW3.out.trans (hb4.mono HW3.out.size));have HCS4:=hid (And.intro (qcU HCS3.out.1 hb4) (qcU HCS3.out.2 hb4));have hqs:Q<w4.heap.size:=by rw [hw4,hQ];simp
    have hq3:B3<Q:=by rw [hQ];exact hsz
    have HQ:=hid hQ;rw [qbW] at hw4;have HVB:=hid (show P<BB^32 by rw [hv];exact HBD.out.2.2);clear hM hb4 hv;go_upto_region 15 with fail
    rw [←hw4,←HQ.out];clear hw4 hQ;go_wp2
    go_loopg [14] 32 (fun g3 tv wr3=>∃ (t M:Nat),t≤32∧32 - t≤g3∧tv=.int .i64 t∧M=P%BB^t∧MagAt wr3 B3 0 64 P∧qMO wr3 Q 0 32 M∧wr3.there (B0+1+1) 0 33∧wr3.cell? ⟨B0,0,none⟩=some (.bool na)∧wr3.cell? ⟨B0+1,0,none⟩=some (.bool nb)∧Below w.heap.size w wr3∧Q<wr3.heap.size)
    case atStart=>exact ⟨0,0,by omega,by omega,rfl,by simp [Nat.mod_one],HO4.out,HM.out,HT4.out,HCS4.out.1,HCS4.out.2,HW4.out,hqs⟩
    case round =>
     obtain ⟨t,M,ht,hg3,rfl,hMe,hO,hM,hT,hcA,hcB,hW,hsz5⟩:=hrel;have HO5:=hid hO;have HM5:=hid hM;have HT5:=hid hT;have HW5:=hid hW;have HME:=hid hMe;have HCS5:=hid (And.intro hcA hcB);clear hO hM hT hW hMe hcA hcB;by_cases hlt3:t<32
     ·have co':=HO5.out.get (show t<64 by omega);have ch':=HO5.out.get (show 32+t<64 by omega);have cm':=HM5.out.1.get hlt3;have fm':=HM5.out.2 t hlt3;rw [Nat.zero_add] at co' cm' fm' ch';rw [qjS (k:=32+t) (i:=32) HVB.out (by omega)] at ch';obtain ⟨d,hd⟩:∃ d,d=lim P t:=⟨_,rfl⟩;rw [←hd] at co';have hdl:d<BB:=hd ▸ qaI P t;have HMB:=hid (show M<BB^t by rw [HME.out];exact Nat.mod_lt _ (BP t));have hset:=HM5.out.set hlt3 hdl;rw [Nat.zero_add,qeC HMB.out] at hset;have HSET:=hid hset;have HNX:=hid (show M+d*BB^t=P%BB^(t+1) by rw [qbJ,HME.out,hd]);obtain ⟨u,hu⟩:∃ u,u=32+t:=⟨_,rfl⟩;rw [←hu] at ch';have hut:(32:Int)+(t:Int)=(u:Int):=by omega
      have hwu:IntKind.i64.wrap (u:Int)=(u:Int):=IntWalk.i64_in _ (by omega);have hu64:u<64:=by omega
      have hne0:Q≠B0:=by have:=HB3.out;omega
      have hne1:Q≠B0+1:=by have:=HB3.out;omega
      have hne2:Q≠B0+1+1:=by have:=HB3.out;omega
      have hne3:Q≠B3:=by omega
      have HO6:=hid (HO5.out.setOther ⟨Q,t,none⟩ (.int .u32 (d:Nat)) hne3);have HT6:=hid (qfE HT5.out ⟨Q,t,none⟩ (.int .u32 (d:Nat)) hne2);have HW6:=hid (qbZ HW5.out ⟨Q,t,none⟩ (.int .u32 (d:Nat)) (show w.heap.size≤Q by have:=HB3.out;have:=HBE.out;omega));have HCS6:=hid (And.intro (qcF HCS5.out.1 ⟨Q,t,none⟩ (.int .u32 (d:Nat)) hne0) (qcF HCS5.out.2 ⟨Q,t,none⟩ (.int .u32 (d:Nat)) hne1));clear hd hdl hset hu;go_wp2
      go_roundg (gk - 1)
      case measure=>omega
      case rel=>exact ⟨t+1,M+d*BB^t,by omega,by omega,by go_num,HNX.out,HO6.out,HSET.out,HT6.out,HCS6.out.1,HCS6.out.2,HW6.out,by simpa [World.setCell] using hsz5⟩
     ·have hMv:M=P:=by
       have h:=HME.out;rw [show t=32 by omega,Nat.mod_eq_of_lt HVB.out] at h;exact h
      subst hMv;obtain ⟨cs,hcs⟩:∃ cs,cs=lv 32 M:=⟨_,rfl⟩;have HLD:=hid (show wr.rangeAt Q 0 (lv 32 M) from HM5.out.1);have HSZ2:=hid (qbS M);obtain ⟨rs,hrs⟩:∃ rs,rs=Value.bool nR::lv 32 vR:=⟨_,rfl⟩
      have HC2:=hid (fun W=>show Calls Tryz.prog 139 #[.bool (na != nb),.agg cs.toArray] W (fun e w'=>e=.returned (.agg rs.toArray)∧Below W.heap.size W w') by
       rw [hcs,hrs]
       have:=HCAN.out W
       rw [←HPV.out,hR] at this;exact this)
      have HRR:=hid (show R=.agg rs.toArray by rw [hR,hrs];rfl);have HRS:=hid hrs;rw [←hcs] at HLD HSZ2;have c0:=HCS5.out.1;have c1:=HCS5.out.2;clear hcs hrs hR;go_wp2_with (refine wpList_load_mid rfl _ _ rfl Q 0 rfl cs _ HLD.out Tryz.underlying23 rfl HSZ2.out ?_)
      refine (HC2.out _).mono ?_;rintro e w6 ⟨rfl,hb6⟩;have hTH:=qaX HT5.out hb6 (by have:=HB3.out;omega);have HTH:=hid (show w6.there (B0+1+1) 0 rs.toArray.size by rw [HRS.out,qhC];exact hTH);have HSA:=hid (show (Tryz.prog.info? 25).map (·.size)=some rs.toArray.size by rw [HRS.out,qhC];exact Tryz.infoI);have HSI:=hid (show (Tryz.prog.info? 25).map (·.size)=some rs.length by rw [HRS.out];exact infoI33 nR vR);have HONE:=hid (show rs.toArray.all (·.oneCell')=true by rw [HRS.out];exact all_oneCell_toArray (qfJ nR vR));have HST:=hid (World.rangeAt_setCells_same w6 (B0+1+1) 0 rs (by rw [HRS.out,List.length_cons,qlL];exact hTH));have HBS:=hid (qaC (show w.heap.size≤B0+1+1 by have:=HBE.out;omega) rs 0 w6 (HW5.out.trans (hb6.mono HW5.out.size)));clear hb6 hTH c0 c1;go_wp2_with (refine wpList_store_mid rfl _ _ _ rfl (B0+1+1) 0 _ rfl rfl HTH.out HSA.out HONE.out ?_)
      have hld:=run_loadVar_mid (P:=Tryz.prog) _ _ _ _ _ _ HST.out Tryz.underlying25 rfl HSI.out
      try simp only [Act.put,List.setIfInBounds_toArray,List.set_cons_zero,List.set_cons_succ]
      refine bodyPost_ret (v:=.tuple #[.agg rs.toArray,.int .i64 0]) (by simp [results,Tryz.results136,asAddr,hld]) rfl ?_;exact ⟨by rw [HRR.out],HBS.out⟩
set_option maxHeartbeats 2000000
def sgnI (neg:Bool) (v:Nat):Int:=if v=0 then 0 else if neg=true then -1 else 1
theorem jeS (neg:Bool) (v:Nat) (w:World) (hv:v<BB^32) :
  Calls Tryz.prog 103 #[iV neg v] w fun e w'=>e=.returned (.int .i64 (sgnI neg v))∧Below w.heap.size w w':=by
 obtain ⟨w0,hw0,hb0,hs0,hc0,hA⟩:=qhZ w neg v 25;have HW:=hid hb0;obtain ⟨z,hz⟩:∃ z,z=decide (v=0):=⟨_,rfl⟩;have HZ:=hid (fun W=>qiW v z W hv hz);obtain ⟨B0,hB0⟩:∃ B0,B0=w.heap.size:=⟨_,rfl⟩;rw [←hB0] at hA hc0;unfold iV;obtain ⟨va,hva⟩:∃ va,va=(Value.bool neg::lv 32 v).toArray:=⟨_,rfl⟩;obtain ⟨cs,hcs⟩:∃ cs,cs=lv 32 v:=⟨_,rfl⟩;have HLD:=hid (show w0.rangeAt B0 1 (lv 32 v) from hA);have HSZ:=hid (qbS v);have HZ2:=hid (fun W=>show Calls Tryz.prog 137 #[.agg cs.toArray] W (fun e w'=>e=.returned (.bool z)∧Below W.heap.size W w') by rw [hcs];exact HZ.out W);rw [←hcs] at HLD HSZ;rw [←hva] at hw0 ⊢;obtain ⟨r,hr⟩:∃ r,r=sgnI neg v:=⟨_,rfl⟩;have HR:=hid (And.intro hr hz);rw [←hr];clear hv hb0 hs0 hA hva hcs hz hr;go_enter Tryz.func103,Tryz.ntmps103
 go_upto_region 1 with fail
 rw [←hw0,←hB0];clear hw0 hB0;go_wp2_with (refine wpList_load_mid rfl _ _ rfl B0 1 rfl cs _ HLD.out Tryz.underlying23 rfl HSZ.out ?_)
 refine (HZ2.out _).mono ?_;rintro e w1 ⟨rfl,hb1⟩;have c1:=qcU hc0 hb1;have HB1:=hid (HW.out.trans (hb1.mono HW.out.size));clear hb1 hc0
 cases z with
 | true =>
  have HQ:=hid (show (0:Int)=r by rw [HR.out.1,sgnI,if_pos (by simpa using HR.out.2.symm)]);go_wp2
  go_ret
  exact ⟨qaH HQ.out,HB1.out⟩
 | false =>
  cases neg with
  | true =>
   have HQ:=hid (show (-1:Int)=r by rw [HR.out.1,sgnI,if_neg (by simpa using HR.out.2.symm),if_pos rfl]);go_wp2
   go_ret
   exact ⟨qaH HQ.out,HB1.out⟩
  | false =>
   have HQ:=hid (show (1:Int)=r by rw [HR.out.1,sgnI,if_neg (by simpa using HR.out.2.symm),if_neg (by simp)]);go_wp2
   go_ret
   exact ⟨qaH HQ.out,HB1.out⟩
theorem qpA {v N:Nat} (hv:v<BB^2) (hN:IsLimbs v N):N≤2:=by
 rcases Nat.lt_or_ge 2 N with h|h
 ·have h1:=hN.2 (by omega);have h2:=Nat.pow_le_pow_right qbK (show 2≤N - 1 by omega);omega
 ·exact h
theorem jdZ {v x y:Nat} (hx:x<BB) (hy:y<BB) (hv:v=x+y*BB):bits BinOp.or IntKind.u64 (IntKind.u64.wrap ((y:Int)*4294967296)) (x:Int)=(v:Int):=by
 have e:IntKind.u64.wrap ((y:Int)*4294967296)=((y*4294967296:Nat):Int):=by unfold BB at hy;rw [IntKind.wrap_u64];omega
 rw [e,u64_or_nat _ _ (by unfold BB at hy;omega) (by unfold BB at hx;omega),qiG (i:=32) (by unfold BB at hx;omega) (by omega),hv];unfold BB;omega
end Go.Proofs.YtemoddmadfoaiaaGreat
namespace Go.Proofs.YtemoddmadfoaiaaGreat
open Go.RowKit
section
variable {P:Program} {ops:Array Oper} {md:Region.Mode} {C:World→Prop}
def headQ (P:Program) (md:Region.Mode) (ops:Array Oper) (C:World→Prop) (n:Nat) (L:Array Bool→Act→Prop):Nat→Array Bool→Act→Prop
 | 0,seen,a=>L seen a
 | f+1,seen,a=>Region.ready md ops seen≠[]∧∀ i∈Region.ready md ops seen,i<n∧qOp P ops C i (headQ P md ops C n L f (seen.setIfInBounds i true)) a
theorem qiJ {n g:Nat} {L:Array Bool→Act→Prop} {Q':Exit→Act→World→Prop} (hL:∀ seen a w,C w→L seen a→wpAny P md ops Q' g seen a w) :
  ∀ (f:Nat) (seen:Array Bool) (a:Act) (w:World),C w→headQ P md ops C n L f seen a→wpAny P md ops Q' (f+g) seen a w:=by
 intro f
 induction f with
 | zero=>intro seen a w hw h;rw [Nat.zero_add];exact hL _ _ _ hw h
 | succ f ih =>
  intro seen a w hw h;rw [show f+1+g=(f+g)+1 by omega];exact ⟨fun h0=>absurd h0 h.1,fun i hi=>wpOp_of_qOp hw (fun a' w' hw' h'=>ih _ a' w' hw' h') (h.2 i hi).2⟩
theorem qqY {n i:Nat} {oi:Oper} {v:Value} {L:Array Bool→Act→Prop} (hi:ops[i]?=some oi) (hsel:∀ (j:Nat) (o:Oper) cs b,ops[j]?=some o→o.op≠.select cs b)
  (hs:Region.sinkB md ops n=true) (hc:Region.chainB md ops n=true) (hn:n<ops.size) (hin:i<n) (hdone:∀ seen a,L seen a→∀ j∈Region.ready md ops seen,n≤j) :
  ∀ (f:Nat) (seen:Array Bool) (a:Act),HeadInv md ops n seen →
   (∀ j oj,ops[j]?=some oj→j≠i→seen.getD j true=false→(∀ e∈oj.after,Region.binds md e=true→e.on≠i)→oi.apart ops oj=true) →
   i∈Region.ready md ops seen→YieldsIn P ops C oi v a →
   headQ P md ops C n L f (seen.setIfInBounds i true) (a.put oi.dst v)→headQ P md ops C n L (f+1) seen a:=by
 intro f
 induction f with
 | zero =>
  intro seen a inv _ hr hy H;have hun:=(mem_ready.1 hr).1;refine ⟨List.ne_nil_of_mem hr,fun j hj=>?_⟩;have hjn:j<n:=Nat.lt_of_not_le fun h=>tail_waits hs hc hn inv _ i rfl hin hun j h hj
  refine ⟨hjn,?_⟩;by_cases e:j=i
  ·subst e;exact hy.qOp hi H
  ·exact absurd (hdone _ _ H j (ready_mono hj e)) (by omega)
 | succ f ih =>
  intro seen a inv hfree hr hy H;have hun:=(mem_ready.1 hr).1;refine ⟨List.ne_nil_of_mem hr,fun j hj=>?_⟩;have hjn:j<n:=Nat.lt_of_not_le fun h=>tail_waits hs hc hn inv _ i rfl hin hun j h hj
  refine ⟨hjn,?_⟩;by_cases e:j=i
  ·subst e;exact hy.qOp hi H
  obtain ⟨hju,oj,hoj,hall⟩:=mem_ready.1 hj
  have hnot:∀ e∈oj.after,Region.binds md e=true→e.on≠i:=fun e he hb heq=>by
   have h1:=hall e he hb;rw [heq,getD_both hun] at h1
   cases h1
  refine qOp_mono (fun a' h3=>ih _ a' (inv.set hj hjn) (fun k ok hk hki hu hno=>?_) (ready_mono hr (Ne.symm e)) h3.1 ?_)
   (qOp_put hoj (hfree j oj hoj e hju hnot) (fun cs b=>hsel i oi cs b hi) (fun cs b=>hsel j oj cs b hoj) hy (H.2 j (ready_mono hj e)).2)
  ·by_cases hjk:j=k
   ·subst hjk;exact hfree j ok hk hki hju hno
   ·exact hfree k ok hk hki (by rwa [getD_set_ne true hjk] at hu) hno
  ·rw [Array.setIfInBounds_comm _ _ e];exact h3.2
theorem qyK {n g:Nat} {Lq:Act→Prop} (hsel:Region.noSelect ops=true) (hs:Region.sinkB md ops n=true) (hc:Region.chainB md ops n=true) (hn:n<ops.size) :
  ∀ (l:List Oper) (k:Nat) (seen:Array Bool) (a:Act),(∀ j,j<l.length→l[j]?=ops[k+j]?)→k+l.length=n→HeadInv md ops n seen →
  Region.lexHead md ops g l.length k seen=true→wpQuiet P ops C Lq l a→headQ P md ops C n (fun seen' a'=>Region.seqB md ops g n seen'=true∧Lq a') l.length seen a:=by
 intro l
 induction l with
 | nil =>
  intro k seen a _ hk _ hB h;obtain rfl:k=n:=by simpa using hk
  exact ⟨by simpa [Region.lexHead] using hB,h⟩
 | cons o l ih =>
  intro k seen a hl hk inv hB h;have h0:ops[k]?=some o:=by simpa using (hl 0 (by simp)).symm
  simp only [List.length_cons,Region.lexHead,Bool.and_eq_true] at hB hk;obtain ⟨⟨hr,hf⟩,hB'⟩:=hB;have hkn:k<n:=by omega
  have hr':k∈Region.ready md ops seen:=by simpa using hr
  have hst:qOp P ops C k (wpQuiet P ops C Lq l) a:=by unfold qOp;simp only [h0];exact h
  obtain ⟨v,hy,hK⟩:=yieldsIn_of_qOp h0 hst;refine qqY h0 (Region.noSelect_spec hsel) hs hc hn hkn (fun seen' a' hL=>seqB_ready hL.1) l.length seen a inv (Region.free_spec h0 hf) hr' hy ?_;exact ih (k+1) _ _ (fun j hj=>by have:=hl (j+1) (by simp;omega);simpa [Nat.add_assoc,Nat.add_comm 1 j] using this) (by omega) (inv.set hr' hkn) hB' hK
theorem qfZ {id:Nat} {Q:Exit→Act→World→Prop} {a:Act} {w:World} {l:List Oper} (n:Nat) (hm:P.follows .mixedOrders=true) (hB:Region.lexTailB .any l.toArray n=true) (hC:C w.drew)
  (h:wpQuiet P l.toArray C (fun a'=>∀ w',C w'→wpList P l.toArray Q (l.drop n) a' w') (l.take n) a):(Code.region id l.toArray true).wp P Q a w:=by
 simp only [Region.lexTailB,Bool.and_eq_true,decide_eq_true_eq] at hB;obtain ⟨⟨⟨⟨hsel,hn⟩,hs⟩,hc⟩,hlex⟩:=hB;have hn':n<l.length:=by simpa using hn
 have htl:(l.take n).length=n:=by simp;omega
 have hdl:(l.drop n).length=l.toArray.size - n:=by simp
 have inv0:HeadInv .any l.toArray n (Array.replicate l.toArray.size false) :=
  ⟨by simp,fun j oj _ hl=>(by rw [getD_replicate_false] at hl;cases hl),fun t _ ht=>getD_in (by simpa using ht) (getD_replicate_false _ _)⟩
 have H:=qyK (md:=.any) (g:=l.toArray.size - n) hsel hs hc hn (l.take n) 0 _ a (fun j hj=>by
  have hj':j<n:=by rw [htl] at hj;exact hj
  simp [hj']) (by simpa using htl) inv0 (by rw [htl];exact hlex) h
 refine wp_region_any hm ?_
 have:=qiJ (Q':=Q) (g:=l.toArray.size - n) (fun seen a' w' hw' hL=>by
  have:=wpAny_of_seq (md:=.any) (Q':=Q) (l.drop n) n seen a' w' (fun j=>by simp [List.getElem?_drop]) (by rw [hdl];exact hL.1) (hL.2 w' hw')
  rwa [hdl] at this) _ _ _ _ hC H
 rw [htl,show n+(l.toArray.size - n)=l.toArray.size by omega] at this;exact this
theorem qbO {id:Nat} {Q:Exit→Act→World→Prop} {a:Act} {w:World} {l:List Oper} (n:Nat) (hm:P.follows .mixedOrders=true) (hB:Region.lexTailB .any l.toArray n=true)
  (h:wpQuiet P l.toArray (fun w'=>∃ p:GB,w'=gw w p.d p.os) (fun a'=>∀ w',(∃ p:GB,w'=gw w p.d p.os)→wpList P l.toArray Q (l.drop n) a' w') (l.take n) a):(Code.region id l.toArray true).wp P Q a w :=
 qfZ (C:=fun w'=>∃ p:GB,w'=gw w p.d p.os) n hm hB (qcV (qbQ (Below.refl _ _))) h
end
end Go.Proofs.YtemoddmadfoaiaaGreat
set_option maxHeartbeats 2000000
namespace Go.Proofs.YtemoddmadfoaiaaGreat
open Go.RowKit Big
open Lib (hid)
theorem wlq {P:Program} {ops:Array Oper} {w:World} {Q:Act→Prop} {a:Act} {op:Oper} {rest:List Oper} (hgd:Region.wanted op (yielded ops a.tmps)=true) (ty:TypeId) (x:Operand) (ho:op.op=.load ty x)
  (b o:Nat) (hx:a.eval x=.pointer (some ⟨b,o,none⟩)) (cs:List Value) (d:TypeDesc) (hc:w.rangeAt b o cs)
  (hu:P.underlying ty=some d) (hd:d.isRow=true) (hi:(P.info? ty).map (·.size)=some cs.length) (h:wpQuiet P ops (fun w'=>∃ p:GB,w'=gw w p.d p.os) Q rest (a.put op.dst (.agg cs.toArray))) :
  wpQuiet P ops (fun w'=>∃ p:GB,w'=gw w p.d p.os) Q (op::rest) a:=by
 refine wpQuiet_step (fun K hK=>?_);rw [if_pos hgd];refine ⟨.agg cs.toArray,fun W hW=>?_,hK _ h⟩;obtain ⟨p,rfl⟩:=hW;unfold Oper.quietAt execOp;simp only [ho,hx,Instr.loadAt,Instr.sureAddr,Sem.run_bind,Sem.run_pure,Result.andThen_ok,run_loadVar_mid (gw w p.d p.os) b o ty cs d (qaO hc (qbG w p.d p.os)) hu hd hi];exact ⟨rfl,rfl⟩
theorem wqB {P:Program} {ops:Array Oper} {C:World→Prop} {Q:Act→Prop} {a:Act} {op:Oper} {rest:List Oper} (hgd:op.guard=none) (ty:TypeId) (xs:Array (Nat × Operand)) (ho:op.op=.build ty xs)
  (vs:List (Nat × Value)) (hx:xs.toList.map (fun p=>(p.1,a.eval p.2))=vs) (Z:Array Value) (hb:P.built ty vs=some Z) (h:wpQuiet P ops C Q rest (a.put op.dst (.agg Z))):wpQuiet P ops C Q (op::rest) a:=by
 refine wpQuiet_step (fun K hK=>?_);rw [if_pos (by simp [Region.wanted,hgd])];refine ⟨.agg Z,fun W hW=>?_,hK _ h⟩;unfold Oper.quietAt execOp;have hr:=run_build (P:=P) W ty vs.toArray Z (by simpa using hb);have hx2:xs.map (fun p=>(p.1,a.eval p.2))=vs.toArray:=by rw [←hx];apply Array.toList_inj.1;simp
 simp [ho,hx2,hr,Oper.quietUpon]
theorem qzO (v:Nat) (n:Bool) (w:World) (hv:v<BB^32) (hn:n=!decide (v=0)) :
  Calls Tryz.prog 139 #[.bool true,mV v] w fun e w'=>e=.returned (iV n v)∧Below w.heap.size w w':=by
 obtain ⟨z,hz⟩:∃ z,z=decide (v=0):=⟨_,rfl⟩;have hnz:n=!z:=by rw [hz,hn]
 have HZ:=hid (fun W=>qiW v z W hv hz);obtain ⟨cs,hcs⟩:∃ cs,cs=lv 32 v:=⟨_,rfl⟩;have hl:cs.length=32:=by rw [hcs,qlL]
 have HSZ:=hid (show (Tryz.prog.info? 23).map (·.size)=some cs.length by rw [hl];exact Tryz.infoM);have HU:=hid Tryz.underlying23;have HONE:=hid (show ∀ u∈Value.bool n::cs,u.oneCell'=true by rw [hcs];exact qfJ n v);have HL:=hid hl;have HZ2:=hid (fun W=>show Calls Tryz.prog 137 #[.agg cs.toArray] W (fun e w'=>e=.returned (.bool z)∧Below W.heap.size W w') by rw [hcs];exact HZ.out W);unfold mV iV;rw [←hcs];have hbase:=qdD w cs 23;clear hcs hl hv hz hn;go_enter Tryz.func139,Tryz.ntmps139
 go_upto_region 1 with fail
 obtain ⟨w0,hw0⟩:∃ w0,w0=(w.alloc (.cells cs.toArray 23)).alloc (.cells (Value.bool false::lv 32 0).toArray 25):=⟨_,rfl⟩;have HR:=hid (show w0.rangeAt w.heap.size 0 cs by rw [hw0];exact fun j v hv=>World.rangeAt_alloc hbase _ j v hv);have HT:=hid (show w0.there (w.heap.size+1) 0 33 by rw [hw0];have:=qjB (w.alloc (.cells cs.toArray 23)) 25;rwa [World.size_alloc] at this);have HW:=hid (show Below w.heap.size w w0 by rw [hw0];exact ((Below.refl w.heap.size w).alloc (Nat.le_refl _) (.cells cs.toArray 23)).alloc (by simp) (.cells (Value.bool false::lv 32 0).toArray 25));have hsz0:w0.heap.size=w.heap.size+1+1:=by rw [hw0];simp
 rw [qbX] at hw0;rw [←hw0];clear hw0 hbase
 go_cut [5] from 5 to 12 (fun p5 wx=>Below w.heap.size w wx∧wx.rangeAt (w.heap.size+1) 0 (.bool n::cs))
 case first =>
  refine qbO 8 (by kernel_rfl) (by kernel_rfl) ?_;simp only [List.take_succ_cons,List.take_zero,List.drop_succ_cons,List.drop_zero];iterate 2 go_big_quiet_step (fail)
  refine wlq (by rfl) _ _ rfl w.heap.size 0 rfl cs _ HR.out HU.out rfl HSZ.out ?_;simp only [Act.put,List.setIfInBounds_toArray,List.set_cons_zero,List.set_cons_succ]
  go_big_quiet_step ((go_at_call 137;exact qaA (HZ2.out _)))
  iterate 2 go_big_quiet_step (fail)
  refine qaK rfl _ _ rfl w.heap.size 0 rfl cs _ HR.out HU.out rfl HSZ.out ?_;simp only [Act.put,List.setIfInBounds_toArray,List.set_cons_zero,List.set_cons_succ]
  try rw [←hnz]
  refine wqB rfl _ _ rfl _ rfl _ (qkG n cs HL.out) ?_;simp only [Act.put,List.setIfInBounds_toArray,List.set_cons_zero,List.set_cons_succ];refine wpQuiet_nil ?_;intro w' hw';obtain ⟨p,rfl⟩:=hw';have hT2:=qaX HT.out (qbG w0 p.d p.os) (by omega);have hB2:=HW.out.trans ((qbG w0 p.d p.os).mono HW.out.size);obtain ⟨w2,hw2⟩:∃ w2,w2=gw w0 p.d p.os:=⟨_,rfl⟩;rw [←hw2] at hT2 hB2 ⊢;refine wpList_store_mid rfl _ _ _ rfl (w.heap.size+1) 0 _ rfl rfl ?ht ?hi ?h1 ?_
  case ht=>intro j hj;exact hT2 j (by simpa [HL.out] using hj)
  case hi=>rw [show (Value.bool n::cs).toArray.size=33 by simp [HL.out]];exact Tryz.infoI
  case h1=>exact all_oneCell_toArray HONE.out
  go_wp2_with fail
  try simp only [Act.put,List.setIfInBounds_toArray,List.set_cons_zero,List.set_cons_succ]
  go_meet
  refine ⟨qaC (by omega) _ _ _ hB2,?_⟩;exact World.rangeAt_setCells_same _ _ _ _ (fun j hj=>hT2 j (by simpa [HL.out] using hj))
 case rest =>
  obtain ⟨hb,hrg⟩:=hcut;have hld:=run_loadVar_mid (P:=Tryz.prog) wc (w.heap.size+1) 0 25 (.bool n::cs) _ hrg Tryz.underlying25 rfl (by rw [show (Value.bool n::cs).length=33 by simp [HL.out]];exact Tryz.infoI);go_wp2_with fail
  refine bodyPost_ret (v:=.agg (Value.bool n::cs).toArray) (by simp [results,Tryz.results139,asAddr,hld]) rfl ?_;exact ⟨rfl,hb⟩
def cs1 (neg:Bool) (v:Nat):Bool:=neg&&!decide (v=0)
theorem qnL (neg:Bool) (v:Nat) (w:World) (hv:v<BB^32) :
  Calls Tryz.prog 139 #[.bool neg,mV v] w fun e w'=>e=.returned (iV (cs1 neg v) v)∧Below w.heap.size w w':=by
 cases neg with
 | false=>exact qpT v w hv
 | true=>exact qzO v _ w hv (by simp [cs1])
theorem jfU (na nb:Bool) (a b:Nat) (w:World) (ha:a<BB^32) (hb:b<BB^32) (hab:a*b<BB^32) :
  Calls Tryz.prog 136 #[iV na a,iV nb b] w fun e w'=>e=.returned (.tuple #[iV (cs1 (na != nb) (a*b)) (a*b),.int .i64 0])∧Below w.heap.size w w' :=
 jhW na nb a b _ _ _ w ha hb hab rfl fun W=>qnL _ _ W hab
set_option maxHeartbeats 4000000
theorem qbL {P:Program} {ops:Array Oper} {rest:List Oper} {op:Oper} {a:Act} {w:World} {Q:Exit→Act→World→Prop} (hgd:Region.wanted op (yielded ops a.tmps)=true) (ty:TypeId) (x:Operand) (ho:op.op=.load ty x)
  (b o:Nat) (hx:a.eval x=.pointer (some ⟨b,o,none⟩)) (cs:List Value) (d:TypeDesc) (hc:w.rangeAt b o cs)
  (hu:P.underlying ty=some d) (hd:d.isRow=true) (hi:(P.info? ty).map (·.size)=some cs.length)
  (h:wpList P ops Q rest (a.put op.dst (.agg cs.toArray)) w):wpList P ops Q (op::rest) a w:=by
 unfold wpList;rw [if_pos hgd];exact .inl (wp_load_mid ty x ho b o hx cs d hc hu hd hi h)
theorem qtA (w:World) (a b:Nat) (t:TypeId):∃ w0:World,w0=(((w.alloc (.cells (lv 32 a).toArray t)).alloc (.cells (lv 32 b).toArray t)).alloc (.cells (lv 32 0).toArray t)).alloc (.cells (lv 32 0).toArray t)∧Below w.heap.size w w0∧w0.heap.size=w.heap.size+1+1+1+1 ∧
  MagAt w0 w.heap.size 0 32 a∧MagAt w0 (w.heap.size+1) 0 32 b∧qMO w0 (w.heap.size+1+1) 0 32 0∧qMO w0 (w.heap.size+1+1+1) 0 32 0:=by
 obtain ⟨w1,h1,hb1,hs1,hA,hB⟩:=qnN w a b t;obtain ⟨w2,h2⟩:∃ w2,w2=w1.alloc (.cells (lv 32 0).toArray t):=⟨_,rfl⟩;have hs2:w2.heap.size=w1.heap.size+1:=by rw [h2];simp
 have hb2:Below w1.heap.size w1 w2:=by rw [h2];exact (Below.refl _ _).alloc (Nat.le_refl _) _
 have hb3:Below w2.heap.size w2 (w2.alloc (.cells (lv 32 0).toArray t)):=(Below.refl _ _).alloc (Nat.le_refl _) _;have hR:qMO w2 w1.heap.size 0 32 0:=by rw [h2];exact qMO.new w1 32 0 t
 have hQ:=qMO.new w2 32 0 t;rw [hs2,hs1] at hQ;have hR3:=hR.up hb3 (by omega);rw [hs1] at hR3;have hb13:=hb2.trans (hb3.mono hb2.size);refine ⟨_,rfl,?_,?_,?_,?_,?_,?_⟩;all_goals rw [←h1,←h2]
 ·exact hb1.trans (hb13.mono hb1.size)
 ·rw [World.size_alloc,hs2,hs1]
 ·exact hA.up hb13
 ·exact hB.up hb13
 ·exact hR3
 ·exact hQ
theorem qbI {b o n:Nat}:∀ {w:World} (h:w.there b o n) (vs:List Value) {b2:Nat} (o2:Nat) (hb:b2≠b),(w.setCells b2 o2 vs).there b o n
 | _,h,[],_,_,_=>h
 | w,h,v::vs,b2,o2,hb=>qbI (w:=w.setCell ⟨b2,o2,none⟩ v) (qfE h _ _ hb) vs (o2+1) hb
theorem qaN {b o:Nat} {cs:List Value}:∀ {w:World} (h:w.rangeAt b o cs) (vs:List Value) (b2 o2:Nat) (hb:b2≠b),(w.setCells b2 o2 vs).rangeAt b o cs
 | _,h,[],_,_,_=>h
 | w,h,v::vs,b2,o2,hb=>qaN (w:=w.setCell ⟨b2,o2,none⟩ v) (fun j x hx=>qcF (h j x hx) _ _ hb) vs b2 (o2+1) hb
theorem qpM (a b:Nat) (w:World) (ha:a<BB^2) (hb:b<BB^2) (h0:b≠0) :
  Calls Tryz.prog 163 #[mV a,mV b] w fun e w'=>e=.returned (.tuple #[mV (a / b),mV (a%b)])∧Below w.heap.size w w':=by
 have up:BB^2≤BB^32:=Nat.pow_le_pow_right qbK (by omega);obtain ⟨N,hN32,hN⟩:=qLE a 32 (Nat.lt_of_lt_of_le ha up);obtain ⟨K,hK32,hK⟩:=qLE b 32 (Nat.lt_of_lt_of_le hb up);have hN2:(N:Int)≤2:=by have:=qpA ha hN;omega
 have hK2:(K:Int)≤2:=by have:=qpA hb hK;omega
 obtain ⟨q,hq⟩:∃ q,q=a / b:=⟨_,rfl⟩;obtain ⟨r,hr⟩:∃ r,r=a%b:=⟨_,rfl⟩;have hq2:q<BB^2:=by rw [hq];exact Nat.lt_of_le_of_lt (Nat.div_le_self _ _) ha
 have hr2:r<BB^2:=by rw [hr];exact Nat.lt_of_le_of_lt (Nat.mod_le _ _) ha
 obtain ⟨w0,hw0,hb0,hs0,hA,hB,hQ,hR⟩:=qtA w a b 23;have HLA:=hid (fun W=>qeU a N W (Nat.lt_of_lt_of_le ha up) hN);have HLB:=hid (fun W=>qeU b K W (Nat.lt_of_lt_of_le hb up) hK);have HWA:=hid (fun W=>jeH a W ha);have HWB:=hid (fun W=>jeH b W hb);have HSQ:=hid (fun W=>qrU q W hq2);have HSR:=hid (fun W=>qrU r W hr2);have HW:=hid hb0;rw [qbW] at hw0;rw [←hq,←hr];unfold mV;obtain ⟨ca,hca⟩:∃ ca,ca=lv 32 a:=⟨_,rfl⟩;obtain ⟨cb,hcb⟩:∃ cb,cb=lv 32 b:=⟨_,rfl⟩;obtain ⟨cq,hcq⟩:∃ cq,cq=lv 32 q:=⟨_,rfl⟩;obtain ⟨cr,hcr⟩:∃ cr,cr=lv 32 r:=⟨_,rfl⟩
 have HLX:=hid (fun W (cs:List Value) (n:Nat) (h:(cs=ca∧n=N)∨(cs=cb∧n=K))=>show Calls Tryz.prog 162 #[.agg cs.toArray] W (fun e w'=>e=.returned (.int .i64 n)∧Below W.heap.size W w') by
  rcases h with ⟨h1,h2⟩|⟨h1,h2⟩
  ·rw [h1,h2,hca];exact HLA.out W
  ·rw [h1,h2,hcb];exact HLB.out W)
 have HWX:=hid (fun W (cs:List Value) (n:Nat) (h:(cs=ca∧n=a)∨(cs=cb∧n=b))=>show Calls Tryz.prog 185 #[.agg cs.toArray] W (fun e w'=>e=.returned (.int .u64 n)∧Below W.heap.size W w') by
  rcases h with ⟨h1,h2⟩|⟨h1,h2⟩
  ·rw [h1,h2,hca];exact HWA.out W
  ·rw [h1,h2,hcb];exact HWB.out W)
 have HSX:=hid (fun W (cs:List Value) (n:Nat) (h:(n=q∧cs=cq)∨(n=r∧cs=cr))=>show Calls Tryz.prog 184 #[.int .u64 n] W (fun e w'=>e=.returned (.agg cs.toArray)∧Below W.heap.size W w') by
  rcases h with ⟨h1,h2⟩|⟨h1,h2⟩
  ·rw [h1,h2,hcq];exact HSQ.out W
  ·rw [h1,h2,hcr];exact HSR.out W)
 have lca:ca.length=32:=by rw [hca,qlL]
 have lcb:cb.length=32:=by rw [hcb,qlL]
 have lcq:cq.length=32:=by rw [hcq,qlL]
 have lcr:cr.length=32:=by rw [hcr,qlL]
 have HRA:=hid (show w0.rangeAt w.heap.size 0 ca by rw [hca];exact hA);have HRB:=hid (show w0.rangeAt (w.heap.size+1) 0 cb by rw [hcb];exact hB);have HQ:=hid hQ.there;have HR:=hid hR.there;have sz:∀ cs:List Value,cs.length=32→(Tryz.prog.info? 23).map (·.size)=some cs.length:=fun cs h=>by rw [h];exact Tryz.infoM
 have HSZ:=hid sz;have HLEN:=hid (And.intro lca (And.intro lcb (And.intro lcq lcr)));have HONE:=hid (And.intro (all_oneCell_toArray (qcM 32 q)) (all_oneCell_toArray (qcM 32 r)));rw [←hcq,←hcr] at HONE;have HU:=hid Tryz.underlying23;rw [←hca,←hcb] at hw0 ⊢;rw [←hcq,←hcr];have eq1:(a:Int) / (b:Int)=(q:Int):=by rw [hq];rfl
 have eq2:(a:Int)%(b:Int)=(r:Int):=by rw [hr];rfl
 have wq:IntKind.u64.wrap (q:Int)=(q:Int):=by unfold BB at hq2;rw [IntKind.wrap_u64];omega
 have wr:IntKind.u64.wrap (r:Int)=(r:Int):=by unfold BB at hr2;rw [IntKind.wrap_u64];omega
 have HAB:=hid (And.intro ha hb);obtain ⟨va,hva⟩:∃ va,va=ca.toArray:=⟨_,rfl⟩;obtain ⟨vb,hvb⟩:∃ vb,vb=cb.toArray:=⟨_,rfl⟩;rw [←hva,←hvb] at hw0 ⊢;clear hN hK hN32 hK32 hq2 hr2 hb0 hA hB hQ hR hca hcb hcq hcr lca lcb lcq lcr sz ha hb up hq hr hva hvb;go_enter Tryz.func163,Tryz.ntmps163
 go_upto_region 1 with fail
 rw [←hw0];obtain ⟨B0,hB0⟩:∃ B0,B0=w.heap.size:=⟨_,rfl⟩;have HBE:=hid hB0;rw [←hB0] at HRA HRB HQ HR hs0 ⊢;clear hw0 hB0
 go_wp2_with (first
  | (refine wpList_load_mid rfl _ _ rfl B0 0 rfl ca _ HRA.out HU.out rfl (HSZ.out _ HLEN.out.1) ?_))
 refine (HLX.out _ _ _ (.inl ⟨rfl,rfl⟩)).mono ?_;rintro e w1 ⟨rfl,hb1⟩;have HRA1:=hid (qaO HRA.out hb1);have HRB1:=hid (qaO HRB.out hb1);have HB1:=hid hb1;clear hb1
 go_wp2_with (first
  | (refine qbL (by rfl) _ _ rfl (B0+1) 0 rfl cb _ HRB1.out HU.out rfl (HSZ.out _ HLEN.out.2.1) ?_))
 refine (HLX.out _ _ _ (.inr ⟨rfl,rfl⟩)).mono ?_;rintro e w2 ⟨rfl,hb2⟩;have hb12:=HB1.out.trans (hb2.mono HB1.out.size);have hs2:B0+1+1+1+1≤w2.heap.size:=by have:=hb12.size;omega
 have ra:=qaO HRA.out hb12;have rb:=qaO HRB.out hb12;have HQ2:=hid (qaX HQ.out hb12 (by omega));have HR2:=hid (qaX HR.out hb12 (by omega));have HW2:=hid (HW.out.trans (hb12.mono HW.out.size));have sa:=HSZ.out _ HLEN.out.1;have sb:=HSZ.out _ HLEN.out.2.1;have u49:=HU.out;clear hb2 hb12;go_upto_region 2 with fail
 refine qbO 12 (by kernel_rfl) (by kernel_rfl) ?_;simp only [List.take_succ_cons,List.take_zero,List.drop_succ_cons,List.drop_zero]
 repeat (first
  | (refine qaK rfl _ _ rfl B0 0 rfl ca _ ra u49 rfl sa ?_;try simp only [Act.put,List.setIfInBounds_toArray,List.set_cons_zero,List.set_cons_succ])
  | (refine qaK rfl _ _ rfl (B0+1) 0 rfl cb _ rb u49 rfl sb ?_;try simp only [Act.put,List.setIfInBounds_toArray,List.set_cons_zero,List.set_cons_succ])
  | go_big_quiet_step ((go_at_call 185;exact qaA (HWX.out _ _ _ (by first|exact .inl ⟨rfl,rfl⟩|exact .inr ⟨rfl,rfl⟩))))
  | go_big_quiet_step ((go_at_call 184;exact qaA (HSX.out _ _ _ (by first|exact .inl ⟨rfl,rfl⟩|exact .inr ⟨rfl,rfl⟩)))))
 refine wpQuiet_nil ?_;intro w' hw';obtain ⟨p,rfl⟩:=hw';have hbg:=qbG w2 p.d p.os;obtain ⟨w3,hw3⟩:∃ w3,w3=gw w2 p.d p.os:=⟨_,rfl⟩;rw [←hw3] at hbg ⊢;have hq3:=qaX HQ2.out hbg (by omega);have hr3:=qaX HR2.out hbg (by omega);have HW3:=hid (HW2.out.trans (hbg.mono HW2.out.size));clear hbg hw3 eq1 eq2 wq wr;refine wpList_store_mid rfl _ _ _ rfl (B0+1+1) 0 _ rfl rfl ?ht (by rw [List.size_toArray];exact HSZ.out _ HLEN.out.2.2.1) HONE.out.1 ?_
 case ht=>rw [List.size_toArray,HLEN.out.2.2.1];exact hq3
 simp only [Act.put,List.setIfInBounds_toArray,List.set_cons_zero,List.set_cons_succ];have hr4:(w3.setCells (B0+1+1) 0 cq).there (B0+1+1+1) 0 32:=qbI hr3 cq 0 (by omega);refine wpList_store_mid rfl _ _ _ rfl (B0+1+1+1) 0 _ rfl rfl ?ht (by rw [List.size_toArray];exact HSZ.out _ HLEN.out.2.2.2) HONE.out.2 ?_
 case ht=>rw [List.size_toArray,HLEN.out.2.2.2];exact hr4
 simp only [Act.put,List.setIfInBounds_toArray,List.set_cons_zero,List.set_cons_succ];have hle2:w.heap.size≤B0+1+1:=by rw [←HBE.out];omega
 have hle3:w.heap.size≤B0+1+1+1:=by omega
 have HWE:=hid (qaC hle3 cr 0 _ (qaC hle2 cq 0 _ HW3.out));have g1:=World.rangeAt_setCells_same w3 (B0+1+1) 0 cq (by rw [HLEN.out.2.2.1];exact hq3);have g2:=qaN g1 cr (B0+1+1+1) 0 (by omega);have g3:=World.rangeAt_setCells_same (w3.setCells (B0+1+1) 0 cq) (B0+1+1+1) 0 cr (by rw [HLEN.out.2.2.2];exact hr4)
 try simp only [List.toList_toArray]
 go_wp2_with fail
 have hld1:=run_loadVar_mid (P:=Tryz.prog) _ _ _ _ _ _ g2 Tryz.underlying23 rfl (HSZ.out _ HLEN.out.2.2.1);have hld2:=run_loadVar_mid (P:=Tryz.prog) _ _ _ _ _ _ g3 Tryz.underlying23 rfl (HSZ.out _ HLEN.out.2.2.2);refine bodyPost_ret (v:=.tuple #[.agg cq.toArray,.agg cr.toArray]) (by simp [results,Tryz.results163,asAddr,hld1,hld2]) rfl ?_;exact ⟨rfl,HWE.out⟩
end Go.Proofs.YtemoddmadfoaiaaGreat
namespace Go.Proofs.YtemoddmadfoaiaaGreat
open Go.RowKit Big
namespace Big
theorem jgX {x:Nat} (hx:x<BB):bits BinOp.and IntKind.u32 (x:Int) 1=((x%2:Nat):Int):=by
 have:=u32_and_nat x 1 (by unfold BB at hx;omega) (by omega)
 rw [Nat.and_one_is_mod] at this;exact this
theorem jdU {s:Nat} (hs:s<32):IntKind.u32.wrap ((2:Int)^s)=((2^s:Nat):Int):=by
 have h:2^s≤2^31:=Nat.pow_le_pow_right (by omega) (by omega);have e:((2:Int)^s)=((2^s:Nat):Int):=by simp
 have h3:(2:Nat)^31=2147483648:=by decide
 rw [e];obtain ⟨y,hy⟩:∃ y,y=2^s:=⟨_,rfl⟩;rw [←hy] at h ⊢;rw [IntKind.wrap_u32];omega
theorem jgG {q i:Nat} (hq:q%2^(i+1)=0):lim q (i / 32)%2^(i%32+1)=0:=by
 obtain ⟨Q,hQ⟩:∃ Q,q=2^(i+1)*Q:=⟨q / 2^(i+1),by have:=Nat.mod_add_div q (2^(i+1));omega⟩;have e1:2^(i+1)=BB^(i / 32)*2^(i%32+1):=by rw [qgF,←Nat.pow_add];congr 1;omega
 have e2:q / BB^(i / 32)=2^(i%32+1)*Q:=by
  rw [hQ,e1,Nat.mul_assoc,Nat.mul_div_cancel_left _ (BP _)]
 have e3:BB=2^(i%32+1)*2^(32 - (i%32+1)):=by rw [qdF,←Nat.pow_add];congr 1;omega
 unfold lim;rw [e2,e3,Nat.mod_mul_right_mod];exact Nat.mul_mod_right _ _
theorem jeX {q i y:Nat} (hq:q%2^(i+1)=0) (hy:y=2^(i%32)) :
  bits BinOp.or IntKind.u32 (lim q (i / 32):Nat) (y:Nat)=((lim q (i / 32)+y:Nat):Int)∧lim q (i / 32)+y<BB∧upd q (i / 32) (lim q (i / 32)+y)=q+2^i:=by
 have hl:=qaI q (i / 32);have hz:=jgG hq;obtain ⟨L,hL⟩:∃ L,L=lim q (i / 32):=⟨_,rfl⟩;rw [←hL] at hl hz ⊢;have hs:i%32<32:=Nat.mod_lt _ (by omega);have h2:2^(i%32+1)=2*y:=by rw [hy,Nat.pow_succ];omega
 have hy0:0<y:=by rw [hy];exact tp _
 have hyb:y<BB:=by
  rw [hy,qdF];exact Nat.pow_lt_pow_right (by omega) hs
 have h3:BB=2^(i%32+1)*2^(32 - (i%32+1)):=by rw [qdF,←Nat.pow_add];congr 1;omega
 obtain ⟨T,hT⟩:∃ T,T=2^(32 - (i%32+1)):=⟨_,rfl⟩;rw [←hT,h2] at h3;rw [h2] at hz;obtain ⟨M,hM⟩:∃ M,L=2*y*M:=⟨L / (2*y),by have:=Nat.mod_add_div L (2*y);omega⟩
 have hMT:M<T:=by
  rcases Nat.lt_or_ge M T with h|h
  ·exact h
  ·have:=Nat.mul_le_mul_left (2*y) h
   omega
 have hle:2*y*M+2*y≤2*y*T:=by rw [←Nat.mul_succ];exact Nat.mul_le_mul_left _ hMT
 refine ⟨?_,by omega,?_⟩
 ·rw [u32_or_nat L y (by unfold BB at hl;omega) (by unfold BB at hyb;omega),qiG (i:=i%32+1) (by rw [h2];omega) (by rw [h2];exact hz)]
 ·have m1:=qbJ q (i / 32);have m2:=Nat.mod_add_div q (BB^(i / 32+1));rw [m1,←hL,Nat.mul_comm (BB^(i / 32+1))] at m2;have e4:2^i=y*BB^(i / 32):=by rw [hy,qgF,←Nat.pow_add];congr 1;omega
  unfold upd;rw [e4,Nat.add_mul];omega
theorem jgO {a b Q r:Nat} (h:a / 2^0=Q*b+r) (hr:r<b):Q=a / b∧r=a%b:=by
 rw [Nat.pow_zero,Nat.div_one] at h;have hb:0<b:=by omega
 refine ⟨?_,?_⟩
 ·rw [h,Nat.add_comm,Nat.add_mul_div_right _ _ hb,Nat.div_eq_of_lt hr];omega
 ·rw [h,Nat.add_comm,Nat.add_mul_mod_self_right,Nat.mod_eq_of_lt hr]
theorem jdT {a b mA nB:Nat} (ha:IsBits a mA) (hb:IsBits b (nB+1)) (h:nB<mA):a / 2^(mA - nB)<b:=by
 have h1:=hb.2 (by omega);rw [Nat.add_sub_cancel] at h1;refine Nat.lt_of_lt_of_le ?_ h1;rw [Nat.div_lt_iff_lt_mul (tp _),←Nat.pow_add,show nB+(mA - nB)=mA by omega];exact ha.1
theorem qzV {a b mA nB:Nat} (ha:IsBits a mA) (hb:IsBits b (nB+1)) (h:mA≤nB):a<b:=by
 have h1:=hb.2 (by omega);rw [Nat.add_sub_cancel] at h1;exact Nat.lt_of_lt_of_le (Nat.lt_of_lt_of_le ha.1 (Nat.pow_le_pow_right (by omega) h)) h1
end Big
end Go.Proofs.YtemoddmadfoaiaaGreat
namespace Go.Proofs.YtemoddmadfoaiaaGreat
open Go.RowKit
section
variable {P:Program} {ops:Array Oper} {md:Region.Mode} {C:World→Prop}
def gateB (md:Region.Mode) (ops:Array Oper) (n:Nat):Bool :=
 (List.range (n - 1)).all (fun i=>(List.range n).any fun j=>decide (i<j)&&Region.waitsFor md ops j i)&&(List.range ops.size).all fun t=>decide (t<n) || Region.waitsFor md ops t (n - 1)
def lexT (md:Region.Mode) (ops:Array Oper) (T:Array Bool):Nat→Nat→Array Bool→Bool
 | 0,_,seen=>seen==T
 | f+1,k,seen=>(Region.ready md ops seen).contains k&&Region.free md ops seen k&&lexT md ops T f (k+1) (seen.setIfInBounds k true)
def headB (md:Region.Mode) (ops:Array Oper) (n:Nat) (T:Array Bool):Bool :=
 Region.noSelect ops&&decide (0<n)&&decide (n<ops.size)&&gateB md ops n&&(Region.ready md ops T).all (fun j=>decide (n≤j))&&lexT md ops T n 0 (Array.replicate ops.size false)
theorem quN {n:Nat} {seen:Array Bool} (hg:gateB md ops n=true) (hn0:0<n) (hn:n<ops.size) (inv:HeadInv md ops n seen) {i:Nat} (hi:i<n) (hun:seen.getD i true=false) {t:Nat} (ht:n≤t):t∉Region.ready md ops seen:=by
 intro hr;simp only [gateB,Bool.and_eq_true] at hg;obtain ⟨_,ot,hot,hall⟩:=mem_ready.1 hr;have htl:t<ops.size:=(Array.getElem?_eq_some_iff.1 hot).1
 have hlast:seen.getD (n - 1) false=true:=by
  have h1:=List.all_eq_true.1 hg.2 t (List.mem_range.2 htl);simp only [Bool.or_eq_true,decide_eq_true_eq] at h1;rcases h1 with h1|h1
  ·omega
  ·obtain ⟨o',ho',e,he,hb,hon⟩:=Region.waitsFor_spec h1;obtain rfl:o'=ot:=Option.some.inj (ho'.symm.trans hot);rw [←hon];exact hall e he hb
 have hev:∀ (d j:Nat),n - 1 - j=d→j<n→seen.getD j false=true:=by
  intro d
  induction d using Nat.strongRecOn with
  | _ d ih =>
   intro j hd hj;by_cases hjn:j=n - 1
   ·subst hjn;exact hlast
   ·have h1:=List.all_eq_true.1 hg.1 j (List.mem_range.2 (by omega));obtain ⟨k,hk,hk2⟩:=List.any_eq_true.1 h1;simp only [Bool.and_eq_true,decide_eq_true_eq] at hk2;obtain ⟨ok,hok,e,he,hb,hon⟩:=Region.waitsFor_spec hk2.2;have hkn:=List.mem_range.1 hk;rw [←hon];exact inv.closed k ok hok (ih (n - 1 - k) (by omega) k rfl hkn) e he hb
 have:=hev _ i rfl hi
 rw [getD_both hun] at this
 cases this
theorem qqZ {n i:Nat} {oi:Oper} {v:Value} {L:Array Bool→Act→Prop} (hi:ops[i]?=some oi) (hsel:∀ (j:Nat) (o:Oper) cs b,ops[j]?=some o→o.op≠.select cs b)
  (hw:∀ seen,HeadInv md ops n seen→∀ i,i<n→seen.getD i true=false→∀ t,n≤t→t∉Region.ready md ops seen) (hin:i<n) (hdone:∀ seen a,L seen a→∀ j∈Region.ready md ops seen,n≤j) :
  ∀ (f:Nat) (seen:Array Bool) (a:Act),HeadInv md ops n seen →
   (∀ j oj,ops[j]?=some oj→j≠i→seen.getD j true=false→(∀ e∈oj.after,Region.binds md e=true→e.on≠i)→oi.apart ops oj=true) →
   i∈Region.ready md ops seen→YieldsIn P ops C oi v a →
   headQ P md ops C n L f (seen.setIfInBounds i true) (a.put oi.dst v)→headQ P md ops C n L (f+1) seen a:=by
 intro f
 induction f with
 | zero =>
  intro seen a inv _ hr hy H;have hun:=(mem_ready.1 hr).1;refine ⟨List.ne_nil_of_mem hr,fun j hj=>?_⟩;have hjn:j<n:=Nat.lt_of_not_le fun h=>hw _ inv i hin hun j h hj
  refine ⟨hjn,?_⟩;by_cases e:j=i
  ·subst e;exact hy.qOp hi H
  ·exact absurd (hdone _ _ H j (ready_mono hj e)) (by omega)
 | succ f ih =>
  intro seen a inv hfree hr hy H;have hun:=(mem_ready.1 hr).1;refine ⟨List.ne_nil_of_mem hr,fun j hj=>?_⟩;have hjn:j<n:=Nat.lt_of_not_le fun h=>hw _ inv i hin hun j h hj
  refine ⟨hjn,?_⟩;by_cases e:j=i
  ·subst e;exact hy.qOp hi H
  obtain ⟨hju,oj,hoj,hall⟩:=mem_ready.1 hj
  have hnot:∀ e∈oj.after,Region.binds md e=true→e.on≠i:=fun e he hb heq=>by
   have h1:=hall e he hb;rw [heq,getD_both hun] at h1
   cases h1
  refine qOp_mono (fun a' h3=>ih _ a' (inv.set hj hjn) (fun k ok hk hki hu hno=>?_) (ready_mono hr (Ne.symm e)) h3.1 ?_)
   (qOp_put hoj (hfree j oj hoj e hju hnot) (fun cs b=>hsel i oi cs b hi) (fun cs b=>hsel j oj cs b hoj) hy (H.2 j (ready_mono hj e)).2)
  ·by_cases hjk:j=k
   ·subst hjk;exact hfree j ok hk hki hju hno
   ·exact hfree k ok hk hki (by rwa [getD_set_ne true hjk] at hu) hno
  ·rw [Array.setIfInBounds_comm _ _ e];exact h3.2
theorem qyL {n:Nat} {T:Array Bool} {Lq:Act→Prop} (hsel:Region.noSelect ops=true) (hw:∀ seen,HeadInv md ops n seen→∀ i,i<n→seen.getD i true=false→∀ t,n≤t→t∉Region.ready md ops seen)
  (hT:∀ j∈Region.ready md ops T,n≤j) :
  ∀ (l:List Oper) (k:Nat) (seen:Array Bool) (a:Act),(∀ j,j<l.length→l[j]?=ops[k+j]?)→k+l.length=n→HeadInv md ops n seen →
  lexT md ops T l.length k seen=true→wpQuiet P ops C Lq l a→headQ P md ops C n (fun seen' a'=>seen'=T∧Lq a') l.length seen a:=by
 intro l
 induction l with
 | nil =>
  intro k seen a _ hk _ hB h;exact ⟨by simpa [lexT] using hB,h⟩
 | cons o l ih =>
  intro k seen a hl hk inv hB h;have h0:ops[k]?=some o:=by simpa using (hl 0 (by simp)).symm
  simp only [List.length_cons,lexT,Bool.and_eq_true] at hB hk;obtain ⟨⟨hr,hf⟩,hB'⟩:=hB;have hkn:k<n:=by omega
  have hr':k∈Region.ready md ops seen:=by simpa using hr
  have hst:qOp P ops C k (wpQuiet P ops C Lq l) a:=by unfold qOp;simp only [h0];exact h
  obtain ⟨v,hy,hK⟩:=yieldsIn_of_qOp h0 hst;refine qqZ h0 (Region.noSelect_spec hsel) hw hkn (fun seen' a' hL=>by rw [hL.1];exact hT) l.length seen a inv (Region.free_spec h0 hf) hr' hy ?_;exact ih (k+1) _ _ (fun j hj=>by have:=hl (j+1) (by simp;omega);simpa [Nat.add_assoc,Nat.add_comm 1 j] using this) (by omega) (inv.set hr' hkn) hB' hK
theorem qgG {id:Nat} {Q:Exit→Act→World→Prop} {a:Act} {w:World} {l:List Oper} (n:Nat) (T:Array Bool) (S:World→Prop) (hm:P.follows .mixedOrders=true) (hB:headB .any l.toArray n T=true) (hC:C w.drew)
  (h:wpQuiet P l.toArray C (fun a'=>∀ w',C w'→wpAnyH P .any l.toArray (NoPanic Q) S (l.length - n) T a' w') (l.take n) a):(Code.region id l.toArray true).wp P Q a w:=by
 simp only [headB,Bool.and_eq_true,decide_eq_true_eq] at hB;obtain ⟨⟨⟨⟨⟨hsel,hn0⟩,hn⟩,hg⟩,hT⟩,hlex⟩:=hB;have hn':n<l.length:=by simpa using hn
 have htl:(l.take n).length=n:=by simp;omega
 have inv0:HeadInv .any l.toArray n (Array.replicate l.toArray.size false) :=
  ⟨by simp,fun j oj _ hl=>(by rw [getD_replicate_false] at hl;cases hl),fun t _ ht=>getD_in (by simpa using ht) (getD_replicate_false _ _)⟩
 have H:=qyL (md:=.any) (T:=T) hsel (fun seen inv i hi hun t ht=>quN hg hn0 hn inv hi hun ht) (fun j hj=>by simpa using List.all_eq_true.1 hT j hj) (l.take n) 0 _ a (fun j hj=>by
  have hj':j<n:=by rw [htl] at hj;exact hj
  simp [hj']) (by simpa using htl) inv0 (by rw [htl];exact hlex) h
 refine wp_region_noPanic (wp_region_any hm ?_)
 have:=qiJ (Q':=NoPanic Q) (g:=l.length - n) (fun seen a' w' hw' hL=>by
  rw [hL.1];exact wpAny_of_held _ _ _ _ (hL.2 w' hw')) _ _ _ _ hC H
 rw [htl,show n+(l.length - n)=l.toArray.size by simp;omega] at this;exact this
theorem qgH {id:Nat} {Q:Exit→Act→World→Prop} {a:Act} {w:World} {l:List Oper} (n:Nat) (T:Array Bool) (S:World→Prop) (hm:P.follows .mixedOrders=true) (hB:headB .any l.toArray n T=true)
  (h:wpQuiet P l.toArray (fun w'=>∃ p:GB,w'=gw w p.d p.os) (fun a'=>∀ w',(∃ p:GB,w'=gw w p.d p.os)→wpAnyH P .any l.toArray (NoPanic Q) S (l.length - n) T a' w') (l.take n) a):(Code.region id l.toArray true).wp P Q a w :=
 qgG (C:=fun w'=>∃ p:GB,w'=gw w p.d p.os) n T S hm hB (qcV (qbQ (Below.refl _ _))) h
theorem qvW {P:Program} {ops:Array Oper} {md:Region.Mode} {T:Array Bool} {Q:Exit→Act→World→Prop} {a:Act} {w:World} (i0 i1 i2 i3:Nat) {o0 o1 o2 o3:Oper} (d0 d1 d3:Tmp) (ty:TypeId) (x p:Operand) (b:Nat) (c0:List Value) (u:Value)
  (k0:ops[i0]?=some o0) (k1:ops[i1]?=some o1) (k2:ops[i2]?=some o2) (k3:ops[i3]?=some o3) (hsel:Region.noSelect ops=true)
  (f0:Region.free md ops T i0=true) (r0:(Region.ready md ops T).contains i0=true)
  (f1:Region.free md ops (T.setIfInBounds i0 true) i1=true) (r1:(Region.ready md ops (T.setIfInBounds i0 true)).contains i1=true)
  (r2:Region.ready md ops ((T.setIfInBounds i0 true).setIfInBounds i1 true)=[i2]) (r3:Region.ready md ops (((T.setIfInBounds i0 true).setIfInBounds i1 true).setIfInBounds i2 true)=[i3])
  (r4:Region.ready md ops ((((T.setIfInBounds i0 true).setIfInBounds i1 true).setIfInBounds i2 true).setIfInBounds i3 true)=[])
  (g0:o0.guard=none) (g1:o1.guard=none) (g2:o2.guard=none) (g3:o3.guard=none)
  (n0:o0.dst=some d0) (n1:o1.dst=some d1) (n2:o2.dst=none) (n3:o3.dst=some d3)
  (h0:o0.op=.extract x 0) (h1:o1.op=.extract x 1) (h2:o2.op=.store ty p (.tmp d0)) (h3:o3.op=.assign (.tmp d1))
  (e0:a.eval x=.tuple #[.agg c0.toArray,u]) (e1:(a.put (some d0) (.agg c0.toArray)).eval x=.tuple #[.agg c0.toArray,u])
  (e2:((a.put (some d0) (.agg c0.toArray)).put (some d1) u).eval p=.pointer (some ⟨b,0,none⟩)) (e2':((a.put (some d0) (.agg c0.toArray)).put (some d1) u).eval (.tmp d0)=.agg c0.toArray)
  (e3:(((a.put (some d0) (.agg c0.toArray)).put (some d1) u).put none undef).eval (.tmp d1)=u)
  (ht:w.there b 0 c0.length) (hi:(P.info? ty).map (·.size)=some c0.length) (k:c0.toArray.all (·.oneCell')=true)
  (hfin:Q .normal ((((a.put (some d0) (.agg c0.toArray)).put (some d1) u).put none undef).put (some d3) u) (w.setCells b 0 c0)) :
  wpAnyH P md ops (NoPanic Q) (fun _=>True) 4 T a w:=by
 refine wpAnyH_take (i:=i0) (oi:=o0) (v:=.agg c0.toArray) k0 hsel f0 r0 (fun c a w h=>h) (.inl ⟨by simp [Region.wanted,g0],fun w _=>by unfold execOp;simp [h0,e0,Instr.extract]⟩) trivial ?_;rw [n0];refine wpAnyH_take (i:=i1) (oi:=o1) (v:=u) k1 hsel f1 r1 (fun c a w h=>h) (.inl ⟨by simp [Region.wanted,g1],fun w _=>by unfold execOp;simp [h1,e1,Instr.extract]⟩) trivial ?_;rw [n1];refine wpAnyH_ready (rs:=[i2]) r2 (by simp) (AllReadyH.cons (o:=o2) k2 (fun K hK=>?_) AllReadyH.nil);rw [if_pos (by simp [Region.wanted,g2])];refine wp_store_mid ty p (.tmp d0) h2 b 0 c0.toArray e2 e2' (by rw [List.size_toArray];exact ht) (by rw [List.size_toArray];exact hi) k ?_;rw [n2];refine hK.out _ _ trivial (fun _=>?_);refine wpAnyH_ready (rs:=[i3]) r3 (by simp) (AllReadyH.cons (o:=o3) k3 (fun K' hK'=>?_) AllReadyH.nil);rw [if_pos (by simp [Region.wanted,g3])];unfold Oper.wp execOp;simp [h3,e3,Oper.upon];rw [n3];refine hK'.out _ _ trivial (fun _=>?_);exact wpAnyH_done r4 (NoPanic.normal hfin) _
end
end Go.Proofs.YtemoddmadfoaiaaGreat
set_option maxHeartbeats 8000000
namespace Go.Proofs.YtemoddmadfoaiaaGreat
open Go.RowKit Big
open Lib (hid)
theorem qcP {P:Program} {id:Nat} {Q:Exit→Act→World→Prop} {a:Act} {w:World} {o0 o1 o2 o3:Oper} (ty:TypeId) (x0 x1 x2 x3 y2 y3:Operand) (d:TypeDesc) (b0 b1 p2 p3:Nat) (c0 c1:List Value)
  (hm:P.follows .mixedOrders=true) (hsel:Region.noSelect #[o0,o1,o2,o3]=true)
  (f0:Region.free .any #[o0,o1,o2,o3] (Array.replicate 4 false) 0=true) (r0:(Region.ready .any #[o0,o1,o2,o3] (Array.replicate 4 false)).contains 0=true)
  (f1:Region.free .any #[o0,o1,o2,o3] ((Array.replicate 4 false).setIfInBounds 0 true) 1=true) (r1:(Region.ready .any #[o0,o1,o2,o3] ((Array.replicate 4 false).setIfInBounds 0 true)).contains 1=true)
  (r2:Region.ready .any #[o0,o1,o2,o3] (((Array.replicate 4 false).setIfInBounds 0 true).setIfInBounds 1 true)=[2])
  (r3:Region.ready .any #[o0,o1,o2,o3] ((((Array.replicate 4 false).setIfInBounds 0 true).setIfInBounds 1 true).setIfInBounds 2 true)=[3])
  (r4:Region.ready .any #[o0,o1,o2,o3] (((((Array.replicate 4 false).setIfInBounds 0 true).setIfInBounds 1 true).setIfInBounds 2 true).setIfInBounds 3 true)=[])
  (g0:o0.guard=none) (g1:o1.guard=none) (g2:o2.guard=none) (g3:o3.guard=none)
  (h0:o0.op=.load ty x0) (h1:o1.op=.load ty x1) (h2:o2.op=.store ty x2 y2) (h3:o3.op=.store ty x3 y3)
  (hu:P.underlying ty=some d) (hd:d.isRow=true) (hi0:(P.info? ty).map (·.size)=some c0.length) (hi1:(P.info? ty).map (·.size)=some c1.length)
  (k0:c0.toArray.all (·.oneCell')=true) (k1:c1.toArray.all (·.oneCell')=true)
  (e0:a.eval x0=.pointer (some ⟨b0,0,none⟩)) (e1:(a.put o0.dst (.agg c0.toArray)).eval x1=.pointer (some ⟨b1,0,none⟩))
  (e2:((a.put o0.dst (.agg c0.toArray)).put o1.dst (.agg c1.toArray)).eval x2=.pointer (some ⟨p2,0,none⟩)) (e2':((a.put o0.dst (.agg c0.toArray)).put o1.dst (.agg c1.toArray)).eval y2=.agg c0.toArray)
  (e3:(((a.put o0.dst (.agg c0.toArray)).put o1.dst (.agg c1.toArray)).put o2.dst undef).eval x3=.pointer (some ⟨p3,0,none⟩)) (e3':(((a.put o0.dst (.agg c0.toArray)).put o1.dst (.agg c1.toArray)).put o2.dst undef).eval y3=.agg c1.toArray)
  (m0:w.rangeAt b0 0 c0) (m1:w.rangeAt b1 0 c1) (t2:w.there p2 0 c0.length) (t3:w.there p3 0 c1.length)
  (hb1:p2≠b1) (hb0:p2=b0) (hp3:p3=b1∨p3≠b1) (hp30:p3≠b0)
  (hfin:Q .normal ((((a.put o0.dst (.agg c0.toArray)).put o1.dst (.agg c1.toArray)).put o2.dst undef).put o3.dst undef) ((w.drew.setCells p2 0 c0).setCells p3 0 c1)) :
  (Code.region id #[o0,o1,o2,o3] true).wp P Q a w:=by
 have dm:∀ {b:Nat} {cs:List Value},w.rangeAt b 0 cs→w.drew.rangeAt b 0 cs:=fun h j v hv=>h j v hv
 have dt:∀ {b n:Nat},w.there b 0 n→w.drew.there b 0 n:=fun h j hj=>h j hj
 have s2:(w.drew.setCells p2 0 c0).rangeAt b0 0 c0∧(w.drew.setCells p2 0 c0).rangeAt b1 0 c1:=⟨by subst hb0;exact World.rangeAt_setCells_same _ _ _ _ (dt t2),qaN (dm m1) _ _ _ hb1⟩;have t3':(w.drew.setCells p2 0 c0).there p3 0 c1.length:=qbI (dt t3) _ _ (by rw [hb0];exact fun h=>hp30 h.symm)
 have s3:((w.drew.setCells p2 0 c0).setCells p3 0 c1).rangeAt b0 0 c0∧((w.drew.setCells p2 0 c0).setCells p3 0 c1).rangeAt b1 0 c1:=by
  refine ⟨qaN s2.1 _ _ _ hp30,?_⟩;rcases hp3 with h|h
  ·subst h;exact World.rangeAt_setCells_same _ _ _ _ t3'
  ·exact qaN s2.2 _ _ _ h
 refine wp_region_noPanic ?_;have hQ:∀ c (a:Act) (d:Option Tmp) (v:Value) (w:World),NoPanic Q (.panic c) (a.put d v) w→NoPanic Q (.panic c) a w:=fun _ _ _ _ _ h=>h
 refine wp_region_held_drew (S:=fun W=>W.rangeAt b0 0 c0∧W.rangeAt b1 0 c1) hm ⟨dm m0,dm m1⟩ (fun hS=>?_);refine wpAnyH_take (i:=0) (oi:=o0) (v:=.agg c0.toArray) rfl hsel f0 r0 (fun c a w h=>hQ _ _ _ _ _ h) (yieldsIf_load_mid (by simp [Region.wanted,g0]) ty x0 h0 b0 0 e0 c0 d (fun _ h=>h.1) hu hd hi0) hS ?_;refine wpAnyH_take (i:=1) (oi:=o1) (v:=.agg c1.toArray) rfl hsel f1 r1 (fun c a w h=>hQ _ _ _ _ _ h) (yieldsIf_load_mid (by simp [Region.wanted,g1]) ty x1 h1 b1 0 e1 c1 d (fun _ h=>h.2) hu hd hi1) hS ?_;refine wpAnyH_ready (rs:=[2]) r2 (by simp) (AllReadyH.cons (o:=o2) rfl (fun K hK=>?_) AllReadyH.nil);rw [if_pos (by simp [Region.wanted,g2])];refine wp_store_mid ty x2 y2 h2 p2 0 c0.toArray e2 e2' (by rw [List.size_toArray];exact dt t2) (by rw [List.size_toArray];exact hi0) k0 ?_;refine hK.out _ _ s2 (fun hS2=>?_);refine wpAnyH_ready (rs:=[3]) r3 (by simp) (AllReadyH.cons (o:=o3) rfl (fun K' hK'=>?_) AllReadyH.nil);rw [if_pos (by simp [Region.wanted,g3])];refine wp_store_mid ty x3 y3 h3 p3 0 c1.toArray e3 e3' (by rw [List.size_toArray];exact t3') (by rw [List.size_toArray];exact hi1) k1 ?_;refine hK'.out _ _ s3 (fun hS3=>?_);exact wpAnyH_done r4 (NoPanic.normal hfin) _
theorem qcX {b:Nat} (a:Addr):∀ (vs:List Value) (o:Nat) (w:World),(w.setCells b o vs).frozen? a=w.frozen? a
 | [],_,_=>rfl
 | v::vs,o,w=>(qcX a vs (o+1) (w.setCell ⟨b,o,none⟩ v)).trans (World.frozen?_setCell _ _ _ _)
theorem qcS {w:World} {b v u:Nat} (h:qMO w b 0 32 u):qMO (w.setCells b 0 (lv 32 v)) b 0 32 v:=⟨qdO h,fun j hj=>by rw [qcX];exact h.2 j hj⟩
theorem qeR {w:World} {b n v:Nat} (h:qMO w b 0 n v) (vs:List Value) (b2:Nat) (hb:b2≠b):qMO (w.setCells b2 0 vs) b 0 n v:=⟨qaN h.1 vs b2 0 hb,fun j hj=>by rw [qcX];exact h.2 j hj⟩
theorem qaW {b:Nat}:∀ (vs:List Value) (o:Nat) (w:World),(w.setCells b o vs).heap.size=w.heap.size
 | [],_,_=>rfl
 | v::vs,o,w=>(qaW vs (o+1) (w.setCell ⟨b,o,none⟩ v)).trans (by simp)
theorem qmD (cs:List Value) (h:cs.length=32):Tryz.prog.built 25 [(1,.agg cs.toArray)]=some (Value.bool false::cs).toArray :=
 match cs,h with
 | [c0,c1,c2,c3,c4,c5,c6,c7,c8,c9,c10,c11,c12,c13,c14,c15,c16,c17,c18,c19,c20,c21,c22,c23,c24,c25,c26,c27,c28,c29,c30,c31],_=>by kernel_rfl
theorem quQ (a b:Nat) (w:World) (ha:a<BB^32) (hb:b<BB^32) (h0:b≠0) (hbig:¬(a<BB^2∧b<BB^2)) :
  Calls Tryz.prog 163 #[mV a,mV b] w fun e w'=>e=.returned (.tuple #[mV (a / b),mV (a%b)])∧Below w.heap.size w w':=by
 obtain ⟨N,hN32,hN⟩:=qLE a 32 ha;obtain ⟨K,hK32,hK⟩:=qLE b 32 hb;have hNK:¬(N≤2∧K≤2):=fun h=>hbig ⟨Nat.lt_of_lt_of_le hN.1 (Nat.pow_le_pow_right qbK h.1),Nat.lt_of_lt_of_le hK.1 (Nat.pow_le_pow_right qbK h.2)⟩
 obtain ⟨mA,hmA⟩:=qaJ a;obtain ⟨mB,hmB⟩:=qaJ b
 obtain ⟨nB,hnB⟩:∃ nB,mB=nB+1:=by
  rcases mB with _|n
  ·have:=hmB.1;simp at this;omega
  ·exact ⟨n,rfl⟩
 subst hnB;have hmA2:mA≤1024:=qnP 32 ha hmA;have hnB2:nB+1≤1024:=qnP 32 hb hmB;obtain ⟨q,hq⟩:∃ q,q=a / b:=⟨_,rfl⟩;obtain ⟨r,hr⟩:∃ r,r=a%b:=⟨_,rfl⟩;obtain ⟨w0,hw0,hb0,hs0,hA,hB,hQ,hR⟩:=qtA w a b 23;have HLA:=hid (fun W=>qeU a N W ha hN);have HLB:=hid (fun W=>qeU b K W hb hK);have HTA:=hid (fun W=>qrH false a mA W ha hmA);have HTB:=hid (fun W=>qrH false b (nB+1) W hb hmB);have HW:=hid hb0;have HNUM:=hid (And.intro ha (And.intro hb (And.intro h0 (And.intro hmA hmB))));have HQR:=hid (And.intro hq hr);rw [qbW] at hw0;rw [←hq,←hr];unfold mV;unfold iV at HTA HTB;obtain ⟨ca,hca⟩:∃ ca,ca=lv 32 a:=⟨_,rfl⟩;obtain ⟨cb,hcb⟩:∃ cb,cb=lv 32 b:=⟨_,rfl⟩;obtain ⟨vq,hvq⟩:∃ vq,vq=(lv 32 q).toArray:=⟨_,rfl⟩;obtain ⟨vr,hvr⟩:∃ vr,vr=(lv 32 r).toArray:=⟨_,rfl⟩;have HVQ:=hid hvq;have HVR:=hid hvr;have HCA:=hid hca;have HCB:=hid hcb
 have HLX:=hid (fun W (cs:List Value) (n:Nat) (h:(cs=ca∧n=N)∨(cs=cb∧n=K))=>show Calls Tryz.prog 162 #[.agg cs.toArray] W (fun e w'=>e=.returned (.int .i64 n)∧Below W.heap.size W w') by
  rcases h with ⟨h1,h2⟩|⟨h1,h2⟩
  ·rw [h1,h2,hca];exact HLA.out W
  ·rw [h1,h2,hcb];exact HLB.out W)
 have HTX:=hid (fun W (cs:List Value) (n:Nat) (h:(cs=ca∧n=mA)∨(cs=cb∧n=nB+1))=>show Calls Tryz.prog 132 #[.agg (Value.bool false::cs).toArray] W (fun e w'=>e=.returned (.int .i64 n)∧Below W.heap.size W w') by
  rcases h with ⟨h1,h2⟩|⟨h1,h2⟩
  ·rw [h1,h2,hca];exact HTA.out W
  ·rw [h1,h2,hcb];exact HTB.out W)
 have lca:ca.length=32:=by rw [hca,qlL]
 have lcb:cb.length=32:=by rw [hcb,qlL]
 have HRA:=hid (show w0.rangeAt w.heap.size 0 ca by rw [hca];exact hA);have HRB:=hid (show w0.rangeAt (w.heap.size+1) 0 cb by rw [hcb];exact hB);have HQ:=hid hQ;have HR:=hid hR;have sz:∀ cs:List Value,cs.length=32→(Tryz.prog.info? 23).map (·.size)=some cs.length:=fun cs h=>by rw [h];exact Tryz.infoM
 have HSZ:=hid sz;have HLEN:=hid (And.intro lca lcb);have HU:=hid Tryz.underlying23;rw [←hca,←hcb] at hw0 ⊢;rw [←hvq,←hvr];obtain ⟨va,hva⟩:∃ va,va=ca.toArray:=⟨_,rfl⟩;obtain ⟨vb,hvb⟩:∃ vb,vb=cb.toArray:=⟨_,rfl⟩;rw [←hva,←hvb] at hw0 ⊢;clear hN hK hN32 hK32 hb0 hA hB hQ hR hca hcb lca lcb sz ha hb hq hr hva hvb h0 hvq hvr hmA hmB hbig;go_enter Tryz.func163,Tryz.ntmps163
 go_upto_region 1 with fail
 rw [←hw0];obtain ⟨B0,hB0⟩:∃ B0,B0=w.heap.size:=⟨_,rfl⟩;have HBE:=hid hB0;rw [←hB0] at HRA HRB HQ HR hs0 ⊢;clear hw0 hB0
 go_cut [17] from 10 to 16 (fun p wx=>p=.bool false∧Below w0.heap.size w0 wx)
 case first =>
  go_wp2_with (first
   | (refine wpList_load_mid rfl _ _ rfl B0 0 rfl ca _ HRA.out HU.out rfl (HSZ.out _ HLEN.out.1) ?_))
  refine (HLX.out _ _ _ (.inl ⟨rfl,rfl⟩)).mono ?_;rintro e w1 ⟨rfl,hb1⟩;by_cases hN2:(N:Int)≤2
  ·have hK2:¬(K:Int)≤2:=by omega
   have HRB1:=hid (qaO HRB.out hb1);have HB1:=hid hb1;clear hb1 hNK
   go_wp2_with (first
    | (refine qbL (by rfl) _ _ rfl (B0+1) 0 rfl cb _ HRB1.out HU.out rfl (HSZ.out _ HLEN.out.2) ?_))
   refine (HLX.out _ _ _ (.inr ⟨rfl,rfl⟩)).mono ?_;rintro e w2 ⟨rfl,hb2⟩;have hb12:=HB1.out.trans (hb2.mono HB1.out.size);clear hb2;go_wp2_with fail
   go_meet
   exact ⟨congrArg Value.bool (decide_eq_false (by omega)),hb12⟩
  ·clear hNK;go_wp2_with fail
   go_meet
   exact ⟨rfl,hb1⟩
 case rest =>
  obtain ⟨rfl,hb1⟩:=hcut;have hs1:B0+1+1+1+1≤wc.heap.size:=by have:=hb1.size;omega
  have ra:=qaO HRA.out hb1;have rb:=qaO HRB.out hb1;have HQ1:=hid (HQ.out.up hb1 (by omega));have HR1:=hid (HR.out.up hb1 (by omega));have HW1:=hid (HW.out.trans (hb1.mono HW.out.size));have sa:=HSZ.out _ HLEN.out.1;have sb:=HSZ.out _ HLEN.out.2;have u49:=HU.out;clear hb1 hNK;go_upto_region 3 with fail
  refine qaE (by kernel_rfl) (by kernel_rfl) ?_
  repeat (first
   | (refine qaK rfl _ _ rfl B0 0 rfl ca _ ra u49 rfl sa ?_;try simp only [Act.put,List.setIfInBounds_toArray,List.set_cons_zero,List.set_cons_succ])
   | (refine qaK rfl _ _ rfl (B0+1) 0 rfl cb _ rb u49 rfl sb ?_;try simp only [Act.put,List.setIfInBounds_toArray,List.set_cons_zero,List.set_cons_succ])
   | (refine wqB rfl _ _ rfl _ rfl _ (qmD _ HLEN.out.1) ?_;try simp only [Act.put,List.setIfInBounds_toArray,List.set_cons_zero,List.set_cons_succ])
   | (refine wqB rfl _ _ rfl _ rfl _ (qmD _ HLEN.out.2) ?_;try simp only [Act.put,List.setIfInBounds_toArray,List.set_cons_zero,List.set_cons_succ])
   | go_big_quiet_step ((go_at_call 132;exact qaA (HTX.out _ _ _ (by first|exact .inl ⟨rfl,rfl⟩|exact .inr ⟨rfl,rfl⟩)))))
  refine wpQuiet_nil ?_;intro w' hw';obtain ⟨p,rfl⟩:=hw';have hbg:=qbG wc p.d p.os;obtain ⟨w3,hw3⟩:∃ w3,w3=gw wc p.d p.os:=⟨_,rfl⟩;rw [←hw3] at hbg ⊢;have ra3:=qaO ra hbg;have rb3:=qaO rb hbg;have HQ3:=hid (HQ1.out.up hbg (by omega));have HR3:=hid (HR1.out.up hbg (by omega));have HW3:=hid (HW1.out.trans (hbg.mono HW1.out.size));have hs3:B0+1+1+1+1≤w3.heap.size:=by have:=hbg.size;omega
  clear hbg hw3 ra rb;by_cases hmn:mA≤nB
  ·-- the divisor is the greater
   have hlt:=qzV HNUM.out.2.2.2.1 HNUM.out.2.2.2.2 hmn;have hq0:q=0:=by rw [HQR.out.1];exact Nat.div_eq_of_lt hlt
   have hra:r=a:=by rw [HQR.out.2];exact Nat.mod_eq_of_lt hlt
   obtain ⟨cq,hcq⟩:∃ cq,cq=lv 32 0:=⟨_,rfl⟩;have HVQ2:=hid (show vq=cq.toArray by rw [HVQ.out,hq0,hcq]);have HVR2:=hid (show vr=ca.toArray by rw [HVR.out,hra,HCA.out]);have hrq:w3.rangeAt (B0+1+1) 0 cq:=by rw [hcq];exact HQ3.out.1
   have HONE:=hid (And.intro (show cq.toArray.all (·.oneCell')=true by rw [hcq];exact all_oneCell_toArray (qcM 32 0)) (show ca.toArray.all (·.oneCell')=true by rw [HCA.out];exact all_oneCell_toArray (qcM 32 a)));have lcq:cq.length=32:=by rw [hcq,qlL]
   have hq3:=HQ3.out.there;have hr3:=HR3.out.there;have sq:=HSZ.out _ lcq;clear hcq hlt hq0 hra;go_upto_region 5 with fail
   refine qcP 23 _ _ _ _ _ _ _ (B0+1+1) B0 (B0+1+1) (B0+1+1+1) cq ca (by kernel_rfl) (by kernel_rfl) (by kernel_rfl) (by kernel_rfl) (by kernel_rfl) (by kernel_rfl) (by kernel_rfl) (by kernel_rfl) (by kernel_rfl) rfl rfl rfl rfl rfl rfl rfl rfl u49 rfl sq sa HONE.out.1 HONE.out.2 rfl rfl rfl rfl rfl rfl hrq ra3
    (by rw [lcq];exact hq3) (by rw [HLEN.out.1];exact hr3) (by omega) rfl (.inr (by omega)) (by omega) ?_
   simp only [Act.put,List.setIfInBounds_toArray,List.set_cons_zero,List.set_cons_succ];have hle2:w.heap.size≤B0+1+1:=by rw [←HBE.out];omega
   have hle3:w.heap.size≤B0+1+1+1:=by omega
   have HWE:=hid (qaC hle3 ca 0 _ (qaC hle2 cq 0 _ (qbQ HW3.out)));have g1:=World.rangeAt_setCells_same w3.drew (B0+1+1) 0 cq (by rw [lcq];exact hq3);have g2:=qaN g1 ca (B0+1+1+1) 0 (by omega);have g3:=World.rangeAt_setCells_same (w3.drew.setCells (B0+1+1) 0 cq) (B0+1+1+1) 0 ca (by rw [HLEN.out.1];exact qbI (b2:=B0+1+1) (show w3.drew.there (B0+1+1+1) 0 32 from fun j hj=>hr3 j hj) cq 0 (by omega));go_wp2_with fail
   have hld1:=run_loadVar_mid (P:=Tryz.prog) _ _ _ _ _ _ g2 Tryz.underlying23 rfl sq;have hld2:=run_loadVar_mid (P:=Tryz.prog) _ _ _ _ _ _ g3 Tryz.underlying23 rfl sa;refine bodyPost_ret (v:=.tuple #[.agg cq.toArray,.agg ca.toArray]) (by simp [results,Tryz.results163,asAddr,hld1,hld2]) rfl ?_;exact ⟨by rw [HVQ2.out,HVR2.out],HWE.out⟩
  ·obtain ⟨d,hd⟩:∃ d,d=mA - nB:=⟨_,rfl⟩;have hsub:(mA:Int) - (nB:Int)=(d:Int):=by omega
   have hle:¬(mA:Int)≤(nB:Int):=by omega
   have hd2:d≤1024:=by omega
   have hd1:0<d:=by omega
   have HRB:=hid (show a / 2^d<b by rw [hd];exact jdT HNUM.out.2.2.2.1 HNUM.out.2.2.2.2 (by omega));obtain ⟨r1,hr1⟩:∃ r1,r1=a / 2^d:=⟨_,rfl⟩;rw [←hr1] at HRB;have hr1b:r1<BB^32:=Nat.lt_trans HRB.out HNUM.out.2.1;have HSH:=hid (fun W=>qtU a d W HNUM.out.1 hd2);rw [←hr1] at HSH;unfold mV at HSH;rw [←HCA.out] at HSH;obtain ⟨c1,hc1⟩:∃ c1,c1=lv 32 r1:=⟨_,rfl⟩;rw [←hc1] at HSH;have HC1:=hid hc1;have HONE1:=hid (show c1.toArray.all (·.oneCell')=true by rw [hc1];exact all_oneCell_toArray (qcM 32 r1));have HLEN1:=hid (show c1.length=32 by rw [hc1,qlL]);have HR1E:=hid hr1;clear hc1 hr1 hmn hd
   go_wp2_with (first
    | (refine wpList_load_mid rfl _ _ rfl B0 0 rfl ca _ ra3 u49 rfl sa ?_))
   refine (HSH.out _).mono ?_;rintro e w4 ⟨rfl,hb4⟩;have ra4:=qaO ra3 hb4;have rb4:=qaO rb3 hb4;have hq4:=HQ3.out.up hb4 (by omega);have hr4:=HR3.out.up hb4 (by omega);have hs4:B0+1+1+1+1≤w4.heap.size:=by have:=hb4.size;omega
   have hW4:=HW3.out.trans (hb4.mono HW3.out.size);have HTH:=hid (show w4.there (B0+1+1+1) 0 c1.toArray.size by rw [List.size_toArray,HLEN1.out];exact hr4.there);have HSA:=hid (show (Tryz.prog.info? 23).map (·.size)=some c1.toArray.size by rw [List.size_toArray];exact HSZ.out _ HLEN1.out);obtain ⟨w5,hw5⟩:∃ w5,w5=w4.setCells (B0+1+1+1) 0 c1:=⟨_,rfl⟩;have hle3:w.heap.size≤B0+1+1+1:=by rw [←HBE.out];omega
   have HRA5:=hid (show w5.rangeAt B0 0 ca by rw [hw5];exact qaN ra4 _ _ _ (by omega));have HRB5:=hid (show w5.rangeAt (B0+1) 0 cb by rw [hw5];exact qaN rb4 _ _ _ (by omega));have HQ5:=hid (show qMO w5 (B0+1+1) 0 32 0 by rw [hw5];exact qeR hq4 _ _ (by omega));have HR5:=hid (show qMO w5 (B0+1+1+1) 0 32 r1 by rw [hw5,HC1.out];exact qcS hr4);have HW5:=hid (show Below w.heap.size w w5 by rw [hw5];exact qaC hle3 c1 0 _ hW4);have hs5:B0+1+1+1+1≤w5.heap.size:=by rw [hw5,qaW];exact hs4
   have HW5E:=hid hw5;clear hb4 ra4 rb4 hq4 hr4 hW4 hw5;go_upto_region 7 with (refine wpList_store_mid rfl _ _ _ rfl (B0+1+1+1) 0 _ rfl rfl HTH.out HSA.out HONE1.out ?_)
   try simp only [Act.put,List.setIfInBounds_toArray,List.set_cons_zero,List.set_cons_succ]
   try simp only [List.toList_toArray]
   rw [←HW5E.out];clear ra3 rb3 HQ3 HR3 HW3 HRA HTH HSA HW5E;go_wp2_with fail
   go_loopg [8,9] d (fun g iv cv wr=>∃ (Q rr:Nat) (z:Int),(g:Int)=z+1∧-1≤z∧z≤1023∧a / 2^g=Q*b+rr∧rr<b∧iv=.int .i64 z∧wr.rangeAt B0 0 ca∧wr.rangeAt (B0+1) 0 cb∧qMO wr (B0+1+1) 0 32 (Q*2^g)∧qMO wr (B0+1+1+1) 0 32 rr∧Below w.heap.size w wr∧B0+1+1+1+1≤wr.heap.size)
   case atStart=>exact ⟨0,r1,(d:Int) - 1,by omega,by omega,by omega,by rw [Nat.zero_mul,Nat.zero_add];exact HR1E.out.symm,HRB.out,rfl,HRA5.out,HRB5.out,by rw [Nat.zero_mul];exact HQ5.out,HR5.out,HW5.out,hs5⟩
   case round =>
    obtain ⟨Q,rr,z,hg,hz1,hz2,hdiv,hrb,rfl,ra6,rb6,hQ6,hR6,hW6,hs6⟩:=hrel;clear HRA5 HRB5 HQ5 HR5 HW5 hs5 hs3 hs1 HSH HC1 HONE1 HLEN1 HR1E hsub hle;by_cases hz:0≤z
    ·obtain ⟨i,rfl⟩:∃ i:Nat,z=i:=⟨z.toNat,by omega⟩;have hgi:gk=i+1:=by omega
     obtain ⟨c,hc⟩:∃ c,c=a / 2^i%2:=⟨_,rfl⟩;have hc1:c≤1:=by omega
     obtain ⟨t,ht⟩:∃ t,t=2*rr+c:=⟨_,rfl⟩;obtain ⟨v,hv⟩:∃ v,v=t%BB^32:=⟨_,rfl⟩;obtain ⟨c2,hc2⟩:∃ c2,c2=t / BB^32:=⟨_,rfl⟩;have hvc:2*rr+c=v+c2*BB^32:=by rw [←ht,hv,hc2,Nat.mul_comm];exact (Nat.mod_add_div t (BB^32)).symm
     have hvb:v<BB^32:=by rw [hv];exact Nat.mod_lt _ (BP 32)
     have hrr:rr<BB^32:=Nat.lt_trans hrb HNUM.out.2.1;obtain ⟨ov,hov⟩:∃ ov,ov=decide (c2=1):=⟨_,rfl⟩;have HDB:=hid (fun W=>qyV rr c v c2 W hrr hc1 hvb hvc);rw [←hov] at HDB;unfold mV at HDB;obtain ⟨cr,hcr⟩:∃ cr,cr=lv 32 rr:=⟨_,rfl⟩;obtain ⟨cv,hcv⟩:∃ cv,cv=lv 32 v:=⟨_,rfl⟩;rw [←hcr,←hcv] at HDB;have hk32:i / 32<32:=by omega
     have hx6:=(show MagAt wr B0 0 32 a by have:=ra6;rw [HCA.out] at this;exact this).get hk32;have hQm:(Q*2^(i+1))%2^(i+1)=0:=Nat.mul_mod_left _ _;obtain ⟨y,hy⟩:∃ y,y=2^(i%32):=⟨_,rfl⟩;have hset:=jeX hQm hy;have hbw:=jdU (s:=i%32) (by omega);rw [←hy] at hbw;have hbl:=jgW a i;rw [←hc,←hy] at hbl;rw [hgi] at hQ6 hdiv;have hst:=jcY hdiv hrb;rw [←hc,←ht] at hst;obtain ⟨k,hk⟩:∃ k,k=i / 32:=⟨_,rfl⟩;obtain ⟨s,hs⟩:∃ s,s=i%32:=⟨_,rfl⟩;rw [←hk] at hk32 hx6 hset hbl;rw [←hs] at hy hbw;have hs32:s<32:=by omega
     have hi1:(i:Int) / 32=(k:Int):=by omega
     have hi2:(i:Int)%32=(s:Int):=by omega
     have hi3:IntKind.u64.wrap (s:Int)=(s:Int):=by rw [IntKind.wrap_u64];omega
     obtain ⟨x,hx⟩:∃ x,x=lim a k:=⟨_,rfl⟩;have hxl:x<BB:=hx ▸ qaI a k;rw [←hx] at hx6 hbl;rw [Nat.zero_add] at hx6;obtain ⟨x2,hx2⟩:∃ x2,x2=x / y:=⟨_,rfl⟩;have hsh:(x:Int) / 2^s=(x2:Int):=by rw [hx2,hy];simp
     have hx2l:x2<BB:=by rw [hx2];exact Nat.lt_of_le_of_lt (Nat.div_le_self _ _) hxl
     have hand:=jgX hx2l;rw [hx2,hbl,←hx2] at hand;have hcell:=fun p os=>qaB hx6 p os
     have hr6:wr.rangeAt (B0+1+1+1) 0 cr:=by rw [hcr];exact hR6.1
     have lcr:cr.length=32:=by rw [hcr,qlL]
     have sr:=HSZ.out _ lcr;have HST:=hid hst;have HSET:=hid hset;have HBW:=hid hbw;have HQ6:=hid hQ6;have HR6:=hid hR6;have HW6:=hid hW6;have HRA6:=hid ra6;have HRB6:=hid rb6;have HVC:=hid (And.intro hvc (And.intro hvb (And.intro hrb ht)));have HOV:=hid (And.intro hov hcv);have HIK:=hid (And.intro hk (And.intro hs hy));have HGI:=hid hgi;clear hc hv hc2 hvc hvb hrr hov hcr hcv hx6 hQm hset hbw hbl hdiv hst hx hx2 hxl hx2l hQ6 hR6 hW6 ra6 rb6 ht hrb hk hs hy hgi hz1 hg;go_upto_region 11 with fail
     have lcv:cv.length=32:=by rw [HOV.out.2,qlL]
     have kcv:cv.toArray.all (·.oneCell')=true:=by rw [HOV.out.2];exact all_oneCell_toArray (qcM 32 v)
     have sv:=HSZ.out _ lcv;refine qgH 12 #[true,true,true,true,true,true,true,true,true,true,true,true,false,false,false,false] (fun _=>True) (by kernel_rfl) (by kernel_rfl) ?_;simp only [List.take_succ_cons,List.take_zero];refine qaK rfl _ _ rfl (B0+1+1+1) 0 rfl cr _ hr6 u49 rfl sr ?_;simp only [Act.put,List.setIfInBounds_toArray,List.set_cons_zero,List.set_cons_succ]
     repeat (go_big_quiet_step ((go_at_call 187;exact qaA (HDB.out _))))
     refine wpQuiet_nil ?_;intro w' hw';obtain ⟨p7,rfl⟩:=hw';have hbg:=qbG wr p7.d p7.os;obtain ⟨w7,hw7⟩:∃ w7,w7=gw wr p7.d p7.os:=⟨_,rfl⟩;rw [←hw7] at hbg ⊢;have hs7:B0+1+1+1+1≤w7.heap.size:=by have:=hbg.size;omega
     have ra7:=qaO HRA6.out hbg;have rb7:=qaO HRB6.out hbg;have hq7:=HQ6.out.up hbg (by omega);have hr7:=HR6.out.up hbg (by omega);have hW7:=HW6.out.trans (hbg.mono HW6.out.size);clear hbg hw7 HRA6 HRB6 HQ6 HR6 HW6 hcell hr6 hsh hand;have ht7:w7.there (B0+1+1+1) 0 cv.length:=by rw [lcv];exact hr7.there
     refine qvW 12 13 14 15 67 68 9 23 _ _ (B0+1+1+1) cv (.bool ov) rfl rfl rfl rfl (by kernel_rfl) (by kernel_rfl) (by kernel_rfl) (by kernel_rfl) (by kernel_rfl) (by kernel_rfl) (by kernel_rfl) (by kernel_rfl) rfl rfl rfl rfl rfl rfl rfl rfl rfl rfl rfl rfl rfl rfl rfl rfl rfl ht7 sv kcv ?_;simp only [Act.put,List.setIfInBounds_toArray,List.set_cons_zero,List.set_cons_succ];obtain ⟨w8,hw8⟩:∃ w8,w8=w7.setCells (B0+1+1+1) 0 cv:=⟨_,rfl⟩;have hle3:w.heap.size≤B0+1+1+1:=by rw [←HBE.out];omega
     have hle2:w.heap.size≤B0+1+1:=by rw [←HBE.out];omega
     have HRA8:=hid (show w8.rangeAt B0 0 ca by rw [hw8];exact qaN ra7 _ _ _ (by omega));have HRB8:=hid (show w8.rangeAt (B0+1) 0 cb by rw [hw8];exact qaN rb7 _ _ _ (by omega));have HQ8:=hid (show qMO w8 (B0+1+1) 0 32 (Q*2^(i+1)) by rw [hw8];exact qeR hq7 _ _ (by omega));have HR8:=hid (show qMO w8 (B0+1+1+1) 0 32 v by rw [hw8,HOV.out.2];exact qcS hr7);have HW8:=hid (show Below w.heap.size w w8 by rw [hw8];exact qaC hle3 cv 0 _ hW7);have hs8:B0+1+1+1+1≤w8.heap.size:=by rw [hw8,qaW];exact hs7
     have hcv8:w8.rangeAt (B0+1+1+1) 0 cv:=by rw [HOV.out.2];exact HR8.out.1
     have HCV8:=hid hcv8;rw [←hw8];clear hw8 ra7 rb7 hq7 hr7 hW7 ht7 hs7 hcv8;have HI:=hid (And.intro hi1 (And.intro hi2 hi3));clear hi1 hi2 hi3;by_cases hbt:b≤t
     ·obtain ⟨x',hx'⟩:∃ x',x'=t - b:=⟨_,rfl⟩;have hxb:x'+b=v+c2*BB^32:=by rw [←HVC.out.1,←HVC.out.2.2.2,hx'];omega
      have hstp:=HST.out.1 hbt;rw [←hx'] at hstp;have HDF:=hid (fun W=>qeW v b x' W HVC.out.2.1 HNUM.out.2.1 (Nat.lt_trans hstp.2 HNUM.out.2.1) ⟨c2,hxb⟩);unfold mV at HDF;rw [←HOV.out.2,←HCB.out] at HDF;obtain ⟨cx,hcx⟩:∃ cx,cx=lv 32 x':=⟨_,rfl⟩;rw [←hcx] at HDF;have HCX:=hid hcx;have HSTP:=hid hstp;have HCMP:=hid (fun W=>qhX v b W HVC.out.2.1 HNUM.out.2.1);unfold mV at HCMP;rw [←HOV.out.2,←HCB.out] at HCMP
      have HGE:=hid (show ov=false→0≤cmpI v b by
       intro h;have h1:¬c2=1:=by have:=HOV.out.1;rw [h] at this;exact of_decide_eq_false this.symm
       have h2:c2<2:=by
        rcases Nat.lt_or_ge c2 2 with h2|h2
        ·exact h2
        ·have:=Nat.mul_le_mul_right (BB^32) h2
         have h5:=HVC.out.1;have h6:=HVC.out.2.2.1;have h7:=HNUM.out.2.1;have h8:=BP 32;omega
       have h3:c2=0:=by omega
       have h4:=HVC.out.1;rw [←HVC.out.2.2.2,h3] at h4;have h5:¬v<b:=by omega
       unfold cmpI;rw [if_neg h5]
       split<;>omega)
      clear hcx hstp hxb hx' hbt;go_upto_region 12 with fail
      go_cut [75] from 69 to 74 (fun pk wx=>pk=.bool true∧Below w8.heap.size w8 wx)
      case first =>
       cases ov with
       | true =>
        go_wp2_with fail
        go_meet
        exact ⟨rfl,Below.refl _ _⟩
       | false =>
        have hge:=HGE.out rfl;obtain ⟨cm,hcm⟩:∃ cm,cm=cmpI v b:=⟨_,rfl⟩;rw [←hcm] at HCMP hge;clear hcm
        go_wp2_with (first
         | (refine qbL (by rfl) _ _ rfl (B0+1+1+1) 0 rfl cv _ HCV8.out u49 rfl sv ?_)
         | (refine qbL (by rfl) _ _ rfl (B0+1) 0 rfl cb _ HRB8.out u49 rfl sb ?_))
        refine (HCMP.out _).mono ?_;rintro e w9 ⟨rfl,hb9⟩;go_wp2_with fail
        go_meet
        exact ⟨rfl,hb9⟩
      case rest =>
       obtain ⟨rfl,hb9⟩:=hcut;have ra9:=qaO HRA8.out hb9;have rb9:=qaO HRB8.out hb9;have hq9:=HQ8.out.up hb9 (by omega);have hr9:=HR8.out.up hb9 (by omega);have hW9:=HW8.out.trans (hb9.mono HW8.out.size);have hs9:B0+1+1+1+1≤wc.heap.size:=by have:=hb9.size;omega
       have hcv9:=qaO HCV8.out hb9;have HRA9:=hid ra9;have HRB9:=hid rb9;have HQ9:=hid hq9;have HR9:=hid hr9;have HW9:=hid hW9;have HCV9:=hid hcv9;have HSV:=hid sv;clear hb9 ra9 rb9 hq9 hr9 hW9 hcv9 HRA8 HRB8 HQ8 HR8 HW8 HCV8 hs8 HCMP HGE
       go_wp2_with (first
        | (refine wpList_load_mid rfl _ _ rfl (B0+1+1+1) 0 rfl cv _ HCV9.out u49 rfl HSV.out ?_)
        | (refine wpList_load_mid rfl _ _ rfl (B0+1) 0 rfl cb _ HRB9.out u49 rfl sb ?_))
       refine (HDF.out _).mono ?_;rintro e wd ⟨rfl,hbd⟩;have hqd:=HQ9.out.up hbd (by omega);have hrd:=HR9.out.up hbd (by omega);have rad:=qaO HRA9.out hbd;have rbd:=qaO HRB9.out hbd;have hWd:=HW9.out.trans (hbd.mono HW9.out.size);have hsd:B0+1+1+1+1≤wd.heap.size:=by have:=hbd.size;omega
       have lcx:cx.length=32:=by rw [HCX.out,qlL]
       have HTH:=hid (show wd.there (B0+1+1+1) 0 cx.toArray.size by rw [List.size_toArray,lcx];exact hrd.there);have HSA:=hid (show (Tryz.prog.info? 23).map (·.size)=some cx.toArray.size by rw [List.size_toArray];exact HSZ.out _ lcx);have HONX:=hid (show cx.toArray.all (·.oneCell')=true by rw [HCX.out];exact all_oneCell_toArray (qcM 32 x'));obtain ⟨wf,hwf⟩:∃ wf,wf=wd.setCells (B0+1+1+1) 0 cx:=⟨_,rfl⟩;have HRAf:=hid (show wf.rangeAt B0 0 ca by rw [hwf];exact qaN rad _ _ _ (by omega));have HRBf:=hid (show wf.rangeAt (B0+1) 0 cb by rw [hwf];exact qaN rbd _ _ _ (by omega));have hqf:qMO wf (B0+1+1) 0 32 (Q*2^(i+1)):=by rw [hwf];exact qeR hqd _ _ (by omega)
       have HRf:=hid (show qMO wf (B0+1+1+1) 0 32 x' by rw [hwf,HCX.out];exact qcS hrd);have HWf:=hid (show Below w.heap.size w wf by rw [hwf];exact qaC hle3 cx 0 _ hWd);have hsf:B0+1+1+1+1≤wf.heap.size:=by rw [hwf,qaW];exact hsd
       have HWFE:=hid hwf;have hset:=HSET.out;obtain ⟨L,hL⟩:∃ L,L=lim (Q*2^(i+1)) k:=⟨_,rfl⟩;rw [←hL] at hset;have cq:=hqf.1.get hk32;have fq:=hqf.2 k hk32;rw [Nat.zero_add] at cq fq;rw [←hL] at cq;obtain ⟨D,hD⟩:∃ D,D=L+y:=⟨_,rfl⟩;rw [←hD] at hset
       have HQf:=hid (show qMO (wf.setCell ⟨B0+1+1,k,none⟩ (.int .u32 (D:Nat))) (B0+1+1) 0 32 ((2*Q+1)*2^i) by
        have:=hqf.set hk32 hset.2.1
        rw [Nat.zero_add,hset.2.2] at this
        rwa [show Q*2^(i+1)+2^i=(2*Q+1)*2^i by rw [Nat.pow_succ,Nat.add_mul,Nat.one_mul,Nat.mul_comm 2 Q,Nat.mul_assoc,Nat.mul_comm (2^i) 2]] at this)
       have hor:=hset.1;have HWg:=hid (qbZ HWf.out ⟨B0+1+1,k,none⟩ (.int .u32 (D:Nat)) hle2);clear hbd hqd hrd rad rbd hWd hsd lcx hqf hset hL hwf hs9 hD;go_upto_region 14 with (refine wpList_store_mid rfl _ _ _ rfl (B0+1+1+1) 0 _ rfl rfl HTH.out HSA.out HONX.out ?_)
       try simp only [Act.put,List.setIfInBounds_toArray,List.set_cons_zero,List.set_cons_succ]
       try simp only [List.toList_toArray]
       rw [←HWFE.out];have hi1:=HI.out.1;have hi2:=HI.out.2.1;have hi3:=HI.out.2.2;have hbw:=HBW.out;go_wp2_with fail
       have HGI2:=HGI.out;go_roundg i
       case measure=>omega
       case rel=>exact ⟨2*Q+1,x',(i:Int) - 1,by omega,by omega,by omega,HSTP.out.1,HSTP.out.2,by go_num,fun j u hu=>qcF (HRAf.out j u hu) ⟨B0+1+1,k,none⟩ (.int .u32 (D:Nat)) (show B0+1+1≠B0 by omega),fun j u hu=>qcF (HRBf.out j u hu) ⟨B0+1+1,k,none⟩ (.int .u32 (D:Nat)) (show B0+1+1≠B0+1 by omega),HQf.out,HRf.out.setOther ⟨B0+1+1,k,none⟩ (.int .u32 (D:Nat)) (show B0+1+1≠B0+1+1+1 by omega),HWg.out,by simpa using hsf⟩
     ·have hstp:=HST.out.2 (by omega)
      have hnum:c2=0∧v=t:=by
       have h5:=HVC.out.1;have h6:=HVC.out.2.2.2;have h7:=HNUM.out.2.1
       have h2:c2=0:=by
        rcases Nat.eq_zero_or_pos c2 with h2|h2
        ·exact h2
        ·have:=Nat.mul_le_mul_right (BB^32) h2
         omega
       rw [h2] at h5;exact ⟨h2,by omega⟩
      have hov:ov=false:=by rw [HOV.out.1,hnum.1];rfl
      subst hov;have HCMP:=hid (fun W=>qhX v b W HVC.out.2.1 HNUM.out.2.1);rw [show cmpI v b=-1 by unfold cmpI;rw [if_pos (by omega)]] at HCMP;unfold mV at HCMP;rw [←HOV.out.2,←HCB.out] at HCMP;have HSTP:=hid hstp;have HVT:=hid (And.intro hnum.2 (show t<b by omega));clear hstp hnum hbt;go_upto_region 12 with fail
      go_wp2_with (first
       | (refine qbL (by rfl) _ _ rfl (B0+1+1+1) 0 rfl cv _ HCV8.out u49 rfl sv ?_)
       | (refine qbL (by rfl) _ _ rfl (B0+1) 0 rfl cb _ HRB8.out u49 rfl sb ?_))
      refine (HCMP.out _).mono ?_;rintro e w9 ⟨rfl,hb9⟩;have HRA9:=hid (qaO HRA8.out hb9);have HRB9:=hid (qaO HRB8.out hb9);have HQ9:=hid (HQ8.out.up hb9 (by omega));have HR9:=hid (HR8.out.up hb9 (by omega));have HW9:=hid (HW8.out.trans (hb9.mono HW8.out.size));have hs9:B0+1+1+1+1≤w9.heap.size:=by have:=hb9.size;omega
      clear hb9;go_wp2_with fail
      have HGI2:=HGI.out;go_roundg i
      case measure=>omega
      case rel=>exact ⟨2*Q,t,(i:Int) - 1,by omega,by omega,by omega,HSTP.out,HVT.out.2,by go_num,HRA9.out,HRB9.out,by
       have:=HQ9.out
       rwa [show Q*2^(i+1)=2*Q*2^i by rw [Nat.pow_succ,Nat.mul_comm 2 Q,Nat.mul_assoc,Nat.mul_comm (2^i) 2]] at this,by have:=HR9.out;rwa [HVT.out.1] at this,HW9.out,hs9⟩
    ·obtain rfl:z=-1:=by omega
     obtain rfl:gk=0:=by omega
     obtain ⟨hQe,hre⟩:=jgO hdiv hrb;rw [←HQR.out.1] at hQe;rw [←HQR.out.2] at hre;subst hQe hre;rw [Nat.pow_zero,Nat.mul_one] at hQ6;obtain ⟨cq,hcq⟩:∃ cq,cq=lv 32 Q:=⟨_,rfl⟩;obtain ⟨cr,hcr⟩:∃ cr,cr=lv 32 rr:=⟨_,rfl⟩;have HVQ2:=hid (show vq=cq.toArray by rw [HVQ.out,hcq]);have HVR2:=hid (show vr=cr.toArray by rw [HVR.out,hcr]);have hrq:wr.rangeAt (B0+1+1) 0 cq:=by rw [hcq];exact hQ6.1
     have hrr:wr.rangeAt (B0+1+1+1) 0 cr:=by rw [hcr];exact hR6.1
     have lcq:cq.length=32:=by rw [hcq,qlL]
     have lcr:cr.length=32:=by rw [hcr,qlL]
     have kcq:cq.toArray.all (·.oneCell')=true:=by rw [hcq];exact all_oneCell_toArray (qcM 32 Q)
     have kcr:cr.toArray.all (·.oneCell')=true:=by rw [hcr];exact all_oneCell_toArray (qcM 32 rr)
     have hq6:=hQ6.there;have hr6:=hR6.there;have sq:=HSZ.out _ lcq;have sr:=HSZ.out _ lcr;have HW6:=hid hW6;clear hcq hcr hQ6 hR6 hdiv hrb hW6 ra6 rb6 hg hz hz1 hz2;go_upto_region 15 with fail
     refine qcP 23 _ _ _ _ _ _ _ (B0+1+1) (B0+1+1+1) (B0+1+1) (B0+1+1+1) cq cr (by kernel_rfl) (by kernel_rfl) (by kernel_rfl) (by kernel_rfl) (by kernel_rfl) (by kernel_rfl) (by kernel_rfl) (by kernel_rfl) (by kernel_rfl) rfl rfl rfl rfl rfl rfl rfl rfl u49 rfl sq sr kcq kcr rfl rfl rfl rfl rfl rfl hrq hrr
      (by rw [lcq];exact hq6) (by rw [lcr];exact hr6) (by omega) rfl (.inl rfl) (by omega) ?_
     simp only [Act.put,List.setIfInBounds_toArray,List.set_cons_zero,List.set_cons_succ];have hle2:w.heap.size≤B0+1+1:=by rw [←HBE.out];omega
     have hle3:w.heap.size≤B0+1+1+1:=by omega
     have HWE:=hid (qaC hle3 cr 0 _ (qaC hle2 cq 0 _ (qbQ HW6.out)));have g1:=World.rangeAt_setCells_same wr.drew (B0+1+1) 0 cq (by rw [lcq];exact hq6);have g2:=qaN g1 cr (B0+1+1+1) 0 (by omega);have g3:=World.rangeAt_setCells_same (wr.drew.setCells (B0+1+1) 0 cq) (B0+1+1+1) 0 cr (by rw [lcr];exact qbI (b2:=B0+1+1) (show wr.drew.there (B0+1+1+1) 0 32 from fun j hj=>hr6 j hj) cq 0 (by omega));go_wp2_with fail
     have hld1:=run_loadVar_mid (P:=Tryz.prog) _ _ _ _ _ _ g2 Tryz.underlying23 rfl sq;have hld2:=run_loadVar_mid (P:=Tryz.prog) _ _ _ _ _ _ g3 Tryz.underlying23 rfl sr;refine bodyPost_ret (v:=.tuple #[.agg cq.toArray,.agg cr.toArray]) (by simp [results,Tryz.results163,asAddr,hld1,hld2]) rfl ?_;exact ⟨by rw [HVQ2.out,HVR2.out],HWE.out⟩
theorem qpN (a b:Nat) (w:World) (ha:a<BB^32) (hb:b<BB^32) (h0:b≠0) :
  Calls Tryz.prog 163 #[mV a,mV b] w fun e w'=>e=.returned (.tuple #[mV (a / b),mV (a%b)])∧Below w.heap.size w w':=by
 by_cases h:a<BB^2∧b<BB^2
 ·exact qpM a b w h.1 h.2 h0
 ·exact quQ a b w ha hb h0 h
end Go.Proofs.YtemoddmadfoaiaaGreat
namespace Go.Proofs.YtemoddmadfoaiaaGreat
theorem zz1 {α:Type} (l:List α) (i:Nat) (a:α):l.toArray.setIfInBounds i a=(l.set i a).toArray:=List.setIfInBounds_toArray l i a
theorem zz2 {α:Type} (x a:α) (l:List α):(x::l).set 0 a=a::l:=rfl
theorem zz3 {α:Type} (x a:α) (l:List α) (i:Nat):(x::l).set (i+1) a=x::l.set i a:=rfl
theorem zq:(∀ (a:Act) (d:Tmp) (v:Value),Act.put a (some d) v={ a with tmps:=a.tmps.setIfInBounds d v })∧(∀ (a:Act) (v:Value),Act.put a none v=a)∧(∀ {α:Type} (l:List α) (i:Nat) (a:α),l.toArray.setIfInBounds i a=(l.set i a).toArray)∧(∀ {α:Type} (x a:α) (l:List α),(x::l).set 0 a=a::l)∧(∀ {α:Type} (x a:α) (l:List α) (i:Nat),(x::l).set (i+1) a=x::l.set i a):=⟨fun _ _ _=>rfl,fun _ _=>rfl,fun _ _ _=>List.setIfInBounds_toArray _ _ _,fun _ _ _=>rfl,fun _ _ _ _=>rfl⟩
theorem zr:(∀ {α β:Type} (f:β→α→β) (b:β) (a:α) (l:List α),(a::l).foldl f b=l.foldl f (f b a))∧(∀ {α β:Type} (f:β→α→β) (b:β),([]:List α).foldl f b=b)∧(∀ {h:Decidable True} (t e:Act),@ite Act True h t e=t)∧(∀ {h:Decidable False} (t e:Act),@ite Act False h t e=e)∧(false=true)=False:=⟨fun _ _ _ _=>rfl,fun _ _=>rfl,fun _ _=>if_pos trivial,fun _ _=>if_neg not_false,by simp⟩
theorem mms {α:Type} {a:α} {l:List α}:a∈a::l:=List.mem_cons_self
theorem wqn {P:Program} {ops:Array Oper} {C:World→Prop} {Q:Act→Prop} {a:Act} (h:Q a):wpQuiet P ops C Q [] a:=wpQuiet_nil h
theorem zz4 {α β:Type} (f:β→α→β) (b:β) (a:α) (l:List α):(a::l).foldl f b=l.foldl f (f b a):=rfl
theorem zz5 {α β:Type} (f:β→α→β) (b:β):([]:List α).foldl f b=b:=rfl
open Go.RowKit
structure Pl where
  new:Bool
  i:Nat
  d:Tmp
  s:Nat
  b:Nat
  o:Nat
  ty:TypeId
  x:Tmp
  cs:List Value
  so:Nat
  scs:List Value
  pre:List Value
def Pl.blk (β:Nat→Nat) (p:Pl):Nat:=if p.new then β p.i else p.b
def isA (pl:List Pl) (k:Nat):Bool:=pl.any fun p=>p.new&&p.i==k
def isS (pl:List Pl) (k:Nat):Bool:=pl.any fun p=>p.s==k
def waitsIn (ops:Array Oper):Nat→Nat→Nat→Bool
  | 0,_,_=>false
  | f+1,s,k=>match ops[s]? with|some o=>o.after.any (fun e=>Region.binds .any e&&(e.on==k || waitsIn ops f e.on k))|none=>false
def early (ops:Array Oper) (pl:List Pl) (k:Nat):Bool:=pl.all fun p=>p.new || waitsIn ops 4 p.s k
def dstIs (ops:Array Oper) (i:Nat) (t:Tmp):Bool:=match ops[i]? with|some o=>o.dst==some t|none=>false
def opB (ops:Array Oper) (pl:List Pl) (L:List Tmp) (j:Nat) (o:Oper):Bool :=
  o.after.all (fun e=>!Region.binds .any e || decide (e.on<j)) &&
  (o.looksAt ops).all (fun t=>(List.range ops.size).all fun i=>!dstIs ops i t || (if L.contains t then waitsIn ops 4 i j else Region.waitsFor .any ops j i)) &&
  (!(o.looksAt ops).any (L.contains ·) || (match o.dst with|some d=>!L.contains d|none=>true)) &&
  (match o.dst with|some d=>(List.range ops.size).all (fun i=>i==j || !dstIs ops i d)|none=>true) &&
  (isS pl j || pl.all fun p=>!p.new || !(o.looksAt ops).contains p.d)
def placeB (ops:Array Oper) (pl:List Pl) (L:List Tmp) (p:Pl):Bool :=
  !L.contains p.x&&!L.contains p.d &&
  (match ops[p.s]? with
    | some o=>o.guard.isNone&&o.dst.isNone&&(match o.op with|.store ty (.tmp d) (.tmp t)=>ty==p.ty&&d==p.d&&t==p.x&&pl.all (fun q=>!q.new || q.d != t)|_=>false)
    | none=>false) &&
  (if p.new then (match ops[p.i]? with|some o=>o.guard.isNone&&(match o.dst with|some d=>d==p.d|none=>false)&&(match o.op with|.alloc ty=>ty==p.ty|_=>false)|none=>false)&&Region.waitsFor .any ops p.s p.i&&p.o==0&&!isS pl p.i
   else pl.all (fun q=>!q.new || q.d != p.d))
def pairB (f:Pl→Pl→Bool):List Pl→Bool
  | []=>true
  | p::l=>l.all (f p)&&pairB f l
def plB (p q:Pl):Bool:=p.s != q.s&&(!p.new || !q.new || (p.i != q.i&&p.d != q.d))
def flowBL (ops:Array Oper) (pl:List Pl) (L:List Tmp) (ts:List Tmp) (n:Nat):Bool :=
  Region.noSelect ops&&(List.range ops.size).all (fun j=>match ops[j]? with|none=>true|some o=>opB ops pl L j o)&&pl.all (placeB ops pl L)&&pairB plB pl &&
  ts.all (fun t=>decide (t<n)&&(List.range ops.size).any fun i=>dstIs ops i t&&!isA pl i)&&pl.all (fun p=>!p.new || decide (p.d<n))
def flowB (ops:Array Oper) (pl:List Pl) (ts:List Tmp) (n:Nat):Bool:=flowBL ops pl [] ts n
def frm (ops:Array Oper) (L:List Tmp) (fin fin2:Act) (o:Oper):Act:=if (o.looksAt ops).any (L.contains ·)=true then fin2 else fin
theorem qkU {f:Pl→Pl→Bool} (hf:∀ p q,f p q=f q p):∀ {l:List Pl},pairB f l=true→∀ p∈l,∀ q∈l,p=q∨f p q=true
  | [],_,p,hp,_,_=>by cases hp
  | x::l,h,p,hp,q,hq=>by
    simp only [pairB,Bool.and_eq_true] at h;rcases List.mem_cons.1 hp with e1|h1
    · rcases List.mem_cons.1 hq with e2|h2
      · exact .inl (e1.trans e2.symm)
      · exact .inr (by rw [e1];exact List.all_eq_true.1 h.1 q h2)
    · rcases List.mem_cons.1 hq with e2|h2
      · exact .inr (by rw [hf,e2];exact List.all_eq_true.1 h.1 p h1)
      · exact qkU hf h.2 p h1 q h2
theorem jbP (p q:Pl):plB p q=plB q p:=by
  unfold plB;have e:∀ a b:Nat,(a != b)=(b != a):=fun a b=>by rw [bne_comm]
  rw [e p.s,e p.i,e p.d]
  cases p.new<;>cases q.new<;>simp
theorem qcJ (k b:Nat) (hk:k≠b):∀ (vs:List Value) (o:Nat) (w:World),(w.setCells b o vs).heap[k]?=w.heap[k]?
  | [],_,_=>rfl
  | v::vs,o,w=>by rw [World.setCells,qcJ k b hk vs];exact Below.heap_setCell _ _ _ _ (by simpa using hk)
theorem qwE (b:Nat):∀ (vs:List Value) (o:Nat) (w:World),(w.setCells b o vs).os=w.os∧(w.setCells b o vs).tape=w.tape∧(w.setCells b o vs).output=w.output
  | [],_,_=>⟨rfl,rfl,rfl⟩
  | v::vs,o,w=>qwE b vs (o+1) (w.setCell ⟨b,o,none⟩ v)
structure FlowJ (ops:Array Oper) (pl:List Pl) (fin ini:Act) (W:World) (β:Nat→Nat) (seen:Array Bool) (a:Act) (w:World):Prop where
  ssz:seen.size=ops.size
  closed:∀ j oj,ops[j]?=some oj→seen.getD j false=true→∀ e∈oj.after,Region.binds .any e=true→seen.getD e.on false=true
  size:a.tmps.size=fin.tmps.size
  defers:a.defers=fin.defers
  same:∀ t,(∀ p∈pl,p.new=true→p.d≠t)→(∀ (i:Nat) (o:Oper),ops[i]?=some o→o.dst=some t→seen.getD i false=true)→a.tmps[t]?=fin.tmps[t]?
  init:∀ t,(∀ (i:Nat) (o:Oper),ops[i]?=some o→o.dst=some t→seen.getD i false=false)→a.tmps[t]?=ini.tmps[t]?
  os:w.os=W.os
  tape:w.tape=W.tape
  output:w.output=W.output
  big:W.heap.size≤w.heap.size
  keep:∀ k,k<W.heap.size→(∀ p∈pl,p.new=false→p.b=k→seen.getD p.s false=false)→w.heap[k]?=W.heap[k]?
  laid:∀ p∈pl,p.new=true→seen.getD p.i false=true→W.heap.size≤β p.i∧β p.i<w.heap.size∧a.tmps[p.d]?=some (.pointer (some ⟨β p.i,0,none⟩))∧w.there (β p.i) 0 p.cs.length
  old:∀ p∈pl,p.new=false→w.there p.b p.o p.cs.length
  apart:∀ p∈pl,∀ q∈pl,p.new=true→q.new=true→seen.getD p.i false=true→seen.getD q.i false=true→β p.i=β q.i→p.i=q.i
  held:∀ p∈pl,seen.getD p.s false=true→w.rangeAt (p.blk β) p.o p.cs
structure FlowK (pl:List Pl) (W w:World):Prop where
  os:w.os=W.os
  tape:w.tape=W.tape
  output:w.output=W.output
  big:W.heap.size≤w.heap.size
  keep:∀ k,k<W.heap.size→(∀ p∈pl,p.new=false→p.b≠k)→w.heap[k]?=W.heap[k]?
section
variable {P:Program} {ops:Array Oper} {pl:List Pl} {L:List Tmp} {fin fin2 ini:Act} {W:World} {β:Nat→Nat} {seen:Array Bool} {a:Act} {w:World}
theorem qbE {j i:Nat} (h:(seen.setIfInBounds j true).getD i false=true):j=i∨seen.getD i false=true:=by
  by_cases e:j=i
  · exact .inl e
  · right;rwa [getD_set_ne false e] at h
theorem qdP {j i:Nat} (h:(seen.setIfInBounds j true).getD i false=false):seen.getD i false=false:=by
  cases hs:seen.getD i false with
  | false=>rfl
  | true=>rw [getD_set_true hs] at h;cases h
theorem FlowJ.shut (J:FlowJ ops pl fin ini W β seen a w) {j:Nat} (hr:j∈Region.ready .any ops seen) :
    ∀ k ok,ops[k]?=some ok→(seen.setIfInBounds j true).getD k false=true→∀ e∈ok.after,Region.binds .any e=true→(seen.setIfInBounds j true).getD e.on false=true:=by
  obtain ⟨_,oj,hoj,hall⟩:=mem_ready.1 hr;intro k ok hk hs e he hb;rcases qbE hs with rfl|hs
  · obtain rfl:=Option.some.inj (hk.symm.trans hoj)
    exact getD_set_true (hall e he hb)
  · exact getD_set_true (J.closed k ok hk hs e he hb)
theorem qhK (hcl:∀ j oj,ops[j]?=some oj→seen.getD j false=true→∀ e∈oj.after,Region.binds .any e=true→seen.getD e.on false=true) {s i:Nat} (h:Region.waitsFor .any ops s i=true) (hs:seen.getD s false=true):seen.getD i false=true:=by
  obtain ⟨o,ho,e,he,hb,rfl⟩:=Region.waitsFor_spec h;exact hcl s o ho hs e he hb
theorem qcL (hcl:∀ j oj,ops[j]?=some oj→seen.getD j false=true→∀ e∈oj.after,Region.binds .any e=true→seen.getD e.on false=true):∀ (f s i:Nat),waitsIn ops f s i=true→seen.getD s false=true→seen.getD i false=true
  | 0,_,_,h,_=>by simp [waitsIn] at h
  | f+1,s,i,h,hs=>by
    unfold waitsIn at h;split at h
    · rename_i o ho
      obtain ⟨e,he,hb⟩:=Array.any_eq_true'.1 h;simp only [Bool.and_eq_true,Bool.or_eq_true,beq_iff_eq] at hb;have h1:=hcl s o ho hs e he hb.1;rcases hb.2 with rfl|h2
      · exact h1
      · exact qcL hcl f e.on i h2 h1
    · cases h
theorem qeO {s i:Nat} (h:Region.waitsFor .any ops s i=true) (hs:s∈Region.ready .any ops seen):seen.getD i false=true:=by
  obtain ⟨o,ho,e,he,hb,rfl⟩:=Region.waitsFor_spec h;obtain ⟨_,o',ho',hall⟩:=mem_ready.1 hs;obtain rfl:=Option.some.inj (ho.symm.trans ho');exact hall e he hb
structure FlowC (ops:Array Oper) (pl:List Pl) (L:List Tmp):Prop where
  sel:∀ (j:Nat) (o:Oper) cs b,ops[j]?=some o→o.op≠.select cs b
  less:∀ (j:Nat) (o:Oper),ops[j]?=some o→∀ e∈o.after,Region.binds .any e=true→e.on<j
  looks:∀ (j:Nat) (o:Oper),ops[j]?=some o→∀ t∈o.looksAt ops,t∉L→∀ (i:Nat) (oi:Oper),ops[i]?=some oi→oi.dst=some t→Region.waitsFor .any ops j i=true
  looksL:∀ (j:Nat) (o:Oper),ops[j]?=some o→∀ t∈o.looksAt ops,t∈L→∀ (i:Nat) (oi:Oper),ops[i]?=some oi→oi.dst=some t→waitsIn ops 4 i j=true
  dstL:∀ (j:Nat) (o:Oper),ops[j]?=some o→(o.looksAt ops).any (L.contains ·)=true→∀ d,o.dst=some d→d∉L
  dsts:∀ (j:Nat) (o:Oper) (d:Tmp),ops[j]?=some o→o.dst=some d→∀ (i:Nat) (oi:Oper),ops[i]?=some oi→oi.dst=some d→i=j
  free:∀ (j:Nat) (o:Oper),ops[j]?=some o→isS pl j=false→∀ p∈pl,p.new=true→p.d∉o.looksAt ops
  store:∀ p∈pl,∃ o,ops[p.s]?=some o∧o.guard=none∧o.dst=none∧o.op=.store p.ty (.tmp p.d) (.tmp p.x)∧(∀ q∈pl,q.new=true→q.d≠p.x)∧p.x∉L∧p.d∉L
  lay:∀ p∈pl,p.new=true→∃ o,ops[p.i]?=some o∧o.guard=none∧o.dst=some p.d∧o.op=.alloc p.ty∧Region.waitsFor .any ops p.s p.i=true∧p.o=0∧isS pl p.i=false
  oldd:∀ p∈pl,p.new=false→∀ q∈pl,q.new=true→q.d≠p.d
  two:∀ p∈pl,∀ q∈pl,p=q∨(p.s≠q.s∧(p.new=true→q.new=true→p.i≠q.i∧p.d≠q.d))
theorem qfK {i:Nat} {t:Tmp}:dstIs ops i t=true↔∃ o,ops[i]?=some o∧o.dst=some t:=by
  unfold dstIs
  cases h:ops[i]? with
  | none=>simp
  | some o=>simp
theorem jiA {ts:List Tmp} {n:Nat} (h:flowBL ops pl L ts n=true):FlowC ops pl L∧(∀ t∈ts,t<n∧∃ i o,ops[i]?=some o∧o.dst=some t∧isA pl i=false)∧∀ p∈pl,p.new=true→p.d<n:=by
  simp only [flowBL,Bool.and_eq_true] at h;obtain ⟨⟨⟨⟨⟨h1,h2⟩,h3⟩,h4⟩,h5⟩,h6⟩:=h
  have h2':∀ j o,ops[j]?=some o→opB ops pl L j o=true:=fun j o ho=>by
    have:=List.all_eq_true.1 h2 j (List.mem_range.2 (Array.getElem?_eq_some_iff.1 ho).1)
    simpa [ho] using this
  have inR:∀ i o,ops[i]?=some o→i∈List.range ops.size:=fun i o ho=>List.mem_range.2 (Array.getElem?_eq_some_iff.1 ho).1
  refine ⟨⟨Region.noSelect_spec h1,?_,?_,?_,?_,?_,?_,?_,?_,?_,?_⟩,?_,?_⟩
  · intro j o ho e he hb
    have:=h2' j o ho
    simp only [opB,Bool.and_eq_true] at this
    have:=Array.all_eq_true_iff_forall_mem.1 this.1.1.1.1 e he
    simpa [hb] using this
  · intro j o ho t ht htL i oi hi hd
    have:=h2' j o ho
    simp only [opB,Bool.and_eq_true] at this
    have:=List.all_eq_true.1 (List.all_eq_true.1 this.1.1.1.2 t ht) i (inR i oi hi)
    have hdi:dstIs ops i t=true:=qfK.2 ⟨oi,hi,hd⟩;have hc:L.contains t=false:=by simpa using htL
    rw [hc] at this
    simpa [hdi] using this
  · intro j o ho t ht htL i oi hi hd
    have:=h2' j o ho
    simp only [opB,Bool.and_eq_true] at this
    have:=List.all_eq_true.1 (List.all_eq_true.1 this.1.1.1.2 t ht) i (inR i oi hi)
    have hdi:dstIs ops i t=true:=qfK.2 ⟨oi,hi,hd⟩;have hc:L.contains t=true:=by simpa using htL
    rw [hc] at this
    simpa [hdi] using this
  · intro j o ho hany d hd
    have:=h2' j o ho
    simp only [opB,Bool.and_eq_true] at this
    have:=this.1.1.2
    rw [hany,hd] at this
    simpa using this
  · intro j o d ho hd i oi hi hdi
    have:=h2' j o ho
    simp only [opB,Bool.and_eq_true,hd] at this
    have:=List.all_eq_true.1 this.1.2 i (inR i oi hi)
    have hdi:dstIs ops i d=true:=qfK.2 ⟨oi,hi,hdi⟩
    simpa [hdi] using this
  · intro j o ho hs p hp hn
    have:=h2' j o ho
    simp only [opB,Bool.and_eq_true,hs,Bool.false_or] at this
    have:=List.all_eq_true.1 this.2 p hp
    simpa [hn] using this
  · intro p hp
    have:=List.all_eq_true.1 h3 p hp
    simp only [placeB,Bool.and_eq_true] at this;have hLx:p.x∉L:=by simpa using this.1.1.1
    have hLd:p.d∉L:=by simpa using this.1.1.2
    have:=this.1.2
    split at this
    · rename_i o ho
      simp only [Bool.and_eq_true,Option.isNone_iff_eq_none] at this;obtain ⟨⟨hg,hd⟩,hm⟩:=this;split at hm
      · rename_i ty d t hop
        simp only [Bool.and_eq_true,beq_iff_eq] at hm;obtain ⟨⟨⟨rfl,rfl⟩,rfl⟩,hm⟩:=hm;exact ⟨o,ho,hg,hd,hop,fun q hq hn=>by have:=List.all_eq_true.1 hm q hq;simpa [hn] using this,hLx,hLd⟩
      · cases hm
    · cases this
  · intro p hp hn
    have:=List.all_eq_true.1 h3 p hp
    simp only [placeB,Bool.and_eq_true,hn,if_true] at this;obtain ⟨⟨⟨this,hw⟩,ho0⟩,hs⟩:=this.2;split at this
    · rename_i o ho
      simp only [Bool.and_eq_true,Option.isNone_iff_eq_none] at this;obtain ⟨⟨hg,hd⟩,hm⟩:=this;split at hd
      · rename_i d hdd
        split at hm
        · rename_i ty hop
          simp only [beq_iff_eq] at hd ho0 hm;subst hd;subst hm;exact ⟨o,ho,hg,hdd,hop,hw,ho0,by simpa using hs⟩
        · cases hm
      · cases hd
    · cases this
  · intro p hp hn q hq hqn
    have:=List.all_eq_true.1 h3 p hp
    simp only [placeB,Bool.and_eq_true,hn,Bool.false_eq_true,if_false] at this
    have:=List.all_eq_true.1 this.2 q hq
    simpa [hqn] using this
  · intro p hp q hq
    rcases qkU jbP h4 p hp q hq with rfl|h
    · exact .inl rfl
    · right
      simp only [plB,Bool.and_eq_true,bne_iff_ne,ne_eq] at h;refine ⟨h.1,fun hp' hq'=>?_⟩
      have:=h.2
      simpa [hp',hq'] using this
  · intro t ht
    have:=List.all_eq_true.1 h5 t ht
    simp only [Bool.and_eq_true,decide_eq_true_eq] at this;obtain ⟨i,hi,hb⟩:=List.any_eq_true.1 this.2;simp only [Bool.and_eq_true] at hb;obtain ⟨o,ho,hd⟩:=qfK.1 hb.1;exact ⟨this.1,i,o,ho,hd,by simpa using hb.2⟩
  · intro p hp hn
    have:=List.all_eq_true.1 h6 p hp
    simpa [hn] using this
theorem qeI {t:Tmp} {dst:Option Tmp} {v:Value} (h:dst≠some t) (a:Act):(a.put dst v).tmps[t]?=a.tmps[t]?:=by
  cases dst with
  | none=>rfl
  | some d=>simp only [Act.put];exact Array.getElem?_setIfInBounds_ne (by rintro rfl;exact h rfl)
theorem qdA (a:Act) (dst:Option Tmp) (v:Value):(a.put dst v).tmps.size=a.tmps.size:=by cases dst<;>simp [Act.put]
theorem qdQ (a:Act) (dst:Option Tmp) (v:Value):(a.put dst v).defers=a.defers:=by cases dst<;>rfl
theorem FlowJ.sees (C:FlowC ops pl L) (J:FlowJ ops pl fin ini W β seen a w) {j:Nat} {oj:Oper} (hr:j∈Region.ready .any ops seen) (hoj:ops[j]?=some oj) {t:Tmp} (ht:t∈oj.looksAt ops) (htL:t∉L) (hp:∀ p∈pl,p.new=true→p.d≠t):a.tmps[t]?=fin.tmps[t]? :=
  J.same t hp fun i o hi hd=>qeO (C.looks j oj hoj t ht htL i o hi hd) hr
theorem FlowJ.seesL (C:FlowC ops pl L) (J:FlowJ ops pl fin ini W β seen a w) {j:Nat} {oj:Oper} (hr:j∈Region.ready .any ops seen) (hoj:ops[j]?=some oj) {t:Tmp} (ht:t∈oj.looksAt ops) (htL:t∈L):a.tmps[t]?=ini.tmps[t]? :=
  J.init t fun i o hi hd=>by
    cases hs:seen.getD i false with
    | false=>rfl
    | true =>
      have:=qcL J.closed _ _ _ (C.looksL j oj hoj t ht htL i o hi hd) hs
      have h0:=(mem_ready.1 hr).1;rw [getD_both h0] at this;cases this
theorem qhE {o:Oper} {a b:Act} (hs:∀ cs x,o.op≠.select cs x) (h:∀ t∈o.looksAt ops,a.tmps[t]?=b.tmps[t]?):execOp a.eval o=execOp b.eval o :=
  execOp_congr o hs fun x hx=>by
    cases x with
    | tmp t =>
      have:=h t (List.mem_append_left _ (List.mem_filterMap.2 ⟨.tmp t,by simpa using hx,rfl⟩))
      simp [Act.eval,this]
    | const v=>rfl
    | global g=>rfl
    | func f=>rfl
theorem qeN {o:Oper} {a b:Act} (h:∀ t∈o.looksAt ops,a.tmps[t]?=b.tmps[t]?):Region.wanted o (yielded ops a.tmps)=Region.wanted o (yielded ops b.tmps):=by
  unfold Region.wanted
  cases hg:o.guard with
  | none=>rfl
  | some gw =>
    obtain ⟨g,want⟩:=gw;simp only
    congr 1
    unfold yielded
    cases hd:(ops[g]?).bind (·.dst) with
    | none=>rfl
    | some t =>
      have:a.tmps[t]?=b.tmps[t]?:=h t (List.mem_append_right _ (by simp [hg,hd]))
      simp [this]
theorem FlowJ.move (C:FlowC ops pl L) (J:FlowJ ops pl fin ini W β seen a w) {j:Nat} {oj:Oper} (hr:j∈Region.ready .any ops seen) (hoj:ops[j]?=some oj) (hA:isA pl j=false) (hS:isS pl j=false)
    {v:Value} (hv:fin.put oj.dst v=fin) {w':World} (hb:Below w.heap.size w w'):FlowJ ops pl fin ini W β (seen.setIfInBounds j true) (a.put oj.dst v) w':=by
  have nA:∀ p∈pl,p.new=true→p.i≠j:=fun p hp hn e=>by
    have:isA pl j=true:=List.any_eq_true.2 ⟨p,hp,by simp [hn,e]⟩
    rw [hA] at this;cases this
  have nS:∀ p∈pl,p.s≠j:=fun p hp e=>by
    have:isS pl j=true:=List.any_eq_true.2 ⟨p,hp,by simp [e]⟩
    rw [hS] at this;cases this
  refine ⟨by simp [J.ssz],J.shut hr,by rw [qdA,J.size],by rw [qdQ,J.defers],?_,?_,hb.os.trans J.os,hb.tape.trans J.tape,hb.output.trans J.output,Nat.le_trans J.big hb.size,?_,?_,?_,?_,?_⟩
  · intro t hn hw
    by_cases e:oj.dst=some t
    · rw [e] at hv ⊢
      have h1:fin.tmps[t]?=(fin.put (some t) v).tmps[t]?:=by rw [hv]
      rw [h1];simp only [Act.put,Array.getElem?_setIfInBounds,J.size,if_true]
    · rw [qeI e]
      exact J.same t hn fun i o hi hd=>(qbE (hw i o hi hd)).resolve_left fun e2=>by subst e2;rw [hoj] at hi;cases hi;exact e hd
  · intro t hw
    have hj:oj.dst≠some t:=fun e=>by
      have:=hw j oj hoj e
      have hlt:j<seen.size:=by rw [J.ssz];exact (Array.getElem?_eq_some_iff.1 hoj).1
      simp [hlt] at this
    rw [qeI hj];exact J.init t fun i o hi hd=>qdP (hw i o hi hd)
  · intro k hk hp
    rw [hb.block k (Nat.lt_of_lt_of_le hk J.big)];exact J.keep k hk fun p hp' hn hb'=>qdP (hp p hp' hn hb')
  · intro p hp hn hs
    have hs:=(qbE hs).resolve_left (nA p hp hn).symm;obtain ⟨h1,h2,h3,h4⟩:=J.laid p hp hn hs;obtain ⟨o,ho,_,hd,_⟩:=C.lay p hp hn;refine ⟨h1,Nat.lt_of_lt_of_le h2 hb.size,?_,qaX h4 hb h2⟩;rw [qeI fun e=>nA p hp hn (C.dsts j oj p.d hoj e p.i o ho hd)];exact h3
  · intro p hp hn
    have h:=J.old p hp hn;intro k hk;obtain ⟨h1,h2⟩:=h k hk;obtain ⟨v,hv⟩:=Option.isSome_iff_exists.1 h1;exact ⟨by rw [qcU hv hb];rfl,by rw [hb.frozen (World.block_lt_of_cell? w _ hv)];exact h2⟩
  · intro p hp q hq hpn hqn h1 h2
    exact J.apart p hp q hq hpn hqn ((qbE h1).resolve_left (nA p hp hpn).symm) ((qbE h2).resolve_left (nA q hq hqn).symm)
  · intro p hp hs
    exact qaO (J.held p hp ((qbE hs).resolve_left (nS p hp).symm)) hb
theorem FlowJ.stepX {Q:Exit→Act→World→Prop} (C:FlowC ops pl L) (J:FlowJ ops pl fin ini W β seen a w) {j:Nat} {oj:Oper} (hr:j∈Region.ready .any ops seen) (hoj:ops[j]?=some oj) (hA:isA pl j=false) (hS:isS pl j=false)
    (h2:∀ t,t∉L→fin2.tmps[t]?=fin.tmps[t]?) (h2i:∀ t,t∈L→fin2.tmps[t]?=ini.tmps[t]?) (h2s:fin2.tmps.size=fin.tmps.size)
    (hX:∀ W',FlowK pl W W'→(early ops pl j=true→Below W.heap.size W W')→wpQuiet P ops (fun w'=>∃ p:GB,w'=gw W' p.d p.os) (fun a'=>a'=frm ops L fin fin2 oj) [oj] (frm ops L fin fin2 oj)) :
    wpOp P ops Q j (fun a' w'=>FlowJ ops pl fin ini W β (seen.setIfInBounds j true) a' w') a w:=by
  have hun:=(mem_ready.1 hr).1;have hfree:∀ t∈oj.looksAt ops,∀ p∈pl,p.new=true→p.d≠t:=fun t ht p hp hn e=>C.free j oj hoj hS p hp hn (by rw [e];exact ht)
  have hlk:∀ t∈oj.looksAt ops,a.tmps[t]?=(frm ops L fin fin2 oj).tmps[t]?:=fun t ht=>by
    unfold frm;by_cases hL:(oj.looksAt ops).any (L.contains ·)=true
    · rw [if_pos hL]
      by_cases htL:t∈L
      · rw [h2i t htL];exact J.seesL C hr hoj ht htL
      · rw [h2 t htL];exact J.sees C hr hoj ht htL (hfree t ht)
    · rw [if_neg hL]
      have htL:t∉L:=fun h=>hL (List.any_eq_true.2 ⟨t,ht,by simpa using h⟩)
      exact J.sees C hr hoj ht htL (hfree t ht)
  have hput:∀ v,(frm ops L fin fin2 oj).put oj.dst v=frm ops L fin fin2 oj→fin.put oj.dst v=fin:=fun v hv=>by
    unfold frm at hv;by_cases hL:(oj.looksAt ops).any (L.contains ·)=true
    · rw [if_pos hL] at hv
      cases hd:oj.dst with
      | none=>rfl
      | some d =>
        rw [hd] at hv;have hdL:=C.dstL j oj hoj hL d hd;have e1:fin2.tmps[d]?=(fin2.put (some d) v).tmps[d]?:=by rw [hv]
        obtain ⟨ft,fd⟩:=fin;simp only [Act.put] at e1 ⊢;congr 1
        apply Array.ext_getElem?
        intro i;by_cases e:d=i
        · subst e
          have:=h2 d hdL
          simp only at this h2s
          rw [←this,e1,Array.getElem?_setIfInBounds,Array.getElem?_setIfInBounds,h2s];simp only [if_true]
        · rw [Array.getElem?_setIfInBounds_ne e]
    · rwa [if_neg hL] at hv
  have h:=hX w ⟨J.os,J.tape,J.output,J.big,fun k hk hp=>J.keep k hk fun p h1 h2 h3=>absurd h3 (hp p h1 h2)⟩ fun he=>⟨J.os,J.tape,J.output,J.big,fun k hk=>J.keep k hk fun p hp hn _=>by
    have h1:=List.all_eq_true.1 he p hp;rw [hn,Bool.false_or] at h1
    cases hs:seen.getD p.s false with
    | false=>rfl
    | true =>
      have:=qcL J.closed _ _ _ h1 hs
      rw [getD_both hun] at this;cases this⟩
  have hex:=qhE (a:=a) (b:=frm ops L fin fin2 oj) (C.sel j oj · · hoj) hlk;have hwa:=qeN (a:=a) (b:=frm ops L fin fin2 oj) hlk;simp only [wpQuiet] at h;unfold wpOp;simp only [hoj];rw [hwa];split
  · rename_i hw
    simp only [hw,if_true] at h;obtain ⟨v,h1,h2'⟩:=h;have h2:=hput v h2';left
    refine Oper.wp_of_quiet (C:=fun w'=>∃ p:GB,w'=gw w p.d p.os) (K:=fun a'=>a'=a.put oj.dst v) (qcV (Below.refl _ _)) ?_ ⟨v,fun w' hw'=>?_,rfl⟩
    · rintro a' w' ⟨p,rfl⟩ rfl
      exact J.move C hr hoj hA hS h2 (qbG w p.d p.os)
    · have:=h1 w' hw'
      unfold Oper.quietAt at *;rw [hex];exact this
  · rename_i hw
    simp only [hw] at h;exact J.move C hr hoj hA hS (hput _ h) (Below.refl _ _)
theorem qjA (X:World) (z:Array Value) (ty:TypeId) {n:Nat} (hn:n≤z.size):(X.alloc (.cells z ty)).there X.heap.size 0 n:=by
  intro j hj;have hh:=heap_alloc_new X (.cells z ty);refine ⟨?_,frozen_of_row _ _ _ _ _ hh⟩;rw [cell_of_row _ X.heap.size (0+j) z ty (0,0) hh,Array.getElem?_eq_getElem (by omega)];rfl
theorem qkK {P:Program} (w:World) (b o:Nat) (ty:TypeId) (v:Value) (ht:w.there b o v.cells.size) (hi:(P.info? ty).map (·.size)=some v.cells.size) (h1:v.cells.all (·.oneCell')=true) :
    (storeVar ty ⟨b,o,none⟩ v).run P w=.ok () (w.setCells b o v.cells.toList):=by
  have:=run_storeCells_cells (P:=P) b o v.cells.toList 0 w (fun j hj=>by simpa using (ht j (by simpa using hj)).1) (fun j hj=>by simpa using (ht j (by simpa using hj)).2)
    (fun v hv=>(Array.all_eq_true_iff_forall_mem.1 h1) v (by simpa using hv))
  cases hq:P.info? ty with
  | none=>simp [hq] at hi
  | some i =>
    have hs:v.cells.size=i.size:=by simp [hq] at hi;omega
    simp only [Nat.add_zero] at this;simp [storeVar,sizeOf,typeInfo,hq,hs,this]
theorem qtJ {P:Program} {op:Oper} {a:Act} {w:World} {K:Act→World→Prop} {Q:Exit→Act→World→Prop} (ty:TypeId) (x y:Operand) (ho:op.op=.store ty x y)
    (b o:Nat) (v:Value) (hx:a.eval x=.pointer (some ⟨b,o,none⟩)) (hy:a.eval y=v)
    (ht:w.there b o v.cells.size) (hi:(P.info? ty).map (·.size)=some v.cells.size) (h1:v.cells.all (·.oneCell')=true)
    (h:K (a.put op.dst undef) (w.setCells b o v.cells.toList)):op.wp P a w K Q:=by
  unfold Oper.wp execOp;simp only [ho,hx,hy,Instr.storeAt,Instr.sureAddr,Sem.run_bind,Sem.run_pure,Result.andThen_ok,qkK w b o ty v ht hi h1];exact h
def LaysAs (P:Program) (t:TypeId) (z:Array Value):Prop:=∀ (o:Oper),o.op=.alloc t→∀ (b:Act) (w:World),(execOp b.eval o).run P w=.ok (.value (.pointer (some ⟨w.heap.size,0,none⟩))) (w.alloc (.cells z t))
theorem FlowJ.stepA {Q:Exit→Act→World→Prop} (C:FlowC ops pl L) (J:FlowJ ops pl fin ini W β seen a w) {p:Pl} (hp:p∈pl) (hn:p.new=true) (hr:p.i∈Region.ready .any ops seen) (hd:p.d<fin.tmps.size)
    (hAl:∃ z,LaysAs P p.ty z∧p.cs.length≤z.size) :
    wpOp P ops Q p.i (fun a' w'=>∃ β',FlowJ ops pl fin ini W β' (seen.setIfInBounds p.i true) a' w') a w:=by
  obtain ⟨o,ho,hg,hdd,hop,hws,ho0,hnS⟩:=C.lay p hp hn;obtain ⟨z,hrun',hz⟩:=hAl;have hrun:=hrun' o hop;generalize hty':p.ty=ty' at hrun
  have hun:=(mem_ready.1 hr).1
  have nS:∀ q∈pl,q.s≠p.i:=fun q hq e=>by
    have:isS pl p.i=true:=List.any_eq_true.2 ⟨q,hq,by simp [e]⟩
    rw [hnS] at this;cases this
  have hoth:∀ q∈pl,q.new=true→q.i=p.i→q=p:=fun q hq hqn e=>by
    rcases C.two q hq p hp with h|h
    · exact h
    · exact absurd e (h.2 hqn hn).1
  unfold wpOp;simp only [ho];rw [if_pos (by simp [Region.wanted,hg])];left
  unfold Oper.wp;rw [hrun];simp only [Oper.upon,hdd];refine ⟨fun k=>if k=p.i then w.heap.size else β k,?_⟩;have hba:Below w.heap.size w (w.alloc (.cells z ty')):=(Below.refl _ _).alloc (Nat.le_refl _) _;refine ⟨by simp [J.ssz],J.shut hr,by rw [qdA,J.size],by rw [qdQ,J.defers],?_,?_,J.os,J.tape,J.output,Nat.le_trans J.big hba.size,?_,?_,?_,?_,?_⟩
  · intro t htn hw
    rw [qeI (fun e=>htn p hp hn (Option.some.inj e))]
    exact J.same t htn fun i oi hi hdi=>(qbE (hw i oi hi hdi)).resolve_left fun e2=>by
      subst e2;rw [ho] at hi;cases hi;rw [hdd] at hdi;exact htn p hp hn (Option.some.inj hdi)
  · intro t hw
    have hj:p.d≠t:=fun e=>by
      have:=hw p.i o ho (by rw [hdd,e])
      have hlt:p.i<seen.size:=by rw [J.ssz];exact (Array.getElem?_eq_some_iff.1 ho).1
      simp [hlt] at this
    rw [qeI (fun e=>hj (Option.some.inj e))];exact J.init t fun i oi hi hd=>qdP (hw i oi hi hd)
  · intro k hk hq
    rw [hba.block k (Nat.lt_of_lt_of_le hk J.big)];exact J.keep k hk fun q hq' hqn hb'=>qdP (hq q hq' hqn hb')
  · intro q hq hqn hs
    by_cases e:q.i=p.i
    · obtain rfl:=hoth q hq hqn e
      simp only [if_true];refine ⟨J.big,by simp,?_,qjA _ _ _ hz⟩;simp [Act.put,J.size,hd]
    · have hs:=(qbE hs).resolve_left (fun h=>e h.symm)
      obtain ⟨h1,h2,h3,h4⟩:=J.laid q hq hqn hs;simp only [if_neg e];refine ⟨h1,Nat.lt_of_lt_of_le h2 hba.size,?_,World.there_alloc h4 _⟩;rw [qeI fun hc=>?_]
      · exact h3
      · rcases C.two q hq p hp with h|h
        · exact e (by rw [h])
        · exact (h.2 hqn hn).2 (Option.some.inj hc).symm
  · intro q hq hqn
    exact World.there_alloc (J.old q hq hqn) _
  · intro q hq r hr' hqn hrn h1 h2
    by_cases e1:q.i=p.i<;>by_cases e2:r.i=p.i
    · intro _;rw [e1,e2]
    · simp only [e1,if_true,if_neg e2]
      intro h
      have:=(J.laid r hr' hrn ((qbE h2).resolve_left (fun h=>e2 h.symm))).2.1
      omega
    · simp only [e2,if_true,if_neg e1]
      intro h
      have:=(J.laid q hq hqn ((qbE h1).resolve_left (fun h=>e1 h.symm))).2.1
      omega
    · simp only [if_neg e1,if_neg e2]
      exact J.apart q hq r hr' hqn hrn ((qbE h1).resolve_left (fun h=>e1 h.symm)) ((qbE h2).resolve_left (fun h=>e2 h.symm))
  · intro q hq hs
    have hs':=(qbE hs).resolve_left (nS q hq).symm;clear hs
    have hb:q.blk (fun k=>if k=p.i then w.heap.size else β k)=q.blk β:=by
      unfold Pl.blk
      cases hqn:q.new with
      | false=>simp
      | true =>
        have hne:q.i≠p.i:=fun e=>by
          obtain rfl:=hoth q hq hqn e
          have:=qhK J.closed hws hs'
          rw [getD_both hun] at this;cases this
        simp [hne]
    rw [hb];exact World.rangeAt_alloc (J.held q hq hs') _
structure StOk (P:Program) (fin:Act) (p:Pl):Prop where
  val:∃ v:Value,fin.tmps[p.x]?=some v∧v.cells.toList=p.scs
  size:(P.info? p.ty).map (·.size)=some p.scs.length
  one:∀ v∈p.scs,v.oneCell'=true
  lo:p.o≤p.so
  hi:p.so+p.scs.length≤p.o+p.cs.length
  at0:p.new=true→p.so=0
  eff:∀ (w:World) (b:Nat),(p.new=false→w.rangeAt b p.o p.pre)→w.there b p.o p.cs.length→(w.setCells b p.so p.scs).rangeAt b p.o p.cs
theorem FlowJ.stepS {Q:Exit→Act→World→Prop} (C:FlowC ops pl L) (J:FlowJ ops pl fin ini W β seen a w) {p:Pl} (hp:p∈pl) (hr:p.s∈Region.ready .any ops seen)
    (hold:∀ q∈pl,q.new=false→q.b<W.heap.size∧fin.tmps[q.d]?=some (.pointer (some ⟨q.b,q.so,none⟩)))
    (hdb:∀ q∈pl,∀ r∈pl,q.new=false→r.new=false→q.b=r.b→q=r)
    (hpre:p.new=false→W.rangeAt p.b p.o p.pre)
    (hSt:StOk P fin p) :
    wpOp P ops Q p.s (fun a' w'=>FlowJ ops pl fin ini W β (seen.setIfInBounds p.s true) a' w') a w:=by
  obtain ⟨o,ho,hg,hdn,hop,hxt,hxL,hdL⟩:=C.store p hp;obtain ⟨⟨v,hx,hvs⟩,hi,hk,hlo,hhi,hat0,heff⟩:=hSt;have hun:=(mem_ready.1 hr).1;have hlt:p.s<seen.size:=by rw [J.ssz];exact (Array.getElem?_eq_some_iff.1 ho).1
  have hlook:∀ x,Operand.tmp x∈o.op.operands→x∈o.looksAt ops:=fun x hx=>List.mem_append_left _ (List.mem_filterMap.2 ⟨.tmp x,by simpa using hx,rfl⟩)
  have hax:a.tmps[p.x]?=some v:=by
    rw [J.sees C hr ho (hlook p.x (by simp [hop,Op.operands])) hxL hxt];exact hx
  have hap:a.tmps[p.d]?=some (.pointer (some ⟨p.blk β,p.so,none⟩))∧w.there (p.blk β) p.o p.cs.length∧(p.new=true→W.heap.size≤p.blk β):=by
    cases hpn:p.new with
    | true =>
      obtain ⟨_,_,_,_,_,hws,ho0,_⟩:=C.lay p hp hpn;obtain ⟨h1,_,h3,h4⟩:=J.laid p hp hpn (qeO hws hr);simp only [Pl.blk,hpn,if_true,ho0,hat0 hpn];exact ⟨h3,h4,fun _=>h1⟩
    | false =>
      simp only [Pl.blk,hpn,Bool.false_eq_true,if_false];refine ⟨?_,J.old p hp hpn,fun h=>by cases h⟩;rw [J.sees C hr ho (hlook p.d (by simp [hop,Op.operands])) hdL (C.oldd p hp hpn)];exact (hold p hp hpn).2
  obtain ⟨h1,h2,h3⟩:=hap;unfold wpOp;simp only [ho];rw [if_pos (by simp [Region.wanted,hg])];left
  have hvl:v.cells.size=p.scs.length:=by rw [←hvs,Array.length_toList]
  have hpw:p.new=false→w.rangeAt (p.blk β) p.o p.pre:=fun hpn=>by
    have hk2:=J.keep p.b (hold p hp hpn).1 fun q hq hqn hb'=>by
      have:=hdb q hq p hp hqn hpn hb'
      rw [this];exact getD_both hun
    have hr:=hpre hpn;simp only [Pl.blk,hpn,Bool.false_eq_true,if_false];intro j v hj;rw [World.cell?_of_block (w:=W) hk2];exact hr j v hj
  refine qtJ p.ty _ _ hop (p.blk β) p.so v (by simp [Act.eval,h1]) (by simp [Act.eval,hax]) (fun j hj=>by
    have:=h2 (p.so - p.o+j) (by omega)
    rwa [show p.o+(p.so - p.o+j)=p.so+j by omega] at this) (by rw [hvl];exact hi) (Array.all_eq_true_iff_forall_mem.2 fun x hx=>hk x (by rw [←hvs];simpa using hx)) ?_
  rw [hvs];have hput:a.put o.dst undef=a:=by rw [hdn];rfl
  rw [hput];have hso:=qwE (p.blk β) p.scs p.so w;have hsz:(w.setCells (p.blk β) p.so p.scs).heap.size=w.heap.size:=qaW ..;have hseen:(seen.setIfInBounds p.s true).getD p.s false=true:=by simp [hlt]
  have nI:∀ q∈pl,q.new=true→q.i≠p.s:=fun q hq hqn e=>by
    obtain ⟨_,_,_,_,_,_,_,hs⟩:=C.lay q hq hqn
    have:isS pl q.i=true:=List.any_eq_true.2 ⟨p,hp,by simp [e]⟩
    rw [hs] at this;cases this
  refine ⟨by simp [J.ssz],J.shut hr,J.size,J.defers,?_,fun t hw=>J.init t fun i oi hi hd=>qdP (hw i oi hi hd),hso.1.trans J.os,hso.2.1.trans J.tape,hso.2.2.trans J.output,by rw [hsz];exact J.big,?_,?_,?_,?_,?_⟩
  · intro x hxn hw
    exact J.same x hxn fun i oi hi' hdi=>(qbE (hw i oi hi' hdi)).resolve_left fun e2=>by
      subst e2;rw [ho] at hi';cases hi';rw [hdn] at hdi;cases hdi
  · intro k hkW hq
    rw [qcJ k (p.blk β) ?_]
    · exact J.keep k hkW fun q hq' hqn hb'=>qdP (hq q hq' hqn hb')
    · intro e
      cases hpn:p.new with
      | true=>have:=h3 hpn;omega
      | false =>
        have:=hq p hp hpn (by rw [e];simp [Pl.blk,hpn])
        rw [hseen] at this;cases this
  · intro q hq hqn hs
    have hs:=(qbE hs).resolve_left (nI q hq hqn).symm;obtain ⟨g1,g2,g3,g4⟩:=J.laid q hq hqn hs;exact ⟨g1,by rw [hsz];exact g2,g3,World.there_setCells g4 _ _ _⟩
  · intro q hq hqn
    exact World.there_setCells (J.old q hq hqn) _ _ _
  · intro q hq r hr' hqn hrn g1 g2
    exact J.apart q hq r hr' hqn hrn ((qbE g1).resolve_left (nI q hq hqn).symm) ((qbE g2).resolve_left (nI r hr' hrn).symm)
  · intro q hq hs
    rcases C.two q hq p hp with rfl|hne
    · exact heff w _ hpw h2
    · have hs:=(qbE hs).resolve_left (fun h=>hne.1 h.symm)
      refine qaN (J.held q hq hs) _ _ _ ?_;intro e
      cases hpn:p.new with
      | true =>
        obtain ⟨_,_,_,_,_,hws,_,_⟩:=C.lay p hp hpn;have hpi:=qeO hws hr
        cases hqn:q.new with
        | true =>
          obtain ⟨_,_,_,_,_,hqs,_,_⟩:=C.lay q hq hqn;have hqi:=qhK J.closed hqs hs;simp only [Pl.blk,hpn,hqn,if_true] at e;exact (hne.2 hqn hpn).1 (J.apart p hp q hq hpn hqn hpi hqi e).symm
        | false =>
          have h5:=h3 hpn;have h6:=(hold q hq hqn).1;rw [e] at h5;simp only [Pl.blk,hqn,Bool.false_eq_true,if_false] at h5;omega
      | false =>
        cases hqn:q.new with
        | true =>
          obtain ⟨_,_,_,_,_,hqs,_,_⟩:=C.lay q hq hqn;have h5:=(J.laid q hq hqn (qhK J.closed hqs hs)).1;have h6:=(hold p hp hpn).1;simp only [Pl.blk,hpn,hqn,if_true,Bool.false_eq_true,if_false] at e;omega
        | false =>
          simp only [Pl.blk,hpn,hqn,Bool.false_eq_true,if_false] at e
          have:=hdb p hp q hq hpn hqn e
          exact hne.1 (by rw [this])
def cnt (seen:Array Bool):Nat:=seen.toList.countP (·==false)
theorem qrB {j:Nat} (h:seen.getD j true=false):cnt seen=cnt (seen.setIfInBounds j true)+1:=by
  have hj:j<seen.size:=by
    rcases Nat.lt_or_ge j seen.size with h'|h'
    · exact h'
    · simp [Array.getElem?_eq_none h'] at h
  have hv:seen.toList[j]'(by simpa using hj)=false:=by simpa [hj] using h
  have hpos:0<seen.toList.countP (·==false):=List.countP_pos_iff.2 ⟨false,by rw [←hv];exact List.getElem_mem _,rfl⟩;unfold cnt;rw [Array.toList_setIfInBounds,List.countP_set (by simpa using hj)];rw [hv];have e1:(if (false==false)=true then 1 else 0)=1:=rfl;have e2:(if (true==false)=true then 1 else 0)=0:=rfl;rw [e1,e2];omega
theorem qjJ (C:FlowC ops pl L) (hs:seen.size=ops.size) (h:Region.ready .any ops seen=[]):∀ j,j<ops.size→seen.getD j false=true:=by
  intro j
  induction j using Nat.strongRecOn with
  | _ j ih =>
    intro hj
    cases hc:seen.getD j false with
    | true=>rfl
    | false =>
      exfalso
      have hun:=getD_in (by omega) hc
      have:j∈Region.ready .any ops seen:=mem_ready.2 ⟨hun,ops[j],Array.getElem?_eq_getElem hj,fun e he hb=>by
        have hl:=C.less j _ (Array.getElem?_eq_getElem hj) e he hb;exact ih e.on hl (by omega)⟩
      rw [h] at this
      cases this
theorem qhP (h:cnt seen=0):Region.ready .any ops seen=[]:=by
  apply List.eq_nil_iff_forall_not_mem.2
  intro j hj
  have:=qrB (mem_ready.1 hj).1
  omega
structure FlowE (pl:List Pl) (W:World) (β:Nat→Nat) (w:World):Prop where
  os:w.os=W.os
  tape:w.tape=W.tape
  output:w.output=W.output
  big:W.heap.size≤w.heap.size
  keep:∀ k,k<W.heap.size→(∀ p∈pl,p.new=false→p.b≠k)→w.heap[k]?=W.heap[k]?
  laid:∀ p∈pl,p.new=true→W.heap.size≤β p.i∧β p.i<w.heap.size∧w.there (β p.i) 0 p.cs.length∧w.rangeAt (β p.i) 0 p.cs
  old:∀ p∈pl,p.new=false→w.there p.b p.o p.cs.length∧w.rangeAt p.b p.o p.cs
  apart:∀ p∈pl,∀ q∈pl,p.new=true→q.new=true→β p.i=β q.i→p.i=q.i
def nP (β:Nat→Nat) (pl:List Pl) (fin:Act):Act:=pl.foldl (fun a p=>if p.new then a.put (some p.d) (.pointer (some ⟨β p.i,0,none⟩)) else a) fin
theorem qfS:∀ (pl:List Pl) (a fin:Act),a.tmps.size=fin.tmps.size→a.defers=fin.defers→(∀ t,(∀ p∈pl,p.new=true→p.d≠t)→a.tmps[t]?=fin.tmps[t]?) →
    (∀ p∈pl,p.new=true→a.tmps[p.d]?=some (.pointer (some ⟨β p.i,0,none⟩)))→a=nP β pl fin
  | [],a,fin,h1,h2,h3,_=>by
    obtain ⟨t,d⟩:=a;obtain ⟨t',d'⟩:=fin;simp only at h1 h2
    subst h2
    have:t=t':=Array.ext_getElem? fun i=>h3 i (fun p hp=>by cases hp)
    subst this;rfl
  | p::pl,a,fin,h1,h2,h3,h4=>by
    unfold nP;rw [List.foldl_cons]
    cases hn:p.new with
    | false =>
      simp only [Bool.false_eq_true,if_false]
      exact qfS pl a fin h1 h2 (fun t ht=>h3 t fun q hq hqn=>by
        rcases List.mem_cons.1 hq with e|hq
        · rw [e,hn] at hqn;cases hqn
        · exact ht q hq hqn) (fun q hq hqn=>h4 q (List.mem_cons_of_mem _ hq) hqn)
    | true =>
      simp only [if_true];refine qfS pl a _ (by rw [qdA,h1]) (by rw [qdQ,h2]) (fun t ht=>?_) (fun q hq hqn=>h4 q (List.mem_cons_of_mem _ hq) hqn);have h5:=h4 p (List.mem_cons_self ..) hn;by_cases e:p.d=t
      · subst e
        have hlt:p.d<fin.tmps.size:=by rw [←h1];exact (Array.getElem?_eq_some_iff.1 h5).1
        rw [h5];simp [Act.put,hlt]
      · rw [qeI (fun h=>e (Option.some.inj h))]
        exact h3 t fun q hq hqn=>by
          rcases List.mem_cons.1 hq with h|hq
          · rw [h];exact e
          · exact ht q hq hqn
structure FlowH (P:Program) (ops:Array Oper) (pl:List Pl) (L:List Tmp) (fin fin2 ini:Act) (W:World):Prop where
  f2:∀ t,t∉L→fin2.tmps[t]?=fin.tmps[t]?
  f2i:∀ t,t∈L→fin2.tmps[t]?=ini.tmps[t]?
  f2s:fin2.tmps.size=fin.tmps.size
  x:∀ j oj,ops[j]?=some oj→isA pl j=false→isS pl j=false→∀ W',FlowK pl W W'→(early ops pl j=true→Below W.heap.size W W')→wpQuiet P ops (fun w'=>∃ p:GB,w'=gw W' p.d p.os) (fun a'=>a'=frm ops L fin fin2 oj) [oj] (frm ops L fin fin2 oj)
  al:∀ p∈pl,p.new=true→p.d<fin.tmps.size∧∃ z,LaysAs P p.ty z∧p.cs.length≤z.size
  old:∀ q∈pl,q.new=false→q.b<W.heap.size∧fin.tmps[q.d]?=some (.pointer (some ⟨q.b,q.so,none⟩))∧W.there q.b q.o q.cs.length∧W.rangeAt q.b q.o q.pre
  db:∀ q∈pl,∀ r∈pl,q.new=false→r.new=false→q.b=r.b→q=r
  st:∀ p∈pl,StOk P fin p
theorem jcQ {Q:Exit→Act→World→Prop} (C:FlowC ops pl L) (H:FlowH P ops pl L fin fin2 ini W) (hQ:∀ β w,FlowE pl W β w→Q .normal (nP β pl fin) w) :
    ∀ (f:Nat) (seen:Array Bool) (a:Act) (w:World) (β:Nat→Nat),cnt seen=f→FlowJ ops pl fin ini W β seen a w→wpAny P .any ops Q f seen a w:=by
  have done:∀ (seen:Array Bool) (a:Act) (w:World) (β:Nat→Nat),FlowJ ops pl fin ini W β seen a w→Region.ready .any ops seen=[]→Q .normal a w:=by
    intro seen a w β J h0;have hall:=qjJ C J.ssz h0;have hs:∀ i o,ops[i]?=some o→seen.getD i false=true:=fun i o h=>hall i (Array.getElem?_eq_some_iff.1 h).1
    have hi:∀ p∈pl,p.new=true→seen.getD p.i false=true:=fun p hp hn=>by
      obtain ⟨o,ho,_⟩:=C.lay p hp hn;exact hs _ o ho
    have hst:∀ p∈pl,seen.getD p.s false=true:=fun p hp=>by
      obtain ⟨o,ho,_⟩:=C.store p hp;exact hs _ o ho
    rw [qfS (β:=β) pl a fin J.size J.defers (fun t ht=>J.same t ht fun i o h _=>hs i o h) fun p hp hn=>(J.laid p hp hn (hi p hp hn)).2.2.1];refine hQ β w ⟨J.os,J.tape,J.output,J.big,fun k hk hp=>J.keep k hk fun p h1 h2 h3=>absurd h3 (hp p h1 h2),fun p hp hn=>?_,fun p hp hn=>?_,fun p hp q hq hpn hqn=>J.apart p hp q hq hpn hqn (hi p hp hpn) (hi q hq hqn)⟩
    · obtain ⟨h1,h2,_,h4⟩:=J.laid p hp hn (hi p hp hn)
      have:=J.held p hp (hst p hp)
      obtain ⟨_,_,_,_,_,_,ho0,_⟩:=C.lay p hp hn;simp only [Pl.blk,hn,if_true,ho0] at this;exact ⟨h1,h2,h4,this⟩
    · have:=J.held p hp (hst p hp)
      simp only [Pl.blk,hn,Bool.false_eq_true,if_false] at this;exact ⟨J.old p hp hn,this⟩
  intro f
  induction f with
  | zero=>intro seen a w β hc J;exact ⟨qhP hc,done seen a w β J (qhP hc)⟩
  | succ f ih =>
    intro seen a w β hc J;refine ⟨done seen a w β J,fun j hj=>?_⟩;have hc':cnt (seen.setIfInBounds j true)=f:=by have:=qrB (mem_ready.1 hj).1;omega
    obtain ⟨hun,oj,hoj,_⟩:=mem_ready.1 hj
    cases hA:isA pl j with
    | true =>
      obtain ⟨p,hp,hb⟩:=List.any_eq_true.1 hA;simp only [Bool.and_eq_true,beq_iff_eq] at hb;obtain ⟨hn,rfl⟩:=hb;exact wpOp_mono (fun a' w' ⟨β',J'⟩=>ih _ a' w' β' hc' J') (J.stepA C hp hn hj (H.al p hp hn).1 (H.al p hp hn).2)
    | false =>
      cases hS:isS pl j with
      | true =>
        obtain ⟨p,hp,hb⟩:=List.any_eq_true.1 hS;obtain rfl:=beq_iff_eq.1 hb;exact wpOp_mono (fun a' w' J'=>ih _ a' w' β hc' J') (J.stepS C hp hj (fun q hq hqn=>⟨(H.old q hq hqn).1,(H.old q hq hqn).2.1⟩) H.db (fun hpn=>(H.old p hp hpn).2.2.2) (H.st p hp))
      | false=>exact wpOp_mono (fun a' w' J'=>ih _ a' w' β hc' J') (J.stepX C hj hoj hA hS H.f2 H.f2i H.f2s (H.x j oj hoj hA hS))
theorem qoJ (n:Nat):cnt (Array.replicate n false)=n:=by
  unfold cnt;simp [List.countP_replicate]
theorem FlowJ.start (C:FlowC ops pl L) {vs:List (Tmp × Value)} (hfin:vs.foldl (fun a p=>a.put (some p.1) p.2) a=fin) (hd:∀ t∈vs.map (·.1),∃ (i:Nat) (o:Oper),ops[i]?=some o∧o.dst=some t)
    (hold:∀ q∈pl,q.new=false→W.there q.b q.o q.cs.length):FlowJ ops pl fin a W (fun _=>0) (Array.replicate ops.size false) a W:=by
  have h0:∀ i,(Array.replicate ops.size false).getD i false=false:=getD_replicate_false _
  have key:∀ (vs:List (Tmp × Value)) (a:Act),(vs.foldl (fun a p=>a.put (some p.1) p.2) a).tmps.size=a.tmps.size∧(vs.foldl (fun a p=>a.put (some p.1) p.2) a).defers=a.defers∧∀ t,t∉vs.map (·.1)→(vs.foldl (fun a p=>a.put (some p.1) p.2) a).tmps[t]?=a.tmps[t]?:=by
    intro vs
    induction vs with
    | nil=>intro a;exact ⟨rfl,rfl,fun _ _=>rfl⟩
    | cons p vs ih =>
      intro a;obtain ⟨h1,h2,h3⟩:=ih (a.put (some p.1) p.2);rw [List.foldl_cons];refine ⟨by rw [h1,qdA],by rw [h2,qdQ],fun t ht=>?_⟩;simp only [List.map_cons,List.mem_cons,not_or] at ht;rw [h3 t ht.2,qeI fun e=>ht.1 (Option.some.inj e).symm]
  obtain ⟨k1,k2,k3⟩:=key vs a;rw [hfin] at k1 k2 k3;refine ⟨by simp,fun j oj _ h=>absurd h (by rw [h0];exact Bool.noConfusion),k1.symm,k2.symm,fun t _ ht=>?_,fun _ _=>rfl,rfl,rfl,rfl,Nat.le_refl _,fun _ _ _=>rfl,fun p _ _ h=>absurd h (by rw [h0];exact Bool.noConfusion),hold,fun p _ q _ _ _ h=>absurd h (by rw [h0];exact Bool.noConfusion),fun p _ h=>absurd h (by rw [h0];exact Bool.noConfusion)⟩;refine (k3 t fun hc=>?_).symm;obtain ⟨i,o,ho,hdo⟩:=hd t hc
  have:=ht i o ho hdo
  rw [h0] at this;cases this
def flowX (P:Program) (ops:Array Oper) (C:World→Prop) (fin:Act) (skip:Nat→Bool):Nat→List Oper→Prop
  | _,[]=>True
  | k,o::l=>(skip k=true∨wpQuiet P ops C (fun a'=>a'=fin) [o] fin)∧flowX P ops C fin skip (k+1) l
theorem fxn {C:World→Prop} {skip:Nat→Bool} {k:Nat}:flowX P ops C fin skip k []:=trivial
theorem fxs {C:World→Prop} {skip:Nat→Bool} {k:Nat} {o:Oper} {l:List Oper} (h:skip k=true) (h2:flowX P ops C fin skip (k+1) l):flowX P ops C fin skip k (o::l):=⟨.inl h,h2⟩
theorem fxo {C:World→Prop} {skip:Nat→Bool} {k:Nat} {o:Oper} {l:List Oper} (h:wpQuiet P ops C (fun a'=>a'=fin) [o] fin) (h2:flowX P ops C fin skip (k+1) l):flowX P ops C fin skip k (o::l):=⟨.inr h,h2⟩
theorem quB (k m:Nat):List.range' k (m+1)=k::List.range' (k+1) m:=rfl
theorem jcP {Q:Exit→Act→World→Prop} (C:FlowC ops pl L) (H:FlowH P ops pl L fin fin2 ini W) (hQ:∀ β w,FlowE pl W β w→Q .normal (nP β pl fin) w) :
    ∀ (m k:Nat) (seen:Array Bool) (a:Act) (w:World) (β:Nat→Nat),k+m=ops.size→(∀ i,i<ops.size→seen.getD i false=decide (i<k))→FlowJ ops pl fin ini W β seen a w→wpOps P ops Q (List.range' k m) a w:=by
  intro m
  induction m with
  | zero =>
    intro k seen a w β hk hseen J
    have hs:∀ i o,ops[i]?=some o→seen.getD i false=true:=fun i o h=>by
      have:=(Array.getElem?_eq_some_iff.1 h).1
      rw [hseen i this];simp;omega
    have hi:∀ p∈pl,p.new=true→seen.getD p.i false=true:=fun p hp hn=>by
      obtain ⟨o,ho,_⟩:=C.lay p hp hn;exact hs _ o ho
    have hst:∀ p∈pl,seen.getD p.s false=true:=fun p hp=>by
      obtain ⟨o,ho,_⟩:=C.store p hp;exact hs _ o ho
    show Q .normal a w
    rw [qfS (β:=β) pl a fin J.size J.defers (fun t ht=>J.same t ht fun i o h _=>hs i o h) fun p hp hn=>(J.laid p hp hn (hi p hp hn)).2.2.1];refine hQ β w ⟨J.os,J.tape,J.output,J.big,fun k hk hp=>J.keep k hk fun p h1 h2 h3=>absurd h3 (hp p h1 h2),fun p hp hn=>?_,fun p hp hn=>?_,fun p hp q hq hpn hqn=>J.apart p hp q hq hpn hqn (hi p hp hpn) (hi q hq hqn)⟩
    · obtain ⟨h1,h2,_,h4⟩:=J.laid p hp hn (hi p hp hn)
      have:=J.held p hp (hst p hp)
      obtain ⟨_,_,_,_,_,_,ho0,_⟩:=C.lay p hp hn;simp only [Pl.blk,hn,if_true,ho0] at this;exact ⟨h1,h2,h4,this⟩
    · have:=J.held p hp (hst p hp)
      simp only [Pl.blk,hn,Bool.false_eq_true,if_false] at this;exact ⟨J.old p hp hn,this⟩
  | succ m ih =>
    intro k seen a w β hk hseen J;have hkl:k<ops.size:=by omega
    rw [quB,wpOps_cons];have hoj:ops[k]?=some ops[k]:=Array.getElem?_eq_getElem hkl;have hun:seen.getD k true=false:=getD_in (by rw [J.ssz];exact hkl) (by rw [hseen k hkl];simp)
    have hj:k∈Region.ready .any ops seen:=mem_ready.2 ⟨hun,ops[k],hoj,fun e he hb=>by
      have hl:=C.less k _ hoj e he hb;rw [hseen e.on (by omega)];simp [hl]⟩
    have hsn:∀ i,i<ops.size→(seen.setIfInBounds k true).getD i false=decide (i<k+1):=fun i hi=>by
      by_cases e:k=i
      · subst e;simp [J.ssz,hkl]
      · rw [getD_set_ne false e,hseen i hi]
        by_cases h:i<k
        · simp [h];omega
        · simp [h];omega
    cases hA:isA pl k with
    | true =>
      obtain ⟨p,hp,hb⟩:=List.any_eq_true.1 hA;simp only [Bool.and_eq_true,beq_iff_eq] at hb;obtain ⟨hn,rfl⟩:=hb;exact wpOp_mono (fun a' w' ⟨β',J'⟩=>ih _ _ a' w' β' (by omega) hsn J') (J.stepA C hp hn hj (H.al p hp hn).1 (H.al p hp hn).2)
    | false =>
      cases hS:isS pl k with
      | true =>
        obtain ⟨p,hp,hb⟩:=List.any_eq_true.1 hS;obtain rfl:=beq_iff_eq.1 hb;exact wpOp_mono (fun a' w' J'=>ih _ _ a' w' β (by omega) hsn J') (J.stepS C hp hj (fun q hq hqn=>⟨(H.old q hq hqn).1,(H.old q hq hqn).2.1⟩) H.db (fun hpn=>(H.old p hp hpn).2.2.2) (H.st p hp))
      | false=>exact wpOp_mono (fun a' w' J'=>ih _ _ a' w' β (by omega) hsn J') (J.stepX C hj hoj hA hS H.f2 H.f2i H.f2s (H.x k _ hoj hA hS))
theorem qnR:∀ (vs2:List (Tmp × Value)) (f a:Act),f.tmps.size=a.tmps.size→(∀ p∈vs2,a.tmps[p.1]?=some p.2) →
    (vs2.foldl (fun a p=>a.put (some p.1) p.2) f).tmps.size=f.tmps.size∧(∀ t,t∉vs2.map (·.1)→(vs2.foldl (fun a p=>a.put (some p.1) p.2) f).tmps[t]?=f.tmps[t]?) ∧
      ∀ t,t∈vs2.map (·.1)→(vs2.foldl (fun a p=>a.put (some p.1) p.2) f).tmps[t]?=a.tmps[t]?
  | [],f,a,_,_=>⟨rfl,fun _ _=>rfl,fun t ht=>by simp at ht⟩
  | p::vs2,f,a,hs,h=>by
    obtain ⟨h1,h2,h3⟩:=qnR vs2 (f.put (some p.1) p.2) a (by rw [qdA,hs]) (fun q hq=>h q (List.mem_cons_of_mem _ hq));rw [List.foldl_cons];refine ⟨by rw [h1,qdA],fun t ht=>?_,fun t ht=>?_⟩
    · simp only [List.map_cons,List.mem_cons,not_or] at ht
      rw [h2 t ht.2,qeI fun e=>ht.1 (Option.some.inj e).symm]
    · by_cases hr:t∈vs2.map (·.1)
      · exact h3 t hr
      · have e:t=p.1:=by simp only [List.map_cons,List.mem_cons] at ht;exact ht.resolve_right hr
        rw [h2 t hr,e];have hp:=h p (List.mem_cons_self ..);have hlt:p.1<f.tmps.size:=by rw [hs];exact (Array.getElem?_eq_some_iff.1 hp).1
        rw [hp];simp [Act.put,hlt]
def flowXL (P:Program) (ops:Array Oper) (C:World→Prop) (L:List Tmp) (fin fin2:Act) (skip:Nat→Bool):Nat→List Oper→Prop
  | _,[]=>True
  | k,o::l=>(skip k=true∨wpQuiet P ops C (fun a'=>a'=frm ops L fin fin2 o) [o] (frm ops L fin fin2 o))∧flowXL P ops C L fin fin2 skip (k+1) l
theorem qcO {C:World→Prop} {skip:Nat→Bool} {k:Nat}:flowXL P ops C L fin fin2 skip k []:=trivial
theorem qhD {C:World→Prop} {skip:Nat→Bool} {k:Nat} {o:Oper} {l:List Oper} (h:skip k=true) (h2:flowXL P ops C L fin fin2 skip (k+1) l):flowXL P ops C L fin fin2 skip k (o::l):=⟨.inl h,h2⟩
theorem qgM {C:World→Prop} {skip:Nat→Bool} {k:Nat} {o:Oper} {l:List Oper} (hf:(o.looksAt ops).any (L.contains ·)=false) (h:wpQuiet P ops C (fun a'=>a'=fin) [o] fin) (h2:flowXL P ops C L fin fin2 skip (k+1) l):flowXL P ops C L fin fin2 skip k (o::l):=by
  refine ⟨.inr ?_,h2⟩;unfold frm;rw [if_neg (by rw [hf];exact Bool.noConfusion)];exact h
theorem jeK {C:World→Prop} {skip:Nat→Bool} {k:Nat} {o:Oper} {l:List Oper} (hf:(o.looksAt ops).any (L.contains ·)=true) (h:wpQuiet P ops C (fun a'=>a'=fin2) [o] fin2) (h2:flowXL P ops C L fin fin2 skip (k+1) l):flowXL P ops C L fin fin2 skip k (o::l):=by
  refine ⟨.inr ?_,h2⟩;unfold frm;rw [if_pos hf];exact h
theorem qjY {C:World→Prop} {skip:Nat→Bool}:∀ (l:List Oper) (k:Nat),flowXL P ops C L fin fin2 skip k l→∀ j o,l[j]?=some o→skip (k+j)=false→wpQuiet P ops C (fun a'=>a'=frm ops L fin fin2 o) [o] (frm ops L fin fin2 o)
  | [],_,_,j,o,h,_=>by simp at h
  | x::l,k,h,j,o,hj,hs=>by
    cases j with
    | zero =>
      simp only [List.getElem?_cons_zero,Option.some.injEq] at hj;subst hj;exact h.1.resolve_left (by rw [Nat.add_zero] at hs;rw [hs];exact Bool.noConfusion)
    | succ j=>exact qjY l (k+1) h.2 j o (by simpa using hj) (by rw [show k+1+j=k+(j+1) by omega];exact hs)
theorem qgN {id:Nat} {dr:Bool} {Q:Exit→Act→World→Prop} {a:Act} {w:World} {l:List Oper} (pl:List Pl) (vs vs2:List (Tmp × Value)) (fin fin2:Act) (hfin:vs.foldl (fun a p=>a.put (some p.1) p.2) a=fin) (hfin2:vs2.foldl (fun a p=>a.put (some p.1) p.2) fin=fin2) (hini:∀ p∈vs2,a.tmps[p.1]?=some p.2)
    (hm:P.follows .mixedOrders=true) (hB:flowBL l.toArray pl (vs2.map (·.1)) (vs.map (·.1)) a.tmps.size=true)
    (hX:∀ W',Below w.heap.size w W'→flowXL P l.toArray (fun w'=>∃ p:GB,w'=gw W' p.d p.os) (vs2.map (·.1)) fin fin2 (fun k=>isA pl k || isS pl k || !early l.toArray pl k) 0 l)
    (hY:∀ W',FlowK pl w W'→flowXL P l.toArray (fun w'=>∃ p:GB,w'=gw W' p.d p.os) (vs2.map (·.1)) fin fin2 (fun k=>isA pl k || isS pl k || early l.toArray pl k) 0 l)
    (hAl:∀ p∈pl,p.new=true→∃ z,LaysAs P p.ty z∧p.cs.length≤z.size)
    (hOld:∀ q∈pl,q.new=false→q.b<w.heap.size∧fin.tmps[q.d]?=some (.pointer (some ⟨q.b,q.so,none⟩))∧w.there q.b q.o q.cs.length∧w.rangeAt q.b q.o q.pre)
    (hDb:∀ q∈pl,∀ r∈pl,q.new=false→r.new=false→q.b=r.b→q=r)
    (hSt:∀ p∈pl,StOk P fin p)
    (hQ:∀ β w',FlowE pl w β w'→Q .normal (nP β pl fin) w'):(Code.region id l.toArray dr).wp P Q a w:=by
  obtain ⟨C,hts,hpd⟩:=jiA hB;have hd:∀ t∈vs.map (·.1),∃ (i:Nat) (o:Oper),l.toArray[i]?=some o∧o.dst=some t:=fun t ht=>by obtain ⟨_,i,o,ho,hd,_⟩:=hts t ht;exact ⟨i,o,ho,hd⟩
  have hX':∀ (W0:World),W0.os=w.os→W0.tape=w.tape→W0.output=w.output→W0.heap=w.heap→∀ j oj,l.toArray[j]?=some oj→isA pl j=false→isS pl j=false→∀ W',FlowK pl W0 W'→(early l.toArray pl j=true→Below W0.heap.size W0 W') →
      wpQuiet P l.toArray (fun w'=>∃ p:GB,w'=gw W' p.d p.os) (fun a'=>a'=frm l.toArray (vs2.map (·.1)) fin fin2 oj) [oj] (frm l.toArray (vs2.map (·.1)) fin fin2 oj):=by
    intro W0 e1 e2 e3 e4 j oj hoj hA hS W' hK hW'
    cases he:early l.toArray pl j with
    | true =>
      have h:=hW' he;exact qjY l 0 (hX W' ⟨h.os.trans e1,h.tape.trans e2,h.output.trans e3,by rw [←e4];exact h.size,fun k hk=>by rw [←e4];exact h.block k (by rw [e4];exact hk)⟩) j oj (by simpa using hoj) (by simp [hA,hS,he])
    | false =>
      exact qjY l 0 (hY W' ⟨hK.os.trans e1,hK.tape.trans e2,hK.output.trans e3,by rw [←e4];exact hK.big,fun k hk hp=>by rw [←e4];exact hK.keep k (by rw [e4];exact hk) hp⟩) j oj (by simpa using hoj) (by simp [hA,hS,he])
  cases dr with
  | true =>
    have hO:∀ q∈pl,q.new=false→q.b<w.drew.heap.size∧fin.tmps[q.d]?=some (.pointer (some ⟨q.b,q.so,none⟩))∧w.drew.there q.b q.o q.cs.length∧w.drew.rangeAt q.b q.o q.pre:=fun q hq hn=>by
      obtain ⟨h1,h2,h3,h4⟩:=hOld q hq hn;exact ⟨h1,h2,by simpa using h3,h4⟩
    have J:FlowJ l.toArray pl fin a w.drew (fun _=>0) (Array.replicate l.toArray.size false) a w.drew:=FlowJ.start C hfin hd fun q hq hn=>(hO q hq hn).2.2.1
    obtain ⟨b1,b2,b3⟩:=qnR vs2 fin a J.size.symm hini;rw [hfin2] at b1 b2 b3;refine wp_region_any hm (jcQ (P:=P) (fin2:=fin2) (ini:=a) C ⟨b2,b3,b1,hX' w.drew rfl rfl rfl rfl,?_,hO,hDb,hSt⟩ (fun β w' E=>hQ β w' ⟨E.os,E.tape,E.output,E.big,E.keep,E.laid,E.old,E.apart⟩) _ _ _ _ _ (qoJ _) J);intro p hp hn;exact ⟨by rw [J.size.symm];exact hpd p hp hn,hAl p hp hn⟩
  | false =>
    have J:FlowJ l.toArray pl fin a w (fun _=>0) (Array.replicate l.toArray.size false) a w:=FlowJ.start C hfin hd fun q hq hn=>(hOld q hq hn).2.2.1
    obtain ⟨b1,b2,b3⟩:=qnR vs2 fin a J.size.symm hini;rw [hfin2] at b1 b2 b3;refine wp_region ?_;rw [List.range_eq_range'];refine jcP (P:=P) (W:=w) (fin2:=fin2) (ini:=a) C ⟨b2,b3,b1,hX' w rfl rfl rfl rfl,?_,hOld,hDb,hSt⟩ hQ _ _ _ _ _ _ (by omega) (fun i hi=>by rw [getD_replicate_false];simp) J;intro p hp hn;exact ⟨by rw [J.size.symm];exact hpd p hp hn,hAl p hp hn⟩
theorem qjX {C:World→Prop} {skip:Nat→Bool}:∀ (l:List Oper) (k:Nat),flowX P ops C fin skip k l→flowXL P ops C [] fin fin skip k l
  | [],_,_=>trivial
  | o::l,k,h=>by
    refine ⟨h.1.imp id fun hq=>?_,qjX l (k+1) h.2⟩;unfold frm;rw [ite_self];exact hq
theorem qwf {id:Nat} {dr:Bool} {Q:Exit→Act→World→Prop} {a:Act} {w:World} {l:List Oper} (pl:List Pl) (vs:List (Tmp × Value)) (fin:Act) (hfin:vs.foldl (fun a p=>a.put (some p.1) p.2) a=fin)
    (hm:P.follows .mixedOrders=true) (hB:flowB l.toArray pl (vs.map (·.1)) a.tmps.size=true)
    (hX:∀ W',Below w.heap.size w W'→flowX P l.toArray (fun w'=>∃ p:GB,w'=gw W' p.d p.os) fin (fun k=>isA pl k || isS pl k || !early l.toArray pl k) 0 l)
    (hY:∀ W',FlowK pl w W'→flowX P l.toArray (fun w'=>∃ p:GB,w'=gw W' p.d p.os) fin (fun k=>isA pl k || isS pl k || early l.toArray pl k) 0 l)
    (hAl:∀ p∈pl,p.new=true→∃ z,LaysAs P p.ty z∧p.cs.length≤z.size)
    (hOld:∀ q∈pl,q.new=false→q.b<w.heap.size∧fin.tmps[q.d]?=some (.pointer (some ⟨q.b,q.so,none⟩))∧w.there q.b q.o q.cs.length∧w.rangeAt q.b q.o q.pre)
    (hDb:∀ q∈pl,∀ r∈pl,q.new=false→r.new=false→q.b=r.b→q=r)
    (hSt:∀ p∈pl,StOk P fin p)
    (hQ:∀ β w',FlowE pl w β w'→Q .normal (nP β pl fin) w'):(Code.region id l.toArray dr).wp P Q a w :=
  qgN pl vs [] fin fin hfin rfl (fun p hp=>by cases hp) hm hB (fun W' h=>qjX l 0 (hX W' h)) (fun W' h=>qjX l 0 (hY W' h)) hAl hOld hDb hSt hQ
end
theorem stw {P:Program} {fin:Act} {new:Bool} {i s b o:Nat} {d x:Tmp} {ty:TypeId} {cs:List Value} (h:fin.tmps[x]?=some (.agg cs.toArray)) (hs:(P.info? ty).map (·.size)=some cs.length) (h1:cs.toArray.all (·.oneCell')=true) (h0:new=true→o=0) :
    StOk P fin ⟨new,i,d,s,b,o,ty,x,cs,o,cs,[]⟩ :=
  ⟨⟨_,h,rfl⟩,hs,fun v hv=>(Array.all_eq_true_iff_forall_mem.1 h1) v (by simpa using hv),Nat.le_refl _,Nat.le_refl _,h0,fun w b _ ht=>World.rangeAt_setCells_same w b o cs ht⟩
theorem jhG {P:Program} {fin:Act} {i s b o k:Nat} {d x:Tmp} {ty:TypeId} {cs pre:List Value} {v:Value} (h:fin.tmps[x]?=some v) (hv:v.cells=#[v]) (hs:(P.info? ty).map (·.size)=some 1) (h1:v.oneCell'=true) (hk:k<pre.length) (hcs:cs=pre.set k v) :
    StOk P fin ⟨false,i,d,s,b,o,ty,x,cs,o+k,[v],pre⟩:=by
  subst hcs;refine ⟨⟨v,h,by rw [hv]⟩,hs,fun u hu=>by rw [List.mem_singleton.1 hu];exact h1,by show o≤o+k;omega,by show o+k+1≤o+(pre.set k v).length;rw [List.length_set];omega,fun e=>Bool.noConfusion e,?_⟩;intro w b hpre ht j u hj;have hp:=hpre rfl;show ((w.setCell ⟨b,o+k,none⟩ v)).cell? ⟨b,o+j,none⟩=some u
  by_cases e:j=k
  · subst e
    have hs:=(ht j (by show j<(pre.set j v).length;rw [List.length_set];exact hk)).1
    have hj':u=v:=by
      have:(pre.set j v)[j]?=some u:=hj
      rw [List.getElem?_set_self hk] at this;exact (Option.some.inj this).symm
    rw [hj']
    have:=World.cell?_setCells_in b [v] (o+j) w (fun i hi=>by
      have:i=0:=by simpa using hi
      subst this;exact hs) 0 (by simp)
    simpa [World.setCells] using this
  · have hj':pre[j]?=some u:=by
      have:(pre.set k v)[j]?=some u:=hj
      rwa [List.getElem?_set_ne (fun h=>e h.symm)] at this
    have hc:w.cell? ⟨b,o+j,none⟩=some u:=hp j u hj'
    have:=World.cell?_setCells_out b [v] (o+k) w ⟨b,o+j,none⟩ (fun _ _=>by simp;omega)
    simp only [World.setCells] at this;rw [this];exact hc
end Go.Proofs.YtemoddmadfoaiaaGreat
namespace Go.Proofs.YtemoddmadfoaiaaGreat
open Go.RowKit Big
theorem Tryz.laysI:LaysAs Tryz.prog 25 zero33:=by
 intro o h b w;unfold execOp;simp only [h];rfl
theorem FlowE.below {pl:List Pl} {W w:World} {β:Nat→Nat} (E:FlowE pl W β w) (h:pl.all (·.new)=true):Below W.heap.size W w :=
 ⟨E.os,E.tape,E.output,E.big,fun k hk=>E.keep k hk fun p hp hn=>by have:=List.all_eq_true.1 h p hp;rw [hn] at this;cases this⟩
structure At (w:World) (b o:Nat) (cs:List Value):Prop where
 range:w.rangeAt b o cs
 there:w.there b o cs.length
 lt:b<w.heap.size
theorem At.below {w w':World} {b o:Nat} {cs:List Value} (h:At w b o cs) (hb:Below w.heap.size w w'):At w' b o cs :=
 ⟨qaO h.range hb,qaX h.there hb h.lt,Nat.lt_of_lt_of_le h.lt hb.size⟩
theorem At.alloc {w:World} {b o:Nat} {cs:List Value} (h:At w b o cs) (ob:Obj):At (w.alloc ob) b o cs:=h.below ((Below.refl _ _).alloc (Nat.le_refl _) ob)
theorem At.fresh (w:World) (cs:List Value) (ty:TypeId) {b:Nat} (hb:b=w.heap.size):At (w.alloc (.cells cs.toArray ty)) b 0 cs:=by
 subst hb;exact ⟨qdD w cs ty,qjA w cs.toArray ty (by simp),by simp⟩
theorem At.zero (w:World) (ty:TypeId) {b:Nat} (hb:b=w.heap.size):At (w.alloc (.cells zero33 ty)) b 0 (.bool false::lv 32 0):=by
 have:zero33=(Value.bool false::lv 32 0).toArray:=by rw [qbX];rfl
 rw [this];exact At.fresh w _ ty hb
theorem At.sub {w:World} {b o:Nat} {xs ys zs:List Value} (h:At w b o (xs++(ys++zs))) {k:Nat} (hk:k=o+xs.length):At w b k ys:=by
 subst hk;refine ⟨fun j v hj=>?_,fun j hj=>?_,h.lt⟩
 ·have hl:=(List.getElem?_eq_some_iff.1 hj).1
  have:=h.range (xs.length+j) v (by rw [List.getElem?_append_right (by omega),List.getElem?_append_left (by omega)];rw [←hj];congr 1;omega)
  rwa [←Nat.add_assoc] at this
 ·have:=h.there (xs.length+j) (by simp;omega)
  rwa [←Nat.add_assoc] at this
theorem At.head {w:World} {b o:Nat} {ys zs:List Value} (h:At w b o (ys++zs)):At w b o ys:=At.sub (xs:=[]) h (by simp)
theorem At.tail {w:World} {b o k:Nat} {xs ys:List Value} (h:At w b o (xs++ys)) (hk:k=o+xs.length):At w b k ys:=At.sub (zs:=[]) (by simpa using h) hk
theorem At.cell {w:World} {b o:Nat} {cs:List Value} (h:At w b o cs) {j:Nat} {v:Value} (hj:cs[j]?=some v):w.cell? ⟨b,o+j,none⟩=some v:=h.range j v hj
theorem At.flow {pl:List Pl} {w w':World} {β:Nat→Nat} (E:FlowE pl w β w') {b o:Nat} {cs:List Value} (h:At w b o cs) (hne:∀ p∈pl,p.new=false→p.b≠b):At w' b o cs:=by
 have hk:=E.keep b h.lt hne;refine ⟨fun j v hj=>?_,fun j hj=>?_,Nat.lt_of_lt_of_le h.lt E.big⟩
 ·rw [World.cell?_of_block (w:=w) hk];exact h.range j v hj
 ·rw [World.cell?_of_block (w:=w) hk,World.frozen?_of_block (w:=w) hk];exact h.there j hj
theorem At.keep {pl:List Pl} {w w':World} (E:FlowK pl w w') {b o:Nat} {cs:List Value} (h:At w b o cs) (hne:∀ p∈pl,p.new=false→p.b≠b):At w' b o cs:=by
 have hk:=E.keep b h.lt hne;refine ⟨fun j v hj=>?_,fun j hj=>?_,Nat.lt_of_lt_of_le h.lt E.big⟩
 ·rw [World.cell?_of_block (w:=w) hk];exact h.range j v hj
 ·rw [World.cell?_of_block (w:=w) hk,World.frozen?_of_block (w:=w) hk];exact h.there j hj
theorem FlowE.atNew {pl:List Pl} {w w':World} {β:Nat→Nat} (E:FlowE pl w β w') {p:Pl} (hp:p∈pl) (hn:p.new=true):w.heap.size≤β p.i∧At w' (β p.i) 0 p.cs:=by
 obtain ⟨h1,h2,h3,h4⟩:=E.laid p hp hn;exact ⟨h1,h4,h3,h2⟩
theorem FlowE.atOld {pl:List Pl} {w w':World} {β:Nat→Nat} (E:FlowE pl w β w') {p:Pl} (hp:p∈pl) (hn:p.new=false) (hb:p.b<w.heap.size):At w' p.b p.o p.cs:=by
 obtain ⟨h3,h4⟩:=E.old p hp hn;exact ⟨h4,h3,Nat.lt_of_lt_of_le hb E.big⟩
structure Fr (Z:Nat) (w w':World):Prop where
 below:Below Z w w'
 le:Z≤w'.heap.size
theorem Fr.step {Z:Nat} {w w1 w2:World} (h:Fr Z w w1) (hb:Below w1.heap.size w1 w2):Fr Z w w2:=⟨h.below.trans (hb.mono h.le),Nat.le_trans h.le hb.size⟩
theorem Fr.flow {Z:Nat} {w w1 w2:World} {pl:List Pl} {β:Nat→Nat} (h:Fr Z w w1) (E:FlowE pl w1 β w2) (hz:∀ p∈pl,p.new=false→Z≤p.b):Fr Z w w2 :=
 ⟨h.below.trans ⟨E.os,E.tape,E.output,E.big,fun k hk=>E.keep k (Nat.lt_of_lt_of_le hk h.le) fun p hp hn e=>by have:=hz p hp hn;omega⟩,Nat.le_trans h.le E.big⟩
theorem Fr.alloc {Z:Nat} {w w1:World} (h:Fr Z w w1) (ob:Obj):Fr Z w (w1.alloc ob):=h.step ((Below.refl _ _).alloc (Nat.le_refl _) ob)
theorem Fr.start (w:World):Fr w.heap.size w w:=⟨Below.refl _ _,Nat.le_refl _⟩
theorem wlg {P:Program} {ops:Array Oper} {w:World} {Q:Act→Prop} {a:Act} {op:Oper} {rest:List Oper} {ty:TypeId} {x:Operand} {b o:Nat} {cs:List Value} {d:TypeDesc} (hgd:Region.wanted op (yielded ops a.tmps)=true) (ho:op.op=.load ty x)
  (hx:a.eval x=.pointer (some ⟨b,o,none⟩)) (hA:At w b o cs) (hu:P.underlying ty=some d) (hd:d.isRow=true) (hi:(P.info? ty).map (·.size)=some cs.length)
  (h:wpQuiet P ops (fun w'=>∃ p:GB,w'=gw w p.d p.os) Q rest (a.put op.dst (.agg cs.toArray))) :
  wpQuiet P ops (fun w'=>∃ p:GB,w'=gw w p.d p.os) Q (op::rest) a :=
 wlq hgd ty x ho b o hx cs d hA.range hu hd hi h
theorem Tryz.laysM:LaysAs Tryz.prog 23 (lv 32 0).toArray:=by
 rw [qbW];intro o h b w;unfold execOp;simp only [h];rfl
theorem oP {f:Pl→Prop} (p:Pl) (l:List Pl) (h:f p) (h2:∀ x∈l,f x):∀ x∈p::l,f x:=fun x hx=>by
 rcases List.mem_cons.1 hx with e|hx
 ·rw [e];exact h
 ·exact h2 x hx
theorem oN {f:Pl→Prop}:∀ x∈([]:List Pl),f x:=fun x hx=>by cases hx
theorem bnc {P:Prop} (h:false=true):P:=Bool.noConfusion h
theorem uno {p:Pl}:∀ q∈[p],∀ r∈[p],q.new=false→r.new=false→q.b=r.b→q=r:=fun q hq r hr _ _ _=>by rw [List.mem_singleton.1 hq,List.mem_singleton.1 hr]
theorem qbP {cs:List Value} {v:Nat} (h:cs=lv 32 v):(Tryz.prog.info? 23).map (·.size)=some cs.length:=by rw [h];exact qbS v
theorem qI {cs:List Value} {n:Bool} {v:Nat} (h:cs=.bool n::lv 32 v):(Tryz.prog.info? 25).map (·.size)=some cs.length:=by rw [h];exact infoI33 n v
theorem jeD {cs:List Value} {v:Nat} (h:cs=lv 32 v):cs.toArray.all (·.oneCell')=true:=by rw [h];exact all_oneCell_toArray (qcM 32 v)
theorem qfH {cs:List Value} {n:Bool} {v:Nat} (h:cs=.bool n::lv 32 v):cs.toArray.all (·.oneCell')=true:=by rw [h];exact all_oneCell_toArray (qfJ n v)
theorem Tryz.alI {cs:List Value} (h:(Tryz.prog.info? 25).map (·.size)=some cs.length):∃ z,LaysAs Tryz.prog 25 z∧cs.length≤z.size :=
 ⟨zero33,Tryz.laysI,by rw [Tryz.infoI] at h;injection h with h;rw [←h];decide⟩
theorem Tryz.alM {cs:List Value} (h:(Tryz.prog.info? 23).map (·.size)=some cs.length):∃ z,LaysAs Tryz.prog 23 z∧cs.length≤z.size :=
 ⟨_,Tryz.laysM,by rw [Tryz.infoM] at h;injection h with h;rw [←h,List.size_toArray,qlL];exact Nat.le_refl _⟩
theorem At.room {P:Program} {t:TypeId} {w:World} {b o:Nat} {cs ds:List Value} (h:At w b o cs) (h1:(P.info? t).map (·.size)=some cs.length) (h2:(P.info? t).map (·.size)=some ds.length):w.there b o ds.length∧w.rangeAt b o []:=by
 rw [h1] at h2;injection h2 with h2;rw [←h2];exact ⟨h.there,fun j v hv=>by simp at hv⟩
theorem FlowE.nn {pl:List Pl} (h:pl.all (·.new)=true):∀ p∈pl,p.new=false→False:=fun p hp hn=>by
 have:=List.all_eq_true.1 h p hp;rw [hn] at this;cases this
theorem At.fnw {pl:List Pl} {w w':World} {β:Nat→Nat} {b o:Nat} {cs:List Value} (h:At w b o cs) (E:FlowE pl w β w') (hn:pl.all (·.new)=true):At w' b o cs:=h.flow E fun p hp hp2=>(FlowE.nn hn p hp hp2).elim
theorem Fr.fnw {Z:Nat} {w w1 w2:World} {pl:List Pl} {β:Nat→Nat} (h:Fr Z w w1) (E:FlowE pl w1 β w2) (hn:pl.all (·.new)=true):Fr Z w w2:=h.flow E fun p hp hp2=>(FlowE.nn hn p hp hp2).elim
theorem fP1 {f:Pl→Prop} {p:Pl} (h:f p):∀ x ∈ [p],f x:=oP _ _ h (oN)
theorem fo2 {P:Program} {ops:Array Oper} {C:World→Prop} {fin:Act} {s:Nat→Bool} {k:Nat} {a b:Oper} {l:List Oper} (h1:wpQuiet P ops C (fun a'=>a'=fin) [a] fin) (h2:wpQuiet P ops C (fun a'=>a'=fin) [b] fin) (h:flowX P ops C fin s (k+1+1) l):flowX P ops C fin s k (a::b::l):=fxo h1 (fxo h2 h)
theorem fo3 {P:Program} {ops:Array Oper} {C:World→Prop} {fin:Act} {s:Nat→Bool} {k:Nat} {a b c:Oper} {l:List Oper} (h1:wpQuiet P ops C (fun a'=>a'=fin) [a] fin) (h2:wpQuiet P ops C (fun a'=>a'=fin) [b] fin) (h3:wpQuiet P ops C (fun a'=>a'=fin) [c] fin) (h:flowX P ops C fin s (k+1+1+1) l):flowX P ops C fin s k (a::b::c::l):=fxo h1 (fxo h2 (fxo h3 h))
theorem fo4 {P:Program} {ops:Array Oper} {C:World→Prop} {fin:Act} {s:Nat→Bool} {k:Nat} {a b c d:Oper} {l:List Oper} (h1:wpQuiet P ops C (fun a'=>a'=fin) [a] fin) (h2:wpQuiet P ops C (fun a'=>a'=fin) [b] fin) (h3:wpQuiet P ops C (fun a'=>a'=fin) [c] fin) (h4:wpQuiet P ops C (fun a'=>a'=fin) [d] fin) (h:flowX P ops C fin s (k+1+1+1+1) l):flowX P ops C fin s k (a::b::c::d::l):=fxo h1 (fxo h2 (fxo h3 (fxo h4 h)))
theorem fxi {P:Program} {ops:Array Oper} {C:World→Prop} {fin:Act} {s:Nat→Bool} {k:Nat} {o:Oper} {l:List Oper} (h:s k=true∨wpQuiet P ops C (fun a'=>a'=fin) [o] fin) (h2:flowX P ops C fin s (k+1) l):flowX P ops C fin s k (o::l):=⟨h,h2⟩
theorem fxl {P:Program} {ops:Array Oper} {w:World} {fin:Act} {s:Nat→Bool} {k:Nat} {op:Oper} {l:List Oper} {ty:TypeId} {x:Operand} {b o:Nat} {cs:List Value} {d:TypeDesc} (hA:At w b o cs) (hi:(P.info? ty).map (·.size)=some cs.length) (hu:P.underlying ty=some d) (hd:d.isRow=true) (h:(Region.wanted op (yielded ops fin.tmps),op.op,fin.eval x,fin.put op.dst (.agg cs.toArray))=(true,.load ty x,.pointer (some ⟨b,o,none⟩),fin)) (h2:flowX P ops (fun w'=>∃ p:GB,w'=gw w p.d p.os) fin s (k+1) l):flowX P ops (fun w'=>∃ p:GB,w'=gw w p.d p.os) fin s k (op::l):=by
 simp only [Prod.mk.injEq] at h;exact fxo (wlg h.1 h.2.1 h.2.2.1 hA hu hd hi (wqn h.2.2.2)) h2
theorem fxb {P:Program} {ops:Array Oper} {C:World→Prop} {fin:Act} {s:Nat→Bool} {k:Nat} {op:Oper} {l:List Oper} {ty:TypeId} {xs:Array (Nat×Operand)} {vs:List (Nat×Value)} {Z:Array Value} (hb:P.built ty vs=some Z) (h:(op.guard,op.op,xs.toList.map (fun p=>(p.1,fin.eval p.2)),fin.put op.dst (.agg Z))=(none,.build ty xs,vs,fin)) (h2:flowX P ops C fin s (k+1) l):flowX P ops C fin s k (op::l):=by
 simp only [Prod.mk.injEq] at h;exact fxo (wqB h.1 ty xs h.2.1 vs h.2.2.1 Z hb (wqn h.2.2.2)) h2
theorem fxc {P:Program} {ops:Array Oper} {w:World} {fin:Act} {s:Nat→Bool} {k:Nat} {op:Oper} {l:List Oper} {ty:TypeId} {x:Operand} {v:Value} {ad:Addr} (hc:w.cell? ad=some v) (hl:∀ W:World,W.cell? ad=some v→(loadVar ty ad).run P W=.ok v W) (h:(Region.wanted op (yielded ops fin.tmps),op.op,fin.eval x,fin.put op.dst v)=(true,.load ty x,.pointer (some ad),fin)) (h2:flowX P ops (fun w'=>∃ p:GB,w'=gw w p.d p.os) fin s (k+1) l):flowX P ops (fun w'=>∃ p:GB,w'=gw w p.d p.os) fin s k (op::l):=by
 simp only [Prod.mk.injEq] at h;refine fxo (wpQuiet_step (fun K hK=>?_)) h2;rw [if_pos h.1];refine ⟨v,fun W hW=>?_,hK _ (wqn h.2.2.2)⟩;obtain ⟨p,rfl⟩:=hW;unfold Oper.quietAt execOp;simp only [h.2.1,h.2.2.1,Instr.loadAt,Instr.sureAddr,Sem.run_bind,Sem.run_pure,Result.andThen_ok,hl _ (qaB hc p.d p.os)];exact ⟨rfl,rfl⟩
theorem fnh {pl:List Pl} {w w':World} {β:Nat→Nat} {b o:Nat} {cs:List Value} (h:Hid (At w b o cs)) (E:FlowE pl w β w') (hn:pl.all (·.new)=true):Hid (At w' b o cs):=Lib.hid (h.out.fnw E hn)
theorem fnf {Z:Nat} {w w1 w2:World} {pl:List Pl} {β:Nat→Nat} (h:Hid (Fr Z w w1)) (E:FlowE pl w1 β w2) (hn:pl.all (·.new)=true):Hid (Fr Z w w2):=Lib.hid (h.out.fnw E hn)
theorem afh {i s q r so:Nat} {d x:Tmp} {ty:TypeId} {ds scs pre:List Value} {w w':World} {β:Nat→Nat} {b o:Nat} {cs:List Value} (h:Hid (At w b o cs)) (E:FlowE [⟨false,i,d,s,q,r,ty,x,ds,so,scs,pre⟩] w β w') (hn:q≠b):Hid (At w' b o cs):=Lib.hid (At.flow E h.out (fP1 (fun _=>hn)))
theorem ffh {i s q r so:Nat} {d x:Tmp} {ty:TypeId} {ds scs pre:List Value} {Z:Nat} {w w1 w2:World} {β:Nat→Nat} (h:Hid (Fr Z w w1)) (E:FlowE [⟨false,i,d,s,q,r,ty,x,ds,so,scs,pre⟩] w1 β w2) (hn:Z≤q):Hid (Fr Z w w2):=Lib.hid (h.out.flow E (fP1 (fun _=>hn)))
theorem akh {i s q r so:Nat} {d x:Tmp} {ty:TypeId} {ds scs pre:List Value} {w w':World} {b o:Nat} {cs:List Value} (h:Hid (At w b o cs)) (E:FlowK [⟨false,i,d,s,q,r,ty,x,ds,so,scs,pre⟩] w w') (hn:q≠b):At w' b o cs:=At.keep E h.out (fP1 (fun _=>hn))
theorem ltb {w:World} {b o n:Nat} {cs:List Value} (h:Hid (At w b o cs)) (e:w.heap.size≤n):b<n:=Nat.lt_of_lt_of_le h.out.lt e
theorem en1 (w:World) {z0:Array Value} {c0:List Value} (t0:TypeId) (h0:z0=c0.toArray):∃ B0 w0,w0=(w.alloc (.cells z0 t0))∧B0=w.heap.size∧Hid (At w0 B0 0 c0)∧Hid (Fr B0 w w0)∧Hid (B0≤w0.heap.size)∧Hid (B0=w.heap.size)∧B0≤B0:=by
 subst h0;refine ⟨w.heap.size,_,rfl,rfl,Lib.hid (show At (w.alloc (.cells c0.toArray t0)) (w.heap.size) 0 c0 from At.fresh _ c0 _ (by simp)),Lib.hid ((Fr.start w).alloc _),Lib.hid ((Fr.start w).alloc _).le,Lib.hid rfl,Nat.le_refl _⟩
theorem en2 (w:World) {z0 z1:Array Value} {c0 c1:List Value} (t0 t1:TypeId) (h0:z0=c0.toArray) (h1:z1=c1.toArray):∃ B0 B1 w0,w0=((w.alloc (.cells z0 t0)).alloc (.cells z1 t1))∧B0=w.heap.size∧B1=w.heap.size+1∧Hid (At w0 B0 0 c0)∧Hid (At w0 B1 0 c1)∧Hid (Fr B0 w w0)∧Hid (B0≤w0.heap.size)∧Hid (B0=w.heap.size)∧B0≤B0∧B0<B1∧B0≤B1:=by
 subst h0 h1;refine ⟨w.heap.size,w.heap.size+1,_,rfl,rfl,rfl,Lib.hid ((show At (w.alloc (.cells c0.toArray t0)) (w.heap.size) 0 c0 from At.fresh _ c0 _ (by simp)).alloc _),Lib.hid (show At ((w.alloc (.cells c0.toArray t0)).alloc (.cells c1.toArray t1)) (w.heap.size+1) 0 c1 from At.fresh _ c1 _ (by simp)),Lib.hid (((Fr.start w).alloc _).alloc _),Lib.hid (((Fr.start w).alloc _).alloc _).le,Lib.hid rfl,Nat.le_refl _,by omega,by omega⟩
theorem en3 (w:World) {z0 z1 z2:Array Value} {c0 c1 c2:List Value} (t0 t1 t2:TypeId) (h0:z0=c0.toArray) (h1:z1=c1.toArray) (h2:z2=c2.toArray):∃ B0 B1 B2 w0,w0=(((w.alloc (.cells z0 t0)).alloc (.cells z1 t1)).alloc (.cells z2 t2))∧B0=w.heap.size∧B1=w.heap.size+1∧B2=w.heap.size+1+1∧Hid (At w0 B0 0 c0)∧Hid (At w0 B1 0 c1)∧Hid (At w0 B2 0 c2)∧Hid (Fr B0 w w0)∧Hid (B0≤w0.heap.size)∧Hid (B0=w.heap.size)∧B0≤B0∧B0<B1∧B0≤B1∧B1<B2∧B0≤B2:=by
 subst h0 h1 h2;refine ⟨w.heap.size,w.heap.size+1,w.heap.size+1+1,_,rfl,rfl,rfl,rfl,Lib.hid (((show At (w.alloc (.cells c0.toArray t0)) (w.heap.size) 0 c0 from At.fresh _ c0 _ (by simp)).alloc _).alloc _),Lib.hid ((show At ((w.alloc (.cells c0.toArray t0)).alloc (.cells c1.toArray t1)) (w.heap.size+1) 0 c1 from At.fresh _ c1 _ (by simp)).alloc _),Lib.hid (show At (((w.alloc (.cells c0.toArray t0)).alloc (.cells c1.toArray t1)).alloc (.cells c2.toArray t2)) (w.heap.size+1+1) 0 c2 from At.fresh _ c2 _ (by simp)),Lib.hid ((((Fr.start w).alloc _).alloc _).alloc _),Lib.hid ((((Fr.start w).alloc _).alloc _).alloc _).le,Lib.hid rfl,Nat.le_refl _,by omega,by omega,by omega,by omega⟩
theorem en4 (w:World) {z0 z1 z2 z3:Array Value} {c0 c1 c2 c3:List Value} (t0 t1 t2 t3:TypeId) (h0:z0=c0.toArray) (h1:z1=c1.toArray) (h2:z2=c2.toArray) (h3:z3=c3.toArray):∃ B0 B1 B2 B3 w0,w0=((((w.alloc (.cells z0 t0)).alloc (.cells z1 t1)).alloc (.cells z2 t2)).alloc (.cells z3 t3))∧B0=w.heap.size∧B1=w.heap.size+1∧B2=w.heap.size+1+1∧B3=w.heap.size+1+1+1∧Hid (At w0 B0 0 c0)∧Hid (At w0 B1 0 c1)∧Hid (At w0 B2 0 c2)∧Hid (At w0 B3 0 c3)∧Hid (Fr B0 w w0)∧Hid (B0≤w0.heap.size)∧Hid (B0=w.heap.size)∧B0≤B0∧B0<B1∧B0≤B1∧B1<B2∧B0≤B2∧B2<B3∧B0≤B3:=by
 subst h0 h1 h2 h3;refine ⟨w.heap.size,w.heap.size+1,w.heap.size+1+1,w.heap.size+1+1+1,_,rfl,rfl,rfl,rfl,rfl,Lib.hid ((((show At (w.alloc (.cells c0.toArray t0)) (w.heap.size) 0 c0 from At.fresh _ c0 _ (by simp)).alloc _).alloc _).alloc _),Lib.hid (((show At ((w.alloc (.cells c0.toArray t0)).alloc (.cells c1.toArray t1)) (w.heap.size+1) 0 c1 from At.fresh _ c1 _ (by simp)).alloc _).alloc _),Lib.hid ((show At (((w.alloc (.cells c0.toArray t0)).alloc (.cells c1.toArray t1)).alloc (.cells c2.toArray t2)) (w.heap.size+1+1) 0 c2 from At.fresh _ c2 _ (by simp)).alloc _),Lib.hid (show At ((((w.alloc (.cells c0.toArray t0)).alloc (.cells c1.toArray t1)).alloc (.cells c2.toArray t2)).alloc (.cells c3.toArray t3)) (w.heap.size+1+1+1) 0 c3 from At.fresh _ c3 _ (by simp)),Lib.hid (((((Fr.start w).alloc _).alloc _).alloc _).alloc _),Lib.hid (((((Fr.start w).alloc _).alloc _).alloc _).alloc _).le,Lib.hid rfl,Nat.le_refl _,by omega,by omega,by omega,by omega,by omega,by omega⟩
theorem en5 (w:World) {z0 z1 z2 z3 z4:Array Value} {c0 c1 c2 c3 c4:List Value} (t0 t1 t2 t3 t4:TypeId) (h0:z0=c0.toArray) (h1:z1=c1.toArray) (h2:z2=c2.toArray) (h3:z3=c3.toArray) (h4:z4=c4.toArray):∃ B0 B1 B2 B3 B4 w0,w0=(((((w.alloc (.cells z0 t0)).alloc (.cells z1 t1)).alloc (.cells z2 t2)).alloc (.cells z3 t3)).alloc (.cells z4 t4))∧B0=w.heap.size∧B1=w.heap.size+1∧B2=w.heap.size+1+1∧B3=w.heap.size+1+1+1∧B4=w.heap.size+1+1+1+1∧Hid (At w0 B0 0 c0)∧Hid (At w0 B1 0 c1)∧Hid (At w0 B2 0 c2)∧Hid (At w0 B3 0 c3)∧Hid (At w0 B4 0 c4)∧Hid (Fr B0 w w0)∧Hid (B0≤w0.heap.size)∧Hid (B0=w.heap.size)∧B0≤B0∧B0<B1∧B0≤B1∧B1<B2∧B0≤B2∧B2<B3∧B0≤B3∧B3<B4∧B0≤B4:=by
 subst h0 h1 h2 h3 h4;refine ⟨w.heap.size,w.heap.size+1,w.heap.size+1+1,w.heap.size+1+1+1,w.heap.size+1+1+1+1,_,rfl,rfl,rfl,rfl,rfl,rfl,Lib.hid (((((show At (w.alloc (.cells c0.toArray t0)) (w.heap.size) 0 c0 from At.fresh _ c0 _ (by simp)).alloc _).alloc _).alloc _).alloc _),Lib.hid ((((show At ((w.alloc (.cells c0.toArray t0)).alloc (.cells c1.toArray t1)) (w.heap.size+1) 0 c1 from At.fresh _ c1 _ (by simp)).alloc _).alloc _).alloc _),Lib.hid (((show At (((w.alloc (.cells c0.toArray t0)).alloc (.cells c1.toArray t1)).alloc (.cells c2.toArray t2)) (w.heap.size+1+1) 0 c2 from At.fresh _ c2 _ (by simp)).alloc _).alloc _),Lib.hid ((show At ((((w.alloc (.cells c0.toArray t0)).alloc (.cells c1.toArray t1)).alloc (.cells c2.toArray t2)).alloc (.cells c3.toArray t3)) (w.heap.size+1+1+1) 0 c3 from At.fresh _ c3 _ (by simp)).alloc _),Lib.hid (show At (((((w.alloc (.cells c0.toArray t0)).alloc (.cells c1.toArray t1)).alloc (.cells c2.toArray t2)).alloc (.cells c3.toArray t3)).alloc (.cells c4.toArray t4)) (w.heap.size+1+1+1+1) 0 c4 from At.fresh _ c4 _ (by simp)),Lib.hid ((((((Fr.start w).alloc _).alloc _).alloc _).alloc _).alloc _),Lib.hid ((((((Fr.start w).alloc _).alloc _).alloc _).alloc _).alloc _).le,Lib.hid rfl,Nat.le_refl _,by omega,by omega,by omega,by omega,by omega,by omega,by omega,by omega⟩
theorem bxq (c:List Value):c.toArray=c.toArray:=rfl
theorem zQI {c:List Value} (h:Hid (c=.bool false::lv 32 0)):zero33=c.toArray:=by rw [h.out,qbX];rfl
theorem zM {n:Nat} {c:List Value} (h:Hid (c=lv n 0)):(lv n 0).toArray=c.toArray:=by rw [h.out]
theorem nwb {pl:List Pl} {w w':World} {β:Nat→Nat} (E:FlowE pl w β w') {i s b o so:Nat} {d x:Tmp} {ty:TypeId} {cs scs pre:List Value} (hp:(⟨true,i,d,s,b,o,ty,x,cs,so,scs,pre⟩:Pl)∈pl):∃ b,b=β i∧w.heap.size≤b∧At w' b 0 cs:=⟨_,rfl,E.atNew hp rfl⟩
theorem bnC {P:Prop} (h:false=true):P:=Bool.noConfusion h
theorem aoh {pl:List Pl} {w w':World} {β:Nat→Nat} (E:FlowE pl w β w') {i s b o so:Nat} {d x:Tmp} {ty:TypeId} {c cs scs pre:List Value} (h:Hid (At w b o c)) (hp:(⟨false,i,d,s,b,o,ty,x,cs,so,scs,pre⟩:Pl)∈pl):Hid (At w' b o cs):=Lib.hid (E.atOld hp rfl h.out.lt)
theorem rmh {P:Program} {t:TypeId} {w:World} {b o:Nat} {cs ds:List Value} {α:Type} {u v:α} (h:Hid (At w b o cs)) (h1:(P.info? t).map (·.size)=some cs.length) (h2:(P.info? t).map (·.size)=some ds.length) (e:u=v):b<w.heap.size∧u=v∧w.there b o ds.length∧w.rangeAt b o []:=⟨h.out.lt,e,At.room h.out h1 h2⟩
abbrev CB (f:FuncId) (x:Array Value) (v:Value) (w:World):Prop:=Calls Tryz.prog f x w fun e w'=>e=.returned v∧Below w.heap.size w w'
theorem nvx (c:List Value):∃ x:List Value,Hid (x=c):=⟨_,Lib.hid rfl⟩
theorem nqx {α:Type} (a:α):∃ x,x=a:=⟨_,rfl⟩
theorem qaY {B:Nat} {w w1:World} (h:Hid (B=w.heap.size)) (f:Hid (Fr B w w1)):Below w.heap.size w w1:=by
 have h1:=h.out;subst h1;exact f.out.below
def pT (b o:Nat):Value:=.pointer (some ⟨b,o,none⟩)
def iT (z:Int):Value:=.int .i64 z
def aT (c:List Value):Value:=.agg c.toArray
def bT:Value:=.bool true
def bF:Value:=.bool false
theorem zt:(∀ b o,pT b o=.pointer (some ⟨b,o,none⟩))∧(∀ z,iT z=.int .i64 z)∧(∀ c,aT c=.agg c.toArray)∧bT=.bool true∧bF=.bool false:=⟨fun _ _=>rfl,fun _=>rfl,fun _=>rfl,rfl,rfl⟩
theorem zu:((∀ {α β:Type} (f:β→α→β) (b:β) (a:α) (l:List α),(a::l).foldl f b=l.foldl f (f b a))∧(∀ {α β:Type} (f:β→α→β) (b:β),([]:List α).foldl f b=b)∧(∀ {h:Decidable True} (t e:Act),@ite Act True h t e=t)∧(∀ {h:Decidable False} (t e:Act),@ite Act False h t e=e)∧(false=true)=False)∧((∀ (a:Act) (d:Tmp) (v:Value),Act.put a (some d) v={ a with tmps:=a.tmps.setIfInBounds d v })∧(∀ (a:Act) (v:Value),Act.put a none v=a)∧(∀ {α:Type} (l:List α) (i:Nat) (a:α),l.toArray.setIfInBounds i a=(l.set i a).toArray)∧(∀ {α:Type} (x a:α) (l:List α),(x::l).set 0 a=a::l)∧(∀ {α:Type} (x a:α) (l:List α) (i:Nat),(x::l).set (i+1) a=x::l.set i a))∧(∀ b o,pT b o=.pointer (some ⟨b,o,none⟩))∧(∀ z,iT z=.int .i64 z)∧(∀ c,aT c=.agg c.toArray)∧bT=.bool true∧bF=.bool false:=⟨zr,zq,zt⟩
theorem abl {w w':World} {b o:Nat} {cs:List Value} (h:Hid (At w b o cs)) (hb:Below w.heap.size w w'):At w' b o cs:=h.out.below hb
theorem ldI {ops:Array Oper} {w:World} {fin:Act} {s:Nat→Bool} {k:Nat} {op:Oper} {l:List Oper} {x:Operand} {b o:Nat} {cs:List Value} {n:Bool} {v:Nat} (hA:At w b o cs) (hV:Hid (cs=.bool n::lv 32 v)) (h:(Region.wanted op (yielded ops fin.tmps),op.op,fin.eval x,fin.put op.dst (.agg cs.toArray))=(true,.load 25 x,.pointer (some ⟨b,o,none⟩),fin)) (h2:flowX Tryz.prog ops (fun w'=>∃ p:GB,w'=gw w p.d p.os) fin s (k+1) l):flowX Tryz.prog ops (fun w'=>∃ p:GB,w'=gw w p.d p.os) fin s k (op::l):=fxl hA (qI hV.out) Tryz.underlying25 rfl h h2
theorem lhI {ops:Array Oper} {u w:World} {fin:Act} {s:Nat→Bool} {k:Nat} {op:Oper} {l:List Oper} {x:Operand} {b o:Nat} {cs:List Value} {n:Bool} {v:Nat} (hA:Hid (At u b o cs)) (hb:Below u.heap.size u w) (hV:Hid (cs=.bool n::lv 32 v)) (h:(Region.wanted op (yielded ops fin.tmps),op.op,fin.eval x,fin.put op.dst (.agg cs.toArray))=(true,.load 25 x,.pointer (some ⟨b,o,none⟩),fin)) (h2:flowX Tryz.prog ops (fun w'=>∃ p:GB,w'=gw w p.d p.os) fin s (k+1) l):flowX Tryz.prog ops (fun w'=>∃ p:GB,w'=gw w p.d p.os) fin s k (op::l):=ldI (hA.out.below hb) hV h h2
theorem rdI {w:World} {b o:Nat} {cs:List Value} {n:Bool} {v:Nat} (h:Hid (At w b o cs)) (hV:Hid (cs=.bool n::lv 32 v)):(loadVar 25 ⟨b,o,none⟩).run Tryz.prog w=.ok (.agg cs.toArray) w:=run_loadVar_mid w b o 25 cs _ h.out.range Tryz.underlying25 rfl (qI hV.out)
theorem sI {fin:Act} {new:Bool} {i s b o:Nat} {d x:Tmp} {cs:List Value} {n:Bool} {v:Nat} (hV:Hid (cs=.bool n::lv 32 v)) (h0:new=true→o=0) (h:fin.tmps[x]?=some (.agg cs.toArray)):StOk Tryz.prog fin ⟨new,i,d,s,b,o,25,x,cs,o,cs,[]⟩:=stw h (qI hV.out) (qfH hV.out) h0
theorem wfn {P:Program} {id:Nat} {dr:Bool} {Q:Exit→Act→World→Prop} {a:Act} {w:World} {l:List Oper} (pl:List Pl) (vs:List (Tmp × Value)) (fin:Act) (hfin:vs.foldl (fun a p=>a.put (some p.1) p.2) a=fin)
  (hm:P.follows .mixedOrders=true) (hB:flowB l.toArray pl (vs.map (·.1)) a.tmps.size=true) (hn:pl.all (·.new)=true)
  (hX:∀ W',Below w.heap.size w W'→flowX P l.toArray (fun w'=>∃ p:GB,w'=gw W' p.d p.os) fin (fun k=>isA pl k || isS pl k) 0 l)
  (hAl:∀ p∈pl,∃ z,LaysAs P p.ty z∧p.cs.length≤z.size)
  (hSt:∀ p∈pl,StOk P fin p)
  (hQ:∀ β w',FlowE pl w β w'→Q .normal (nP β pl fin) w'):(Code.region id l.toArray dr).wp P Q a w:=by
 have nw:∀ p∈pl,p.new=true:=fun p hp=>List.all_eq_true.1 hn p hp
 have he:∀ k,early l.toArray pl k=true:=fun k=>List.all_eq_true.2 fun p hp=>by simp [nw p hp]
 have mono:∀ (C:World→Prop) (s t:Nat→Bool) (h:∀ k,s k=t k) (l':List Oper) (k:Nat),flowX P l.toArray C fin s k l'→flowX P l.toArray C fin t k l':=fun C s t h l' k hx=>by
  have:s=t:=funext h
  rwa [←this]
 have all:∀ (C:World→Prop) (s:Nat→Bool) (h:∀ k,s k=true) (l':List Oper) (k:Nat),flowX P l.toArray C fin s k l':=by
  intro C s h l'
  induction l' with
  | nil=>intro k;trivial
  | cons o l' ih=>intro k;exact ⟨.inl (h k),ih (k+1)⟩
 exact qwf pl vs fin hfin hm hB (fun W' hW'=>mono _ _ _ (fun k=>by simp [he k]) _ _ (hX W' hW')) (fun W' _=>all _ _ (fun k=>by simp [he k]) _ _) (fun p hp _=>hAl p hp) (fun q hq h=>(FlowE.nn hn q hq h).elim) (fun q hq r hr h _ _=>(FlowE.nn hn q hq h).elim) hSt hQ
theorem wE {id:Nat} {dr:Bool} {Q:Exit→Act→World→Prop} {a:Act} {w:World} {l:List Oper} (vs:List (Tmp × Value)) {fin:Act} (hfin:vs.foldl (fun a p=>a.put (some p.1) p.2) a=fin) (hB:flowB l.toArray [] (vs.map (·.1)) a.tmps.size=true) (hX:∀ W',Below w.heap.size w W'→flowX Tryz.prog l.toArray (fun w'=>∃ p:GB,w'=gw W' p.d p.os) fin (fun k=>isA [] k || isS [] k) 0 l) (hQ:∀ β w',FlowE [] w β w'→Q .normal (nP β [] fin) w'):(Code.region id l.toArray dr).wp Tryz.prog Q a w:=wfn (P:=Tryz.prog) [] vs fin hfin (by kernel_rfl) hB rfl hX (oN) (oN) hQ
theorem wT {id:Nat} {dr:Bool} {Q:Exit→Act→World→Prop} {a:Act} {w:World} {l:List Oper} (pl:List Pl) (vs:List (Tmp × Value)) {fin:Act} (hfin:vs.foldl (fun a p=>a.put (some p.1) p.2) a=fin) (hB:flowB l.toArray pl (vs.map (·.1)) a.tmps.size=true) (hn:pl.all (·.new)=true)
  (hX:∀ W',Below w.heap.size w W'→flowX Tryz.prog l.toArray (fun w'=>∃ p:GB,w'=gw W' p.d p.os) fin (fun k=>isA pl k || isS pl k) 0 l)
  (hAl:∀ p∈pl,∃ z,LaysAs Tryz.prog p.ty z∧p.cs.length≤z.size)
  (hSt:∀ p∈pl,StOk Tryz.prog fin p)
  (hQ:∀ β w',FlowE pl w β w'→Q .normal (nP β pl fin) w'):(Code.region id l.toArray dr).wp Tryz.prog Q a w:=wfn (P:=Tryz.prog) pl vs fin hfin (by kernel_rfl) hB hn hX hAl hSt hQ
theorem wF {id:Nat} {dr:Bool} {Q:Exit→Act→World→Prop} {a:Act} {w:World} {l:List Oper} (pl:List Pl) (vs:List (Tmp × Value)) {fin:Act} (hfin:vs.foldl (fun a p=>a.put (some p.1) p.2) a=fin) (hB:flowB l.toArray pl (vs.map (·.1)) a.tmps.size=true)
    (hX:∀ W',Below w.heap.size w W'→flowX Tryz.prog l.toArray (fun w'=>∃ p:GB,w'=gw W' p.d p.os) fin (fun k=>isA pl k || isS pl k || !early l.toArray pl k) 0 l)
    (hY:∀ W',FlowK pl w W'→flowX Tryz.prog l.toArray (fun w'=>∃ p:GB,w'=gw W' p.d p.os) fin (fun k=>isA pl k || isS pl k || early l.toArray pl k) 0 l)
    (hAl:∀ p∈pl,p.new=true→∃ z,LaysAs Tryz.prog p.ty z∧p.cs.length≤z.size)
    (hOld:∀ q∈pl,q.new=false→q.b<w.heap.size∧fin.tmps[q.d]?=some (.pointer (some ⟨q.b,q.so,none⟩))∧w.there q.b q.o q.cs.length∧w.rangeAt q.b q.o q.pre)
    (hDb:∀ q∈pl,∀ r∈pl,q.new=false→r.new=false→q.b=r.b→q=r)
    (hSt:∀ p∈pl,StOk Tryz.prog fin p)
    (hQ:∀ β w',FlowE pl w β w'→Q .normal (nP β pl fin) w'):(Code.region id l.toArray dr).wp Tryz.prog Q a w:=qwf (P:=Tryz.prog) pl vs fin hfin (by kernel_rfl) hB hX hY hAl hOld hDb hSt hQ
theorem qfF {P:Program} {fin:Act} {i s b k:Nat} {d x:Tmp} {ty:TypeId} {cs pre:List Value} {v:Value} (h:fin.tmps[x]?=some v) (hv:v.cells=#[v]) (hs:(P.info? ty).map (·.size)=some 1) (h1:v.oneCell'=true) (hk:k<pre.length) (hcs:cs=pre.set k v) :
  StOk P fin ⟨false,i,d,s,b,0,ty,x,cs,k,[v],pre⟩:=by
 have:=jhG (P:=P) (fin:=fin) (i:=i) (s:=s) (b:=b) (o:=0) (k:=k) (d:=d) (x:=x) (ty:=ty) h hv hs h1 hk hcs
 rwa [Nat.zero_add] at this
theorem At.roomC {w:World} {b o k:Nat} {cs pre:List Value} {v:Value} (h:At w b o pre) (hcs:cs=pre.set k v):w.there b o cs.length∧w.rangeAt b o pre:=by
 subst hcs;rw [List.length_set];exact ⟨h.there,h.range⟩
theorem jdY {c:List Value} {n:Bool} {v:Nat} (h:c=.bool n::lv 32 v):iV n v=.agg c.toArray:=by rw [h];rfl
theorem At.mag {w:World} {b o:Nat} {c:List Value} {n:Bool} {v:Nat} (h:At w b o c) (hc:c=.bool n::lv 32 v) {m:List Value} (hm:m=lv 32 v):At w b (o+1) m:=by
 subst hm hc;exact At.tail (xs:=[.bool n]) h rfl
theorem At.neg {w:World} {b o:Nat} {c:List Value} {n:Bool} {v:Nat} (h:At w b o c) (hc:c=.bool n::lv 32 v):w.cell? ⟨b,o,none⟩=some (.bool n):=by
 subst hc;exact h.cell (j:=0) rfl
theorem At.read {P:Program} {t:TypeId} {d:TypeDesc} {w:World} {b o:Nat} {c:List Value} (h:At w b o c) (hu:P.underlying t=some d) (hd:d.isRow=true) (hi:(P.info? t).map (·.size)=some c.length):(loadVar t ⟨b,o,none⟩).run P w=.ok (.agg c.toArray) w :=
 run_loadVar_mid w b o t c d h.range hu hd hi
theorem jiO {f:Tmp × Value→Prop} (p:Tmp × Value) (l:List (Tmp × Value)) (h:f p) (h2:∀ x∈l,f x):∀ x∈p::l,f x:=fun x hx=>by
 rcases List.mem_cons.1 hx with e|hx
 ·rw [e];exact h
 ·exact h2 x hx
theorem jcN {f:Tmp × Value→Prop}:∀ x∈([]:List (Tmp × Value)),f x:=fun x hx=>by cases hx
end Go.Proofs.YtemoddmadfoaiaaGreat
set_option maxHeartbeats 4000000
namespace Go.Proofs.YtemoddmadfoaiaaGreat
open Go.RowKit Big
open Lib (hid)
theorem At.limb {w:World} {b o v:Nat} (h:At w b o (lv 32 v)) {j:Nat} (hj:j<32):w.cell? ⟨b,o+j,none⟩=some (.int .u32 (lim v j:Nat)):=h.range j _ (qsI v hj)
theorem qfC (v N b o:Nat) (w:World) (h:At w b o (lv 32 v)) (hv:v<BB^32) (hN:IsLimbs v N) :
  Calls Tryz.prog 164 #[.pointer (some ⟨b,o,none⟩)] w fun e w'=>e=.returned (.int .i64 (N:Int))∧w=w':=by
 have HA:=hid h;have HN:=hid hN;have HV:=hid hv;clear h hv hN;go_enter Tryz.func164,Tryz.ntmps164
 go_wp2
 go_loopg [3] 32 (fun m kv wr=>∃ k:Nat,kv=.int .i64 (k:Int)∧k≤32∧k≤m∧v<BB^k∧w=wr)
 case atStart=>exact ⟨32,rfl,by omega,by omega,HV.out,rfl⟩
 case round =>
  obtain ⟨k,rfl,hk,hm,hvk,rfl⟩:=hrel;have HVK:=hid hvk;clear hvk
  cases k with
  | zero =>
   have HE:=hid (show (0:Int)=(N:Int) by
    have h0:v=0:=by have:=HVK.out;simpa using this
    have:=HN.out
    rw [h0] at this;rw [this.zero];rfl)
   go_wp2
   go_ret
   exact ⟨qaH HE.out,rfl⟩
  | succ j =>
   have hc:=HA.out.limb (j:=j) (by omega);obtain ⟨x,hx⟩:=nqx (lim v j);rw [←hx] at hc;have e1:((j+1:Nat):Int) - 1=(j:Int):=by omega
   have e2:IntKind.i64.wrap (((j+1:Nat):Int) - 1)=(j:Int):=by rw [IntWalk.i64_in _ (by omega)];omega
   have e3:(0:Int)<((j+1:Nat):Int):=by omega
   obtain ⟨J,hJ⟩:=nqx (j+1:Nat);rw [←hJ] at e1 e2 e3 ⊢;have hj32:j<32:=by omega
   by_cases h0:x=0
   ·have hx0:((x:Int)==0)=true:=by simp [h0]
    have HZ:=hid (And.intro hx (And.intro h0 hJ));clear hx h0 hJ;go_wp2
    go_roundg (gk - 1)
    case measure=>have:=HZ.out;omega
    case rel=>exact ⟨j,rfl,by omega,by have:=HZ.out;omega,qdS HVK.out (by rw [←HZ.out.1];exact HZ.out.2.1),rfl⟩
   ·have hx0:((x:Int)==0)=false:=beq_eq_false_iff_ne.2 (by omega)
    have HE:=hid (show (J:Int)=(N:Int) by
     have h1:IsLimbs v (j+1):=⟨HVK.out,fun _=>by rw [Nat.add_sub_cancel];exact qhT (by rw [←hx];exact h0)⟩;rw [hJ,h1.unique HN.out])
    clear hx h0 hJ;go_wp2
    go_ret
    exact ⟨qaH HE.out,rfl⟩
theorem qnK (a b b1 o1 b2 o2:Nat) (w:World) (hA:At w b1 o1 (lv 32 a)) (hB:At w b2 o2 (lv 32 b)) (ha:a<BB^32) (hb:b<BB^32) :
  CB 165 #[.pointer (some ⟨b1,o1,none⟩),.pointer (some ⟨b2,o2,none⟩)] (.int .i64 (cmpI a b)) w:=by
 have H0:=hid (show a / BB^32=b / BB^32 by rw [Nat.div_eq_of_lt ha,Nat.div_eq_of_lt hb]);have HA:=hid hA;have HB:=hid hB;have HW:=hid (Below.refl w.heap.size w);clear ha hb hA hB;go_enter Tryz.func165,Tryz.ntmps165
 go_wp2
 go_loopg [5] 33 (fun g i wr=>∃ (k d:Nat) (z:Int),k≤32∧k≤g∧z=(k:Int) - 1∧i=.int .i64 z∧a / BB^k=b / BB^k∧wr=w.drewN d)
 case atStart=>exact ⟨32,0,31,by omega,by omega,by omega,rfl,H0.out,by cases w;rfl⟩
 case round =>
  obtain ⟨k,d,z,hk,hg,hz,rfl,he,rfl⟩:=hrel;have HE:=hid he;clear he
  cases k with
  | zero =>
   have hz1:z=-1:=by omega
   subst hz1
   have HR:=hid (show cmpI a b=0 by
    have h:=HE.out;simp only [Nat.pow_zero,Nat.div_one] at h;unfold cmpI;rw [if_neg (by omega),if_pos h])
   clear hz;go_wp2
   go_ret
   exact ⟨qaH HR.out.symm,by first|exact below_drewN HW.out _|exact below_drewN (below_drewN HW.out _) _|exact below_drewN (below_drewN (below_drewN HW.out _) _) _⟩
  | succ k =>
   have hz1:z=(k:Int):=by omega
   subst hz1;have hk32:k<32:=by omega
   have ca:=HA.out.limb hk32;have cb:=HB.out.limb hk32;obtain ⟨x,hx⟩:=nqx (lim a k);obtain ⟨y,hy⟩:=nqx (lim b k);rw [←hx] at ca;rw [←hy] at cb;have hj:(k:Int) - 1=((k:Int) - 1):=rfl;have hwk:IntKind.i64.wrap ((k:Int) - 1)=(k:Int) - 1:=IntWalk.i64_in _ (by omega);have hk0:(0:Int)≤(k:Int):=by omega
   clear hz;by_cases h1:x<y
   ·have HR:=hid (show cmpI a b=-1 by
     have:=qhB HE.out (by rw [←hx,←hy];exact h1)
     unfold cmpI;rw [if_pos this])
    clear hx hy;go_wp2
    go_quiet (fail)
    go_wp2
    go_ret
    exact ⟨qaH HR.out.symm,by first|exact below_drewN HW.out _|exact below_drewN (below_drewN HW.out _) _|exact below_drewN (below_drewN (below_drewN HW.out _) _) _⟩
   ·by_cases h2:y<x
    ·have HR:=hid (show cmpI a b=1 by
      have:=qhB HE.out.symm (by rw [←hx,←hy];exact h2)
      unfold cmpI;rw [if_neg (by omega),if_neg (by omega)])
     clear hx hy;go_wp2
     go_quiet (fail)
     go_wp2
     go_quiet (fail)
     go_wp2
     go_ret
     exact ⟨qaH HR.out.symm,by first|exact below_drewN HW.out _|exact below_drewN (below_drewN HW.out _) _|exact below_drewN (below_drewN (below_drewN HW.out _) _) _⟩
    ·have HD:=hid (qkC HE.out (show lim a k=lim b k by omega));clear hx hy;go_wp2
     go_quiet (fail)
     go_wp2
     go_quiet (fail)
     go_wp2
     go_roundg (gk - 1)
     case measure=>omega
     case rel=>exact ⟨k,_,_,by omega,by omega,rfl,rfl,HD.out,rfl⟩
end Go.Proofs.YtemoddmadfoaiaaGreat
namespace Go.Proofs.YtemoddmadfoaiaaGreat
open Go.RowKit
section
variable {P:Program} {ops:Array Oper} {pl:List Pl} {fin ini:Act} {W:World} {β:Nat→Nat} {seen:Array Bool} {a:Act} {w:World}
end
structure Vl where
 t:Tmp
 ds:List Nat
 f:List Value→Value
def finG (vs:List Vl) (a:Act) (γ:Nat→Value):Act:=vs.foldl (fun a e=>a.put (some e.t) (e.f (e.ds.map γ))) a
def vlB (ops:Array Oper) (G:List Nat) (vs:List Vl):Bool:=vs.all fun e=>e.ds.all fun g=>G.contains g&&(List.range ops.size).all fun j=>!dstIs ops j e.t || (g==j || waitsIn ops 8 j g)
def updG (γ:Nat→Value) (j:Nat) (v:Value):Nat→Value:=fun k=>if k=j then v else γ k
theorem qpI:∀ (vs:List Vl) (a:Act) (γ:Nat→Value),(finG vs a γ).tmps.size=a.tmps.size∧(finG vs a γ).defers=a.defers
 | [],_,_=>⟨rfl,rfl⟩
 | e::vs,a,γ=>by
  have:=qpI vs (a.put (some e.t) (e.f (e.ds.map γ))) γ
  unfold finG at this ⊢;rw [List.foldl_cons];exact ⟨by rw [this.1,qdA],by rw [this.2,qdQ]⟩
theorem qsT {t:Tmp}:∀ (vs:List Vl) (a:Act) (γ:Nat→Value),(∀ e∈vs,e.t≠t)→(finG vs a γ).tmps[t]?=a.tmps[t]?
 | [],_,_,_=>rfl
 | e::vs,a,γ,h=>by
  have:=qsT vs (a.put (some e.t) (e.f (e.ds.map γ))) γ (fun x hx=>h x (List.mem_cons_of_mem _ hx))
  unfold finG at this ⊢;rw [List.foldl_cons,this,qeI fun c=>h e mms (Option.some.inj c)]
theorem qpJ {t:Tmp} {γ γ':Nat→Value}:∀ (vs:List Vl) (a a':Act),a.tmps.size=a'.tmps.size→a.tmps[t]?=a'.tmps[t]?→(∀ e∈vs,e.t=t→∀ g∈e.ds,γ g=γ' g)→(finG vs a γ).tmps[t]?=(finG vs a' γ').tmps[t]?
 | [],_,_,_,h,_=>h
 | e::vs,a,a',hs,h,hd=>by
  have:=qpJ vs (a.put (some e.t) (e.f (e.ds.map γ))) (a'.put (some e.t) (e.f (e.ds.map γ'))) (by rw [qdA,qdA,hs]) (by
   by_cases he:e.t=t
   ·have hm:e.ds.map γ=e.ds.map γ':=List.map_congr_left fun g hg=>hd e mms he g hg
    rw [hm,he];simp only [Act.put,Array.getElem?_setIfInBounds,hs,if_true]
   ·rw [qeI fun c=>he (Option.some.inj c),qeI fun c=>he (Option.some.inj c),h]) (fun x hx=>hd x (List.mem_cons_of_mem _ hx))
  unfold finG at this ⊢;rw [List.foldl_cons,List.foldl_cons];exact this
def GY (P:Program) (fin:Act) (o:Oper) (W:World) (D:Value→World→Prop):Prop:=match (execOp fin.eval o).run P W with
 | .ok (.value v) w''=>D v w''
 | .ok (.enter f args) w''=>w''=W∧Calls P f args W (fun e w3=>∃ v,e=.returned v∧D v w3)
 | _=>False
theorem GY.value {P:Program} {fin:Act} {o:Oper} {W w':World} {D:Value→World→Prop} {v:Value} (h:(execOp fin.eval o).run P W=.ok (.value v) w') (hD:D v w'):GY P fin o W D:=by
 unfold GY;rw [h];exact hD
theorem GY.call {P:Program} {fin:Act} {o:Oper} {W:World} {D:Value→World→Prop} {f:FuncId} {args:Array Value} (h:(execOp fin.eval o).run P W=.ok (.enter f args) W) (hD:Calls P f args W (fun e w3=>∃ v,e=.returned v∧D v w3)):GY P fin o W D:=by
 unfold GY;rw [h];exact ⟨rfl,hD⟩
section
variable {P:Program} {ops:Array Oper} {pl:List Pl} {L:List Tmp} {fin ini:Act} {W:World} {β:Nat→Nat} {seen:Array Bool} {a:Act} {w:World}
theorem FlowJ.refin (J:FlowJ ops pl fin ini W β seen a w) {fin':Act} (hs:fin'.tmps.size=fin.tmps.size) (hd:fin'.defers=fin.defers)
  (h:∀ t,(∀ p∈pl,p.new=true→p.d≠t)→(∀ (i:Nat) (o:Oper),ops[i]?=some o→o.dst=some t→seen.getD i false=true)→fin.tmps[t]?=fin'.tmps[t]?):FlowJ ops pl fin' ini W β seen a w :=
 ⟨J.ssz,J.closed,J.size.trans hs.symm,J.defers.trans hd.symm,fun t h1 h2=>(J.same t h1 h2).trans (h t h1 h2),J.init,J.os,J.tape,J.output,J.big,J.keep,J.laid,J.old,J.apart,J.held⟩
theorem FlowJ.stepG {Q:Exit→Act→World→Prop} (C:FlowC ops pl []) (J:FlowJ ops pl fin ini W β seen a w) {j:Nat} {oj:Oper} (hr:j∈Region.ready .any ops seen) (hoj:ops[j]?=some oj) (hA:isA pl j=false) (hS:isS pl j=false)
  {F:Value→Act} {D:Value→World→Prop} (hg:Region.wanted oj (yielded ops fin.tmps)=true) (hy:GY P fin oj w D) (hD:∀ v w'',D v w''→Below w.heap.size w w'') (hF:∀ v,FlowJ ops pl (F v) ini W β seen a w) (hput:∀ v,(F v).put oj.dst v=F v) :
  wpOp P ops Q j (fun a' w'=>∃ v,FlowJ ops pl (F v) ini W β (seen.setIfInBounds j true) a' w'∧D v w') a w:=by
 have hfree:∀ t∈oj.looksAt ops,∀ p∈pl,p.new=true→p.d≠t:=fun t ht p hp hn e=>C.free j oj hoj hS p hp hn (by rw [e];exact ht)
 have hlk:∀ t∈oj.looksAt ops,a.tmps[t]?=fin.tmps[t]?:=fun t ht=>J.sees C hr hoj ht (by simp) (hfree t ht)
 have hex:=qhE (a:=a) (b:=fin) (C.sel j oj · · hoj) hlk;have hwa:=qeN (a:=a) (b:=fin) hlk;unfold wpOp;simp only [hoj];rw [hwa,if_pos hg];left
 unfold GY at hy;unfold Oper.wp;rw [hex];generalize (execOp fin.eval oj).run P w=r at *
 cases r with
 | ok n w' =>
  cases n<;>simp only at hy<;>simp only [Oper.upon]
  case value u=>exact ⟨u,(hF u).move C hr hoj hA hS (hput u) (hD u w' hy),hy⟩
  case enter f args =>
   obtain ⟨e1,hc⟩:=hy;rw [e1];exact hc.mono fun e w'' ⟨v,he,hw''⟩=>by subst he;exact ⟨v,(hF v).move C hr hoj hA hS (hput v) (hD v w'' hw''),hw''⟩
 | halt x w'=>simp only at hy
section
variable {G:List Nat} {R:Nat→Value→World→Prop} {ft:Nat→Value→Nat→Prop} {F:(Nat→Value)→Act}
end
end
def tailB (l:List Oper) (n:Nat):Bool :=
 decide (n≤l.length)&&(List.range n).all (fun j=>match l[j]? with|some o=>(match o.guard with|some (g,_)=>decide (g<n)|none=>true)|none=>true) &&
 (List.range l.length).all (fun j=>decide (j<n) || (List.range n).all fun i=>waitsIn l.toArray 8 j i) &&
 Region.seqB .any l.toArray (l.length - n) n ((List.replicate n true++List.replicate (l.length - n) false).toArray)
section
variable {P:Program} {l:List Oper} {n:Nat}
theorem qhU (hn:n≤l.length) {j:Nat} (hj:j<n):(l.take n).toArray[j]?=l.toArray[j]?:=by
 simp [List.getElem?_take,hj]
theorem qvF {Q:Exit→Act→World→Prop} {K:Act→World→Prop} {a:Act} {w:World} (hn:n≤l.length) {j:Nat} (hj:j<n) (hg:∀ o g b,l[j]?=some o→o.guard=some (g,b)→g<n)
  (h:wpOp P (l.take n).toArray Q j K a w):wpOp P l.toArray Q j K a w:=by
 unfold wpOp at *;rw [qhU hn hj] at h
 cases ho:l.toArray[j]? with
 | none=>simp only [ho] at h ⊢;exact h
 | some o =>
  simp only [ho] at h ⊢
  have hw:Region.wanted o (yielded (l.take n).toArray a.tmps)=Region.wanted o (yielded l.toArray a.tmps):=by
   unfold Region.wanted
   cases hgd:o.guard with
   | none=>rfl
   | some gb =>
    obtain ⟨g,b⟩:=gb
    have:=hg o g b (by simpa using ho) hgd
    simp only
    congr 1
    unfold yielded;rw [qhU hn this]
  rwa [hw] at h
def flowXG (P:Program) (ops:Array Oper) (C:World→Prop) (G:List Nat) (Rw:Nat→Prop) (fin:Act) (skip:Nat→Bool):Nat→List Oper→Prop
 | _,[]=>True
 | k,o::l=>(skip k=true∨((∀ g∈G,waitsIn ops 8 k g=true→Rw g)→wpQuiet P ops C (fun a'=>a'=fin) [o] fin))∧flowXG P ops C G Rw fin skip (k+1) l
section
variable {ops:Array Oper} {fin:Act} {G:List Nat} {Rw:Nat→Prop}
theorem qkZ {C:World→Prop} {skip:Nat→Bool} {k:Nat}:flowXG P ops C G Rw fin skip k []:=trivial
theorem jgZ {C:World→Prop} {skip:Nat→Bool} {k:Nat} {o:Oper} {l:List Oper} (h:skip k=true) (h2:flowXG P ops C G Rw fin skip (k+1) l):flowXG P ops C G Rw fin skip k (o::l):=⟨.inl h,h2⟩
theorem jhA {C:World→Prop} {skip:Nat→Bool} {k:Nat} {o:Oper} {l:List Oper} (h:wpQuiet P ops C (fun a'=>a'=fin) [o] fin) (h2:flowXG P ops C G Rw fin skip (k+1) l):flowXG P ops C G Rw fin skip k (o::l):=⟨.inr fun _=>h,h2⟩
theorem qpH {C:World→Prop} {skip:Nat→Bool}:∀ (l:List Oper) (k:Nat),flowXG P ops C G Rw fin skip k l→∀ j o,l[j]?=some o→skip (k+j)=false→(∀ g∈G,waitsIn ops 8 (k+j) g=true→Rw g)→wpQuiet P ops C (fun a'=>a'=fin) [o] fin
 | [],_,_,j,o,h,_,_=>by simp at h
 | x::l,k,h,j,o,hj,hs,hf=>by
  cases j with
  | zero =>
   simp only [List.getElem?_cons_zero,Option.some.injEq] at hj;subst hj;exact (h.1.resolve_left (by rw [Nat.add_zero] at hs;rw [hs];exact Bool.noConfusion)) hf
  | succ j=>exact qpH l (k+1) h.2 j o (by simpa using hj) (by rw [show k+1+j=k+(j+1) by omega];exact hs) (by rw [show k+1+j=k+(j+1) by omega];exact hf)
end
end
end Go.Proofs.YtemoddmadfoaiaaGreat
namespace Go.Proofs.YtemoddmadfoaiaaGreat
open Go.RowKit Big
end Go.Proofs.YtemoddmadfoaiaaGreat
