import Derived.Test.YtnkmhbiklffjlaaBigU
import Derived.StillTailTactics
import Derived.Laws.BitsAllLaws
import Derived.Deep.RegionHeld3
import Derived.Deep.CutRange
set_option linter.unusedVariables false
set_option linter.unusedSimpArgs false
set_option maxRecDepth 100000
set_option maxHeartbeats 4000000
namespace Go.Proofs.Ytnkmhbiklffjlaa
open Go.RowKit Big
open Lib (hid)
theorem box_one1 (w:World) (a:Nat) (t:TypeId):∃ w0:World,w0=w.alloc (.cells (lv 32 a).toArray t)∧Below w.heap.size w w0∧w0.heap.size=w.heap.size+1∧qMO w0 w.heap.size 0 32 a :=
 ⟨_,rfl,(Below.refl _ _).alloc (Nat.le_refl _) _,by simp,qMO.new w 32 a t⟩
def mixN (P m i:Nat):Nat:=P+m / BB^i*BB^i
theorem mix_lim {P m i:Nat} (hP:P<BB^i):lim (mixN P m i) i=lim m i:=by
 unfold mixN
 rw [lim_hi hP (Nat.le_refl _),Nat.sub_self]
 unfold lim;simp
theorem mix_upd {P m i d:Nat} (hP:P<BB^i) (hd:d<BB):upd (mixN P m i) i d=mixN (P+d*BB^i) m (i+1):=by
 unfold upd mixN
 have h1:(P+m / BB^i*BB^i)%BB^i=P:=by rw [Nat.add_mul_mod_self_right,Nat.mod_eq_of_lt hP]
 have h2:(P+m / BB^i*BB^i) / BB^(i+1)=m / BB^(i+1):=by
  rw [Nat.pow_succ,←Nat.div_div_eq_div_mul,Nat.add_mul_div_right _ _ (BP i),Nat.div_eq_of_lt hP,Nat.zero_add,Nat.div_div_eq_div_mul]
 rw [h1,h2]
theorem mix_zero (m:Nat):mixN 0 m 0=m:=by simp [mixN]
theorem mix_end {P m n:Nat} (hm:m<BB^n):mixN P m n=P:=by unfold mixN;rw [Nat.div_eq_of_lt hm];simp
theorem dbl_num {x c:Nat} (hx:x<BB) (hc:c≤1):∃ d c':Nat,d<BB∧c'≤1∧d+c'*BB=2*x+c∧bits BinOp.or IntKind.u32 ((x:Int)*2%4294967296) (c:Int)=(d:Int)∧(x:Int) / 2147483648=(c':Int):=by
 have ho:2*x%BB ||| c=2*x%BB+c:=or_low (i:=1) (by simpa using (show c<2 by omega)) (by unfold BB;omega)
 refine ⟨2*x%BB+c,x / 2147483648,?_,?_,?_,?_,by omega⟩
 ·unfold BB at *;omega
 ·unfold BB at *;omega
 ·unfold BB at *;omega
 ·have e:(x:Int)*2%4294967296=((2*x%BB:Nat):Int):=by unfold BB;omega
  rw [e,u32_or_nat _ _ (by unfold BB;omega) (by omega),ho]
theorem double_is (m bit v c2:Nat) (w:World) (hm:m<BB^32) (hbit:bit≤1) (hv:v<BB^32) (hd:2*m+bit=v+c2*BB^32) :
  Calls Try.prog 67 #[mV m,.int .u32 bit] w fun e w'=>e=.returned (.tuple #[mV v,.bool (decide (c2=1))])∧Below w.heap.size w w':=by
 obtain ⟨w0,hw0,hb0,hs0,hA⟩:=box_one1 w m 49
 obtain ⟨w1,hw1⟩:∃ w1,w1=w0.alloc (.cells (lv 32 0).toArray 49):=⟨_,rfl⟩
 have hb1:Below w0.heap.size w0 w1:=by rw [hw1];exact (Below.refl _ _).alloc (Nat.le_refl _) _
 have hR:qMO w1 (w.heap.size+1) 0 32 0:=by rw [hw1,←hs0];exact qMO.new w0 32 0 _
 have HA:=hid (hA.up hb1 (by omega))
 have HR:=hid hR
 have HW:=hid (hb0.trans (hb1.mono hb0.size))
 rw [hw0] at hw1
 have HV:=hid (And.intro hm (And.intro hv hd))
 rw [lv_zero] at hw1
 unfold mV
 obtain ⟨va,hva⟩:∃ va,va=(lv 32 m).toArray:=⟨_,rfl⟩
 obtain ⟨vv,hvv⟩:∃ vv,vv=(lv 32 v).toArray:=⟨_,rfl⟩
 have HVV:=hid hvv
 rw [←hva] at hw1 ⊢
 rw [←hvv]
 clear hm hv hd hb0 hs0 hA hva hw0 hb1 hR hvv
 go_enter Try.func67,Try.ntmps67
 go_wp2_with fail
 rw [←hw1]
 clear hw1
 obtain ⟨B0,hB0⟩:∃ B0,B0=w.heap.size:=⟨_,rfl⟩
 have HBE:=hid hB0
 rw [←hB0] at HA HR ⊢
 clear hB0
 go_loopg [1,6] 32 (fun g bw iv wr=>∃ (i P c:Nat),i≤32∧32 - i≤g∧c≤1∧P<BB^i∧P+c*BB^i=2*(m%BB^i)+bit∧bw=.int .u32 c∧iv=.int .i64 i∧qMO wr B0 0 32 (mixN P m i)∧qMO wr (B0+1) 0 32 0∧Below w.heap.size w wr)
 case atStart=>exact ⟨0,0,bit,by omega,by omega,hbit,BP 0,by simp [Nat.mod_one],rfl,rfl,by rw [mix_zero];exact HA.out,HR.out,HW.out⟩
 case round =>
  obtain ⟨i,P,c,hi,hg,hc,hP,he,rfl,rfl,hA,hR,hW⟩:=hrel
  have HE:=hid he
  have HP:=hid hP
  have HA1:=hid hA
  have HR1:=hid hR
  have HW1:=hid hW
  clear he hP hA hR hW
  by_cases hlt:i<32
  ·have ca:=HA1.out.1.get hlt
   have fa:=HA1.out.2 i hlt
   rw [Nat.zero_add] at ca fa
   rw [mix_lim HP.out] at ca
   obtain ⟨x,hx⟩:∃ x,x=lim m i:=⟨_,rfl⟩
   have hxl:x<BB:=hx ▸ lim_lt m i
   obtain ⟨d,c',hd,hc',hn,e1,e3⟩:=dbl_num hxl hc
   rw [←hx] at ca
   have HS:=hid (dbl_step HE.out (by rw [←hx];exact hn))
   have HPL:=hid (lt_succ HP.out hd)
   have HO2:=hid (HA1.out.set hlt hd)
   have HDD:=hid hd
   have E1:=hid e1
   have E3:=hid e3
   clear hx hd hn e1 e3 hxl
   go_wp2
   have e3:=E3.out
   have e1:=E1.out
   go_region
   have HU2:=hid (show qMO (wr.setCell ⟨B0,i,none⟩ (.int .u32 (d:Nat))) B0 0 32 (mixN (P+d*BB^i) m (i+1)) by
    have:=HO2.out;rwa [mix_upd HP.out HDD.out,Nat.zero_add] at this)
   have hR2:=HR1.out.setOther ⟨B0,i,none⟩ (.int .u32 (d:Nat)) (show B0≠B0+1 by omega)
   have hW2:=below_set1 HW1.out ⟨B0,i,none⟩ (.int .u32 (d:Nat)) (show w.heap.size≤B0 by rw [←HBE.out];omega)
   clear e1 e3
   go_wp2
   go_roundg (gk - 1)
   case measure=>omega
   case rel=>exact ⟨i+1,P+d*BB^i,c',by omega,by omega,hc',HPL.out,HS.out,rfl,by go_num,HU2.out,hR2,⟨hW2.os,hW2.tape,hW2.output,hW2.size,hW2.block⟩⟩
  ·have hi32:i=32:=by omega
   subst hi32
   have hPv:P=v∧c=c2:=by
    obtain ⟨h1,h2,h3⟩:=HV.out
    have h5:=HE.out
    rw [Nat.mod_eq_of_lt h1,h3] at h5
    exact sum_end h2 HP.out hc h5
   obtain ⟨hPv,hcc⟩:=hPv
   have hcb:((c:Int)==1)=decide (c2=1):=by rw [hcc,Bool.eq_iff_iff];simp only [beq_iff_eq,decide_eq_true_eq];omega
   subst hPv
   have HA2:=hid (show qMO wr B0 0 32 P by have:=HA1.out;rwa [mix_end HV.out.1] at this)
   obtain ⟨cs,hcs⟩:∃ cs,cs=lv 32 P:=⟨_,rfl⟩
   have HST:=hid (stored_mag (v:=P) HR1.out)
   have HBS:=hid (below_sets (show w.heap.size≤B0+1 by rw [←HBE.out];omega) (lv 32 P) 0 wr HW1.out)
   have HTH:=hid (show wr.there (B0+1) 0 (lv 32 P).toArray.size by rw [List.size_toArray,qlL];exact HR1.out.there)
   have HLD:=hid (show wr.rangeAt B0 0 (lv 32 P) from HA2.out.1)
   have HSZ:=hid (infoMlv P)
   have HSA:=hid (show (Try.prog.info? 49).map (·.size)=some (lv 32 P).toArray.size by rw [List.size_toArray];exact infoMlv P)
   have HONE:=hid (all_oneCell_toArray (lv_one 32 P))
   have HCS:=hid hcs
   have hvc:vv=cs.toArray:=by rw [HVV.out,hcs]
   rw [←hcs] at HBS HTH HLD HSZ HSA HONE
   have HVC:=hid hvc
   clear hcs hvc hcc
   go_wp2_with (first
    | (refine wpList_load_mid rfl _ _ rfl B0 0 rfl cs _ HLD.out Try.underlying49 rfl HSZ.out ?_)
    | (refine wpList_store_mid rfl _ _ _ rfl (B0+1) 0 _ rfl rfl HTH.out HSA.out HONE.out ?_))
   have hld:=run_loadVar_mid (P:=Try.prog) _ _ _ _ _ _ (show World.rangeAt (wr.setCells (B0+1) 0 cs) (B0+1) 0 cs by have:=HST.out;rw [←HCS.out] at this;unfold MagAt at this;rwa [←HCS.out] at this) Try.underlying49 rfl HSZ.out
   try simp only [Act.put,List.setIfInBounds_toArray,List.set_cons_zero,List.set_cons_succ]
   refine bodyPost_ret (v:=.tuple #[.agg cs.toArray,.bool (decide (c2=1))]) (by simp [results,Try.results67,asAddr,hld]) rfl ?_
   exact ⟨by rw [HVC.out],HBS.out⟩
end Go.Proofs.Ytnkmhbiklffjlaa
set_option maxHeartbeats 2000000
namespace Go.Proofs.Ytnkmhbiklffjlaa
open Go.RowKit Big
open Lib (hid)
theorem lv_two {v:Nat} (hv:v<BB^2):lv 32 v=[.int .u32 (lim v 0:Nat),.int .u32 (lim v 1:Nat),.int .u32 0,.int .u32 0,.int .u32 0,.int .u32 0,.int .u32 0,.int .u32 0,.int .u32 0,.int .u32 0,.int .u32 0,.int .u32 0,.int .u32 0,.int .u32 0,.int .u32 0,.int .u32 0,.int .u32 0,.int .u32 0,.int .u32 0,.int .u32 0,.int .u32 0,.int .u32 0,.int .u32 0,.int .u32 0,.int .u32 0,.int .u32 0,.int .u32 0,.int .u32 0,.int .u32 0,.int .u32 0,.int .u32 0,.int .u32 0]:=by
 have hz:∀ k,2≤k→lim v k=0:=fun k hk=>lim_big hv hk
 unfold lv cells dg
 simp [List.range,List.range.loop,hz]
theorem lv_size (n v:Nat):(lv n v).toArray.size=n:=by rw [List.size_toArray,qlL]
theorem two_limbs {v:Nat} (hv:v<BB^2):v=lim v 0+lim v 1*BB:=by
 have h1:=mod_succ v 1
 have h0:=mod_succ v 0
 rw [Nat.mod_eq_of_lt hv] at h1
 simp only [Nat.pow_zero,Nat.mul_one,Nat.mod_one,Nat.zero_add,Nat.pow_one] at h0 h1
 omega
theorem two_lt {v:Nat} (hv:v<18446744073709551616):v<BB^2:=by unfold BB;omega
theorem low_is (v:Nat) (w:World) (hv:v<BB^2) :
  Calls Try.prog 65 #[mV v] w fun e w'=>e=.returned (.int .u64 v)∧Below w.heap.size w w':=by
 obtain ⟨w0,hw0,hb0,hs0,hA⟩:=box_one1 w v 49
 have HW:=hid hb0
 have c0:=hA.1.get (k:=0) (by omega)
 have c1:=hA.1.get (k:=1) (by omega)
 rw [Nat.zero_add] at c0 c1
 have h2:=two_limbs hv
 have l0:=lim_lt v 0
 have l1:=lim_lt v 1
 obtain ⟨x,hx⟩:∃ x,x=lim v 0:=⟨_,rfl⟩
 obtain ⟨y,hy⟩:∃ y,y=lim v 1:=⟨_,rfl⟩
 rw [←hx] at c0 l0 h2
 rw [←hy] at c1 l1 h2
 have w1:IntKind.u64.wrap (x:Int)=(x:Int):=by unfold BB at l0;rw [IntKind.wrap_u64];omega
 have w2:IntKind.u64.wrap (y:Int)=(y:Int):=by unfold BB at l1;rw [IntKind.wrap_u64];omega
 have hor:bits BinOp.or IntKind.u64 (IntKind.u64.wrap ((y:Int)*4294967296)) (x:Int)=(v:Int):=by
  have e:IntKind.u64.wrap ((y:Int)*4294967296)=((y*4294967296:Nat):Int):=by unfold BB at l1;rw [IntKind.wrap_u64];omega
  rw [e,u64_or_nat _ _ (by unfold BB at l1;omega) (by unfold BB at l0;omega),or_low (i:=32) (by unfold BB at l0;omega) (by omega),h2]
  unfold BB;omega
 unfold mV
 obtain ⟨va,hva⟩:∃ va,va=(lv 32 v).toArray:=⟨_,rfl⟩
 rw [←hva] at hw0 ⊢
 clear hv hb0 hs0 hA hx hy l0 l1 h2 hva
 go_enter Try.func65,Try.ntmps65
 go_upto_region 1 with fail
 rw [←hw0]
 clear hw0
 go_wp2
 go_ret
 exact ⟨rfl,HW.out⟩
theorem small_is (n:Nat) (w:World) (hn:n<BB^2) :
  Calls Try.prog 64 #[.int .u64 n] w fun e w'=>e=.returned (mV n)∧Below w.heap.size w w':=by
 obtain ⟨w1,hw1⟩:∃ w1,w1=(w.alloc (.cells (lv 32 0).toArray 49)).alloc (.cells (lv 32 n).toArray 49):=⟨_,rfl⟩
 have hR:qMO w1 w.heap.size 0 32 0:=by rw [hw1];exact (qMO.new w 32 0 _).up ((Below.refl _ _).alloc (Nat.le_refl _) _) (by simp)
 have hO:qMO w1 (w.heap.size+1) 0 32 n:=by
  rw [hw1]
  have:=qMO.new (w.alloc (.cells (lv 32 0).toArray 49)) 32 n 49
  rwa [World.size_alloc] at this
 have hb1:Below w.heap.size w w1:=by rw [hw1];exact ((Below.refl _ _).alloc (Nat.le_refl _) _).alloc (by simp) _
 have h2:=two_limbs hn
 have l0:=lim_lt n 0
 have l1:=lim_lt n 1
 rw [lv_zero,lv_two hn] at hw1
 obtain ⟨x,hx⟩:∃ x,x=lim n 0:=⟨_,rfl⟩
 obtain ⟨y,hy⟩:∃ y,y=lim n 1:=⟨_,rfl⟩
 rw [←hx] at hw1 l0 h2
 rw [←hy] at hw1 l1 h2
 have e1:IntKind.u32.wrap (n:Int)=(x:Int):=by unfold BB at h2 l0;rw [IntKind.wrap_u32];omega
 have e2:IntKind.u32.wrap ((n:Int) / 4294967296)=(y:Int):=by unfold BB at h2 l0 l1;rw [IntKind.wrap_u32];omega
 have HR:=hid hR
 have HO:=hid hO
 have HB:=hid hb1
 unfold mV
 obtain ⟨vv,hvv⟩:∃ vv,vv=(lv 32 n).toArray:=⟨_,rfl⟩
 have HVV:=hid hvv
 rw [←hvv]
 clear hn h2 l0 l1 hx hy hR hO hb1 hvv
 go_enter Try.func64,Try.ntmps64
 go_upto_region 3 with fail
 rw [←hw1]
 clear hw1 e1 e2
 obtain ⟨cs,hcs⟩:∃ cs,cs=lv 32 n:=⟨_,rfl⟩
 have HST:=hid (stored_mag (v:=n) HR.out)
 have HBS:=hid (below_sets (Nat.le_refl w.heap.size) (lv 32 n) 0 w1 HB.out)
 have HTH:=hid (show w1.there w.heap.size 0 (lv 32 n).toArray.size by rw [lv_size];exact HR.out.there)
 have HLD:=hid (show w1.rangeAt (w.heap.size+1) 0 (lv 32 n) from HO.out.1)
 have HSZ:=hid (infoMlv n)
 have HSA:=hid (show (Try.prog.info? 49).map (·.size)=some (lv 32 n).toArray.size by rw [lv_size];exact Try.infoM)
 have HONE:=hid (all_oneCell_toArray (lv_one 32 n))
 have HCS:=hid hcs
 have hvc:vv=cs.toArray:=by rw [HVV.out,hcs]
 rw [←hcs] at HBS HTH HLD HSZ HSA HONE
 have HVC:=hid hvc
 clear hcs hvc
 go_wp2_with (first
  | (refine wpList_load_mid rfl _ _ rfl (w.heap.size+1) 0 rfl cs _ HLD.out Try.underlying49 rfl HSZ.out ?_)
  | (refine wpList_store_mid rfl _ _ _ rfl w.heap.size 0 _ rfl rfl HTH.out HSA.out HONE.out ?_))
 have hld:=run_loadVar_mid (P:=Try.prog) _ _ _ _ _ _ (show World.rangeAt (w1.setCells w.heap.size 0 cs) w.heap.size 0 cs by have:=HST.out;rw [←HCS.out] at this;unfold MagAt at this;rwa [←HCS.out] at this) Try.underlying49 rfl HSZ.out
 try simp only [Act.put,List.setIfInBounds_toArray,List.set_cons_zero,List.set_cons_succ]
 refine bodyPost_ret (v:=.agg cs.toArray) (by simp [results,Try.results64,asAddr,hld]) rfl ?_
 exact ⟨by rw [HVC.out],HBS.out⟩
def zV (z:Int):Value:=iV (decide (z<0)) z.natAbs
theorem lv33_zero:(Value.bool false::lv 32 0)=[.bool false,.int .u32 0,.int .u32 0,.int .u32 0,.int .u32 0,.int .u32 0,.int .u32 0,.int .u32 0,.int .u32 0,.int .u32 0,.int .u32 0,.int .u32 0,.int .u32 0,.int .u32 0,.int .u32 0,.int .u32 0,.int .u32 0,.int .u32 0,.int .u32 0,.int .u32 0,.int .u32 0,.int .u32 0,.int .u32 0,.int .u32 0,.int .u32 0,.int .u32 0,.int .u32 0,.int .u32 0,.int .u32 0,.int .u32 0,.int .u32 0,.int .u32 0,.int .u32 0]:=by rw [lv_zero]
theorem infoI33 (b:Bool) (v:Nat):(Try.prog.info? 51).map (·.size)=some (Value.bool b::lv 32 v).length:=by rw [List.length_cons,qlL];exact Try.infoI
theorem int_size (b:Bool) (v:Nat):(Value.bool b::lv 32 v).toArray.size=33:=by rw [List.size_toArray,List.length_cons,qlL]
theorem int_one (b:Bool) (v:Nat):∀ x∈Value.bool b::lv 32 v,x.oneCell'=true:=by
 intro x hx
 rcases List.mem_cons.1 hx with rfl|hx
 ·rfl
 ·exact lv_one 32 v x hx
theorem there33 (X:World) (t:TypeId):(X.alloc (.cells (Value.bool false::lv 32 0).toArray t)).there X.heap.size 0 33:=by
 intro j hj
 have hh:=heap_alloc_new X (.cells (Value.bool false::lv 32 0).toArray t)
 refine ⟨?_,frozen_of_row _ _ _ _ _ hh⟩
 rw [cell_of_row _ X.heap.size (0+j) _ t (0,0) hh,Array.getElem?_eq_getElem (by rw [int_size];omega)];rfl
theorem from_is (z:Int) (w:World) (hz1:-9223372036854775808≤z) (hz2:z≤9223372036854775807) :
  Calls Try.prog 33 #[.int .i64 z] w fun e w'=>e=.returned (zV z)∧Below w.heap.size w w':=by
 obtain ⟨n,hn⟩:∃ n,n=z.natAbs:=⟨_,rfl⟩
 obtain ⟨s,hs⟩:∃ s,s=decide (z<0):=⟨_,rfl⟩
 have hn2:n<BB^2:=two_lt (by omega)
 obtain ⟨w1,hw1⟩:∃ w1,w1=(w.alloc (.cells (Value.bool false::lv 32 0).toArray 51)).alloc (.cells (Value.bool s::lv 32 n).toArray 51):=⟨_,rfl⟩
 have hR:w1.there w.heap.size 0 33:=by rw [hw1];exact World.there_alloc (there33 w _) _
 have hO:w1.rangeAt (w.heap.size+1) 0 (Value.bool s::lv 32 n):=by
  rw [hw1]
  have:=range_new (w.alloc (.cells (Value.bool false::lv 32 0).toArray 51)) (Value.bool s::lv 32 n) 51
  rwa [World.size_alloc] at this
 have hb1:Below w.heap.size w w1:=by rw [hw1];exact ((Below.refl _ _).alloc (Nat.le_refl _) _).alloc (by simp) _
 have h2:=two_limbs hn2
 have l0:=lim_lt n 0
 have l1:=lim_lt n 1
 rw [lv33_zero,lv_two hn2] at hw1
 obtain ⟨x,hx⟩:∃ x,x=lim n 0:=⟨_,rfl⟩
 obtain ⟨y,hy⟩:∃ y,y=lim n 1:=⟨_,rfl⟩
 rw [←hx] at hw1 l0 h2
 rw [←hy] at hw1 l1 h2
 have e1:IntKind.u32.wrap (n:Int)=(x:Int):=by unfold BB at h2 l0;rw [IntKind.wrap_u32];omega
 have e2:IntKind.u32.wrap ((n:Int) / 4294967296)=(y:Int):=by unfold BB at h2 l0 l1;rw [IntKind.wrap_u32];omega
 have HR:=hid hR
 have HO:=hid hO
 have HB:=hid hb1
 unfold zV iV
 rw [←hs,←hn]
 obtain ⟨cs,hcs⟩:∃ cs,cs=Value.bool s::lv 32 n:=⟨_,rfl⟩
 have HST:=hid (World.rangeAt_setCells_same w1 w.heap.size 0 (Value.bool s::lv 32 n) (by rw [List.length_cons,qlL];exact hR))
 have HBS:=hid (below_sets (Nat.le_refl w.heap.size) (Value.bool s::lv 32 n) 0 w1 hb1)
 have HTH:=hid (show w1.there w.heap.size 0 (Value.bool s::lv 32 n).toArray.size by rw [int_size];exact hR)
 have HSZ:=hid (infoI33 s n)
 have HSA:=hid (show (Try.prog.info? 51).map (·.size)=some (Value.bool s::lv 32 n).toArray.size by rw [int_size];exact Try.infoI)
 have HONE:=hid (all_oneCell_toArray (int_one s n))
 rw [←hcs] at HST HBS HTH HO HSZ HSA HONE ⊢
 by_cases hneg:z<0
 ·obtain rfl:s=true:=by rw [hs,decide_eq_true hneg]
  have e0:IntKind.u64.wrap (-(IntKind.u64.wrap z))=(n:Int):=by rw [IntKind.wrap_u64,IntKind.wrap_u64];omega
  clear hn2 h2 l0 l1 hx hy hR hO hb1 hcs hs hn hz1 hz2
  go_enter Try.func33,Try.ntmps33
  go_upto_region 7 with fail
  rw [←hw1]
  clear hw1 e0 e1 e2
  go_wp2_with (first
   | (refine wpList_load_mid rfl _ _ rfl (w.heap.size+1) 0 rfl cs _ HO.out Try.underlying51 rfl HSZ.out ?_)
   | (refine wpList_store_mid rfl _ _ _ rfl w.heap.size 0 _ rfl rfl HTH.out HSA.out HONE.out ?_))
  have hld:=run_loadVar_mid (P:=Try.prog) _ _ _ _ _ _ HST.out Try.underlying51 rfl HSZ.out
  try simp only [Act.put,List.setIfInBounds_toArray,List.set_cons_zero,List.set_cons_succ]
  refine bodyPost_ret (v:=.agg cs.toArray) (by simp [results,Try.results33,asAddr,hld]) rfl ?_
  exact ⟨rfl,HBS.out⟩
 ·obtain rfl:s=false:=by rw [hs,decide_eq_false hneg]
  have e0:IntKind.u64.wrap z=(n:Int):=by rw [IntKind.wrap_u64];omega
  clear hn2 h2 l0 l1 hx hy hR hO hb1 hcs hs hn hz1 hz2
  go_enter Try.func33,Try.ntmps33
  go_upto_region 7 with fail
  rw [←hw1]
  clear hw1 e0 e1 e2
  go_wp2_with (first
   | (refine wpList_load_mid rfl _ _ rfl (w.heap.size+1) 0 rfl cs _ HO.out Try.underlying51 rfl HSZ.out ?_)
   | (refine wpList_store_mid rfl _ _ _ rfl w.heap.size 0 _ rfl rfl HTH.out HSA.out HONE.out ?_))
  have hld:=run_loadVar_mid (P:=Try.prog) _ _ _ _ _ _ HST.out Try.underlying51 rfl HSZ.out
  try simp only [Act.put,List.setIfInBounds_toArray,List.set_cons_zero,List.set_cons_succ]
  refine bodyPost_ret (v:=.agg cs.toArray) (by simp [results,Try.results33,asAddr,hld]) rfl ?_
  exact ⟨rfl,HBS.out⟩
end Go.Proofs.Ytnkmhbiklffjlaa
set_option maxHeartbeats 2000000
namespace Go.Proofs.Ytnkmhbiklffjlaa
open Go.RowKit Big
open Lib (hid)
theorem box_int (w:World) (neg:Bool) (v:Nat) (t:TypeId):∃ w0:World,w0=w.alloc (.cells (Value.bool neg::lv 32 v).toArray t)∧Below w.heap.size w w0∧w0.heap.size=w.heap.size+1∧w0.cell? ⟨w.heap.size,0,none⟩=some (.bool neg)∧MagAt w0 w.heap.size 1 32 v :=
 ⟨_,rfl,(Below.refl _ _).alloc (Nat.le_refl _) _,by simp,(int_new w neg v t).1,(int_new w neg v t).2⟩
theorem bits_le {x m k:Nat} (hx:x<2^k) (h:IsBits x m):m≤k:=by
 rcases Nat.lt_or_ge k m with hlt|hle
 ·have h1:=h.2 (by omega)
  have h2:=Nat.pow_le_pow_right (show 0<2 by omega) (show k≤m - 1 by omega)
  omega
 ·exact hle
theorem bits_bp {x m:Nat} (k:Nat) (hx:x<BB^k) (h:IsBits x m):m≤32*k:=bits_le (by rw [BP_two] at hx;exact hx) h
theorem bits_is (neg:Bool) (v n:Nat) (w:World) (hv:v<BB^32) (hn:IsBits v n) :
  Calls Try.prog 50 #[iV neg v] w fun e w'=>e=.returned (.int .i64 n)∧Below w.heap.size w w':=by
 obtain ⟨N,hN32,hN⟩:=qLE v 32 hv
 have hnb:n≤1024:=bits_bp 32 hv hn
 obtain ⟨w0,hw0,hb0,hs0,hc0,hA⟩:=box_int w neg v 51
 have HL:=hid (fun W=>limbs_is v N W hv hN)
 have HW:=hid hb0
 have HA:=hid hA
 have HN:=hid hN
 have HBN:=hid hn
 obtain ⟨B0,hB0⟩:∃ B0,B0=w.heap.size:=⟨_,rfl⟩
 have HBE:=hid hB0
 have hB1:B0<w0.heap.size:=by rw [hs0,hB0];omega
 rw [←hB0] at HA
 unfold iV
 obtain ⟨va,hva⟩:∃ va,va=(Value.bool neg::lv 32 v).toArray:=⟨_,rfl⟩
 obtain ⟨cs,hcs⟩:∃ cs,cs=lv 32 v:=⟨_,rfl⟩
 have HLD:=hid (show w0.rangeAt B0 1 (lv 32 v) from HA.out)
 have HSZ:=hid (infoMlv v)
 have HL2:=hid (fun W=>show Calls Try.prog 46 #[.agg cs.toArray] W (fun e w'=>e=.returned (.int .i64 N)∧Below W.heap.size W w') by rw [hcs];exact HL.out W)
 rw [←hcs] at HLD HSZ
 rw [←hva] at hw0 ⊢
 clear hv hn hb0 hs0 hc0 hA hva hcs hN
 go_enter Try.func50,Try.ntmps50
 go_upto_region 1 with fail
 rw [←hw0,←hB0]
 clear hw0 hB0
 go_wp2_with (refine wpList_load_mid rfl _ _ rfl B0 1 rfl cs _ HLD.out Try.underlying49 rfl HSZ.out ?_)
 refine (HL2.out _).mono ?_
 rintro e w1 ⟨rfl,hb1⟩
 have HB1:=hid (HW.out.trans (hb1.mono HW.out.size))
 have HA1:=hid (HA.out.up hb1)
 clear hb1 hB1
 by_cases h0:N=0
 ·subst h0
  have hv0:v=0:=HN.out.eq_zero
  have hn0:n=0:=by have:=HBN.out;rw [hv0] at this;exact this.zero
  subst hn0
  clear hv0
  go_wp2
  go_ret
  exact ⟨rfl,HB1.out⟩
 ·obtain ⟨j,hj⟩:∃ j,N=j+1:=⟨N - 1,by omega⟩
  have hj32:j<32:=by omega
  have ca:=HA1.out.get hj32
  have hN2:=HN.out
  rw [hj] at hN2
  have hz:lim v j≠0:=fun h=>by
   have h1:=limbs_down hN2.1 h
   have h2:=hN2.2 (by omega)
   simp only [Nat.add_sub_cancel] at h2
   omega
  obtain ⟨x,hx⟩:∃ x,x=lim v j:=⟨_,rfl⟩
  obtain ⟨m,hm⟩:=is_bits_exists x
  have HT:=hid (show 32*j+m=n from IsBits.unique (bits_limb hN2.1 hz (by rw [←hx];exact hm)) HBN.out)
  rw [←hx] at ca
  have hxl:x<BB:=hx ▸ lim_lt v j
  have HXM:=hid (And.intro hm hxl)
  have hj1:(N:Int) - 1=(j:Int):=by omega
  have hwj:IntKind.i64.wrap (j:Int)=(j:Int):=IntWalk.i64_in _ (by omega)
  have hw32:IntKind.i64.wrap (32*(j:Int))=((32*j:Nat):Int):=by rw [show (32:Int)*(j:Int)=((32*j:Nat):Int) by omega];exact IntWalk.i64_in _ (by omega)
  have hN0:((N:Int)==0)=false:=beq_eq_false_iff_ne.2 (by omega)
  have hk0:(0:Int)≤(j:Int):=by omega
  clear hN2 hz hx hm hxl hj
  go_wp2
  go_loopg [4,5] n (fun g kv xv wr=>∃ (x m K:Nat),x<BB∧IsBits x m∧K+m=n∧m≤g∧kv=.int .i64 K∧xv=.int .u32 x∧wr=w1)
  case atStart=>exact ⟨x,m,32*j,HXM.out.2,HXM.out.1,HT.out,by have:=HT.out;omega,by go_num,rfl,rfl⟩
  case round =>
   obtain ⟨x2,m2,K,hx2,hm2,hK,hg,rfl,rfl,hwr⟩:=hrel
   subst wr
   have HM2:=hid hm2
   have HX2:=hid hx2
   clear hm2 hx2
   by_cases hx0:x2=0
   ·subst hx0
    have hm0:=HM2.out.zero
    subst hm0
    have hKn:K=n:=by omega
    subst hKn
    clear hK
    go_wp2
    go_ret
    exact ⟨rfl,HB1.out⟩
   ·have hh:=HM2.out.half (by omega)
    have HH:=hid hh.2
    have hm0:=hh.1
    obtain ⟨y,hy⟩:∃ y,y=x2 / 2:=⟨_,rfl⟩
    have hdiv:(x2:Int) / 2=(y:Int):=by omega
    have hpos:(0:Int)<(x2:Int):=by omega
    have HY:=hid (show y<BB by have:=HX2.out;omega)
    have HHY:=hid (show IsBits y (m2 - 1) by rw [hy];exact HH.out)
    clear hh hy hx0
    go_wp2
    go_roundg (gk - 1)
    case measure=>omega
    case rel=>exact ⟨y,m2 - 1,K+1,HY.out,HHY.out,by omega,by omega,by go_num,rfl,rfl⟩
end Go.Proofs.Ytnkmhbiklffjlaa
set_option maxHeartbeats 4000000
namespace Go.Proofs.Ytnkmhbiklffjlaa
open Go.RowKit Big
open Lib (hid)
theorem div_lt_limbs {m k s:Nat} (hm:m<BB^32) (hk:k≤32):m / 2^(32*k+s)<BB^(32 - k):=by
 have h1:m / 2^(32*k+s)≤m / BB^k:=by
  rw [Nat.pow_add,←BP_two,←Nat.div_div_eq_div_mul];exact Nat.div_le_self _ _
 have h2:m / BB^k<BB^(32 - k):=by
  rw [Nat.div_lt_iff_lt_mul (BP k),←Nat.pow_add,show 32 - k+k=32 by omega];exact hm
 omega
theorem upd_again {P i lo d:Nat} (hP:P<BB^i) (hlo:lo<BB):upd (P+lo*BB^i) i d=P+d*BB^i:=by
 have h:=lt_succ hP hlo
 unfold upd
 rw [Nat.add_mul_mod_self_right,Nat.mod_eq_of_lt hP,Nat.div_eq_of_lt h];simp
theorem shl_num {x y s:Nat} (hx:x<BB) (hy:y<BB) (hs0:0<s) (hs:s<32):∃ hi:Nat,IntKind.u32.wrap ((y:Int)*2^(32 - s))=(hi:Int)∧hi=y%2^s*2^(32 - s) ∧
  bits BinOp.or IntKind.u32 ((x / 2^s:Nat):Int) (hi:Int)=((x / 2^s+hi:Nat):Int)∧x / 2^s+hi<BB:=by
 have e3:BB=2^s*2^(32 - s):=by rw [BB_two,←Nat.pow_add];congr 1;omega
 obtain ⟨T,hT⟩:∃ T,T=2^(32 - s):=⟨_,rfl⟩
 have hT0:0<T:=by rw [hT];exact tp _
 have hcast:((2:Int)^(32 - s))=(T:Int):=by rw [hT];simp
 have h1:y%2^s<2^s:=Nat.mod_lt _ (tp s)
 have h2:y%2^s*T+T≤BB:=by rw [←Nat.succ_mul,e3,←hT];exact Nat.mul_le_mul_right _ h1
 have hlo:x / 2^s<T:=by rw [Nat.div_lt_iff_lt_mul (tp s),hT,Nat.mul_comm,←e3];exact hx
 have hm:y*T%BB=y%2^s*T:=by rw [e3,←hT];exact Nat.mul_mod_mul_right _ _ _
 rw [←hT,hcast]
 refine ⟨y%2^s*T,?_,rfl,?_,by omega⟩
 ·rw [IntKind.wrap_u32,←hm];unfold BB;omega
 ·rw [u32_or_nat _ _ (by unfold BB at h2;omega) (by unfold BB at h2;omega),Nat.or_comm,or_low (i:=32 - s) (by rw [←hT];exact hlo) (by rw [←hT];exact Nat.mul_mod_left _ _),Nat.add_comm]
theorem shifted_is (m n:Nat) (w:World) (hm:m<BB^32) (hn:n≤1024) :
  Calls Try.prog 66 #[mV m,.int .i64 n] w fun e w'=>e=.returned (mV (m / 2^n))∧Below w.heap.size w w':=by
 obtain ⟨k,hk⟩:∃ k,k=n / 32:=⟨_,rfl⟩
 obtain ⟨s,hs⟩:∃ s,s=n%32:=⟨_,rfl⟩
 obtain ⟨v,hv⟩:∃ v,v=m / 2^n:=⟨_,rfl⟩
 have hns:32*k+s=n:=by omega
 have hvb:v<BB^(32 - k):=by rw [hv,←hns];exact div_lt_limbs hm (by omega)
 have HLIM:=hid (fun i=>show lim v i=lim m (i+k) / 2^s+lim m (i+k+1)%2^s*2^(32 - s) by rw [hv,←hns];exact shift_lim m k s i (by omega))
 have HVB:=hid (And.intro hvb hm)
 obtain ⟨w0,hw0,hb0,hs0,hA⟩:=box_one1 w m 49
 obtain ⟨w1,hw1⟩:∃ w1,w1=(w0.alloc (.cells (lv 32 0).toArray 49)).alloc (.cells (lv 32 0).toArray 49):=⟨_,rfl⟩
 have hb1:Below w0.heap.size w0 w1:=by rw [hw1];exact ((Below.refl _ _).alloc (Nat.le_refl _) _).alloc (by simp) _
 have hR:qMO w1 (w.heap.size+1) 0 32 0:=by
  rw [hw1,←hs0];exact (qMO.new w0 32 0 _).up ((Below.refl _ _).alloc (Nat.le_refl _) _) (by simp)
 have hO:qMO w1 (w.heap.size+1+1) 0 32 0:=by
  rw [hw1,←hs0]
  have:=qMO.new (w0.alloc (.cells (lv 32 0).toArray 49)) 32 0 49
  rwa [World.size_alloc] at this
 have HA:=hid (hA.1.up hb1)
 have HR:=hid hR
 have HO:=hid hO
 have HW:=hid (hb0.trans (hb1.mono hb0.size))
 rw [hw0,lv_zero] at hw1
 have hq1:(n:Int) / 32=(k:Int):=by omega
 have hq2:(n:Int)%32=(s:Int):=by omega
 have hq3:IntKind.u64.wrap (s:Int)=(s:Int):=by rw [IntKind.wrap_u64];omega
 have hk32:k<33:=by omega
 have hs32:s<32:=by omega
 rw [←hv]
 unfold mV
 obtain ⟨va,hva⟩:∃ va,va=(lv 32 m).toArray:=⟨_,rfl⟩
 obtain ⟨vv,hvv⟩:∃ vv,vv=(lv 32 v).toArray:=⟨_,rfl⟩
 have HVV:=hid hvv
 rw [←hva] at hw1 ⊢
 rw [←hvv]
 clear hm hk hs hv hns hvb hb0 hs0 hA hb1 hR hO hw0 hva hvv
 go_enter Try.func66,Try.ntmps66
 go_upto_region 2 with fail
 rw [←hw1]
 clear hw1
 obtain ⟨B0,hB0⟩:∃ B0,B0=w.heap.size:=⟨_,rfl⟩
 have HBE:=hid hB0
 rw [←hB0] at HA HR HO ⊢
 clear hB0
 go_wp2
 clear hq1 hq2 hq3
 go_loopg [8] 33 (fun g iv wr=>∃ (i P:Nat),i+k≤32∧33 - i≤g∧P=v%BB^i∧iv=.int .i64 i∧MagAt wr B0 0 32 m∧qMO wr (B0+1) 0 32 0∧qMO wr (B0+1+1) 0 32 P∧Below w.heap.size w wr)
 case atStart=>exact ⟨0,0,by omega,by omega,by simp [Nat.mod_one],rfl,HA.out,HR.out,HO.out,HW.out⟩
 case round =>
  obtain ⟨i,P,hi,hg,hP,rfl,hA,hR,hO,hW⟩:=hrel
  have HP:=hid hP
  have HA1:=hid hA
  have HR1:=hid hR
  have HO1:=hid hO
  have HW1:=hid hW
  clear hP hA hR hO hW
  by_cases hlt:i+k<32
  ·obtain ⟨j,hj⟩:∃ j,j=i+k:=⟨_,rfl⟩
   have hji:(i:Int)+(k:Int)=(j:Int):=by omega
   have hwij:IntKind.i64.wrap ((i:Int)+(k:Int))=(j:Int):=by rw [hji];exact IntWalk.i64_in _ (by omega)
   have hj32:j<32:=by omega
   have hi32:i<32:=by omega
   have ca:=HA1.out.get hj32
   have co:=HO1.out.1.get hi32
   have fo:=HO1.out.2 i hi32
   rw [Nat.zero_add] at ca co fo
   obtain ⟨x,hx⟩:∃ x,x=lim m j:=⟨_,rfl⟩
   rw [←hx] at ca
   have hxl:x<BB:=hx ▸ lim_lt m j
   obtain ⟨lo,hlo⟩:∃ lo,lo=x / 2^s:=⟨_,rfl⟩
   have hlob:lo<BB:=by rw [hlo];exact Nat.lt_of_le_of_lt (Nat.div_le_self _ _) hxl
   have hshr:(x:Int) / 2^s=(lo:Int):=by rw [hlo];simp
   have HPB:=hid (show P<BB^i by rw [HP.out];exact Nat.mod_lt _ (BP i))
   have HO2:=hid (show qMO (wr.setCell ⟨B0+1+1,i,none⟩ (.int .u32 (lo:Nat))) (B0+1+1) 0 32 (P+lo*BB^i) by
    have:=HO1.out.set hi32 hlob;rwa [upd_top HPB.out,Nat.zero_add] at this)
   have HW2:=hid (below_set1 HW1.out ⟨B0+1+1,i,none⟩ (.int .u32 (lo:Nat)) (show w.heap.size≤B0+1+1 by rw [←HBE.out];omega))
   have HR2:=hid (HR1.out.setOther ⟨B0+1+1,i,none⟩ (.int .u32 (lo:Nat)) (show B0+1+1≠B0+1 by omega))
   have HA2:=hid (HA1.out.setOther ⟨B0+1+1,i,none⟩ (.int .u32 (lo:Nat)) (show B0+1+1≠B0 by omega))
   have HVI:=hid (HLIM.out i)
   have HX:=hid hx
   have HJ:=hid hj
   by_cases hB:0<s∧j+1<32
   ·obtain ⟨hsp,hj1⟩:=hB
    obtain ⟨y,hy⟩:∃ y,y=lim m (j+1):=⟨_,rfl⟩
    have hyl:y<BB:=hy ▸ lim_lt m (j+1)
    obtain ⟨hi',e1,e2,e3,e4⟩:=shl_num hxl hyl hsp hs32
    rw [←hlo] at e3 e4
    obtain ⟨d,hd⟩:∃ d,d=lo+hi':=⟨_,rfl⟩
    rw [←hd] at e3 e4
    have HDV:=hid (show P+d*BB^i=v%BB^(i+1) by
     rw [mod_succ,HP.out,HVI.out,←hj,←hx,←hy,←hlo,←e2,←hd])
    have HO3:=hid (show qMO ((wr.setCell ⟨B0+1+1,i,none⟩ (.int .u32 (lo:Nat))).setCell ⟨B0+1+1,i,none⟩ (.int .u32 (d:Nat))) (B0+1+1) 0 32 (P+d*BB^i) by
     have:=HO2.out.set hi32 e4;rwa [upd_again HPB.out hlob,Nat.zero_add] at this)
    have HW3:=hid (below_set1 HW2.out ⟨B0+1+1,i,none⟩ (.int .u32 (d:Nat)) (show w.heap.size≤B0+1+1 by rw [←HBE.out];omega))
    have HR3:=hid (HR2.out.setOther ⟨B0+1+1,i,none⟩ (.int .u32 (d:Nat)) (show B0+1+1≠B0+1 by omega))
    have HA3:=hid (HA2.out.setOther ⟨B0+1+1,i,none⟩ (.int .u32 (d:Nat)) (show B0+1+1≠B0 by omega))
    obtain ⟨r,hr⟩:∃ r,r=32 - s:=⟨_,rfl⟩
    have hrs:(32:Int) - (s:Int)=(r:Int):=by omega
    have hwr':IntKind.u64.wrap (r:Int)=(r:Int):=by rw [IntKind.wrap_u64];omega
    rw [←hr] at e1
    have hd1:decide ((j:Int)+1<32)=true:=decide_eq_true (by omega)
    have cy:=HA1.out.get hj1
    rw [Nat.zero_add,←hy] at cy
    have hspi:(0:Int)<(s:Int):=by omega
    have hr32:r<32:=by omega
    clear hx hj hji hlo hxl hlob hy hyl e2 e4 hd hr
    go_wp2
    go_region
    go_wp2
    go_roundg (gk - 1)
    case measure=>omega
    case rel=>exact ⟨i+1,P+d*BB^i,by have:=HJ.out;omega,by omega,HDV.out,by go_num,HA3.out,HR3.out,HO3.out,⟨HW3.out.os,HW3.out.tape,HW3.out.output,HW3.out.size,HW3.out.block⟩⟩
   ·have HDV:=hid (show P+lo*BB^i=v%BB^(i+1) by
     rw [mod_succ,HP.out,HVI.out,←hj,←hx,←hlo]
     by_cases h0:s=0
     ·subst h0;simp [Nat.mod_one]
     ·have hj1:32≤j+1:=by omega
      rw [lim_big (k:=j+1) (i:=32) HVB.out.2 hj1];simp)
    by_cases h0:0<s
    ·have hd1:decide ((j:Int)+1<32)=false:=decide_eq_false (by omega)
     have hspi:(0:Int)<(s:Int):=by omega
     clear hx hj hji hlo hxl hlob hB
     go_wp2
     go_roundg (gk - 1)
     case measure=>omega
     case rel=>exact ⟨i+1,P+lo*BB^i,by have:=HJ.out;omega,by omega,HDV.out,by go_num,HA2.out,HR2.out,HO2.out,HW2.out⟩
    ·have hspi:¬(0:Int)<(s:Int):=by omega
     clear hx hj hji hlo hxl hlob hB
     go_wp2
     go_roundg (gk - 1)
     case measure=>omega
     case rel=>exact ⟨i+1,P+lo*BB^i,by have:=HJ.out;omega,by omega,HDV.out,by go_num,HA2.out,HR2.out,HO2.out,HW2.out⟩
  ·have hik:i+k=32:=by omega
   have hPv:P=v:=by
    rw [HP.out,show i=32 - k by omega]
    exact Nat.mod_eq_of_lt HVB.out.1
   have hik2:IntKind.i64.wrap ((i:Int)+(k:Int))=32:=by rw [show (i:Int)+(k:Int)=32 by omega];exact IntWalk.i64_in _ (by omega)
   subst hPv
   obtain ⟨cs,hcs⟩:∃ cs,cs=lv 32 P:=⟨_,rfl⟩
   have HST:=hid (stored_mag (v:=P) HR1.out)
   have HBS:=hid (below_sets (show w.heap.size≤B0+1 by rw [←HBE.out];omega) (lv 32 P) 0 wr HW1.out)
   have HTH:=hid (show wr.there (B0+1) 0 (lv 32 P).toArray.size by rw [lv_size];exact HR1.out.there)
   have HLD:=hid (show wr.rangeAt (B0+1+1) 0 (lv 32 P) from HO1.out.1)
   have HSZ:=hid (infoMlv P)
   have HSA:=hid (show (Try.prog.info? 49).map (·.size)=some (lv 32 P).toArray.size by rw [lv_size];exact Try.infoM)
   have HONE:=hid (all_oneCell_toArray (lv_one 32 P))
   have HCS:=hid hcs
   have hvc:vv=cs.toArray:=by rw [HVV.out,hcs]
   rw [←hcs] at HBS HTH HLD HSZ HSA HONE
   have HVC:=hid hvc
   clear hcs hvc hik hlt
   go_wp2_with (first
    | (refine wpList_load_mid rfl _ _ rfl (B0+1+1) 0 rfl cs _ HLD.out Try.underlying49 rfl HSZ.out ?_)
    | (refine wpList_store_mid rfl _ _ _ rfl (B0+1) 0 _ rfl rfl HTH.out HSA.out HONE.out ?_))
   have hld:=run_loadVar_mid (P:=Try.prog) _ _ _ _ _ _ (show World.rangeAt (wr.setCells (B0+1) 0 cs) (B0+1) 0 cs by have:=HST.out;rw [←HCS.out] at this;unfold MagAt at this;rwa [←HCS.out] at this) Try.underlying49 rfl HSZ.out
   try simp only [Act.put,List.setIfInBounds_toArray,List.set_cons_zero,List.set_cons_succ]
   refine bodyPost_ret (v:=.agg cs.toArray) (by simp [results,Try.results66,asAddr,hld]) rfl ?_
   exact ⟨by rw [HVC.out],HBS.out⟩
end Go.Proofs.Ytnkmhbiklffjlaa
namespace Go.Proofs.Ytnkmhbiklffjlaa
open Go.RowKit
theorem below_drew {B:Nat} {w w':World} (h:Below B w w'):Below B w w'.drew:=⟨h.os,h.tape,h.output,h.size,h.block⟩
def gw (w:World) (d:Nat) (os:Array Obj):World:={ w with heap:=w.heap++os,drawn:=d }
structure GB where
 d:Nat
 os:Array Obj
instance:Inhabited GB:=⟨⟨0,#[]⟩⟩
theorem qbG (w:World) (d:Nat) (os:Array Obj):Below w.heap.size w (gw w d os) :=
 ⟨rfl,rfl,rfl,by simp [gw],fun k hk=>by simp [gw,Array.getElem?_append,hk]⟩
theorem gw_of_below {w w':World} (h:Below w.heap.size w w'):∃ p:GB,w'=gw w p.d p.os:=by
 refine ⟨⟨w'.drawn,w'.heap.extract w.heap.size w'.heap.size⟩,?_⟩
 have hh:w'.heap=w.heap++w'.heap.extract w.heap.size w'.heap.size:=by
  apply Array.ext_getElem?
  intro k
  by_cases hk:k<w.heap.size
  ·rw [h.block k hk];simp [Array.getElem?_append,hk]
  ·rw [Array.getElem?_append_right (by omega),Array.getElem?_extract]
   by_cases hk2:k<w'.heap.size
   ·rw [if_pos (by omega)];congr 1;omega
   ·rw [if_neg (by omega)];simp;omega
 obtain ⟨heap,tape,drawn,os,output⟩:=w'
 have h1:=h.tape;have h2:=h.os;have h3:=h.output
 simp only [gw] at *
 subst h1 h2 h3
 rw [←hh]
theorem cell_gw {w:World} {a:Addr} {v:Value} (h:w.cell? a=some v) (d:Nat) (os:Array Obj):(gw w d os).cell? a=some v:=qcU h (qbG w d os)
theorem wp_region_below {P:Program} {id:Nat} {Q:Exit→Act→World→Prop} {a:Act} {w:World} {l:List Oper} (hm:P.follows .mixedOrders=true) (hB:Region.lexB .any l.toArray=true)
  (h:wpQuiet P l.toArray (fun w'=>∃ p:GB,w'=gw w p.d p.os) (fun a'=>∀ w',(∃ p:GB,w'=gw w p.d p.os)→Q .normal a' w') l a):(Code.region id l.toArray true).wp P Q a w :=
 wp_region_quiet (C:=fun w'=>∃ p:GB,w'=gw w p.d p.os) hm hB (gw_of_below (below_drew (Below.refl _ _))) (by simpa using h)
theorem Calls.below_of {P:Program} {f:FuncId} {args:Array Value} {w:World} {d:Nat} {os:Array Obj} {v:Value}
  (h:Calls P f args (gw w d os) fun e w'=>e=.returned v∧Below (gw w d os).heap.size (gw w d os) w'):Calls P f args (gw w d os) fun e w''=>e=.returned v∧∃ p:GB,w''=gw w p.d p.os :=
 h.mono fun _ _ ⟨he,hb⟩=>⟨he,gw_of_below ((qbG w d os).trans (hb.mono (qbG w d os).size))⟩
theorem ranges_up {w w':World} {b o:Nat} {cs:List Value} (h:w.rangeAt b o cs) (hb:Below w.heap.size w w'):w'.rangeAt b o cs:=fun j v hv=>qcU (h j v hv) hb
theorem wpQuiet_load_mid {P:Program} {ops:Array Oper} {w:World} {Q:Act→Prop} {a:Act} {op:Oper} {rest:List Oper} (hgd:op.guard=none) (ty:TypeId) (x:Operand) (ho:op.op=.load ty x)
  (b o:Nat) (hx:a.eval x=.pointer (some ⟨b,o,none⟩)) (cs:List Value) (d:TypeDesc) (hc:w.rangeAt b o cs)
  (hu:P.underlying ty=some d) (hd:d.isRow=true) (hi:(P.info? ty).map (·.size)=some cs.length) (h:wpQuiet P ops (fun w'=>∃ p:GB,w'=gw w p.d p.os) Q rest (a.put op.dst (.agg cs.toArray))) :
  wpQuiet P ops (fun w'=>∃ p:GB,w'=gw w p.d p.os) Q (op::rest) a:=by
 refine wpQuiet_step (fun K hK=>?_)
 rw [if_pos (by simp [Region.wanted,hgd])]
 refine ⟨.agg cs.toArray,fun W hW=>?_,hK _ h⟩
 obtain ⟨p,rfl⟩:=hW
 unfold Oper.quietAt execOp
 simp only [ho,hx,Instr.loadAt,Instr.sureAddr,Sem.run_bind,Sem.run_pure,Result.andThen_ok,run_loadVar_mid (gw w p.d p.os) b o ty cs d (ranges_up hc (qbG w p.d p.os)) hu hd hi]
 exact ⟨rfl,rfl⟩
end Go.Proofs.Ytnkmhbiklffjlaa
set_option maxHeartbeats 8000000
namespace Go.Proofs.Ytnkmhbiklffjlaa
open Go.RowKit Big
open Lib (hid)
theorem lv64_zero:lv 64 0=[.int .u32 0,.int .u32 0,.int .u32 0,.int .u32 0,.int .u32 0,.int .u32 0,.int .u32 0,.int .u32 0,.int .u32 0,.int .u32 0,.int .u32 0,.int .u32 0,.int .u32 0,.int .u32 0,.int .u32 0,.int .u32 0,.int .u32 0,.int .u32 0,.int .u32 0,.int .u32 0,.int .u32 0,.int .u32 0,.int .u32 0,.int .u32 0,.int .u32 0,.int .u32 0,.int .u32 0,.int .u32 0,.int .u32 0,.int .u32 0,.int .u32 0,.int .u32 0,.int .u32 0,.int .u32 0,.int .u32 0,.int .u32 0,.int .u32 0,.int .u32 0,.int .u32 0,.int .u32 0,.int .u32 0,.int .u32 0,.int .u32 0,.int .u32 0,.int .u32 0,.int .u32 0,.int .u32 0,.int .u32 0,.int .u32 0,.int .u32 0,.int .u32 0,.int .u32 0,.int .u32 0,.int .u32 0,.int .u32 0,.int .u32 0,.int .u32 0,.int .u32 0,.int .u32 0,.int .u32 0,.int .u32 0,.int .u32 0,.int .u32 0,.int .u32 0]:=by
 unfold lv cells dg
 simp [List.range,List.range.loop,lim_zero]
theorem mul_num {x y z c:Nat} (hx:x<BB) (hy:y<BB) (hz:z<BB) (hc:c<BB):∃ d c' V:Nat,d<BB∧c'<BB∧x*y+z+c=d+c'*BB∧IntKind.u64.wrap (IntKind.u64.wrap (IntKind.u64.wrap ((x:Int)*y)+z)+c)=(V:Int) ∧
  IntKind.u32.wrap (V:Int)=(d:Int)∧(V:Int) / 4294967296=(c':Int):=by
 have h1:x*y≤(BB - 1)*(BB - 1):=Nat.mul_le_mul (by omega) (by omega)
 have h2:(BB - 1)*(BB - 1)=18446744065119617025:=by unfold BB;decide
 obtain ⟨p,hp⟩:∃ p,p=x*y:=⟨_,rfl⟩
 have hpi:(x:Int)*y=(p:Int):=by rw [hp];simp
 rw [←hp] at h1 ⊢
 rw [hpi]
 rw [h2] at h1
 unfold BB at *
 refine ⟨(p+z+c)%4294967296,(p+z+c) / 4294967296,p+z+c,by omega,by omega,by omega,?_,?_,by omega⟩
 ·rw [IntKind.wrap_u64,IntKind.wrap_u64,IntKind.wrap_u64];omega
 ·rw [IntKind.wrap_u32];omega
theorem there_up {w w':World} {b o n:Nat} (h:w.there b o n) (hb:Below w.heap.size w w') (hl:b<w.heap.size):w'.there b o n:=fun j hj=>by
 obtain ⟨h1,h2⟩:=h j hj
 obtain ⟨v,hv⟩:=Option.isSome_iff_exists.1 h1
 exact ⟨by rw [qcU hv hb];rfl,by rw [hb.frozen (by simpa using hl)];exact h2⟩
theorem cell_other {w:World} {a:Addr} {v:Value} (h:w.cell? a=some v) (p:Addr) (u:Value) (hp:p.block≠a.block):(w.setCell p u).cell? a=some v:=by
 rw [World.cell?_setCell_other _ _ _ _ (fun e=>by subst e;exact hp rfl)];exact h
theorem there_set {w:World} {b o n:Nat} (h:w.there b o n) (p:Addr) (u:Value) (hp:p.block≠b):(w.setCell p u).there b o n:=fun j hj=>by
 obtain ⟨h1,h2⟩:=h j hj
 refine ⟨?_,by rw [World.frozen?_setCell];exact h2⟩
 rw [World.cell?_setCell_other _ _ _ _ (fun e=>by subst e;exact hp rfl)];exact h1
theorem mul_is (na nb:Bool) (a b:Nat) (R:Value) (nR:Bool) (vR:Nat) (w:World) (ha:a<BB^32) (hb:b<BB^32) (hab:a*b<BB^32) (hR:R=iV nR vR)
  (hcan:∀ W,Calls Try.prog 47 #[.bool (na != nb),mV (a*b)] W fun e w'=>e=.returned R∧Below W.heap.size W w') :
  Calls Try.prog 32 #[iV na a,iV nb b] w fun e w'=>e=.returned (.tuple #[R,.int .i64 0])∧Below w.heap.size w w':=by
 obtain ⟨N,hN32,hN⟩:=qLE a 32 ha
 obtain ⟨K,hK32,hK⟩:=qLE b 32 hb
 obtain ⟨w0,hw0,hb0,hs0,hcA,hA⟩:=box_int w na a 51
 obtain ⟨w1,hw1,hb1,hs1,hcB,hB⟩:=box_int w0 nb b 51
 obtain ⟨w2,hw2⟩:∃ w2,w2=(w1.alloc (.cells (Value.bool false::lv 32 0).toArray 51)).alloc (.cells (lv 64 0).toArray 71):=⟨_,rfl⟩
 have hb2:Below w1.heap.size w1 w2:=by rw [hw2];exact ((Below.refl _ _).alloc (Nat.le_refl _) _).alloc (by simp) _
 have hs2:w2.heap.size=w1.heap.size+1+1:=by rw [hw2];simp
 have hT:w2.there w1.heap.size 0 33:=by rw [hw2];exact World.there_alloc (there33 w1 _) _
 have hO:qMO w2 (w1.heap.size+1) 0 64 0:=by
  rw [hw2]
  have:=qMO.new (w1.alloc (.cells (Value.bool false::lv 32 0).toArray 51)) 64 0 71
  rwa [World.size_alloc] at this
 have hb02:Below w0.heap.size w0 w2:=hb1.trans (hb2.mono hb1.size)
 have HA:=hid (hA.up hb02)
 have HB:=hid (hB.up hb2)
 have hcA2:=qcU hcA hb02
 have hcB2:=qcU hcB hb2
 have HW:=hid (hb0.trans (hb02.mono hb0.size))
 obtain ⟨B0,hB0⟩:∃ B0,B0=w.heap.size:=⟨_,rfl⟩
 have hz1:w1.heap.size=B0+1+1:=by rw [hs1,hs0,hB0]
 have hz0:w0.heap.size=B0+1:=by rw [hs0,hB0]
 rw [hz1] at hT hO hs2
 rw [←hB0] at HA hcA2
 rw [hz0] at HB hcB2
 have HT:=hid hT
 have HO:=hid hO
 have HBE:=hid hB0
 rw [hw1,hw0,lv33_zero,lv64_zero] at hw2
 have HNK:=hid (And.intro hN hK)
 have HBD:=hid (And.intro ha (And.intro hb hab))
 have HLA:=hid (fun W=>limbs_is a N W ha hN)
 have HLB:=hid (fun W=>limbs_is b K W hb hK)
 have HCAN:=hid hcan
 have HSZ:=hid (infoMlv a)
 unfold iV
 obtain ⟨va,hva⟩:∃ va,va=(Value.bool na::lv 32 a).toArray:=⟨_,rfl⟩
 obtain ⟨vb,hvb⟩:∃ vb,vb=(Value.bool nb::lv 32 b).toArray:=⟨_,rfl⟩
 rw [←hva,←hvb] at hw2 ⊢
 clear ha hb hab hN hK hw0 hb0 hs0 hcA hA hw1 hb1 hs1 hcB hB hb2 hT hO hb02 hz1 hz0 hva hvb hcan
 go_enter Try.func32,Try.ntmps32
 go_upto_region 2 with fail
 rw [←hw2,←hB0]
 clear hw2 hB0
 obtain ⟨ca,hca⟩:∃ ca,ca=lv 32 a:=⟨_,rfl⟩
 obtain ⟨cb,hcb⟩:∃ cb,cb=lv 32 b:=⟨_,rfl⟩
 have HLX:=hid (fun W (cs:List Value) (n:Nat) (h:(cs=ca∧n=N)∨(cs=cb∧n=K))=>show Calls Try.prog 46 #[.agg cs.toArray] W (fun e w'=>e=.returned (.int .i64 n)∧Below W.heap.size W w') by
  rcases h with ⟨h1,h2⟩|⟨h1,h2⟩
  ·rw [h1,h2,hca];exact HLA.out W
  ·rw [h1,h2,hcb];exact HLB.out W)
 have ra:w2.rangeAt B0 1 ca:=by rw [hca];exact HA.out
 have rb:w2.rangeAt (B0+1) 1 cb:=by rw [hcb];exact HB.out
 have sa:(Try.prog.info? 49).map (·.size)=some ca.length:=by rw [hca];exact infoMlv a
 have sb:(Try.prog.info? 49).map (·.size)=some cb.length:=by rw [hcb];exact infoMlv b
 have HCAB:=hid (And.intro hca hcb)
 have u49:=Try.underlying49
 clear hca hcb
 go_cut [7,8] from 15 to 20 (fun p q wx=>p=.int .i64 N∧q=.int .i64 K∧Below w2.heap.size w2 wx)
 case first =>
  refine wp_region_below (by kernel_rfl) (by kernel_rfl) ?_
  repeat (first
   | (refine wpQuiet_load_mid rfl _ _ rfl B0 1 rfl ca _ ra u49 rfl sa ?_;try simp only [Act.put,List.setIfInBounds_toArray,List.set_cons_zero,List.set_cons_succ])
   | (refine wpQuiet_load_mid rfl _ _ rfl (B0+1) 1 rfl cb _ rb u49 rfl sb ?_;try simp only [Act.put,List.setIfInBounds_toArray,List.set_cons_zero,List.set_cons_succ])
   | go_big_quiet_step ((go_at_call 46;exact Calls.below_of (HLX.out _ _ _ (by first|exact .inl ⟨rfl,rfl⟩|exact .inr ⟨rfl,rfl⟩)))))
  refine wpQuiet_nil ?_
  intro w' hw'
  obtain ⟨p,rfl⟩:=hw'
  go_wp2_with fail
  go_meet
  exact ⟨rfl,rfl,qbG _ _ _⟩
 case rest =>
  obtain ⟨rfl,rfl,hbc⟩:=hcut
  have hNN:=HNK.out
  obtain ⟨B3,hB3⟩:∃ B3,B3=B0+1+1+1:=⟨_,rfl⟩
  have hszc:B3<wc.heap.size:=by have:=hbc.size;omega
  have HA2:=hid (HA.out.up hbc)
  have HB2:=hid (HB.out.up hbc)
  have hO2:=HO.out.up hbc (by omega)
  rw [←hB3] at hO2
  have HO2:=hid hO2
  have HT2:=hid (there_up HT.out hbc (by omega))
  have HW2:=hid (HW.out.trans (hbc.mono HW.out.size))
  have HS:=hid (And.intro (qcU hcA2 hbc) (qcU hcB2 hbc))
  have HB3:=hid hB3
  rw [←hB3]
  clear hNN hbc ra rb hB3 hO2 hcA2 hcB2 hs2 u49 sa sb
  go_wp2
  go_loopg [9,10,11] N (fun g iv c0 j0 wr=>∃ (i P:Nat),i≤N∧N - i≤g∧iv=.int .i64 i∧P=(a%BB^i)*b∧MagAt wr B0 1 32 a∧MagAt wr (B0+1) 1 32 b∧qMO wr B3 0 64 P∧wr.there (B0+1+1) 0 33∧wr.cell? ⟨B0,0,none⟩=some (.bool na)∧wr.cell? ⟨B0+1,0,none⟩=some (.bool nb)∧Below w.heap.size w wr∧B3<wr.heap.size)
  case atStart=>exact ⟨0,0,by omega,by omega,rfl,by simp [Nat.mod_one],HA2.out,HB2.out,HO2.out,HT2.out,HS.out.1,HS.out.2,HW2.out,hszc⟩
  case round =>
   obtain ⟨i,P,hi,hg,rfl,hP,hA,hB,hO,hT,hcA,hcB,hW,hsz⟩:=hrel
   have HP:=hid hP
   have HA3:=hid hA
   have HB3':=hid hB
   have HO3:=hid hO
   have HT3:=hid hT
   have HW3:=hid hW
   have HCS3:=hid (And.intro hcA hcB)
   have HPB:=hid (show P<BB^(i+K) by
    rw [hP,Nat.pow_add]
    exact Nat.mul_lt_mul'' (Nat.mod_lt _ (BP i)) HNK.out.2.1)
   clear hP hA hB hO hT hW hcA hcB
   by_cases hlt:i<N
   ·have ca':=HA3.out.get (show i<32 by omega)
    obtain ⟨x,hx⟩:∃ x,x=lim a i:=⟨_,rfl⟩
    rw [←hx] at ca'
    have hxl:x<BB:=hx ▸ lim_lt a i
    have HX:=hid (And.intro hx hxl)
    clear hx hxl ca'
    obtain ⟨G,hG⟩:∃ G,G=gk:=⟨_,rfl⟩
    rw [←hG] at hg
    have HGG:=hid hG
    clear hG
    go_wp2
    go_loopg [10,11] K (fun g2 cv jv wr2=>∃ (j P2 c:Nat),j≤K∧K - j≤g2∧jv=.int .i64 j∧cv=.int .u64 c∧c<BB∧P2<BB^(i+K)∧P2+c*BB^(i+j)=(a%BB^i)*b+x*(b%BB^j)*BB^i∧MagAt wr2 B0 1 32 a∧MagAt wr2 (B0+1) 1 32 b∧qMO wr2 B3 0 64 P2∧wr2.there (B0+1+1) 0 33∧wr2.cell? ⟨B0,0,none⟩=some (.bool na)∧wr2.cell? ⟨B0+1,0,none⟩=some (.bool nb)∧Below w.heap.size w wr2∧B3<wr2.heap.size)
    case atStart=>exact ⟨0,P,0,by omega,by omega,rfl,rfl,BB_pos,HPB.out,by rw [HP.out];simp [Nat.mod_one],HA3.out,HB3'.out,HO3.out,HT3.out,HCS3.out.1,HCS3.out.2,HW3.out,hsz⟩
    case round =>
     obtain ⟨j,P2,c,hj,hg2,rfl,rfl,hc,hP2,he,hA,hB,hO,hT,hcA,hcB,hW,hsz2⟩:=hrel
     have HE:=hid he
     have HP2:=hid hP2
     have HA4:=hid hA
     have HB4:=hid hB
     have HO4:=hid hO
     have HT4:=hid hT
     have HW4:=hid hW
     have HCS4:=hid (And.intro hcA hcB)
     have HC4:=hid hc
     have hNN:=HNK.out
     clear he hP2 hA hB hO hT hW hcA hcB hc
     by_cases hlt2:j<K
     ·obtain ⟨t,ht⟩:∃ t,t=i+j:=⟨_,rfl⟩
      have ht64:t<64:=by omega
      have hij:IntKind.i64.wrap ((i:Int)+(j:Int))=(t:Int):=by rw [show (i:Int)+(j:Int)=(t:Int) by omega];exact IntWalk.i64_in _ (by omega)
      have ca':=HA4.out.get (show i<32 by omega)
      have cb':=HB4.out.get (show j<32 by omega)
      have co':=HO4.out.1.get ht64
      have fo':=HO4.out.2 t ht64
      rw [Nat.zero_add] at co' fo'
      rw [←HX.out.1] at ca'
      obtain ⟨y,hy⟩:∃ y,y=lim b j:=⟨_,rfl⟩
      obtain ⟨zz,hzz⟩:∃ zz,zz=lim P2 t:=⟨_,rfl⟩
      rw [←hy] at cb'
      rw [←hzz] at co'
      have hyl:y<BB:=hy ▸ lim_lt b j
      have hzl:zz<BB:=hzz ▸ lim_lt P2 t
      obtain ⟨d,c',V,hd,hc',hn,e1,e2,e4⟩:=mul_num HX.out.2 hyl hzl HC4.out
      have HSTEP:=hid (mul_step HE.out HX.out.1 hy (by rw [←ht,←hzz];exact hn))
      have HUB:=hid (show upd P2 t d<BB^(i+K) from upd_lt HP2.out (by omega) hd)
      have hset:=HO4.out.set ht64 hd
      rw [Nat.zero_add] at hset
      have HSET:=hid hset
      have HD:=hid (And.intro hd hc')
      have hw1':IntKind.u64.wrap (x:Int)=(x:Int):=by have:=HX.out.2;unfold BB at this;rw [IntKind.wrap_u64];omega
      have hw2':IntKind.u64.wrap (y:Int)=(y:Int):=by unfold BB at hyl;rw [IntKind.wrap_u64];omega
      have hw3':IntKind.u64.wrap (zz:Int)=(zz:Int):=by unfold BB at hzl;rw [IntKind.wrap_u64];omega
      have HT':=hid ht
      have hi32:i<32:=by omega
      have hj32:j<32:=by omega
      clear ht hy hzz hyl hzl hd hc' hn hset hNN
      have hne0:B3≠B0:=by have:=HB3.out;omega
      have hne1:B3≠B0+1:=by have:=HB3.out;omega
      have hne2:B3≠B0+1+1:=by have:=HB3.out;omega
      have HA5:=hid (HA4.out.setOther ⟨B3,t,none⟩ (.int .u32 (d:Nat)) hne0)
      have HB5:=hid (HB4.out.setOther ⟨B3,t,none⟩ (.int .u32 (d:Nat)) hne1)
      have HT5:=hid (there_set HT4.out ⟨B3,t,none⟩ (.int .u32 (d:Nat)) hne2)
      have HW5:=hid (below_set1 HW4.out ⟨B3,t,none⟩ (.int .u32 (d:Nat)) (show w.heap.size≤B3 by have:=HB3.out;have:=HBE.out;omega))
      have HCS5:=hid (And.intro (cell_other HCS4.out.1 ⟨B3,t,none⟩ (.int .u32 (d:Nat)) hne0) (cell_other HCS4.out.2 ⟨B3,t,none⟩ (.int .u32 (d:Nat)) hne1))
      go_wp2
      go_quiet (fail)
      go_wp2
      go_roundg (gk - 1)
      case measure=>omega
      case rel=>exact ⟨j+1,upd P2 t d,c',by omega,by omega,by go_num,rfl,HD.out.2,HUB.out,by have:=HSTEP.out;rwa [←HT'.out] at this,HA5.out,HB5.out,HSET.out,HT5.out,HCS5.out.1,HCS5.out.2,⟨HW5.out.os,HW5.out.tape,HW5.out.output,HW5.out.size,HW5.out.block⟩,by simpa [World.setCell] using hsz2⟩
     ·have hjK:j=K:=by omega
      obtain ⟨t,ht⟩:∃ t,t=i+K:=⟨_,rfl⟩
      have ht64:t<64:=by omega
      have hij:IntKind.i64.wrap ((i:Int)+(K:Int))=(t:Int):=by rw [show (i:Int)+(K:Int)=(t:Int) by omega];exact IntWalk.i64_in _ (by omega)
      have hwc:IntKind.u32.wrap (c:Int)=(c:Int):=by have:=HC4.out;unfold BB at this;rw [IntKind.wrap_u32];omega
      have co':=HO4.out.1.get ht64
      have fo':=HO4.out.2 t ht64
      rw [Nat.zero_add] at co' fo'
      have hset:=HO4.out.set ht64 HC4.out
      rw [Nat.zero_add,ht,upd_top HP2.out,←ht] at hset
      have HSET:=hid hset
      have HROW:=hid (show P2+c*BB^(i+K)=(a%BB^(i+1))*b by
       have h:=HE.out
       rw [hjK,Nat.mod_eq_of_lt hNN.2.1] at h
       exact mul_row h HX.out.1)
      have hne0:B3≠B0:=by have:=HB3.out;omega
      have hne1:B3≠B0+1:=by have:=HB3.out;omega
      have hne2:B3≠B0+1+1:=by have:=HB3.out;omega
      have HA5:=hid (HA4.out.setOther ⟨B3,t,none⟩ (.int .u32 (c:Nat)) hne0)
      have HB5:=hid (HB4.out.setOther ⟨B3,t,none⟩ (.int .u32 (c:Nat)) hne1)
      have HT5:=hid (there_set HT4.out ⟨B3,t,none⟩ (.int .u32 (c:Nat)) hne2)
      have HW5:=hid (below_set1 HW4.out ⟨B3,t,none⟩ (.int .u32 (c:Nat)) (show w.heap.size≤B3 by have:=HB3.out;have:=HBE.out;omega))
      have HCS5:=hid (And.intro (cell_other HCS4.out.1 ⟨B3,t,none⟩ (.int .u32 (c:Nat)) hne0) (cell_other HCS4.out.2 ⟨B3,t,none⟩ (.int .u32 (c:Nat)) hne1))
      have HT':=hid ht
      clear ht hset hjK hNN
      go_wp2
      go_roundg (G - 1)
      case measure=>have:=HGG.out;omega
      case rel=>exact ⟨i+1,P2+c*BB^(i+K),by omega,by have:=HGG.out;omega,by go_num,HROW.out,HA5.out,HB5.out,by have h:=HSET.out;have h2:=HT'.out;subst h2;exact h,HT5.out,HCS5.out.1,HCS5.out.2,HW5.out,by simpa [World.setCell] using hsz2⟩
   ·have hPv:P=a*b:=by
     have h:=HP.out
     rw [show i=N by omega,Nat.mod_eq_of_lt HNK.out.1.1] at h
     exact h
    obtain ⟨v,hv⟩:∃ v,v=a*b:=⟨_,rfl⟩
    rw [←hv] at hPv
    subst hPv
    have HPV:=hid hv
    obtain ⟨w4,hw4⟩:∃ w4,w4=wr.alloc (.cells (lv 32 0).toArray 49):=⟨_,rfl⟩
    have hb4:Below wr.heap.size wr w4:=by rw [hw4];exact (Below.refl _ _).alloc (Nat.le_refl _) _
    obtain ⟨Q,hQ⟩:∃ Q,Q=wr.heap.size:=⟨_,rfl⟩
    have hM:qMO w4 Q 0 32 0:=by rw [hw4,hQ];exact qMO.new wr 32 0 _
    have HM:=hid hM
    have HO4:=hid (HO3.out.1.up hb4)
    have HT4:=hid (there_up HT3.out hb4 (by have:=HB3.out;omega))
    have HW4:=hid (HW3.out.trans (hb4.mono HW3.out.size))
    have HCS4:=hid (And.intro (qcU HCS3.out.1 hb4) (qcU HCS3.out.2 hb4))
    have hqs:Q<w4.heap.size:=by rw [hw4,hQ];simp
    have hq3:B3<Q:=by rw [hQ];exact hsz
    have HQ:=hid hQ
    rw [lv_zero] at hw4
    have HVB:=hid (show P<BB^32 by rw [hv];exact HBD.out.2.2)
    clear hM hb4 hv
    go_upto_region 15 with fail
    rw [←hw4,←HQ.out]
    clear hw4 hQ
    go_wp2
    go_loopg [14] 32 (fun g3 tv wr3=>∃ (t M:Nat),t≤32∧32 - t≤g3∧tv=.int .i64 t∧M=P%BB^t∧MagAt wr3 B3 0 64 P∧qMO wr3 Q 0 32 M∧wr3.there (B0+1+1) 0 33∧wr3.cell? ⟨B0,0,none⟩=some (.bool na)∧wr3.cell? ⟨B0+1,0,none⟩=some (.bool nb)∧Below w.heap.size w wr3∧Q<wr3.heap.size)
    case atStart=>exact ⟨0,0,by omega,by omega,rfl,by simp [Nat.mod_one],HO4.out,HM.out,HT4.out,HCS4.out.1,HCS4.out.2,HW4.out,hqs⟩
    case round =>
     obtain ⟨t,M,ht,hg3,rfl,hMe,hO,hM,hT,hcA,hcB,hW,hsz5⟩:=hrel
     have HO5:=hid hO
     have HM5:=hid hM
     have HT5:=hid hT
     have HW5:=hid hW
     have HME:=hid hMe
     have HCS5:=hid (And.intro hcA hcB)
     clear hO hM hT hW hMe hcA hcB
     by_cases hlt3:t<32
     ·have co':=HO5.out.get (show t<64 by omega)
      have ch':=HO5.out.get (show 32+t<64 by omega)
      have cm':=HM5.out.1.get hlt3
      have fm':=HM5.out.2 t hlt3
      rw [Nat.zero_add] at co' cm' fm' ch'
      rw [lim_big (k:=32+t) (i:=32) HVB.out (by omega)] at ch'
      obtain ⟨d,hd⟩:∃ d,d=lim P t:=⟨_,rfl⟩
      rw [←hd] at co'
      have hdl:d<BB:=hd ▸ lim_lt P t
      have HMB:=hid (show M<BB^t by rw [HME.out];exact Nat.mod_lt _ (BP t))
      have hset:=HM5.out.set hlt3 hdl
      rw [Nat.zero_add,upd_top HMB.out] at hset
      have HSET:=hid hset
      have HNX:=hid (show M+d*BB^t=P%BB^(t+1) by rw [mod_succ,HME.out,hd])
      obtain ⟨u,hu⟩:∃ u,u=32+t:=⟨_,rfl⟩
      rw [←hu] at ch'
      have hut:(32:Int)+(t:Int)=(u:Int):=by omega
      have hwu:IntKind.i64.wrap (u:Int)=(u:Int):=IntWalk.i64_in _ (by omega)
      have hu64:u<64:=by omega
      have hne0:Q≠B0:=by have:=HB3.out;omega
      have hne1:Q≠B0+1:=by have:=HB3.out;omega
      have hne2:Q≠B0+1+1:=by have:=HB3.out;omega
      have hne3:Q≠B3:=by omega
      have HO6:=hid (HO5.out.setOther ⟨Q,t,none⟩ (.int .u32 (d:Nat)) hne3)
      have HT6:=hid (there_set HT5.out ⟨Q,t,none⟩ (.int .u32 (d:Nat)) hne2)
      have HW6:=hid (below_set1 HW5.out ⟨Q,t,none⟩ (.int .u32 (d:Nat)) (show w.heap.size≤Q by have:=HB3.out;have:=HBE.out;omega))
      have HCS6:=hid (And.intro (cell_other HCS5.out.1 ⟨Q,t,none⟩ (.int .u32 (d:Nat)) hne0) (cell_other HCS5.out.2 ⟨Q,t,none⟩ (.int .u32 (d:Nat)) hne1))
      clear hd hdl hset hu
      go_wp2
      go_roundg (gk - 1)
      case measure=>omega
      case rel=>exact ⟨t+1,M+d*BB^t,by omega,by omega,by go_num,HNX.out,HO6.out,HSET.out,HT6.out,HCS6.out.1,HCS6.out.2,HW6.out,by simpa [World.setCell] using hsz5⟩
     ·have hMv:M=P:=by
       have h:=HME.out
       rw [show t=32 by omega,Nat.mod_eq_of_lt HVB.out] at h
       exact h
      subst hMv
      obtain ⟨cs,hcs⟩:∃ cs,cs=lv 32 M:=⟨_,rfl⟩
      have HLD:=hid (show wr.rangeAt Q 0 (lv 32 M) from HM5.out.1)
      have HSZ2:=hid (infoMlv M)
      obtain ⟨rs,hrs⟩:∃ rs,rs=Value.bool nR::lv 32 vR:=⟨_,rfl⟩
      have HC2:=hid (fun W=>show Calls Try.prog 47 #[.bool (na != nb),.agg cs.toArray] W (fun e w'=>e=.returned (.agg rs.toArray)∧Below W.heap.size W w') by
       rw [hcs,hrs]
       have:=HCAN.out W
       rw [←HPV.out,hR] at this
       exact this)
      have HRR:=hid (show R=.agg rs.toArray by rw [hR,hrs];rfl)
      have HRS:=hid hrs
      rw [←hcs] at HLD HSZ2
      have c0:=HCS5.out.1
      have c1:=HCS5.out.2
      clear hcs hrs hR
      go_wp2_with (refine wpList_load_mid rfl _ _ rfl Q 0 rfl cs _ HLD.out Try.underlying49 rfl HSZ2.out ?_)
      refine (HC2.out _).mono ?_
      rintro e w6 ⟨rfl,hb6⟩
      have hTH:=there_up HT5.out hb6 (by have:=HB3.out;omega)
      have HTH:=hid (show w6.there (B0+1+1) 0 rs.toArray.size by rw [HRS.out,int_size];exact hTH)
      have HSA:=hid (show (Try.prog.info? 51).map (·.size)=some rs.toArray.size by rw [HRS.out,int_size];exact Try.infoI)
      have HSI:=hid (show (Try.prog.info? 51).map (·.size)=some rs.length by rw [HRS.out];exact infoI33 nR vR)
      have HONE:=hid (show rs.toArray.all (·.oneCell')=true by rw [HRS.out];exact all_oneCell_toArray (int_one nR vR))
      have HST:=hid (World.rangeAt_setCells_same w6 (B0+1+1) 0 rs (by rw [HRS.out,List.length_cons,qlL];exact hTH))
      have HBS:=hid (below_sets (show w.heap.size≤B0+1+1 by have:=HBE.out;omega) rs 0 w6 (HW5.out.trans (hb6.mono HW5.out.size)))
      clear hb6 hTH c0 c1
      go_wp2_with (refine wpList_store_mid rfl _ _ _ rfl (B0+1+1) 0 _ rfl rfl HTH.out HSA.out HONE.out ?_)
      have hld:=run_loadVar_mid (P:=Try.prog) _ _ _ _ _ _ HST.out Try.underlying51 rfl HSI.out
      try simp only [Act.put,List.setIfInBounds_toArray,List.set_cons_zero,List.set_cons_succ]
      refine bodyPost_ret (v:=.tuple #[.agg rs.toArray,.int .i64 0]) (by simp [results,Try.results32,asAddr,hld]) rfl ?_
      exact ⟨by rw [HRR.out],HBS.out⟩
end Go.Proofs.Ytnkmhbiklffjlaa
set_option maxHeartbeats 2000000
namespace Go.Proofs.Ytnkmhbiklffjlaa
open Go.RowKit Big
open Lib (hid)
def sgnI (neg:Bool) (v:Nat):Int:=if v=0 then 0 else if neg=true then -1 else 1
theorem sign_is (neg:Bool) (v:Nat) (w:World) (hv:v<BB^32) :
  Calls Try.prog 39 #[iV neg v] w fun e w'=>e=.returned (.int .i64 (sgnI neg v))∧Below w.heap.size w w':=by
 obtain ⟨w0,hw0,hb0,hs0,hc0,hA⟩:=box_int w neg v 51
 have HW:=hid hb0
 obtain ⟨z,hz⟩:∃ z,z=decide (v=0):=⟨_,rfl⟩
 have HZ:=hid (fun W=>zero_is v z W hv hz)
 obtain ⟨B0,hB0⟩:∃ B0,B0=w.heap.size:=⟨_,rfl⟩
 rw [←hB0] at hA hc0
 unfold iV
 obtain ⟨va,hva⟩:∃ va,va=(Value.bool neg::lv 32 v).toArray:=⟨_,rfl⟩
 obtain ⟨cs,hcs⟩:∃ cs,cs=lv 32 v:=⟨_,rfl⟩
 have HLD:=hid (show w0.rangeAt B0 1 (lv 32 v) from hA)
 have HSZ:=hid (infoMlv v)
 have HZ2:=hid (fun W=>show Calls Try.prog 52 #[.agg cs.toArray] W (fun e w'=>e=.returned (.bool z)∧Below W.heap.size W w') by rw [hcs];exact HZ.out W)
 rw [←hcs] at HLD HSZ
 rw [←hva] at hw0 ⊢
 obtain ⟨r,hr⟩:∃ r,r=sgnI neg v:=⟨_,rfl⟩
 have HR:=hid (And.intro hr hz)
 rw [←hr]
 clear hv hb0 hs0 hA hva hcs hz hr
 go_enter Try.func39,Try.ntmps39
 go_upto_region 1 with fail
 rw [←hw0,←hB0]
 clear hw0 hB0
 go_wp2_with (refine wpList_load_mid rfl _ _ rfl B0 1 rfl cs _ HLD.out Try.underlying49 rfl HSZ.out ?_)
 refine (HZ2.out _).mono ?_
 rintro e w1 ⟨rfl,hb1⟩
 have c1:=qcU hc0 hb1
 have HB1:=hid (HW.out.trans (hb1.mono HW.out.size))
 clear hb1 hc0
 cases z with
 | true =>
  have HQ:=hid (show (0:Int)=r by rw [HR.out.1,sgnI,if_pos (by simpa using HR.out.2.symm)])
  go_wp2
  go_ret
  exact ⟨ret_int HQ.out,HB1.out⟩
 | false =>
  cases neg with
  | true =>
   have HQ:=hid (show (-1:Int)=r by rw [HR.out.1,sgnI,if_neg (by simpa using HR.out.2.symm),if_pos rfl])
   go_wp2
   go_ret
   exact ⟨ret_int HQ.out,HB1.out⟩
  | false =>
   have HQ:=hid (show (1:Int)=r by rw [HR.out.1,sgnI,if_neg (by simpa using HR.out.2.symm),if_neg (by simp)])
   go_wp2
   go_ret
   exact ⟨ret_int HQ.out,HB1.out⟩
theorem int_cells {w:World} {b:Nat} {neg:Bool} {v:Nat} (h:w.rangeAt b 0 (Value.bool neg::lv 32 v)):w.cell? ⟨b,0,none⟩=some (.bool neg)∧MagAt w b 1 32 v:=by
 refine ⟨?_,fun j u hu=>?_⟩
 ·have:=h 0 (.bool neg) rfl
  simpa using this
 ·have:=h (j+1) u (by simpa using hu)
  rwa [show 0+(j+1)=1+j by omega] at this
theorem limbs_two {v N:Nat} (hv:v<BB^2) (hN:IsLimbs v N):N≤2:=by
 rcases Nat.lt_or_ge 2 N with h|h
 ·have h1:=hN.2 (by omega)
  have h2:=Nat.pow_le_pow_right BB_pos (show 2≤N - 1 by omega)
  omega
 ·exact h
theorem two_or {v x y:Nat} (hx:x<BB) (hy:y<BB) (hv:v=x+y*BB):bits BinOp.or IntKind.u64 (IntKind.u64.wrap ((y:Int)*4294967296)) (x:Int)=(v:Int):=by
 have e:IntKind.u64.wrap ((y:Int)*4294967296)=((y*4294967296:Nat):Int):=by unfold BB at hy;rw [IntKind.wrap_u64];omega
 rw [e,u64_or_nat _ _ (by unfold BB at hy;omega) (by unfold BB at hx;omega),or_low (i:=32) (by unfold BB at hx;omega) (by omega),hv]
 unfold BB;omega
end Go.Proofs.Ytnkmhbiklffjlaa
namespace Go.Proofs.Ytnkmhbiklffjlaa
open Go.RowKit
section
variable {P:Program} {ops:Array Oper} {md:Region.Mode} {C:World→Prop}
def headQ (P:Program) (md:Region.Mode) (ops:Array Oper) (C:World→Prop) (n:Nat) (L:Array Bool→Act→Prop):Nat→Array Bool→Act→Prop
 | 0,seen,a=>L seen a
 | f+1,seen,a=>Region.ready md ops seen≠[]∧∀ i∈Region.ready md ops seen,i<n∧qOp P ops C i (headQ P md ops C n L f (seen.setIfInBounds i true)) a
theorem any_of_headQ {n g:Nat} {L:Array Bool→Act→Prop} {Q':Exit→Act→World→Prop} (hL:∀ seen a w,C w→L seen a→wpAny P md ops Q' g seen a w) :
  ∀ (f:Nat) (seen:Array Bool) (a:Act) (w:World),C w→headQ P md ops C n L f seen a→wpAny P md ops Q' (f+g) seen a w:=by
 intro f
 induction f with
 | zero=>intro seen a w hw h;rw [Nat.zero_add];exact hL _ _ _ hw h
 | succ f ih =>
  intro seen a w hw h
  rw [show f+1+g=(f+g)+1 by omega]
  exact ⟨fun h0=>absurd h0 h.1,fun i hi=>wpOp_of_qOp hw (fun a' w' hw' h'=>ih _ a' w' hw' h') (h.2 i hi).2⟩
theorem headQ_first {n i:Nat} {oi:Oper} {v:Value} {L:Array Bool→Act→Prop} (hi:ops[i]?=some oi) (hsel:∀ (j:Nat) (o:Oper) cs b,ops[j]?=some o→o.op≠.select cs b)
  (hs:Region.sinkB md ops n=true) (hc:Region.chainB md ops n=true) (hn:n<ops.size) (hin:i<n) (hdone:∀ seen a,L seen a→∀ j∈Region.ready md ops seen,n≤j) :
  ∀ (f:Nat) (seen:Array Bool) (a:Act),HeadInv md ops n seen →
   (∀ j oj,ops[j]?=some oj→j≠i→seen.getD j true=false→(∀ e∈oj.after,Region.binds md e=true→e.on≠i)→oi.apart ops oj=true) →
   i∈Region.ready md ops seen→YieldsIn P ops C oi v a →
   headQ P md ops C n L f (seen.setIfInBounds i true) (a.put oi.dst v)→headQ P md ops C n L (f+1) seen a:=by
 intro f
 induction f with
 | zero =>
  intro seen a inv _ hr hy H
  have hun:=(mem_ready.1 hr).1
  refine ⟨List.ne_nil_of_mem hr,fun j hj=>?_⟩
  have hjn:j<n:=Nat.lt_of_not_le fun h=>tail_waits hs hc hn inv _ i rfl hin hun j h hj
  refine ⟨hjn,?_⟩
  by_cases e:j=i
  ·subst e;exact hy.qOp hi H
  ·exact absurd (hdone _ _ H j (ready_mono hj e)) (by omega)
 | succ f ih =>
  intro seen a inv hfree hr hy H
  have hun:=(mem_ready.1 hr).1
  refine ⟨List.ne_nil_of_mem hr,fun j hj=>?_⟩
  have hjn:j<n:=Nat.lt_of_not_le fun h=>tail_waits hs hc hn inv _ i rfl hin hun j h hj
  refine ⟨hjn,?_⟩
  by_cases e:j=i
  ·subst e;exact hy.qOp hi H
  obtain ⟨hju,oj,hoj,hall⟩:=mem_ready.1 hj
  have hnot:∀ e∈oj.after,Region.binds md e=true→e.on≠i:=fun e he hb heq=>by
   have h1:=hall e he hb
   rw [heq,getD_both hun] at h1
   cases h1
  refine qOp_mono (fun a' h3=>ih _ a' (inv.set hj hjn) (fun k ok hk hki hu hno=>?_) (ready_mono hr (Ne.symm e)) h3.1 ?_)
   (qOp_put hoj (hfree j oj hoj e hju hnot) (fun cs b=>hsel i oi cs b hi) (fun cs b=>hsel j oj cs b hoj) hy (H.2 j (ready_mono hj e)).2)
  ·by_cases hjk:j=k
   ·subst hjk;exact hfree j ok hk hki hju hno
   ·exact hfree k ok hk hki (by rwa [getD_set_ne true hjk] at hu) hno
  ·rw [Array.setIfInBounds_comm _ _ e]
   exact h3.2
theorem headQ_lex {n g:Nat} {Lq:Act→Prop} (hsel:Region.noSelect ops=true) (hs:Region.sinkB md ops n=true) (hc:Region.chainB md ops n=true) (hn:n<ops.size) :
  ∀ (l:List Oper) (k:Nat) (seen:Array Bool) (a:Act),(∀ j,j<l.length→l[j]?=ops[k+j]?)→k+l.length=n→HeadInv md ops n seen →
  Region.lexHead md ops g l.length k seen=true→wpQuiet P ops C Lq l a→headQ P md ops C n (fun seen' a'=>Region.seqB md ops g n seen'=true∧Lq a') l.length seen a:=by
 intro l
 induction l with
 | nil =>
  intro k seen a _ hk _ hB h
  obtain rfl:k=n:=by simpa using hk
  exact ⟨by simpa [Region.lexHead] using hB,h⟩
 | cons o l ih =>
  intro k seen a hl hk inv hB h
  have h0:ops[k]?=some o:=by simpa using (hl 0 (by simp)).symm
  simp only [List.length_cons,Region.lexHead,Bool.and_eq_true] at hB hk
  obtain ⟨⟨hr,hf⟩,hB'⟩:=hB
  have hkn:k<n:=by omega
  have hr':k∈Region.ready md ops seen:=by simpa using hr
  have hst:qOp P ops C k (wpQuiet P ops C Lq l) a:=by unfold qOp;simp only [h0];exact h
  obtain ⟨v,hy,hK⟩:=yieldsIn_of_qOp h0 hst
  refine headQ_first h0 (Region.noSelect_spec hsel) hs hc hn hkn (fun seen' a' hL=>seqB_ready hL.1) l.length seen a inv (Region.free_spec h0 hf) hr' hy ?_
  exact ih (k+1) _ _ (fun j hj=>by have:=hl (j+1) (by simp;omega);simpa [Nat.add_assoc,Nat.add_comm 1 j] using this) (by omega) (inv.set hr' hkn) hB' hK
theorem wp_region_quiet_tail {id:Nat} {Q:Exit→Act→World→Prop} {a:Act} {w:World} {l:List Oper} (n:Nat) (hm:P.follows .mixedOrders=true) (hB:Region.lexTailB .any l.toArray n=true) (hC:C w.drew)
  (h:wpQuiet P l.toArray C (fun a'=>∀ w',C w'→wpList P l.toArray Q (l.drop n) a' w') (l.take n) a):(Code.region id l.toArray true).wp P Q a w:=by
 simp only [Region.lexTailB,Bool.and_eq_true,decide_eq_true_eq] at hB
 obtain ⟨⟨⟨⟨hsel,hn⟩,hs⟩,hc⟩,hlex⟩:=hB
 have hn':n<l.length:=by simpa using hn
 have htl:(l.take n).length=n:=by simp;omega
 have hdl:(l.drop n).length=l.toArray.size - n:=by simp
 have inv0:HeadInv .any l.toArray n (Array.replicate l.toArray.size false) :=
  ⟨by simp,fun j oj _ hl=>(by rw [getD_replicate_false] at hl;cases hl),fun t _ ht=>getD_in (by simpa using ht) (getD_replicate_false _ _)⟩
 have H:=headQ_lex (md:=.any) (g:=l.toArray.size - n) hsel hs hc hn (l.take n) 0 _ a (fun j hj=>by
  have hj':j<n:=by rw [htl] at hj;exact hj
  simp [hj']) (by simpa using htl) inv0 (by rw [htl];exact hlex) h
 refine wp_region_any hm ?_
 have:=any_of_headQ (Q':=Q) (g:=l.toArray.size - n) (fun seen a' w' hw' hL=>by
  have:=wpAny_of_seq (md:=.any) (Q':=Q) (l.drop n) n seen a' w' (fun j=>by simp [List.getElem?_drop]) (by rw [hdl];exact hL.1) (hL.2 w' hw')
  rwa [hdl] at this) _ _ _ _ hC H
 rw [htl,show n+(l.toArray.size - n)=l.toArray.size by omega] at this
 exact this
theorem wp_region_below_tail {id:Nat} {Q:Exit→Act→World→Prop} {a:Act} {w:World} {l:List Oper} (n:Nat) (hm:P.follows .mixedOrders=true) (hB:Region.lexTailB .any l.toArray n=true)
  (h:wpQuiet P l.toArray (fun w'=>∃ p:GB,w'=gw w p.d p.os) (fun a'=>∀ w',(∃ p:GB,w'=gw w p.d p.os)→wpList P l.toArray Q (l.drop n) a' w') (l.take n) a):(Code.region id l.toArray true).wp P Q a w :=
 wp_region_quiet_tail (C:=fun w'=>∃ p:GB,w'=gw w p.d p.os) n hm hB (gw_of_below (below_drew (Below.refl _ _))) h
end
end Go.Proofs.Ytnkmhbiklffjlaa
set_option maxHeartbeats 2000000
namespace Go.Proofs.Ytnkmhbiklffjlaa
open Go.RowKit Big
open Lib (hid)
theorem wlq {P:Program} {ops:Array Oper} {w:World} {Q:Act→Prop} {a:Act} {op:Oper} {rest:List Oper} (hgd:Region.wanted op (yielded ops a.tmps)=true) (ty:TypeId) (x:Operand) (ho:op.op=.load ty x)
  (b o:Nat) (hx:a.eval x=.pointer (some ⟨b,o,none⟩)) (cs:List Value) (d:TypeDesc) (hc:w.rangeAt b o cs)
  (hu:P.underlying ty=some d) (hd:d.isRow=true) (hi:(P.info? ty).map (·.size)=some cs.length) (h:wpQuiet P ops (fun w'=>∃ p:GB,w'=gw w p.d p.os) Q rest (a.put op.dst (.agg cs.toArray))) :
  wpQuiet P ops (fun w'=>∃ p:GB,w'=gw w p.d p.os) Q (op::rest) a:=by
 refine wpQuiet_step (fun K hK=>?_)
 rw [if_pos hgd]
 refine ⟨.agg cs.toArray,fun W hW=>?_,hK _ h⟩
 obtain ⟨p,rfl⟩:=hW
 unfold Oper.quietAt execOp
 simp only [ho,hx,Instr.loadAt,Instr.sureAddr,Sem.run_bind,Sem.run_pure,Result.andThen_ok,run_loadVar_mid (gw w p.d p.os) b o ty cs d (ranges_up hc (qbG w p.d p.os)) hu hd hi]
 exact ⟨rfl,rfl⟩
theorem wqB {P:Program} {ops:Array Oper} {C:World→Prop} {Q:Act→Prop} {a:Act} {op:Oper} {rest:List Oper} (hgd:op.guard=none) (ty:TypeId) (xs:Array (Nat × Operand)) (ho:op.op=.build ty xs)
  (vs:List (Nat × Value)) (hx:xs.toList.map (fun p=>(p.1,a.eval p.2))=vs) (Z:Array Value) (hb:P.built ty vs=some Z) (h:wpQuiet P ops C Q rest (a.put op.dst (.agg Z))):wpQuiet P ops C Q (op::rest) a:=by
 refine wpQuiet_step (fun K hK=>?_)
 rw [if_pos (by simp [Region.wanted,hgd])]
 refine ⟨.agg Z,fun W hW=>?_,hK _ h⟩
 unfold Oper.quietAt execOp
 have hr:=run_build (P:=P) W ty vs.toArray Z (by simpa using hb)
 have hx2:xs.map (fun p=>(p.1,a.eval p.2))=vs.toArray:=by rw [←hx];apply Array.toList_inj.1;simp
 simp [ho,hx2,hr,Oper.quietUpon]
theorem canon_neg (v:Nat) (n:Bool) (w:World) (hv:v<BB^32) (hn:n=!decide (v=0)) :
  Calls Try.prog 47 #[.bool true,mV v] w fun e w'=>e=.returned (iV n v)∧Below w.heap.size w w':=by
 obtain ⟨z,hz⟩:∃ z,z=decide (v=0):=⟨_,rfl⟩
 have hnz:n=!z:=by rw [hz,hn]
 have HZ:=hid (fun W=>zero_is v z W hv hz)
 obtain ⟨cs,hcs⟩:∃ cs,cs=lv 32 v:=⟨_,rfl⟩
 have hl:cs.length=32:=by rw [hcs,qlL]
 have HSZ:=hid (show (Try.prog.info? 49).map (·.size)=some cs.length by rw [hl];exact Try.infoM)
 have HU:=hid Try.underlying49
 have HONE:=hid (show ∀ u∈Value.bool n::cs,u.oneCell'=true by rw [hcs];exact int_one n v)
 have HL:=hid hl
 have HZ2:=hid (fun W=>show Calls Try.prog 52 #[.agg cs.toArray] W (fun e w'=>e=.returned (.bool z)∧Below W.heap.size W w') by rw [hcs];exact HZ.out W)
 unfold mV iV
 rw [←hcs]
 have hbase:=range_new w cs 49
 clear hcs hl hv hz hn
 go_enter Try.func47,Try.ntmps47
 go_upto_region 1 with fail
 obtain ⟨w0,hw0⟩:∃ w0,w0=(w.alloc (.cells cs.toArray 49)).alloc (.cells (Value.bool false::lv 32 0).toArray 51):=⟨_,rfl⟩
 have HR:=hid (show w0.rangeAt w.heap.size 0 cs by rw [hw0];exact fun j v hv=>World.rangeAt_alloc hbase _ j v hv)
 have HT:=hid (show w0.there (w.heap.size+1) 0 33 by rw [hw0];have:=there33 (w.alloc (.cells cs.toArray 49)) 51;rwa [World.size_alloc] at this)
 have HW:=hid (show Below w.heap.size w w0 by rw [hw0];exact ((Below.refl w.heap.size w).alloc (Nat.le_refl _) (.cells cs.toArray 49)).alloc (by simp) (.cells (Value.bool false::lv 32 0).toArray 51))
 have hsz0:w0.heap.size=w.heap.size+1+1:=by rw [hw0];simp
 rw [lv33_zero] at hw0
 rw [←hw0]
 clear hw0 hbase
 go_cut [5] from 5 to 12 (fun p5 wx=>Below w.heap.size w wx∧wx.rangeAt (w.heap.size+1) 0 (.bool n::cs))
 case first =>
  refine wp_region_below_tail 8 (by kernel_rfl) (by kernel_rfl) ?_
  simp only [List.take_succ_cons,List.take_zero,List.drop_succ_cons,List.drop_zero]
  iterate 2 go_big_quiet_step (fail)
  refine wlq (by rfl) _ _ rfl w.heap.size 0 rfl cs _ HR.out HU.out rfl HSZ.out ?_
  simp only [Act.put,List.setIfInBounds_toArray,List.set_cons_zero,List.set_cons_succ]
  go_big_quiet_step ((go_at_call 52;exact Calls.below_of (HZ2.out _)))
  iterate 2 go_big_quiet_step (fail)
  refine wpQuiet_load_mid rfl _ _ rfl w.heap.size 0 rfl cs _ HR.out HU.out rfl HSZ.out ?_
  simp only [Act.put,List.setIfInBounds_toArray,List.set_cons_zero,List.set_cons_succ]
  try rw [←hnz]
  refine wqB rfl _ _ rfl _ rfl _ (built_int n cs HL.out) ?_
  simp only [Act.put,List.setIfInBounds_toArray,List.set_cons_zero,List.set_cons_succ]
  refine wpQuiet_nil ?_
  intro w' hw'
  obtain ⟨p,rfl⟩:=hw'
  have hT2:=there_up HT.out (qbG w0 p.d p.os) (by omega)
  have hB2:=HW.out.trans ((qbG w0 p.d p.os).mono HW.out.size)
  obtain ⟨w2,hw2⟩:∃ w2,w2=gw w0 p.d p.os:=⟨_,rfl⟩
  rw [←hw2] at hT2 hB2 ⊢
  refine wpList_store_mid rfl _ _ _ rfl (w.heap.size+1) 0 _ rfl rfl ?ht ?hi ?h1 ?_
  case ht=>intro j hj;exact hT2 j (by simpa [HL.out] using hj)
  case hi=>rw [show (Value.bool n::cs).toArray.size=33 by simp [HL.out]];exact Try.infoI
  case h1=>exact all_oneCell_toArray HONE.out
  go_wp2_with fail
  try simp only [Act.put,List.setIfInBounds_toArray,List.set_cons_zero,List.set_cons_succ]
  go_meet
  refine ⟨below_sets (by omega) _ _ _ hB2,?_⟩
  exact World.rangeAt_setCells_same _ _ _ _ (fun j hj=>hT2 j (by simpa [HL.out] using hj))
 case rest =>
  obtain ⟨hb,hrg⟩:=hcut
  have hld:=run_loadVar_mid (P:=Try.prog) wc (w.heap.size+1) 0 51 (.bool n::cs) _ hrg Try.underlying51 rfl (by rw [show (Value.bool n::cs).length=33 by simp [HL.out]];exact Try.infoI)
  go_wp2_with fail
  refine bodyPost_ret (v:=.agg (Value.bool n::cs).toArray) (by simp [results,Try.results47,asAddr,hld]) rfl ?_
  exact ⟨rfl,hb⟩
def cs1 (neg:Bool) (v:Nat):Bool:=neg&&!decide (v=0)
theorem canon_is (neg:Bool) (v:Nat) (w:World) (hv:v<BB^32) :
  Calls Try.prog 47 #[.bool neg,mV v] w fun e w'=>e=.returned (iV (cs1 neg v) v)∧Below w.heap.size w w':=by
 cases neg with
 | false=>exact canon_pos v w hv
 | true=>exact canon_neg v _ w hv (by simp [cs1])
theorem mul_all (na nb:Bool) (a b:Nat) (w:World) (ha:a<BB^32) (hb:b<BB^32) (hab:a*b<BB^32) :
  Calls Try.prog 32 #[iV na a,iV nb b] w fun e w'=>e=.returned (.tuple #[iV (cs1 (na != nb) (a*b)) (a*b),.int .i64 0])∧Below w.heap.size w w' :=
 mul_is na nb a b _ _ _ w ha hb hab rfl fun W=>canon_is _ _ W hab
end Go.Proofs.Ytnkmhbiklffjlaa
set_option maxHeartbeats 4000000
namespace Go.Proofs.Ytnkmhbiklffjlaa
open Go.RowKit Big
open Lib (hid)
theorem wpList_load_guard {P:Program} {ops:Array Oper} {rest:List Oper} {op:Oper} {a:Act} {w:World} {Q:Exit→Act→World→Prop} (hgd:Region.wanted op (yielded ops a.tmps)=true) (ty:TypeId) (x:Operand) (ho:op.op=.load ty x)
  (b o:Nat) (hx:a.eval x=.pointer (some ⟨b,o,none⟩)) (cs:List Value) (d:TypeDesc) (hc:w.rangeAt b o cs)
  (hu:P.underlying ty=some d) (hd:d.isRow=true) (hi:(P.info? ty).map (·.size)=some cs.length)
  (h:wpList P ops Q rest (a.put op.dst (.agg cs.toArray)) w):wpList P ops Q (op::rest) a w:=by
 unfold wpList
 rw [if_pos hgd]
 exact .inl (wp_load_mid ty x ho b o hx cs d hc hu hd hi h)
theorem box_four (w:World) (a b:Nat) (t:TypeId):∃ w0:World,w0=(((w.alloc (.cells (lv 32 a).toArray t)).alloc (.cells (lv 32 b).toArray t)).alloc (.cells (lv 32 0).toArray t)).alloc (.cells (lv 32 0).toArray t)∧Below w.heap.size w w0∧w0.heap.size=w.heap.size+1+1+1+1 ∧
  MagAt w0 w.heap.size 0 32 a∧MagAt w0 (w.heap.size+1) 0 32 b∧qMO w0 (w.heap.size+1+1) 0 32 0∧qMO w0 (w.heap.size+1+1+1) 0 32 0:=by
 obtain ⟨w1,h1,hb1,hs1,hA,hB⟩:=box_two w a b t
 obtain ⟨w2,h2⟩:∃ w2,w2=w1.alloc (.cells (lv 32 0).toArray t):=⟨_,rfl⟩
 have hs2:w2.heap.size=w1.heap.size+1:=by rw [h2];simp
 have hb2:Below w1.heap.size w1 w2:=by rw [h2];exact (Below.refl _ _).alloc (Nat.le_refl _) _
 have hb3:Below w2.heap.size w2 (w2.alloc (.cells (lv 32 0).toArray t)):=(Below.refl _ _).alloc (Nat.le_refl _) _
 have hR:qMO w2 w1.heap.size 0 32 0:=by rw [h2];exact qMO.new w1 32 0 t
 have hQ:=qMO.new w2 32 0 t
 rw [hs2,hs1] at hQ
 have hR3:=hR.up hb3 (by omega)
 rw [hs1] at hR3
 have hb13:=hb2.trans (hb3.mono hb2.size)
 refine ⟨_,rfl,?_,?_,?_,?_,?_,?_⟩
 all_goals rw [←h1,←h2]
 ·exact hb1.trans (hb13.mono hb1.size)
 ·rw [World.size_alloc,hs2,hs1]
 ·exact hA.up hb13
 ·exact hB.up hb13
 ·exact hR3
 ·exact hQ
theorem there_sets {b o n:Nat}:∀ {w:World} (h:w.there b o n) (vs:List Value) {b2:Nat} (o2:Nat) (hb:b2≠b),(w.setCells b2 o2 vs).there b o n
 | _,h,[],_,_,_=>h
 | w,h,v::vs,b2,o2,hb=>there_sets (w:=w.setCell ⟨b2,o2,none⟩ v) (there_set h _ _ hb) vs (o2+1) hb
theorem ranges_sets {b o:Nat} {cs:List Value}:∀ {w:World} (h:w.rangeAt b o cs) (vs:List Value) (b2 o2:Nat) (hb:b2≠b),(w.setCells b2 o2 vs).rangeAt b o cs
 | _,h,[],_,_,_=>h
 | w,h,v::vs,b2,o2,hb=>ranges_sets (w:=w.setCell ⟨b2,o2,none⟩ v) (fun j x hx=>cell_other (h j x hx) _ _ hb) vs b2 (o2+1) hb
theorem divide_small (a b:Nat) (w:World) (ha:a<BB^2) (hb:b<BB^2) (h0:b≠0) :
  Calls Try.prog 53 #[mV a,mV b] w fun e w'=>e=.returned (.tuple #[mV (a / b),mV (a%b)])∧Below w.heap.size w w':=by
 have up:BB^2≤BB^32:=Nat.pow_le_pow_right BB_pos (by omega)
 obtain ⟨N,hN32,hN⟩:=qLE a 32 (Nat.lt_of_lt_of_le ha up)
 obtain ⟨K,hK32,hK⟩:=qLE b 32 (Nat.lt_of_lt_of_le hb up)
 have hN2:(N:Int)≤2:=by have:=limbs_two ha hN;omega
 have hK2:(K:Int)≤2:=by have:=limbs_two hb hK;omega
 obtain ⟨q,hq⟩:∃ q,q=a / b:=⟨_,rfl⟩
 obtain ⟨r,hr⟩:∃ r,r=a%b:=⟨_,rfl⟩
 have hq2:q<BB^2:=by rw [hq];exact Nat.lt_of_le_of_lt (Nat.div_le_self _ _) ha
 have hr2:r<BB^2:=by rw [hr];exact Nat.lt_of_le_of_lt (Nat.mod_le _ _) ha
 obtain ⟨w0,hw0,hb0,hs0,hA,hB,hQ,hR⟩:=box_four w a b 49
 have HLA:=hid (fun W=>limbs_is a N W (Nat.lt_of_lt_of_le ha up) hN)
 have HLB:=hid (fun W=>limbs_is b K W (Nat.lt_of_lt_of_le hb up) hK)
 have HWA:=hid (fun W=>low_is a W ha)
 have HWB:=hid (fun W=>low_is b W hb)
 have HSQ:=hid (fun W=>small_is q W hq2)
 have HSR:=hid (fun W=>small_is r W hr2)
 have HW:=hid hb0
 rw [lv_zero] at hw0
 rw [←hq,←hr]
 unfold mV
 obtain ⟨ca,hca⟩:∃ ca,ca=lv 32 a:=⟨_,rfl⟩
 obtain ⟨cb,hcb⟩:∃ cb,cb=lv 32 b:=⟨_,rfl⟩
 obtain ⟨cq,hcq⟩:∃ cq,cq=lv 32 q:=⟨_,rfl⟩
 obtain ⟨cr,hcr⟩:∃ cr,cr=lv 32 r:=⟨_,rfl⟩
 have HLX:=hid (fun W (cs:List Value) (n:Nat) (h:(cs=ca∧n=N)∨(cs=cb∧n=K))=>show Calls Try.prog 46 #[.agg cs.toArray] W (fun e w'=>e=.returned (.int .i64 n)∧Below W.heap.size W w') by
  rcases h with ⟨h1,h2⟩|⟨h1,h2⟩
  ·rw [h1,h2,hca];exact HLA.out W
  ·rw [h1,h2,hcb];exact HLB.out W)
 have HWX:=hid (fun W (cs:List Value) (n:Nat) (h:(cs=ca∧n=a)∨(cs=cb∧n=b))=>show Calls Try.prog 65 #[.agg cs.toArray] W (fun e w'=>e=.returned (.int .u64 n)∧Below W.heap.size W w') by
  rcases h with ⟨h1,h2⟩|⟨h1,h2⟩
  ·rw [h1,h2,hca];exact HWA.out W
  ·rw [h1,h2,hcb];exact HWB.out W)
 have HSX:=hid (fun W (cs:List Value) (n:Nat) (h:(n=q∧cs=cq)∨(n=r∧cs=cr))=>show Calls Try.prog 64 #[.int .u64 n] W (fun e w'=>e=.returned (.agg cs.toArray)∧Below W.heap.size W w') by
  rcases h with ⟨h1,h2⟩|⟨h1,h2⟩
  ·rw [h1,h2,hcq];exact HSQ.out W
  ·rw [h1,h2,hcr];exact HSR.out W)
 have lca:ca.length=32:=by rw [hca,qlL]
 have lcb:cb.length=32:=by rw [hcb,qlL]
 have lcq:cq.length=32:=by rw [hcq,qlL]
 have lcr:cr.length=32:=by rw [hcr,qlL]
 have HRA:=hid (show w0.rangeAt w.heap.size 0 ca by rw [hca];exact hA)
 have HRB:=hid (show w0.rangeAt (w.heap.size+1) 0 cb by rw [hcb];exact hB)
 have HQ:=hid hQ.there
 have HR:=hid hR.there
 have sz:∀ cs:List Value,cs.length=32→(Try.prog.info? 49).map (·.size)=some cs.length:=fun cs h=>by rw [h];exact Try.infoM
 have HSZ:=hid sz
 have HLEN:=hid (And.intro lca (And.intro lcb (And.intro lcq lcr)))
 have HONE:=hid (And.intro (all_oneCell_toArray (lv_one 32 q)) (all_oneCell_toArray (lv_one 32 r)))
 rw [←hcq,←hcr] at HONE
 have HU:=hid Try.underlying49
 rw [←hca,←hcb] at hw0 ⊢
 rw [←hcq,←hcr]
 have eq1:(a:Int) / (b:Int)=(q:Int):=by rw [hq];rfl
 have eq2:(a:Int)%(b:Int)=(r:Int):=by rw [hr];rfl
 have wq:IntKind.u64.wrap (q:Int)=(q:Int):=by unfold BB at hq2;rw [IntKind.wrap_u64];omega
 have wr:IntKind.u64.wrap (r:Int)=(r:Int):=by unfold BB at hr2;rw [IntKind.wrap_u64];omega
 have HAB:=hid (And.intro ha hb)
 obtain ⟨va,hva⟩:∃ va,va=ca.toArray:=⟨_,rfl⟩
 obtain ⟨vb,hvb⟩:∃ vb,vb=cb.toArray:=⟨_,rfl⟩
 rw [←hva,←hvb] at hw0 ⊢
 clear hN hK hN32 hK32 hq2 hr2 hb0 hA hB hQ hR hca hcb hcq hcr lca lcb lcq lcr sz ha hb up hq hr hva hvb
 go_enter Try.func53,Try.ntmps53
 go_upto_region 1 with fail
 rw [←hw0]
 obtain ⟨B0,hB0⟩:∃ B0,B0=w.heap.size:=⟨_,rfl⟩
 have HBE:=hid hB0
 rw [←hB0] at HRA HRB HQ HR hs0 ⊢
 clear hw0 hB0
 go_wp2_with (first
  | (refine wpList_load_mid rfl _ _ rfl B0 0 rfl ca _ HRA.out HU.out rfl (HSZ.out _ HLEN.out.1) ?_))
 refine (HLX.out _ _ _ (.inl ⟨rfl,rfl⟩)).mono ?_
 rintro e w1 ⟨rfl,hb1⟩
 have HRA1:=hid (ranges_up HRA.out hb1)
 have HRB1:=hid (ranges_up HRB.out hb1)
 have HB1:=hid hb1
 clear hb1
 go_wp2_with (first
  | (refine wpList_load_guard (by rfl) _ _ rfl (B0+1) 0 rfl cb _ HRB1.out HU.out rfl (HSZ.out _ HLEN.out.2.1) ?_))
 refine (HLX.out _ _ _ (.inr ⟨rfl,rfl⟩)).mono ?_
 rintro e w2 ⟨rfl,hb2⟩
 have hb12:=HB1.out.trans (hb2.mono HB1.out.size)
 have hs2:B0+1+1+1+1≤w2.heap.size:=by have:=hb12.size;omega
 have ra:=ranges_up HRA.out hb12
 have rb:=ranges_up HRB.out hb12
 have HQ2:=hid (there_up HQ.out hb12 (by omega))
 have HR2:=hid (there_up HR.out hb12 (by omega))
 have HW2:=hid (HW.out.trans (hb12.mono HW.out.size))
 have sa:=HSZ.out _ HLEN.out.1
 have sb:=HSZ.out _ HLEN.out.2.1
 have u49:=HU.out
 clear hb2 hb12
 go_upto_region 2 with fail
 refine wp_region_below_tail 12 (by kernel_rfl) (by kernel_rfl) ?_
 simp only [List.take_succ_cons,List.take_zero,List.drop_succ_cons,List.drop_zero]
 repeat (first
  | (refine wpQuiet_load_mid rfl _ _ rfl B0 0 rfl ca _ ra u49 rfl sa ?_;try simp only [Act.put,List.setIfInBounds_toArray,List.set_cons_zero,List.set_cons_succ])
  | (refine wpQuiet_load_mid rfl _ _ rfl (B0+1) 0 rfl cb _ rb u49 rfl sb ?_;try simp only [Act.put,List.setIfInBounds_toArray,List.set_cons_zero,List.set_cons_succ])
  | go_big_quiet_step ((go_at_call 65;exact Calls.below_of (HWX.out _ _ _ (by first|exact .inl ⟨rfl,rfl⟩|exact .inr ⟨rfl,rfl⟩))))
  | go_big_quiet_step ((go_at_call 64;exact Calls.below_of (HSX.out _ _ _ (by first|exact .inl ⟨rfl,rfl⟩|exact .inr ⟨rfl,rfl⟩)))))
 refine wpQuiet_nil ?_
 intro w' hw'
 obtain ⟨p,rfl⟩:=hw'
 have hbg:=qbG w2 p.d p.os
 obtain ⟨w3,hw3⟩:∃ w3,w3=gw w2 p.d p.os:=⟨_,rfl⟩
 rw [←hw3] at hbg ⊢
 have hq3:=there_up HQ2.out hbg (by omega)
 have hr3:=there_up HR2.out hbg (by omega)
 have HW3:=hid (HW2.out.trans (hbg.mono HW2.out.size))
 clear hbg hw3 eq1 eq2 wq wr
 refine wpList_store_mid rfl _ _ _ rfl (B0+1+1) 0 _ rfl rfl ?ht (by rw [List.size_toArray];exact HSZ.out _ HLEN.out.2.2.1) HONE.out.1 ?_
 case ht=>rw [List.size_toArray,HLEN.out.2.2.1];exact hq3
 simp only [Act.put,List.setIfInBounds_toArray,List.set_cons_zero,List.set_cons_succ]
 have hr4:(w3.setCells (B0+1+1) 0 cq).there (B0+1+1+1) 0 32:=there_sets hr3 cq 0 (by omega)
 refine wpList_store_mid rfl _ _ _ rfl (B0+1+1+1) 0 _ rfl rfl ?ht (by rw [List.size_toArray];exact HSZ.out _ HLEN.out.2.2.2) HONE.out.2 ?_
 case ht=>rw [List.size_toArray,HLEN.out.2.2.2];exact hr4
 simp only [Act.put,List.setIfInBounds_toArray,List.set_cons_zero,List.set_cons_succ]
 have hle2:w.heap.size≤B0+1+1:=by rw [←HBE.out];omega
 have hle3:w.heap.size≤B0+1+1+1:=by omega
 have HWE:=hid (below_sets hle3 cr 0 _ (below_sets hle2 cq 0 _ HW3.out))
 have g1:=World.rangeAt_setCells_same w3 (B0+1+1) 0 cq (by rw [HLEN.out.2.2.1];exact hq3)
 have g2:=ranges_sets g1 cr (B0+1+1+1) 0 (by omega)
 have g3:=World.rangeAt_setCells_same (w3.setCells (B0+1+1) 0 cq) (B0+1+1+1) 0 cr (by rw [HLEN.out.2.2.2];exact hr4)
 try simp only [List.toList_toArray]
 go_wp2_with fail
 have hld1:=run_loadVar_mid (P:=Try.prog) _ _ _ _ _ _ g2 Try.underlying49 rfl (HSZ.out _ HLEN.out.2.2.1)
 have hld2:=run_loadVar_mid (P:=Try.prog) _ _ _ _ _ _ g3 Try.underlying49 rfl (HSZ.out _ HLEN.out.2.2.2)
 refine bodyPost_ret (v:=.tuple #[.agg cq.toArray,.agg cr.toArray]) (by simp [results,Try.results53,asAddr,hld1,hld2]) rfl ?_
 exact ⟨rfl,HWE.out⟩
end Go.Proofs.Ytnkmhbiklffjlaa
namespace Go.Proofs.Ytnkmhbiklffjlaa
open Go.RowKit Big
namespace Big
theorem and_one {x:Nat} (hx:x<BB):bits BinOp.and IntKind.u32 (x:Int) 1=((x%2:Nat):Int):=by
 have:=u32_and_nat x 1 (by unfold BB at hx;omega) (by omega)
 rw [Nat.and_one_is_mod] at this
 exact this
theorem bit_word {s:Nat} (hs:s<32):IntKind.u32.wrap ((2:Int)^s)=((2^s:Nat):Int):=by
 have h:2^s≤2^31:=Nat.pow_le_pow_right (by omega) (by omega)
 have e:((2:Int)^s)=((2^s:Nat):Int):=by simp
 have h3:(2:Nat)^31=2147483648:=by decide
 rw [e]
 obtain ⟨y,hy⟩:∃ y,y=2^s:=⟨_,rfl⟩
 rw [←hy] at h ⊢
 rw [IntKind.wrap_u32]
 omega
theorem lim_low {q i:Nat} (hq:q%2^(i+1)=0):lim q (i / 32)%2^(i%32+1)=0:=by
 obtain ⟨Q,hQ⟩:∃ Q,q=2^(i+1)*Q:=⟨q / 2^(i+1),by have:=Nat.mod_add_div q (2^(i+1));omega⟩
 have e1:2^(i+1)=BB^(i / 32)*2^(i%32+1):=by rw [BP_two,←Nat.pow_add];congr 1;omega
 have e2:q / BB^(i / 32)=2^(i%32+1)*Q:=by
  rw [hQ,e1,Nat.mul_assoc,Nat.mul_div_cancel_left _ (BP _)]
 have e3:BB=2^(i%32+1)*2^(32 - (i%32+1)):=by rw [BB_two,←Nat.pow_add];congr 1;omega
 unfold lim
 rw [e2,e3,Nat.mod_mul_right_mod]
 exact Nat.mul_mod_right _ _
theorem set_bit {q i y:Nat} (hq:q%2^(i+1)=0) (hy:y=2^(i%32)) :
  bits BinOp.or IntKind.u32 (lim q (i / 32):Nat) (y:Nat)=((lim q (i / 32)+y:Nat):Int)∧lim q (i / 32)+y<BB∧upd q (i / 32) (lim q (i / 32)+y)=q+2^i:=by
 have hl:=lim_lt q (i / 32)
 have hz:=lim_low hq
 obtain ⟨L,hL⟩:∃ L,L=lim q (i / 32):=⟨_,rfl⟩
 rw [←hL] at hl hz ⊢
 have hs:i%32<32:=Nat.mod_lt _ (by omega)
 have h2:2^(i%32+1)=2*y:=by rw [hy,Nat.pow_succ];omega
 have hy0:0<y:=by rw [hy];exact tp _
 have hyb:y<BB:=by
  rw [hy,BB_two];exact Nat.pow_lt_pow_right (by omega) hs
 have h3:BB=2^(i%32+1)*2^(32 - (i%32+1)):=by rw [BB_two,←Nat.pow_add];congr 1;omega
 obtain ⟨T,hT⟩:∃ T,T=2^(32 - (i%32+1)):=⟨_,rfl⟩
 rw [←hT,h2] at h3
 rw [h2] at hz
 obtain ⟨M,hM⟩:∃ M,L=2*y*M:=⟨L / (2*y),by have:=Nat.mod_add_div L (2*y);omega⟩
 have hMT:M<T:=by
  rcases Nat.lt_or_ge M T with h|h
  ·exact h
  ·have:=Nat.mul_le_mul_left (2*y) h
   omega
 have hle:2*y*M+2*y≤2*y*T:=by rw [←Nat.mul_succ];exact Nat.mul_le_mul_left _ hMT
 refine ⟨?_,by omega,?_⟩
 ·rw [u32_or_nat L y (by unfold BB at hl;omega) (by unfold BB at hyb;omega),or_low (i:=i%32+1) (by rw [h2];omega) (by rw [h2];exact hz)]
 ·have m1:=mod_succ q (i / 32)
  have m2:=Nat.mod_add_div q (BB^(i / 32+1))
  rw [m1,←hL,Nat.mul_comm (BB^(i / 32+1))] at m2
  have e4:2^i=y*BB^(i / 32):=by rw [hy,BP_two,←Nat.pow_add];congr 1;omega
  unfold upd
  rw [e4,Nat.add_mul]
  omega
theorem div_end {a b Q r:Nat} (h:a / 2^0=Q*b+r) (hr:r<b):Q=a / b∧r=a%b:=by
 rw [Nat.pow_zero,Nat.div_one] at h
 have hb:0<b:=by omega
 refine ⟨?_,?_⟩
 ·rw [h,Nat.add_comm,Nat.add_mul_div_right _ _ hb,Nat.div_eq_of_lt hr];omega
 ·rw [h,Nat.add_comm,Nat.add_mul_mod_self_right,Nat.mod_eq_of_lt hr]
theorem bits_div {a b mA nB:Nat} (ha:IsBits a mA) (hb:IsBits b (nB+1)) (h:nB<mA):a / 2^(mA - nB)<b:=by
 have h1:=hb.2 (by omega)
 rw [Nat.add_sub_cancel] at h1
 refine Nat.lt_of_lt_of_le ?_ h1
 rw [Nat.div_lt_iff_lt_mul (tp _),←Nat.pow_add,show nB+(mA - nB)=mA by omega]
 exact ha.1
theorem bits_less {a b mA nB:Nat} (ha:IsBits a mA) (hb:IsBits b (nB+1)) (h:mA≤nB):a<b:=by
 have h1:=hb.2 (by omega)
 rw [Nat.add_sub_cancel] at h1
 exact Nat.lt_of_lt_of_le (Nat.lt_of_lt_of_le ha.1 (Nat.pow_le_pow_right (by omega) h)) h1
end Big
end Go.Proofs.Ytnkmhbiklffjlaa
set_option maxHeartbeats 4000000
namespace Go.Proofs.Ytnkmhbiklffjlaa
open Go.RowKit Big
open Lib (hid)
theorem toint_is (neg:Bool) (v:Nat) (w:World) (hv:v<9223372036854775808)
  (hcan:∀ W,Calls Try.prog 47 #[.bool neg,mV v] W fun e w'=>e=.returned (iV neg v)∧Below W.heap.size W w') :
  Calls Try.prog 38 #[iV neg v] w fun e w'=>e=.returned (.tuple #[.int .i64 (if neg=true then -(v:Int) else (v:Int)),.bool true])∧Below w.heap.size w w':=by
 have hv2:v<BB^2:=two_lt (by omega)
 have hv32:v<BB^32:=Nat.lt_of_lt_of_le hv2 (Nat.pow_le_pow_right BB_pos (by omega))
 obtain ⟨N,_,hN⟩:=qLE v 32 hv32
 have hN2:=limbs_two hv2 hN
 have h2:=two_limbs hv2
 have l0:=lim_lt v 0
 have l1:=lim_lt v 1
 obtain ⟨w0,hw0,hb0,hs0,hc0,hA⟩:=box_int w neg v 51
 have hT:w0.there w.heap.size 0 33:=by
  intro j hj
  have hh:=heap_alloc_new w (.cells (Value.bool neg::lv 32 v).toArray 51)
  rw [←hw0] at hh
  refine ⟨?_,frozen_of_row _ _ _ _ _ hh⟩
  rw [cell_of_row _ w.heap.size (0+j) _ 51 (0,0) hh,Array.getElem?_eq_getElem (by rw [int_size];omega)];rfl
 have HW:=hid hb0
 have HL:=hid (fun W=>limbs_is v N W hv32 hN)
 obtain ⟨B0,hB0⟩:∃ B0,B0=w.heap.size:=⟨_,rfl⟩
 have hB1:B0<w0.heap.size:=by rw [hs0,hB0];omega
 have HBE:=hid hB0
 rw [←hB0] at hA hc0 hT
 have HT:=hid hT
 unfold iV at hcan ⊢
 obtain ⟨va,hva⟩:∃ va,va=(Value.bool neg::lv 32 v).toArray:=⟨_,rfl⟩
 obtain ⟨rs,hrs⟩:∃ rs,rs=Value.bool neg::lv 32 v:=⟨_,rfl⟩
 obtain ⟨cs,hcs⟩:∃ cs,cs=lv 32 v:=⟨_,rfl⟩
 have HLD:=hid (show w0.rangeAt B0 1 (lv 32 v) from hA)
 have HSZ:=hid (infoMlv v)
 have HC2:=hid (fun W=>show Calls Try.prog 47 #[.bool neg,.agg cs.toArray] W (fun e w'=>e=.returned (.agg rs.toArray)∧Below W.heap.size W w') by rw [hcs,hrs];exact hcan W)
 have HL2:=hid (fun W=>show Calls Try.prog 46 #[.agg cs.toArray] W (fun e w'=>e=.returned (.int .i64 N)∧Below W.heap.size W w') by rw [hcs];exact HL.out W)
 have HRS:=hid hrs
 have HCS:=hid hcs
 have HONE:=hid (show rs.toArray.all (·.oneCell')=true by rw [hrs];exact all_oneCell_toArray (int_one neg v))
 have HSA:=hid (show (Try.prog.info? 51).map (·.size)=some rs.toArray.size by rw [hrs,int_size];exact Try.infoI)
 rw [←hcs] at HLD HSZ
 rw [←hva] at hw0 ⊢
 obtain ⟨x,hx⟩:∃ x,x=lim v 0:=⟨_,rfl⟩
 obtain ⟨y,hy⟩:∃ y,y=lim v 1:=⟨_,rfl⟩
 have HXY:=hid (And.intro hx hy)
 rw [←hx,←hy] at h2
 rw [←hx] at l0
 rw [←hy] at l1
 have hor:=two_or l0 l1 h2
 have wx:IntKind.u64.wrap (x:Int)=(x:Int):=by unfold BB at l0;rw [IntKind.wrap_u64];omega
 have wy:IntKind.u64.wrap (y:Int)=(y:Int):=by unfold BB at l1;rw [IntKind.wrap_u64];omega
 have HOR:=hid hor
 clear hv32 hN hv2 h2 l0 l1 hb0 hs0 hA hT hcan hva hrs hcs hx hy hor
 go_enter Try.func38,Try.ntmps38
 go_upto_region 1 with fail
 rw [←hw0,←hB0]
 clear hw0 hB0
 go_wp2_with (refine wpList_load_mid rfl _ _ rfl B0 1 rfl cs _ HLD.out Try.underlying49 rfl HSZ.out ?_)
 refine (HC2.out _).mono ?_
 rintro e w1 ⟨rfl,hb1⟩
 have hT1:=there_up HT.out hb1 hB1
 have HTH:=hid (show w1.there B0 0 rs.toArray.size by rw [HRS.out,int_size];exact hT1)
 have HST:=hid (World.rangeAt_setCells_same w1 B0 0 rs (by rw [HRS.out,List.length_cons,qlL];exact hT1))
 have HBS:=hid (below_sets (show w.heap.size≤B0 by rw [←HBE.out];exact Nat.le_refl _) rs 0 w1 (HW.out.trans (hb1.mono HW.out.size)))
 obtain ⟨w2,hw2⟩:∃ w2,w2=w1.setCells B0 0 rs:=⟨_,rfl⟩
 have hIC:w2.cell? ⟨B0,0,none⟩=some (.bool neg)∧MagAt w2 B0 1 32 v:=by rw [hw2];exact int_cells (by have:=HST.out;rwa [HRS.out] at this ⊢)
 have HIC:=hid hIC
 have HLD2:=hid (show w2.rangeAt B0 1 cs by rw [HCS.out];exact hIC.2)
 rw [←hw2] at HBS
 have HW2:=hid hw2
 clear hb1 hT1 hw2 hIC hc0
 go_upto_region 2 with (refine wpList_store_mid rfl _ _ _ rfl B0 0 _ rfl rfl HTH.out HSA.out HONE.out ?_)
 try simp only [Act.put,List.setIfInBounds_toArray,List.set_cons_zero,List.set_cons_succ]
 try simp only [List.toList_toArray]
 rw [←HW2.out]
 go_wp2_with (refine wpList_load_mid rfl _ _ rfl B0 1 rfl cs _ HLD2.out Try.underlying49 rfl HSZ.out ?_)
 refine (HL2.out _).mono ?_
 rintro e w3 ⟨rfl,hb3⟩
 have c0:=qcU HIC.out.1 hb3
 have hm:=HIC.out.2.up hb3
 have cx:=hm.get (k:=0) (by omega)
 have cy:=hm.get (k:=1) (by omega)
 rw [←HXY.out.1] at cx
 rw [←HXY.out.2] at cy
 have HB3:=hid (HBS.out.trans (hb3.mono HBS.out.size))
 have hN3:¬(2:Int)<(N:Int):=by omega
 obtain ⟨V,hV⟩:∃ V:Int,V=(v:Int):=⟨_,rfl⟩
 have hor:=HOR.out
 rw [←hV] at hor
 have HVV:=hid hV
 have hV0:0≤V:=by omega
 have hV1:V<9223372036854775808:=by omega
 clear hb3 hm hv hV
 cases neg with
 | true =>
  have hle:V≤9223372036854775808:=by omega
  have hneg:IntKind.i64.wrap (IntKind.u64.wrap (-V))=-V:=by rw [IntKind.wrap_u64,IntKind.wrap_i64];omega
  go_wp2
  go_ret2
  exact ⟨by rw [HVV.out];rfl,HB3.out⟩
 | false =>
  have hpos:IntKind.i64.wrap V=V:=by rw [IntKind.wrap_i64];omega
  go_wp2
  go_ret2
  exact ⟨by rw [HVV.out];rfl,HB3.out⟩
theorem toint_all (neg:Bool) (v:Nat) (w:World) (hv:v<9223372036854775808) (hn:cs1 neg v=neg) :
  Calls Try.prog 38 #[iV neg v] w fun e w'=>e=.returned (.tuple #[.int .i64 (if neg=true then -(v:Int) else (v:Int)),.bool true])∧Below w.heap.size w w' :=
 toint_is neg v w hv fun W=>by
  have:=canon_is neg v W (Nat.lt_of_lt_of_le (two_lt (by omega)) (Nat.pow_le_pow_right BB_pos (by omega)))
  rwa [hn] at this
end Go.Proofs.Ytnkmhbiklffjlaa
