import Derived.Test.YtooeabibhjbkoaaGreatBigU
import Derived.StillTailTactics
import Derived.Laws.BitsAllLaws
set_option linter.unusedVariables false
set_option linter.unusedSimpArgs false
set_option maxRecDepth 100000
set_option maxHeartbeats 4000000
namespace Go.Proofs.YtooeabibhjbkoaaGreat
open Go.RowKit Big
open Lib (hid)
theorem box_one1 (w:World) (a:Nat) (t:TypeId):∃ w0:World,w0=w.alloc (.cells (lv 32 a).toArray t)∧Below w.heap.size w w0∧w0.heap.size=w.heap.size+1∧qMO w0 w.heap.size 0 32 a :=
 ⟨_,rfl,(Below.refl _ _).alloc (Nat.le_refl _) _,by simp,qMO.new w 32 a t⟩
def mixN (P m i:Nat):Nat:=P+m / BB^i*BB^i
theorem mix_lim {P m i:Nat} (hP:P<BB^i):lim (mixN P m i) i=lim m i:=by
 unfold mixN
 rw [lim_hi hP (Nat.le_refl _),Nat.sub_self]
 unfold lim;simp
theorem mix_upd {P m i d:Nat} (hP:P<BB^i) (hd:d<BB):upd (mixN P m i) i d=mixN (P+d*BB^i) m (i+1):=by
 unfold upd mixN
 have h1:(P+m / BB^i*BB^i)%BB^i=P:=by rw [Nat.add_mul_mod_self_right,Nat.mod_eq_of_lt hP]
 have h2:(P+m / BB^i*BB^i) / BB^(i+1)=m / BB^(i+1):=by
  rw [Nat.pow_succ,←Nat.div_div_eq_div_mul,Nat.add_mul_div_right _ _ (BP i),Nat.div_eq_of_lt hP,Nat.zero_add,Nat.div_div_eq_div_mul]
 rw [h1,h2]
theorem mix_zero (m:Nat):mixN 0 m 0=m:=by simp [mixN]
theorem mix_end {P m n:Nat} (hm:m<BB^n):mixN P m n=P:=by unfold mixN;rw [Nat.div_eq_of_lt hm];simp
theorem dbl_num {x c:Nat} (hx:x<BB) (hc:c≤1):∃ d c':Nat,d<BB∧c'≤1∧d+c'*BB=2*x+c∧bits BinOp.or IntKind.u32 ((x:Int)*2%4294967296) (c:Int)=(d:Int)∧(x:Int) / 2147483648=(c':Int):=by
 have ho:2*x%BB ||| c=2*x%BB+c:=or_low (i:=1) (by simpa using (show c<2 by omega)) (by unfold BB;omega)
 refine ⟨2*x%BB+c,x / 2147483648,?_,?_,?_,?_,by omega⟩
 ·unfold BB at *;omega
 ·unfold BB at *;omega
 ·unfold BB at *;omega
 ·have e:(x:Int)*2%4294967296=((2*x%BB:Nat):Int):=by unfold BB;omega
  rw [e,u32_or_nat _ _ (by unfold BB;omega) (by omega),ho]
theorem double_is (m bit v c2:Nat) (w:World) (hm:m<BB^32) (hbit:bit≤1) (hv:v<BB^32) (hd:2*m+bit=v+c2*BB^32) :
  Calls Tryz.prog 158 #[mV m,.int .u32 bit] w fun e w'=>e=.returned (.tuple #[mV v,.bool (decide (c2=1))])∧Below w.heap.size w w':=by
 obtain ⟨w0,hw0,hb0,hs0,hA⟩:=box_one1 w m 23
 obtain ⟨w1,hw1⟩:∃ w1,w1=w0.alloc (.cells (lv 32 0).toArray 23):=⟨_,rfl⟩
 have hb1:Below w0.heap.size w0 w1:=by rw [hw1];exact (Below.refl _ _).alloc (Nat.le_refl _) _
 have hR:qMO w1 (w.heap.size+1) 0 32 0:=by rw [hw1,←hs0];exact qMO.new w0 32 0 _
 have HA:=hid (hA.up hb1 (by omega))
 have HR:=hid hR
 have HW:=hid (hb0.trans (hb1.mono hb0.size))
 rw [hw0] at hw1
 have HV:=hid (And.intro hm (And.intro hv hd))
 rw [lv_zero] at hw1
 unfold mV
 obtain ⟨va,hva⟩:∃ va,va=(lv 32 m).toArray:=⟨_,rfl⟩
 obtain ⟨vv,hvv⟩:∃ vv,vv=(lv 32 v).toArray:=⟨_,rfl⟩
 have HVV:=hid hvv
 rw [←hva] at hw1 ⊢
 rw [←hvv]
 clear hm hv hd hb0 hs0 hA hva hw0 hb1 hR hvv
 go_enter Tryz.func158,Tryz.ntmps158
 go_wp2_with fail
 rw [←hw1]
 clear hw1
 obtain ⟨B0,hB0⟩:∃ B0,B0=w.heap.size:=⟨_,rfl⟩
 have HBE:=hid hB0
 rw [←hB0] at HA HR ⊢
 clear hB0
 go_loopg [1,6] 32 (fun g bw iv wr=>∃ (i P c:Nat),i≤32∧32 - i≤g∧c≤1∧P<BB^i∧P+c*BB^i=2*(m%BB^i)+bit∧bw=.int .u32 c∧iv=.int .i64 i∧qMO wr B0 0 32 (mixN P m i)∧qMO wr (B0+1) 0 32 0∧Below w.heap.size w wr)
 case atStart=>exact ⟨0,0,bit,by omega,by omega,hbit,BP 0,by simp [Nat.mod_one],rfl,rfl,by rw [mix_zero];exact HA.out,HR.out,HW.out⟩
 case round =>
  obtain ⟨i,P,c,hi,hg,hc,hP,he,rfl,rfl,hA,hR,hW⟩:=hrel
  have HE:=hid he
  have HP:=hid hP
  have HA1:=hid hA
  have HR1:=hid hR
  have HW1:=hid hW
  clear he hP hA hR hW
  by_cases hlt:i<32
  ·have ca:=HA1.out.1.get hlt
   have fa:=HA1.out.2 i hlt
   rw [Nat.zero_add] at ca fa
   rw [mix_lim HP.out] at ca
   obtain ⟨x,hx⟩:∃ x,x=lim m i:=⟨_,rfl⟩
   have hxl:x<BB:=hx ▸ lim_lt m i
   obtain ⟨d,c',hd,hc',hn,e1,e3⟩:=dbl_num hxl hc
   rw [←hx] at ca
   have HS:=hid (dbl_step HE.out (by rw [←hx];exact hn))
   have HPL:=hid (lt_succ HP.out hd)
   have HO2:=hid (HA1.out.set hlt hd)
   have HDD:=hid hd
   have E1:=hid e1
   have E3:=hid e3
   clear hx hd hn e1 e3 hxl
   go_wp2
   have e3:=E3.out
   have e1:=E1.out
   go_region
   have HU2:=hid (show qMO (wr.setCell ⟨B0,i,none⟩ (.int .u32 (d:Nat))) B0 0 32 (mixN (P+d*BB^i) m (i+1)) by
    have:=HO2.out;rwa [mix_upd HP.out HDD.out,Nat.zero_add] at this)
   have hR2:=HR1.out.setOther ⟨B0,i,none⟩ (.int .u32 (d:Nat)) (show B0≠B0+1 by omega)
   have hW2:=below_set1 HW1.out ⟨B0,i,none⟩ (.int .u32 (d:Nat)) (show w.heap.size≤B0 by rw [←HBE.out];omega)
   clear e1 e3
   go_wp2
   go_roundg (gk - 1)
   case measure=>omega
   case rel=>exact ⟨i+1,P+d*BB^i,c',by omega,by omega,hc',HPL.out,HS.out,rfl,by go_num,HU2.out,hR2,⟨hW2.os,hW2.tape,hW2.output,hW2.size,hW2.block⟩⟩
  ·have hi32:i=32:=by omega
   subst hi32
   have hPv:P=v∧c=c2:=by
    obtain ⟨h1,h2,h3⟩:=HV.out
    have h5:=HE.out
    rw [Nat.mod_eq_of_lt h1,h3] at h5
    exact sum_end h2 HP.out hc h5
   obtain ⟨hPv,hcc⟩:=hPv
   have hcb:((c:Int)==1)=decide (c2=1):=by rw [hcc,Bool.eq_iff_iff];simp only [beq_iff_eq,decide_eq_true_eq];omega
   subst hPv
   have HA2:=hid (show qMO wr B0 0 32 P by have:=HA1.out;rwa [mix_end HV.out.1] at this)
   obtain ⟨cs,hcs⟩:∃ cs,cs=lv 32 P:=⟨_,rfl⟩
   have HST:=hid (stored_mag (v:=P) HR1.out)
   have HBS:=hid (below_sets (show w.heap.size≤B0+1 by rw [←HBE.out];omega) (lv 32 P) 0 wr HW1.out)
   have HTH:=hid (show wr.there (B0+1) 0 (lv 32 P).toArray.size by rw [List.size_toArray,qlL];exact HR1.out.there)
   have HLD:=hid (show wr.rangeAt B0 0 (lv 32 P) from HA2.out.1)
   have HSZ:=hid (infoMlv P)
   have HSA:=hid (show (Tryz.prog.info? 23).map (·.size)=some (lv 32 P).toArray.size by rw [List.size_toArray];exact infoMlv P)
   have HONE:=hid (all_oneCell_toArray (lv_one 32 P))
   have HCS:=hid hcs
   have hvc:vv=cs.toArray:=by rw [HVV.out,hcs]
   rw [←hcs] at HBS HTH HLD HSZ HSA HONE
   have HVC:=hid hvc
   clear hcs hvc hcc
   go_wp2_with (first
    | (refine wpList_load_mid rfl _ _ rfl B0 0 rfl cs _ HLD.out Tryz.underlying23 rfl HSZ.out ?_)
    | (refine wpList_store_mid rfl _ _ _ rfl (B0+1) 0 _ rfl rfl HTH.out HSA.out HONE.out ?_))
   have hld:=run_loadVar_mid (P:=Tryz.prog) _ _ _ _ _ _ (show World.rangeAt (wr.setCells (B0+1) 0 cs) (B0+1) 0 cs by have:=HST.out;rw [←HCS.out] at this;unfold MagAt at this;rwa [←HCS.out] at this) Tryz.underlying23 rfl HSZ.out
   try simp only [Act.put,List.setIfInBounds_toArray,List.set_cons_zero,List.set_cons_succ]
   refine bodyPost_ret (v:=.tuple #[.agg cs.toArray,.bool (decide (c2=1))]) (by simp [results,Tryz.results158,asAddr,hld]) rfl ?_
   exact ⟨by rw [HVC.out],HBS.out⟩
end Go.Proofs.YtooeabibhjbkoaaGreat
