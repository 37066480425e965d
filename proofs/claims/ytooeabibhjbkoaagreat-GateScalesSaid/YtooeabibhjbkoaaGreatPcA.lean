import Derived.Test.YtooeabibhjbkoaaGreatBiM
set_option linter.unusedVariables false
set_option linter.unusedSimpArgs false
set_option maxRecDepth 100000
set_option maxHeartbeats 4000000
namespace Go.Proofs.YtooeabibhjbkoaaGreat
open Go.RowKit Big
open Lib (hid)
theorem qvF (n:Nat) (w:World) (hn:n≤18) :
  Calls Tryz.prog 145 #[.int .i64 (n:Int)] w fun e w'=>e=.returned (rV false (10^n) false 1)∧Below w.heap.size w w':=by
 obtain ⟨cr,V_cr⟩:∃ c:List Value,Hid (c=rat false (10^n) false 1):=⟨_,hid rfl⟩
 obtain ⟨cz,V_cz⟩:∃ c:List Value,Hid (c=rat false 0 false 0):=⟨_,hid rfl⟩
 rw [valR V_cr.out]
 have hpw:∀ i,i≤18→10^i≤1000000000000000000:=fun i hi=>Nat.le_trans (Nat.pow_le_pow_right (by omega) hi) (by decide)
 have HPW:=hid hpw
 have H1:=hid (show ∀ W,Calls Tryz.prog 44 #[.int .i64 ((10^n:Nat):Int)] W (fun e w'=>e=.returned (.agg cr.toArray)∧Below W.heap.size W w') from fun W=>by
  have hb:=hpw n hn
  have hv:=V_cr.out
  generalize 10^n=p at hb hv
  have:=qnZ (p:Int) false p W (by symm;exact decide_eq_false (by omega)) (by omega) (by omega) (by omega)
  rw [valR hv] at this;exact this)
 clear hpw
 obtain ⟨B0,hB0⟩:∃ B,B=w.heap.size:=⟨_,rfl⟩
 obtain ⟨w0,hw0⟩:∃ w0,w0=(w.alloc (.cells Tryz.zeroCells27 27)):=⟨_,rfl⟩
 have AB0:=hid (show At w0 B0 0 cz by rw [hw0];exact (show At (w.alloc (.cells Tryz.zeroCells27 27)) B0 0 cz from (by rw [Tryz.zeroR,V_cz.out];exact At.fresh _ (rat false 0 false 0) _ (by simp [hB0]))))
 have FR:=hid (show Fr B0 w w0 by rw [hw0,hB0];exact (Fr.start w).alloc _)
 have FR0:=hid FR.out.le
 have hZB0:B0≤B0:=Nat.le_refl _
 have HB0:=hid hB0
 go_enter Tryz.func145,Tryz.ntmps145
 go_upto_region 1 with fail
 rw [←hw0,←hB0]
 clear hw0 hB0
 go_wp2
 go_loopg [3,4] n (fun m pv iv wr=>∃ i:Nat,pv=.int .i64 ((10^i:Nat):Int)∧iv=.int .i64 (i:Int)∧i≤n∧n≤m+i∧wr=w0)
 case atStart=>exact ⟨0,rfl,rfl,by omega,by omega,rfl⟩
 case round =>
  obtain ⟨i,rfl,rfl,hi,hm,hwr⟩:=hrel
  subst hwr
  by_cases hin:i<n
  ·obtain ⟨p,hp⟩:∃ p,p=10^i:=⟨_,rfl⟩
   have hpb:p*10≤1000000000000000000:=by have:=HPW.out (i+1) (by omega);rw [Nat.pow_succ,←hp] at this;exact this
   have wq:IntKind.i64.wrap ((p:Int)*10)=(p:Int)*10:=IntWalk.i64_in _ (by omega)
   have HQ:=hid (show (p:Int)*10=((10^(i+1):Nat):Int) by rw [Nat.pow_succ,←hp];omega)
   rw [←hp]
   clear hp hpb
   go_wp2
   go_roundg (gk - 1)
   case measure=>omega
   case rel=>exact ⟨i+1,by rw [HQ.out],by go_num,by omega,by omega,rfl⟩
  ·have hin2:i=n:=by omega
   subst hin2
   go_upto_region 6 with fail
   refine qwf [⟨false,0,2,2,B0,0,27,13,cr,0,cr,[]⟩] [(12,.int .i64 ((10^i:Nat):Int)),(13,.agg cr.toArray)] _ (by simp only [zz4,zz5,zq];rfl) (by kernel_rfl) (by kernel_rfl) ?_ ?_ ?_ ?_ ?_ ?_ ?_
   ·intro W' hW'
    refine fxo ?_ ?_;(go_big_quiet_step (fail);(try simp only [zq]);exact wqn rfl)
    refine fxo ?_ ?_;(go_big_quiet_step ((go_at_call 44;exact qaA (H1.out _)));(try simp only [zq]);exact wqn rfl)
    refine fxs (by rfl) ?_
    exact fxn
   ·intro W' hK'
    first|(refine fxo ?_ ?_;(go_big_quiet_step (fail);(try simp only [zq]);exact wqn rfl))|(refine fxs (by kernel_rfl) ?_)
    iterate 2 (refine fxs (by kernel_rfl) ?_)
    exact fxn
   ·exact oP _ _ (bnc) (oN)
   ·exact oP _ _ (fun _=>⟨AB0.out.lt,rfl,At.room AB0.out (qR V_cz.out) (qR V_cr.out)⟩) (oN)
   ·exact uno
   ·exact oP _ _ (stw rfl (qR V_cr.out) (qhE V_cr.out) (fun _=>rfl)) (oN)
   intro β wx1 E
   replace FR:=hid (FR.out.flow E (oP _ _ (fun _=>(by show B0≤B0;omega)) (oN)))
   replace AB0:=hid (show At wx1 B0 0 cr from E.atOld mms rfl AB0.out.lt)
   simp only [nP,zr,zq]
   replace FR0:=hid FR.out.le
   clear E
   go_wp2_with fail
   have hld:=AB0.out.read (P:=Tryz.prog) Tryz.underlying27 rfl (qR V_cr.out)
   refine bodyPost_ret (v:=.agg cr.toArray) (by simp [results,Tryz.results145,asAddr,hld]) rfl ?_
   exact ⟨rfl,fend HB0 FR⟩
theorem qxX (na nb:Bool) (a b:Nat) (z:Int) (w:World) (ha:a<BB^32) (hb:b<BB^32) (hz:z=cmpZ (zI na a) (zI nb b)) :
  Calls Tryz.prog 112 #[iV na a,iV nb b] w fun e w'=>e=.returned (.int .i64 z)∧Below w.heap.size w w':=by
 obtain ⟨ca,V_ca⟩:∃ c:List Value,Hid (c=.bool na::lv 32 a):=⟨_,hid rfl⟩
 obtain ⟨cb,V_cb⟩:∃ c:List Value,Hid (c=.bool nb::lv 32 b):=⟨_,hid rfl⟩
 obtain ⟨ma,V_ma⟩:∃ c:List Value,Hid (c=lv 32 a):=⟨_,hid rfl⟩
 obtain ⟨mb,V_mb⟩:∃ c:List Value,Hid (c=lv 32 b):=⟨_,hid rfl⟩
 rw [qxC V_ca.out,qxC V_cb.out]
 obtain ⟨s,hs⟩:∃ s,s=sgnI na a:=⟨_,rfl⟩
 obtain ⟨t,ht⟩:∃ t,t=sgnI nb b:=⟨_,rfl⟩
 obtain ⟨x,hx⟩:∃ x,x=cmpI a b:=⟨_,rfl⟩
 have hsb:(s=-1∨s=0∨s=1)∧(t=-1∨t=0∨t=1)∧(x=-1∨x=0∨x=1):=⟨by rw [hs];exact qfR _ _,by rw [ht];exact qfR _ _,by rw [hx];exact qmL _ _⟩
 have HZ:=hid (show (s<t→z=-1)∧(t<s→z=1)∧(s=t→z=s*x) by rw [hz,hs,ht,hx];exact qmM na nb a b)
 have HS:=hid (qbR V_ca.out hs ha)
 have HT:=hid (qbR V_cb.out ht hb)
 have HX:=hid (qgT V_ma.out V_mb.out hx ha hb)
 clear hs ht hx ha hb hz
 obtain ⟨B0,hB0⟩:∃ B,B=w.heap.size:=⟨_,rfl⟩
 obtain ⟨B1,hB1⟩:∃ B,B=w.heap.size+1:=⟨_,rfl⟩
 obtain ⟨w0,hw0⟩:∃ w0,w0=((w.alloc (.cells ca.toArray 25)).alloc (.cells cb.toArray 25)):=⟨_,rfl⟩
 have AB0:=hid (show At w0 B0 0 ca by rw [hw0];exact ((show At (w.alloc (.cells ca.toArray 25)) B0 0 ca from At.fresh _ ca _ (by simp [hB0])).alloc _))
 have AB1:=hid (show At w0 B1 0 cb by rw [hw0];exact (show At ((w.alloc (.cells ca.toArray 25)).alloc (.cells cb.toArray 25)) B1 0 cb from At.fresh _ cb _ (by simp [hB1])))
 have FR:=hid (show Fr B0 w w0 by rw [hw0,hB0];exact ((Fr.start w).alloc _).alloc _)
 have FR0:=hid FR.out.le
 have l01:B0<B1:=by omega
 have hZB1:B0≤B1:=by omega
 have hZB0:B0≤B0:=Nat.le_refl _
 have HB0:=hid hB0
 go_enter Tryz.func112,Tryz.ntmps112
 go_upto_region 1 with fail
 rw [←hw0,←hB1,←hB0]
 clear hw0 hB0 hB1
 refine wfn [] [(7,.agg ca.toArray),(8,.int .i64 s),(9,.agg cb.toArray),(10,.int .i64 t),(5,.int .i64 s),(6,.int .i64 t)] _ (by simp only [zz4,zz5,zq];rfl) (by kernel_rfl) (by kernel_rfl) rfl ?_ ?_ ?_ ?_
 ·intro W' hW'
  have rd0:=AB0.out.below hW'
  have rd1:=AB1.out.below hW'
  refine fxo (wlg (by rfl) rfl rfl rd0 Tryz.underlying25 rfl (qI V_ca.out) (wqn (by simp only [zq]))) ?_
  refine fxo ?_ ?_;(go_big_quiet_step ((go_at_call 110;exact qaA (HS.out _)));(try simp only [zq]);exact wqn rfl)
  refine fxo (wlg (by rfl) rfl rfl rd1 Tryz.underlying25 rfl (qI V_cb.out) (wqn (by simp only [zq]))) ?_
  refine fxo ?_ ?_;(go_big_quiet_step ((go_at_call 110;exact qaA (HT.out _)));(try simp only [zq]);exact wqn rfl)
  iterate 2 (refine fxo ?_ ?_;(go_big_quiet_step (fail);(try simp only [zq]);exact wqn rfl))
  exact fxn
 ·exact oN
 ·exact oN
 intro β wx1 E
 replace FR:=hid (FR.out.fnw E rfl)
 replace AB0:=hid (AB0.out.fnw E rfl)
 replace AB1:=hid (AB1.out.fnw E rfl)
 have hE:=E.below rfl
 simp only [nP,zr,zq]
 replace FR0:=hid FR.out.le
 clear E
 obtain ⟨hs,ht,hx⟩:=hsb
 by_cases c1:s<t
 ·have HE:=hid (HZ.out.1 c1)
  clear hs ht hx HS HT
  go_wp2
  go_ret
  exact ⟨qaT HE.out.symm,by rw [HB0.out] at FR;exact FR.out.below⟩
 ·by_cases c2:t<s
  ·have HE:=hid (HZ.out.2.1 c2)
   clear hs ht hx HS HT
   go_wp2
   go_ret
   exact ⟨qaT HE.out.symm,by rw [HB0.out] at FR;exact FR.out.below⟩
  ·have hst:s=t:=by omega
   have HE:=hid (HZ.out.2.2 hst)
   have wq:IntKind.i64.wrap (s*x)=s*x:=by rcases hs with rfl|rfl|rfl<;>rcases hx with rfl|rfl|rfl<;>exact IntWalk.i64_in _ (by omega)
   have AB0_1:=hid (AB0.out.mag V_ca.out V_ma.out)
   have AB1_1:=hid (AB1.out.mag V_cb.out V_mb.out)
   clear hs ht hx HS HT hst
   go_upto_region 6 with fail
   refine wfn [] [(19,.int .i64 s),(20,.pointer (some ⟨B0,1,none⟩)),(21,.agg ma.toArray),(22,.pointer (some ⟨B1,1,none⟩)),(23,.agg mb.toArray),(24,.int .i64 x),(25,.int .i64 (s*x)),(4,.int .i64 (s*x))] _ (by simp only [zz4,zz5,zq];rfl) (by kernel_rfl) (by kernel_rfl) rfl ?_ ?_ ?_ ?_
   ·intro W' hW'
    have rd0:=AB0_1.out.below hW'
    have rd1:=AB1_1.out.below hW'
    iterate 2 (refine fxo ?_ ?_;(go_big_quiet_step (fail);(try simp only [zq]);exact wqn rfl))
    refine fxo (wlg (by rfl) rfl rfl rd0 Tryz.underlying23 rfl (qaW V_ma.out) (wqn (by simp only [zq]))) ?_
    refine fxo ?_ ?_;(go_big_quiet_step (fail);(try simp only [zq]);exact wqn rfl)
    refine fxo (wlg (by rfl) rfl rfl rd1 Tryz.underlying23 rfl (qaW V_mb.out) (wqn (by simp only [zq]))) ?_
    refine fxo ?_ ?_;(go_big_quiet_step ((go_at_call 118;exact qaA (HX.out _)));(try simp only [zq]);exact wqn rfl)
    iterate 2 (refine fxo ?_ ?_;(go_big_quiet_step (fail);(try simp only [zq]);exact wqn rfl))
    exact fxn
   ·exact oN
   ·exact oN
   intro β wx2 E
   replace FR:=hid (FR.out.fnw E rfl)
   replace AB0:=hid (AB0.out.fnw E rfl)
   replace AB1:=hid (AB1.out.fnw E rfl)
   replace AB0_1:=hid (AB0_1.out.fnw E rfl)
   replace AB1_1:=hid (AB1_1.out.fnw E rfl)
   have hE:=E.below rfl
   simp only [nP,zr,zq]
   replace FR0:=hid FR.out.le
   clear E
   go_wp2
   go_ret
   exact ⟨qaT HE.out.symm,by rw [HB0.out] at FR;exact FR.out.below⟩
end Go.Proofs.YtooeabibhjbkoaaGreat
