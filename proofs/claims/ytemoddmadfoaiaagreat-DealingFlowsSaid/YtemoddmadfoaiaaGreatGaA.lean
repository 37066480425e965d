import Derived.Test.YtemoddmadfoaiaaGreatQrA
import Derived.Test.YtemoddmadfoaiaaGreatBkM
import Derived.Test.YtemoddmadfoaiaaGreatPcA
set_option linter.unusedVariables false
set_option linter.unusedSimpArgs false
set_option maxRecDepth 100000
set_option maxHeartbeats 8000000
namespace Go.Proofs.YtemoddmadfoaiaaGreat
open Go.RowKit Big
open Lib (hid)
theorem qoP {ca cb:List Value} {na nb:Bool} {a b:Nat} {z:Int} (hca:ca=.bool na::lv 32 a) (hcb:cb=.bool nb::lv 32 b) (hz:z=cmpZ (zI na a) (zI nb b)) (ha:a<BB^32) (hb:b<BB^32) (w:World) :
  Calls Tryz.prog 154 #[.agg ca.toArray,.agg cb.toArray] w fun e w'=>e=.returned (.int .i64 z)∧Below w.heap.size w w':=by
 have V_ca:=hid hca
 have V_cb:=hid hcb
 obtain ⟨ma,V_ma⟩:∃ c:List Value,Hid (c=lv 32 a):=⟨_,hid rfl⟩
 obtain ⟨mb,V_mb⟩:∃ c:List Value,Hid (c=lv 32 b):=⟨_,hid rfl⟩
 obtain ⟨s,hs⟩:∃ s,s=sgnI na a:=⟨_,rfl⟩
 obtain ⟨t,ht⟩:∃ t,t=sgnI nb b:=⟨_,rfl⟩
 obtain ⟨x,hx⟩:∃ x,x=cmpI a b:=⟨_,rfl⟩
 obtain ⟨n1,hn1⟩:∃ n,n=cs1 na a:=⟨_,rfl⟩
 obtain ⟨n2,hn2⟩:∃ n,n=cs1 nb b:=⟨_,rfl⟩
 have hsb:(s=-1∨s=0∨s=1)∧(t=-1∨t=0∨t=1)∧(x=-1∨x=0∨x=1):=⟨by rw [hs];exact qmO _ _,by rw [ht];exact qmO _ _,by rw [hx];exact qvM _ _⟩
 have HZ:=hid (show (s<t→z=-1)∧(t<s→z=1)∧(s=t→z=s*x) by rw [hz,hs,ht,hx];exact qvN na nb a b)
 have HS:=hid (qdT V_ca.out hs ha)
 have HT:=hid (qdT V_cb.out ht hb)
 have HPA:=hid (qbK V_ca.out V_ma.out hn1 ha)
 have HPB:=hid (qbK V_cb.out V_mb.out hn2 hb)
 have HX:=hid (And.intro hx (And.intro ha hb))
 clear hs ht hx ha hb hz hca hcb hn1 hn2
 obtain ⟨B0,hB0⟩:∃ B,B=w.heap.size:=⟨_,rfl⟩
 obtain ⟨B1,hB1⟩:∃ B,B=w.heap.size+1:=⟨_,rfl⟩
 obtain ⟨w0,hw0⟩:∃ w0,w0=((w.alloc (.cells ca.toArray 25)).alloc (.cells cb.toArray 25)):=⟨_,rfl⟩
 have AB0:=hid (show At w0 B0 0 ca by rw [hw0];exact ((show At (w.alloc (.cells ca.toArray 25)) B0 0 ca from At.fresh _ ca _ (by simp [hB0])).alloc _))
 have AB1:=hid (show At w0 B1 0 cb by rw [hw0];exact (show At ((w.alloc (.cells ca.toArray 25)).alloc (.cells cb.toArray 25)) B1 0 cb from At.fresh _ cb _ (by simp [hB1])))
 have FR:=hid (show Fr B0 w w0 by rw [hw0,hB0];exact ((Fr.start w).alloc _).alloc _)
 have FR0:=hid FR.out.le
 have l01:B0<B1:=by omega
 have hZB1:B0≤B1:=by omega
 have hZB0:B0≤B0:=Nat.le_refl _
 have HB0:=hid hB0
 go_enter Tryz.func154,Tryz.ntmps154
 go_upto_region 1 with fail
 rw [←hw0,←hB1,←hB0]
 clear hw0 hB0 hB1
 refine wfn [] [(11,.agg ca.toArray),(12,.int .i64 s),(13,.agg cb.toArray),(14,.int .i64 t),(5,.int .i64 s),(6,.int .i64 t)] _ (by simp only [zz4,zz5,zq];rfl) (by kernel_rfl) (by kernel_rfl) rfl ?_ ?_ ?_ ?_
 ·intro W' hW'
  have rd0:=AB0.out.below hW'
  have rd1:=AB1.out.below hW'
  refine fxo (wlg (by rfl) rfl rfl rd0 Tryz.underlying25 rfl (qI V_ca.out) (wqn (by simp only [zq]))) ?_
  refine fxo ?_ ?_;(go_big_quiet_step ((go_at_call 107;exact qaA (HS.out _)));(try simp only [zq]);exact wqn rfl)
  refine fxo (wlg (by rfl) rfl rfl rd1 Tryz.underlying25 rfl (qI V_cb.out) (wqn (by simp only [zq]))) ?_
  refine fxo ?_ ?_;(go_big_quiet_step ((go_at_call 107;exact qaA (HT.out _)));(try simp only [zq]);exact wqn rfl)
  iterate 2 (refine fxo ?_ ?_;(go_big_quiet_step (fail);(try simp only [zq]);exact wqn rfl))
  exact fxn
 ·exact oN
 ·exact oN
 intro β wx1 E
 replace FR:=hid (FR.out.fnw E rfl)
 replace AB0:=hid (AB0.out.fnw E rfl)
 replace AB1:=hid (AB1.out.fnw E rfl)
 have hE:=E.below rfl
 simp only [nP,zr,zq]
 replace FR0:=hid FR.out.le
 clear E
 obtain ⟨hs,ht,hx⟩:=hsb
 by_cases c1:s<t
 ·have HE:=hid (HZ.out.1 c1)
  have ne:s≠t:=by omega
  clear hs ht hx HS HT
  go_wp2
  go_ret
  exact ⟨qaG HE.out.symm,by rw [HB0.out] at FR;exact FR.out.below⟩
 ·by_cases c2:t<s
  ·have HE:=hid (HZ.out.2.1 c2)
   have ne:s≠t:=by omega
   clear hs ht hx HS HT
   go_wp2
   go_ret
   exact ⟨qaG HE.out.symm,by rw [HB0.out] at FR;exact FR.out.below⟩
  ·have hst:t=s:=by omega
   have HE:=hid (HZ.out.2.2 hst.symm)
   have wq:IntKind.i64.wrap (s*x)=s*x:=by rcases hs with rfl|rfl|rfl<;>rcases hx with rfl|rfl|rfl<;>exact IntWalk.i64_in _ (by omega)
   clear hs ht hx HS HT c1 c2
   subst hst
   go_upto_region 6 with fail
   refine wfn [⟨true,5,8,7,0,0,140,25,ma,0,ma,[]⟩] [(22,.agg ca.toArray),(23,.tuple #[.bool n1,.agg ma.toArray]),(21,.tuple #[.bool n1,.agg ma.toArray]),(24,.bool n1),(25,.agg ma.toArray),(7,.bool n1)] _ (by simp only [zz4,zz5,zq];rfl) (by kernel_rfl) (by kernel_rfl) rfl ?_ ?_ ?_ ?_
   ·intro W' hW'
    have rd0:=AB0.out.below hW'
    refine fxo (wlg (by rfl) rfl rfl rd0 Tryz.underlying25 rfl (qI V_ca.out) (wqn (by simp only [zq]))) ?_
    refine fxo ?_ ?_;(go_big_quiet_step ((go_at_call 144;exact qaA (HPA.out _)));(try simp only [zq]);exact wqn rfl)
    iterate 3 (refine fxo ?_ ?_;(go_big_quiet_step (fail);(try simp only [zq]);exact wqn rfl))
    refine fxs (by rfl) ?_
    refine fxo ?_ ?_;(go_big_quiet_step (fail);(try simp only [zq]);exact wqn rfl)
    refine fxs (by rfl) ?_
    exact fxn
   ·exact oP _ _ (Tryz.alG (qG V_ma.out)) (oN)
   ·exact oP _ _ (stw rfl (qG V_ma.out) (qdK V_ma.out) (fun _=>rfl)) (oN)
   intro β wx2 E
   replace FR:=hid (FR.out.fnw E rfl)
   obtain ⟨b8,hb8⟩:∃ b,b=β 5:=⟨_,rfl⟩
   have eb8:=E.atNew mms rfl
   simp only at eb8
   rw [←hb8] at eb8
   have lB0_b8:B0<b8:=by have h1:=eb8.1;have h2:=AB0.out.lt;omega
   have lB1_b8:B1<b8:=by have h1:=eb8.1;have h2:=AB1.out.lt;omega
   have hZb8:B0≤b8:=by have h1:=eb8.1;have h2:=FR0.out;omega
   replace AB0:=hid (AB0.out.fnw E rfl)
   replace AB1:=hid (AB1.out.fnw E rfl)
   have Ab8:=hid eb8.2
   simp only [nP,zr,zq]
   rw [←hb8]
   replace FR0:=hid FR.out.le
   clear E eb8 hb8
   go_upto_region 7 with fail
   refine wfn [⟨true,5,10,7,0,0,140,30,mb,0,mb,[]⟩] [(27,.agg cb.toArray),(28,.tuple #[.bool n2,.agg mb.toArray]),(26,.tuple #[.bool n2,.agg mb.toArray]),(29,.bool n2),(30,.agg mb.toArray),(9,.bool n2)] _ (by simp only [zz4,zz5,zq];rfl) (by kernel_rfl) (by kernel_rfl) rfl ?_ ?_ ?_ ?_
   ·intro W' hW'
    have rd0:=AB1.out.below hW'
    refine fxo (wlg (by rfl) rfl rfl rd0 Tryz.underlying25 rfl (qI V_cb.out) (wqn (by simp only [zq]))) ?_
    refine fxo ?_ ?_;(go_big_quiet_step ((go_at_call 144;exact qaA (HPB.out _)));(try simp only [zq]);exact wqn rfl)
    iterate 3 (refine fxo ?_ ?_;(go_big_quiet_step (fail);(try simp only [zq]);exact wqn rfl))
    refine fxs (by rfl) ?_
    refine fxo ?_ ?_;(go_big_quiet_step (fail);(try simp only [zq]);exact wqn rfl)
    refine fxs (by rfl) ?_
    exact fxn
   ·exact oP _ _ (Tryz.alG (qG V_mb.out)) (oN)
   ·exact oP _ _ (stw rfl (qG V_mb.out) (qdK V_mb.out) (fun _=>rfl)) (oN)
   intro β wx3 E
   replace FR:=hid (FR.out.fnw E rfl)
   obtain ⟨b10,hb10⟩:∃ b,b=β 5:=⟨_,rfl⟩
   have eb10:=E.atNew mms rfl
   simp only at eb10
   rw [←hb10] at eb10
   have lB0_b10:B0<b10:=by have h1:=eb10.1;have h2:=AB0.out.lt;omega
   have lB1_b10:B1<b10:=by have h1:=eb10.1;have h2:=AB1.out.lt;omega
   have lb8_b10:b8<b10:=by have h1:=eb10.1;have h2:=Ab8.out.lt;omega
   have hZb10:B0≤b10:=by have h1:=eb10.1;have h2:=FR0.out;omega
   replace AB0:=hid (AB0.out.fnw E rfl)
   replace AB1:=hid (AB1.out.fnw E rfl)
   replace Ab8:=hid (Ab8.out.fnw E rfl)
   have Ab10:=hid eb10.2
   simp only [nP,zr,zq]
   rw [←hb10]
   replace FR0:=hid FR.out.le
   clear E eb10 hb10
   have HC:=hid (qkP a b b8 0 b10 0 wx3 (by have:=Ab8.out;rwa [V_ma.out] at this) (by have:=Ab10.out;rwa [V_mb.out] at this) HX.out.2.1 HX.out.2.2)
   rw [←HX.out.1] at HC
   go_wp2_with (go_at_call 165;refine HC.out.mono ?_;rintro e w' ⟨rfl,hbc⟩)
   go_ret
   exact ⟨qaG HE.out.symm,by rw [HB0.out] at FR;exact (FR.out.below.trans (hbc.mono FR.out.below.size))⟩
theorem jbT {ca cb cN cD:List Value} {na nb n:Bool} {pa qa pb qb v d:Nat} (h1:ca=rat na pa false qa) (h2:cb=rat nb pb false qb) (hN:cN=.bool n::lv 32 v) (hD:cD=.bool false::lv 32 d)
  (hv:v=pa*pb) (hd:d=qa*qb) (hn:n=cs1 (na != nb) v) (b1:pa<B480) (b2:qa<B480) (b3:pb<B480) (b4:qb<B480) (w:World) :
  Calls Tryz.prog 78 #[.agg ca.toArray,.agg cb.toArray] w fun e w'=>e=.returned (.tuple #[.agg cN.toArray,.agg cD.toArray])∧Below w.heap.size w w':=by
 have V_ca:=hid h1
 have V_cb:=hid h2
 have V_cN:=hid hN
 have V_cD:=hid hD
 have u30:BB^30≤BB^32:=Nat.pow_le_pow_right qaY (by omega)
 have hvB:v<BB^30:=by rw [hv];exact qdX b1 b3
 have hdB:d<BB^30:=by rw [hd];exact qdX b2 b4
 obtain ⟨cna,V_cna⟩:∃ c:List Value,Hid (c=.bool na::lv 32 pa):=⟨_,hid rfl⟩
 obtain ⟨cda,V_cda⟩:∃ c:List Value,Hid (c=.bool false::lv 32 qa):=⟨_,hid rfl⟩
 obtain ⟨cnb,V_cnb⟩:∃ c:List Value,Hid (c=.bool nb::lv 32 pb):=⟨_,hid rfl⟩
 obtain ⟨cdb,V_cdb⟩:∃ c:List Value,Hid (c=.bool false::lv 32 qb):=⟨_,hid rfl⟩
 obtain ⟨cz,V_cz⟩:∃ c:List Value,Hid (c=.bool false::lv 32 0):=⟨_,hid rfl⟩
 have HPN:=hid (qgG V_cna.out V_cnb.out V_cN.out hv hn (qaX b1) (qaX b3) (by omega))
 have HPD:=hid (qgG V_cda.out V_cdb.out V_cD.out hd rfl (qaX b2) (qaX b4) (by omega))
 clear h1 h2 hN hD hv hd hn b1 b2 b3 b4 u30 hvB hdB
 obtain ⟨B0,hB0⟩:∃ B,B=w.heap.size:=⟨_,rfl⟩
 obtain ⟨B1,hB1⟩:∃ B,B=w.heap.size+1:=⟨_,rfl⟩
 obtain ⟨B2,hB2⟩:∃ B,B=w.heap.size+1+1:=⟨_,rfl⟩
 obtain ⟨B3,hB3⟩:∃ B,B=w.heap.size+1+1+1:=⟨_,rfl⟩
 obtain ⟨w0,hw0⟩:∃ w0,w0=((((w.alloc (.cells ca.toArray 27)).alloc (.cells cb.toArray 27)).alloc (.cells zero33 25)).alloc (.cells zero33 25)):=⟨_,rfl⟩
 have AB0:=hid (show At w0 B0 0 ca by rw [hw0];exact ((((show At (w.alloc (.cells ca.toArray 27)) B0 0 ca from At.fresh _ ca _ (by simp [hB0])).alloc _).alloc _).alloc _))
 have AB1:=hid (show At w0 B1 0 cb by rw [hw0];exact (((show At ((w.alloc (.cells ca.toArray 27)).alloc (.cells cb.toArray 27)) B1 0 cb from At.fresh _ cb _ (by simp [hB1])).alloc _).alloc _))
 have AB2:=hid (show At w0 B2 0 cz by rw [hw0];exact ((show At (((w.alloc (.cells ca.toArray 27)).alloc (.cells cb.toArray 27)).alloc (.cells zero33 25)) B2 0 cz from (by rw [V_cz.out];exact At.zero _ _ (by simp [hB2]))).alloc _))
 have AB3:=hid (show At w0 B3 0 cz by rw [hw0];exact (show At ((((w.alloc (.cells ca.toArray 27)).alloc (.cells cb.toArray 27)).alloc (.cells zero33 25)).alloc (.cells zero33 25)) B3 0 cz from (by rw [V_cz.out];exact At.zero _ _ (by simp [hB3]))))
 have FR:=hid (show Fr B0 w w0 by rw [hw0,hB0];exact ((((Fr.start w).alloc _).alloc _).alloc _).alloc _)
 have FR0:=hid FR.out.le
 have l01:B0<B1:=by omega
 have hZB1:B0≤B1:=by omega
 have l12:B1<B2:=by omega
 have hZB2:B0≤B2:=by omega
 have l23:B2<B3:=by omega
 have hZB3:B0≤B3:=by omega
 have hZB0:B0≤B0:=Nat.le_refl _
 unfold zero33 at hw0
 have HB0:=hid hB0
 go_enter Tryz.func78,Tryz.ntmps78
 go_upto_region 1 with fail
 rw [←hw0,←hB3,←hB2,←hB1,←hB0]
 clear hw0 hB0 hB1 hB2 hB3
 have AB0_n:=hid (AB0.out.num V_ca.out V_cna.out)
 have AB0_d:=hid (AB0.out.den V_ca.out V_cda.out)
 have AB1_n:=hid (AB1.out.num V_cb.out V_cnb.out)
 have AB1_d:=hid (AB1.out.den V_cb.out V_cdb.out)
 refine qwf [⟨false,0,4,10,B2,0,25,10,cN,0,cN,[]⟩,⟨false,0,5,11,B3,0,25,15,cD,0,cD,[]⟩] [(6,.pointer (some ⟨B0,0,none⟩)),(7,.agg cna.toArray),(8,.pointer (some ⟨B1,0,none⟩)),(9,.agg cnb.toArray),(10,.agg cN.toArray),(11,.pointer (some ⟨B0,33,none⟩)),(12,.agg cda.toArray),(13,.pointer (some ⟨B1,33,none⟩)),(14,.agg cdb.toArray),(15,.agg cD.toArray)] _ (by simp only [zz4,zz5,zq];rfl) (by kernel_rfl) (by kernel_rfl) ?_ ?_ ?_ ?_ ?_ ?_ ?_
 ·intro W' hW'
  have rd0:=AB0_n.out.below hW'
  have rd1:=AB1_n.out.below hW'
  have rd2:=AB0_d.out.below hW'
  have rd3:=AB1_d.out.below hW'
  refine fxo ?_ ?_;(go_big_quiet_step (fail);(try simp only [zq]);exact wqn rfl)
  refine fxo (wlg (by rfl) rfl rfl rd0 Tryz.underlying25 rfl (qI V_cna.out) (wqn (by simp only [zq]))) ?_
  refine fxo ?_ ?_;(go_big_quiet_step (fail);(try simp only [zq]);exact wqn rfl)
  refine fxo (wlg (by rfl) rfl rfl rd1 Tryz.underlying25 rfl (qI V_cnb.out) (wqn (by simp only [zq]))) ?_
  refine fxo ?_ ?_;(go_big_quiet_step ((go_at_call 79;exact qaA (HPN.out _)));(try simp only [zq]);exact wqn rfl)
  refine fxo ?_ ?_;(go_big_quiet_step (fail);(try simp only [zq]);exact wqn rfl)
  refine fxo (wlg (by rfl) rfl rfl rd2 Tryz.underlying25 rfl (qI V_cda.out) (wqn (by simp only [zq]))) ?_
  refine fxo ?_ ?_;(go_big_quiet_step (fail);(try simp only [zq]);exact wqn rfl)
  refine fxo (wlg (by rfl) rfl rfl rd3 Tryz.underlying25 rfl (qI V_cdb.out) (wqn (by simp only [zq]))) ?_
  refine fxo ?_ ?_;(go_big_quiet_step ((go_at_call 79;exact qaA (HPD.out _)));(try simp only [zq]);exact wqn rfl)
  iterate 2 (refine fxs (by rfl) ?_)
  exact fxn
 ·intro W' hK'
  have rd0:=At.keep hK' AB0_n.out (oP _ _ (fun _=>(by show B2≠B0;omega)) (oP _ _ (fun _=>(by show B3≠B0;omega)) (oN)))
  have rd1:=At.keep hK' AB1_n.out (oP _ _ (fun _=>(by show B2≠B1;omega)) (oP _ _ (fun _=>(by show B3≠B1;omega)) (oN)))
  have rd2:=At.keep hK' AB0_d.out (oP _ _ (fun _=>(by show B2≠B0;omega)) (oP _ _ (fun _=>(by show B3≠B0;omega)) (oN)))
  have rd3:=At.keep hK' AB1_d.out (oP _ _ (fun _=>(by show B2≠B1;omega)) (oP _ _ (fun _=>(by show B3≠B1;omega)) (oN)))
  first|(refine fxo ?_ ?_;(go_big_quiet_step (fail);(try simp only [zq]);exact wqn rfl))|(refine fxs (by kernel_rfl) ?_)
  refine fxo (wlg (by rfl) rfl rfl rd0 Tryz.underlying25 rfl (qI V_cna.out) (wqn (by simp only [zq]))) ?_
  first|(refine fxo ?_ ?_;(go_big_quiet_step (fail);(try simp only [zq]);exact wqn rfl))|(refine fxs (by kernel_rfl) ?_)
  refine fxo (wlg (by rfl) rfl rfl rd1 Tryz.underlying25 rfl (qI V_cnb.out) (wqn (by simp only [zq]))) ?_
  refine fxs (by kernel_rfl) ?_
  first|(refine fxo ?_ ?_;(go_big_quiet_step (fail);(try simp only [zq]);exact wqn rfl))|(refine fxs (by kernel_rfl) ?_)
  refine fxo (wlg (by rfl) rfl rfl rd2 Tryz.underlying25 rfl (qI V_cda.out) (wqn (by simp only [zq]))) ?_
  first|(refine fxo ?_ ?_;(go_big_quiet_step (fail);(try simp only [zq]);exact wqn rfl))|(refine fxs (by kernel_rfl) ?_)
  refine fxo (wlg (by rfl) rfl rfl rd3 Tryz.underlying25 rfl (qI V_cdb.out) (wqn (by simp only [zq]))) ?_
  iterate 3 (refine fxs (by kernel_rfl) ?_)
  exact fxn
 ·exact oP _ _ (bnc) (oP _ _ (bnc) (oN))
 ·exact oP _ _ (fun _=>⟨AB2.out.lt,rfl,At.room AB2.out (qI V_cz.out) (qI V_cN.out)⟩) (oP _ _ (fun _=>⟨AB3.out.lt,rfl,At.room AB3.out (qI V_cz.out) (qI V_cD.out)⟩) (oN))
 ·intro q hq r hr hqn hrn e
  simp only [List.mem_cons,List.not_mem_nil,or_false] at hq hr
  rcases hq with rfl|rfl<;>rcases hr with rfl|rfl<;>first|rfl|(exact Bool.noConfusion hqn)|(exact Bool.noConfusion hrn)|(exfalso;simp only at e;omega)
 ·exact oP _ _ (stw rfl (qI V_cN.out) (qbZ V_cN.out) (fun _=>rfl)) (oP _ _ (stw rfl (qI V_cD.out) (qbZ V_cD.out) (fun _=>rfl)) (oN))
 intro β wx1 E
 replace FR:=hid (FR.out.flow E (oP _ _ (fun _=>(by show B0≤B2;omega)) (oP _ _ (fun _=>(by show B0≤B3;omega)) (oN))))
 replace AB0:=hid (At.flow E AB0.out (oP _ _ (fun _=>(by show B2≠B0;omega)) (oP _ _ (fun _=>(by show B3≠B0;omega)) (oN))))
 replace AB1:=hid (At.flow E AB1.out (oP _ _ (fun _=>(by show B2≠B1;omega)) (oP _ _ (fun _=>(by show B3≠B1;omega)) (oN))))
 replace AB2:=hid (show At wx1 B2 0 cN from E.atOld mms rfl AB2.out.lt)
 replace AB3:=hid (show At wx1 B3 0 cD from E.atOld (List.mem_cons_of_mem _ mms) rfl AB3.out.lt)
 replace AB0_n:=hid (At.flow E AB0_n.out (oP _ _ (fun _=>(by show B2≠B0;omega)) (oP _ _ (fun _=>(by show B3≠B0;omega)) (oN))))
 replace AB0_d:=hid (At.flow E AB0_d.out (oP _ _ (fun _=>(by show B2≠B0;omega)) (oP _ _ (fun _=>(by show B3≠B0;omega)) (oN))))
 replace AB1_n:=hid (At.flow E AB1_n.out (oP _ _ (fun _=>(by show B2≠B1;omega)) (oP _ _ (fun _=>(by show B3≠B1;omega)) (oN))))
 replace AB1_d:=hid (At.flow E AB1_d.out (oP _ _ (fun _=>(by show B2≠B1;omega)) (oP _ _ (fun _=>(by show B3≠B1;omega)) (oN))))
 simp only [nP,zr,zq]
 replace FR0:=hid FR.out.le
 clear E
 go_wp2_with fail
 have hld0:=AB2.out.read (P:=Tryz.prog) Tryz.underlying25 rfl (qI V_cN.out)
 have hld1:=AB3.out.read (P:=Tryz.prog) Tryz.underlying25 rfl (qI V_cD.out)
 refine bodyPost_ret (v:=.tuple #[.agg cN.toArray,.agg cD.toArray]) (by simp [results,Tryz.results78,asAddr,hld0,hld1]) rfl ?_
 exact ⟨rfl,fend HB0 FR⟩
theorem qzI {ca cb cN cD cR:List Value} {na nb:Bool} {pa qa pb qb:Nat} {code:Int} (w:World) (h1:ca=rat na pa false qa) (h2:cb=rat nb pb false qb)
  (ha:∀ W,Calls Tryz.prog 106 #[.agg ca.toArray] W fun e w'=>e=.returned (.bool true)∧Below W.heap.size W w') (hb:∀ W,Calls Tryz.prog 106 #[.agg cb.toArray] W fun e w'=>e=.returned (.bool true)∧Below W.heap.size W w')
  (hC:∀ W,Calls Tryz.prog 78 #[.agg ca.toArray,.agg cb.toArray] W fun e w'=>e=.returned (.tuple #[.agg cN.toArray,.agg cD.toArray])∧Below W.heap.size W w')
  (hMk:∀ W,Calls Tryz.prog 75 #[.agg cN.toArray,.agg cD.toArray] W fun e w'=>e=.returned (.tuple #[.agg cR.toArray,.int .i64 code])∧Below W.heap.size W w') {rn:Bool} {rp rq:Nat} {rm:Bool} (hcR:cR=rat rn rp rm rq) :
  Calls Tryz.prog 77 #[.agg ca.toArray,.agg cb.toArray,.func (.func 78) #[] #[]] w fun e w'=>e=.returned (.tuple #[.agg cR.toArray,.int .i64 code])∧Below w.heap.size w w':=by
 have V_ca:=hid h1
 have V_cb:=hid h2
 have V_cR:=hid hcR
 obtain ⟨cz,V_cz⟩:∃ c:List Value,Hid (c=rat false 0 false 0):=⟨_,hid rfl⟩
 have HA:=hid ha
 have HB:=hid hb
 have HC:=hid hC
 have HK:=hid hMk
 clear h1 h2 ha hb hC hMk hcR
 obtain ⟨B0,hB0⟩:∃ B,B=w.heap.size:=⟨_,rfl⟩
 obtain ⟨B1,hB1⟩:∃ B,B=w.heap.size+1:=⟨_,rfl⟩
 obtain ⟨B2,hB2⟩:∃ B,B=w.heap.size+1+1:=⟨_,rfl⟩
 obtain ⟨w0,hw0⟩:∃ w0,w0=(((w.alloc (.cells ca.toArray 27)).alloc (.cells cb.toArray 27)).alloc (.cells Tryz.zeroCells27 27)):=⟨_,rfl⟩
 have AB0:=hid (show At w0 B0 0 ca by rw [hw0];exact (((show At (w.alloc (.cells ca.toArray 27)) B0 0 ca from At.fresh _ ca _ (by simp [hB0])).alloc _).alloc _))
 have AB1:=hid (show At w0 B1 0 cb by rw [hw0];exact ((show At ((w.alloc (.cells ca.toArray 27)).alloc (.cells cb.toArray 27)) B1 0 cb from At.fresh _ cb _ (by simp [hB1])).alloc _))
 have AB2:=hid (show At w0 B2 0 cz by rw [hw0];exact (show At (((w.alloc (.cells ca.toArray 27)).alloc (.cells cb.toArray 27)).alloc (.cells Tryz.zeroCells27 27)) B2 0 cz from (by rw [Tryz.zeroR,V_cz.out];exact At.fresh _ (rat false 0 false 0) _ (by simp [hB2]))))
 have FR:=hid (show Fr B0 w w0 by rw [hw0,hB0];exact (((Fr.start w).alloc _).alloc _).alloc _)
 have FR0:=hid FR.out.le
 have l01:B0<B1:=by omega
 have hZB1:B0≤B1:=by omega
 have l12:B1<B2:=by omega
 have hZB2:B0≤B2:=by omega
 have hZB0:B0≤B0:=Nat.le_refl _
 have HB0:=hid hB0
 go_enter Tryz.func77,Tryz.ntmps77
 go_upto_region 1 with fail
 rw [←hw0,←hB2,←hB1,←hB0]
 clear hw0 hB0 hB1 hB2
 refine wfn [] [(8,.agg ca.toArray),(9,.bool true),(10,.bool false),(11,.bool false),(12,.agg cb.toArray),(13,.bool true),(14,.bool false),(15,.bool false)] _ (by simp only [zz4,zz5,zq];rfl) (by kernel_rfl) (by kernel_rfl) rfl ?_ ?_ ?_ ?_
 ·intro W' hW'
  have rd0:=AB0.out.below hW'
  have rd1:=AB1.out.below hW'
  refine fxo (wlg (by rfl) rfl rfl rd0 Tryz.underlying27 rfl (qR V_ca.out) (wqn (by simp only [zq]))) ?_
  refine fxo ?_ ?_;(go_big_quiet_step ((go_at_call 106;exact qaA (HA.out _)));(try simp only [zq]);exact wqn rfl)
  iterate 2 (refine fxo ?_ ?_;(go_big_quiet_step (fail);(try simp only [zq]);exact wqn rfl))
  refine fxo (wlg (by rfl) rfl rfl rd1 Tryz.underlying27 rfl (qR V_cb.out) (wqn (by simp only [zq]))) ?_
  refine fxo ?_ ?_;(go_big_quiet_step ((go_at_call 106;exact qaA (HB.out _)));(try simp only [zq]);exact wqn rfl)
  iterate 2 (refine fxo ?_ ?_;(go_big_quiet_step (fail);(try simp only [zq]);exact wqn rfl))
  exact fxn
 ·exact oN
 ·exact oN
 intro β wx1 E
 replace FR:=hid (FR.out.fnw E rfl)
 replace AB0:=hid (AB0.out.fnw E rfl)
 replace AB1:=hid (AB1.out.fnw E rfl)
 replace AB2:=hid (AB2.out.fnw E rfl)
 have hE:=E.below rfl
 simp only [nP,zr,zq]
 replace FR0:=hid FR.out.le
 clear E
 go_upto_region 3 with fail
 refine qwf [⟨false,0,6,9,B2,0,27,24,cR,0,cR,[]⟩] [(17,.func (.func 78) #[] #[]),(18,.agg ca.toArray),(19,.agg cb.toArray),(20,.tuple #[.agg cN.toArray,.agg cD.toArray]),(21,.agg cN.toArray),(22,.agg cD.toArray),(23,.tuple #[.agg cR.toArray,.int .i64 code]),(24,.agg cR.toArray),(25,.int .i64 code),(7,.int .i64 code)] _ (by simp only [zz4,zz5,zq];rfl) (by kernel_rfl) (by kernel_rfl) ?_ ?_ ?_ ?_ ?_ ?_ ?_
 ·intro W' hW'
  have rd0:=AB0.out.below hW'
  have rd1:=AB1.out.below hW'
  refine fxo ?_ ?_;(go_big_quiet_step (fail);(try simp only [zq]);exact wqn rfl)
  refine fxo (wlg (by rfl) rfl rfl rd0 Tryz.underlying27 rfl (qR V_ca.out) (wqn (by simp only [zq]))) ?_
  refine fxo (wlg (by rfl) rfl rfl rd1 Tryz.underlying27 rfl (qR V_cb.out) (wqn (by simp only [zq]))) ?_
  refine fxo ?_ ?_;(go_big_quiet_step ((go_at_call 78;exact qaA (HC.out _)));(try simp only [zq]);exact wqn rfl)
  iterate 2 (refine fxo ?_ ?_;(go_big_quiet_step (fail);(try simp only [zq]);exact wqn rfl))
  refine fxo ?_ ?_;(go_big_quiet_step ((go_at_call 75;exact qaA (HK.out _)));(try simp only [zq]);exact wqn rfl)
  iterate 2 (refine fxo ?_ ?_;(go_big_quiet_step (fail);(try simp only [zq]);exact wqn rfl))
  refine fxs (by rfl) ?_
  refine fxo ?_ ?_;(go_big_quiet_step (fail);(try simp only [zq]);exact wqn rfl)
  exact fxn
 ·intro W' hK'
  have rd0:=At.keep hK' AB0.out (oP _ _ (fun _=>(by show B2≠B0;omega)) (oN))
  have rd1:=At.keep hK' AB1.out (oP _ _ (fun _=>(by show B2≠B1;omega)) (oN))
  first|(refine fxo ?_ ?_;(go_big_quiet_step (fail);(try simp only [zq]);exact wqn rfl))|(refine fxs (by kernel_rfl) ?_)
  refine fxo (wlg (by rfl) rfl rfl rd0 Tryz.underlying27 rfl (qR V_ca.out) (wqn (by simp only [zq]))) ?_
  refine fxo (wlg (by rfl) rfl rfl rd1 Tryz.underlying27 rfl (qR V_cb.out) (wqn (by simp only [zq]))) ?_
  refine fxs (by kernel_rfl) ?_
  iterate 2 (first|(refine fxo ?_ ?_;(go_big_quiet_step (fail);(try simp only [zq]);exact wqn rfl))|(refine fxs (by kernel_rfl) ?_))
  refine fxs (by kernel_rfl) ?_
  iterate 2 (first|(refine fxo ?_ ?_;(go_big_quiet_step (fail);(try simp only [zq]);exact wqn rfl))|(refine fxs (by kernel_rfl) ?_))
  refine fxs (by kernel_rfl) ?_
  first|(refine fxo ?_ ?_;(go_big_quiet_step (fail);(try simp only [zq]);exact wqn rfl))|(refine fxs (by kernel_rfl) ?_)
  exact fxn
 ·exact oP _ _ (bnc) (oN)
 ·exact oP _ _ (fun _=>⟨AB2.out.lt,rfl,At.room AB2.out (qR V_cz.out) (qR V_cR.out)⟩) (oN)
 ·exact uno
 ·exact oP _ _ (stw rfl (qR V_cR.out) (qfI V_cR.out) (fun _=>rfl)) (oN)
 intro β wx2 E
 replace FR:=hid (FR.out.flow E (oP _ _ (fun _=>(by show B0≤B2;omega)) (oN)))
 replace AB0:=hid (At.flow E AB0.out (oP _ _ (fun _=>(by show B2≠B0;omega)) (oN)))
 replace AB1:=hid (At.flow E AB1.out (oP _ _ (fun _=>(by show B2≠B1;omega)) (oN)))
 replace AB2:=hid (show At wx2 B2 0 cR from E.atOld mms rfl AB2.out.lt)
 simp only [nP,zr,zq]
 replace FR0:=hid FR.out.le
 clear E
 go_wp2_with fail
 have hld:=AB2.out.read (P:=Tryz.prog) Tryz.underlying27 rfl (qR V_cR.out)
 refine bodyPost_ret (v:=.tuple #[.agg cR.toArray,.int .i64 code]) (by simp [results,Tryz.results77,asAddr,hld]) rfl ?_
 exact ⟨rfl,fend HB0 FR⟩
theorem jbR {ca cb cR:List Value} {na nb:Bool} {pa qa pb qb:Nat} {code:Int} (w:World) (h1:ca=rat na pa false qa) (h2:cb=rat nb pb false qb) {rn:Bool} {rp rq:Nat} {rm:Bool} (hcR:cR=rat rn rp rm rq)
  (hC:∀ W,Calls Tryz.prog 77 #[.agg ca.toArray,.agg cb.toArray,.func (.func 78) #[] #[]] W fun e w'=>e=.returned (.tuple #[.agg cR.toArray,.int .i64 code])∧Below W.heap.size W w') :
  Calls Tryz.prog 45 #[.agg ca.toArray,.agg cb.toArray] w fun e w'=>e=.returned (.tuple #[.agg cR.toArray,.int .i64 code])∧Below w.heap.size w w':=by
 have V_ca:=hid h1
 have V_cb:=hid h2
 have V_cR:=hid hcR
 obtain ⟨cz,V_cz⟩:∃ c:List Value,Hid (c=rat false 0 false 0):=⟨_,hid rfl⟩
 have HC:=hid hC
 clear h1 h2 hC hcR
 obtain ⟨B0,hB0⟩:∃ B,B=w.heap.size:=⟨_,rfl⟩
 obtain ⟨B1,hB1⟩:∃ B,B=w.heap.size+1:=⟨_,rfl⟩
 obtain ⟨B2,hB2⟩:∃ B,B=w.heap.size+1+1:=⟨_,rfl⟩
 obtain ⟨w0,hw0⟩:∃ w0,w0=(((w.alloc (.cells ca.toArray 27)).alloc (.cells cb.toArray 27)).alloc (.cells Tryz.zeroCells27 27)):=⟨_,rfl⟩
 have AB0:=hid (show At w0 B0 0 ca by rw [hw0];exact (((show At (w.alloc (.cells ca.toArray 27)) B0 0 ca from At.fresh _ ca _ (by simp [hB0])).alloc _).alloc _))
 have AB1:=hid (show At w0 B1 0 cb by rw [hw0];exact ((show At ((w.alloc (.cells ca.toArray 27)).alloc (.cells cb.toArray 27)) B1 0 cb from At.fresh _ cb _ (by simp [hB1])).alloc _))
 have AB2:=hid (show At w0 B2 0 cz by rw [hw0];exact (show At (((w.alloc (.cells ca.toArray 27)).alloc (.cells cb.toArray 27)).alloc (.cells Tryz.zeroCells27 27)) B2 0 cz from (by rw [Tryz.zeroR,V_cz.out];exact At.fresh _ (rat false 0 false 0) _ (by simp [hB2]))))
 have FR:=hid (show Fr B0 w w0 by rw [hw0,hB0];exact (((Fr.start w).alloc _).alloc _).alloc _)
 have FR0:=hid FR.out.le
 have l01:B0<B1:=by omega
 have hZB1:B0≤B1:=by omega
 have l12:B1<B2:=by omega
 have hZB2:B0≤B2:=by omega
 have hZB0:B0≤B0:=Nat.le_refl _
 have HB0:=hid hB0
 go_enter Tryz.func45,Tryz.ntmps45
 go_upto_region 1 with fail
 rw [←hw0,←hB2,←hB1,←hB0]
 clear hw0 hB0 hB1 hB2
 refine qwf [⟨false,0,4,5,B2,0,27,9,cR,0,cR,[]⟩] [(6,.agg ca.toArray),(7,.agg cb.toArray),(8,.tuple #[.agg cR.toArray,.int .i64 code]),(9,.agg cR.toArray),(10,.int .i64 code),(5,.int .i64 code)] _ (by simp only [zz4,zz5,zq];rfl) (by kernel_rfl) (by kernel_rfl) ?_ ?_ ?_ ?_ ?_ ?_ ?_
 ·intro W' hW'
  have rd0:=AB0.out.below hW'
  have rd1:=AB1.out.below hW'
  refine fxo (wlg (by rfl) rfl rfl rd0 Tryz.underlying27 rfl (qR V_ca.out) (wqn (by simp only [zq]))) ?_
  refine fxo (wlg (by rfl) rfl rfl rd1 Tryz.underlying27 rfl (qR V_cb.out) (wqn (by simp only [zq]))) ?_
  refine fxo ?_ ?_;(go_big_quiet_step ((go_at_call 77;exact qaA (HC.out _)));(try simp only [zq]);exact wqn rfl)
  iterate 2 (refine fxo ?_ ?_;(go_big_quiet_step (fail);(try simp only [zq]);exact wqn rfl))
  refine fxs (by rfl) ?_
  refine fxo ?_ ?_;(go_big_quiet_step (fail);(try simp only [zq]);exact wqn rfl)
  exact fxn
 ·intro W' hK'
  have rd0:=At.keep hK' AB0.out (oP _ _ (fun _=>(by show B2≠B0;omega)) (oN))
  have rd1:=At.keep hK' AB1.out (oP _ _ (fun _=>(by show B2≠B1;omega)) (oN))
  refine fxo (wlg (by rfl) rfl rfl rd0 Tryz.underlying27 rfl (qR V_ca.out) (wqn (by simp only [zq]))) ?_
  refine fxo (wlg (by rfl) rfl rfl rd1 Tryz.underlying27 rfl (qR V_cb.out) (wqn (by simp only [zq]))) ?_
  refine fxs (by kernel_rfl) ?_
  iterate 2 (first|(refine fxo ?_ ?_;(go_big_quiet_step (fail);(try simp only [zq]);exact wqn rfl))|(refine fxs (by kernel_rfl) ?_))
  refine fxs (by kernel_rfl) ?_
  first|(refine fxo ?_ ?_;(go_big_quiet_step (fail);(try simp only [zq]);exact wqn rfl))|(refine fxs (by kernel_rfl) ?_)
  exact fxn
 ·exact oP _ _ (bnc) (oN)
 ·exact oP _ _ (fun _=>⟨AB2.out.lt,rfl,At.room AB2.out (qR V_cz.out) (qR V_cR.out)⟩) (oN)
 ·exact uno
 ·exact oP _ _ (stw rfl (qR V_cR.out) (qfI V_cR.out) (fun _=>rfl)) (oN)
 intro β wx1 E
 replace FR:=hid (FR.out.flow E (oP _ _ (fun _=>(by show B0≤B2;omega)) (oN)))
 replace AB0:=hid (At.flow E AB0.out (oP _ _ (fun _=>(by show B2≠B0;omega)) (oN)))
 replace AB1:=hid (At.flow E AB1.out (oP _ _ (fun _=>(by show B2≠B1;omega)) (oN)))
 replace AB2:=hid (show At wx1 B2 0 cR from E.atOld mms rfl AB2.out.lt)
 simp only [nP,zr,zq]
 replace FR0:=hid FR.out.le
 clear E
 go_wp2_with fail
 have hld:=AB2.out.read (P:=Tryz.prog) Tryz.underlying27 rfl (qR V_cR.out)
 refine bodyPost_ret (v:=.tuple #[.agg cR.toArray,.int .i64 code]) (by simp [results,Tryz.results45,asAddr,hld]) rfl ?_
 exact ⟨rfl,fend HB0 FR⟩
namespace Big
def mulQ (a b:Qn):Option Qn:=mkQ (a.1*b.1) (a.2*b.2)
end Big
theorem jbS {a b:Qn} (ha:VQ a) (hb:VQ b):(a.1*b.1).natAbs<BB^32∧a.2*b.2<BB^32∧a.2*b.2≠0:=by
 have h1:=qxX ha.num hb.num
 have h2:=qxX ha.den hb.den
 rw [Int.natAbs_mul]
 exact ⟨b30 h1,b30 h2,Nat.mul_ne_zero ha.pos hb.pos⟩
theorem pmulQ {ca cb cR:List Value} {a b:Qn} {code:Int} (h1:ca=ratZ a.1 a.2) (h2:cb=ratZ b.1 b.2) (ha:VQ a) (hb:VQ b) (hR:cR=resR (mulQ a b)) (hc:code=resE (mulQ a b)) (w:World) :
  Calls Tryz.prog 45 #[.agg ca.toArray,.agg cb.toArray] w fun e w'=>e=.returned (.tuple #[.agg cR.toArray,.int .i64 code])∧Below w.heap.size w w':=by
 obtain ⟨B1,B2,B3⟩:=jbS ha hb
 obtain ⟨cN,hN⟩:∃ c,c=iZ (a.1*b.1):=⟨_,rfl⟩
 obtain ⟨cD,hD⟩:∃ c,c=iZ ((a.2*b.2:Nat):Int):=⟨_,rfl⟩
 obtain ⟨rn,rp,rm,rq,hcr⟩:∃ rn rp rm rq,cR=rat rn rp rm rq:=by
  rw [hR];cases mulQ a b with
  | none=>exact ⟨_,_,_,_,rfl⟩
  | some r=>exact ⟨_,_,_,_,rfl⟩
 exact jbR w h1 h2 hcr fun W=>qzI W h1 h2 (qfF h1 ha) (qfF h2 hb)
  (fun W=>jbT h1 h2 hN (by rw [hD];unfold iZ;rw [Int.natAbs_natCast,decide_eq_false (Int.not_lt.2 (Int.natCast_nonneg _))]) (by rw [Int.natAbs_mul]) rfl (by rw [qjR,Int.natAbs_mul]) ha.num ha.den hb.num hb.den W)
  (fun W=>qtY hN hD hR hc B1 B2 B3 W) hcr
theorem qxF {cr:List Value} {n m ok:Bool} {p q:Nat} {s:Int} {code:Int} (h:cr=rat n p m q) (hok:ok=decide (p<B480∧q<B480∧n=cs1 n p∧m=false∧q≠0∧Nat.gcd p q=1)) (hs:s=if ok=true then sgnI n p else 0) (hc:code=if ok=true then 0 else 20) (hp:p<BB^32) (hq:q<BB^32) (w:World) :
  Calls Tryz.prog 74 #[.agg cr.toArray] w fun e w'=>e=.returned (.tuple #[.int .i64 s,.int .i64 code])∧Below w.heap.size w w':=by
 have V_cr:=hid h
 obtain ⟨cn,V_cn⟩:∃ c:List Value,Hid (c=.bool n::lv 32 p):=⟨_,hid rfl⟩
 obtain ⟨cd,V_cd⟩:∃ c:List Value,Hid (c=.bool m::lv 32 q):=⟨_,hid rfl⟩
 have HV:=hid (qmT V_cr.out hok hp hq)
 have HP:=hid hp
 clear h hok hp hq
 obtain ⟨B0,hB0⟩:∃ B,B=w.heap.size:=⟨_,rfl⟩
 obtain ⟨w0,hw0⟩:∃ w0,w0=(w.alloc (.cells cr.toArray 27)):=⟨_,rfl⟩
 have AB0:=hid (show At w0 B0 0 cr by rw [hw0];exact (show At (w.alloc (.cells cr.toArray 27)) B0 0 cr from At.fresh _ cr _ (by simp [hB0])))
 have FR:=hid (show Fr B0 w w0 by rw [hw0,hB0];exact (Fr.start w).alloc _)
 have FR0:=hid FR.out.le
 have hZB0:B0≤B0:=Nat.le_refl _
 have HB0:=hid hB0
 go_enter Tryz.func74,Tryz.ntmps74
 go_upto_region 1 with fail
 rw [←hw0,←hB0]
 clear hw0 hB0
 have AB0_n:=hid (AB0.out.num V_cr.out V_cn.out)
 have AB0_d:=hid (AB0.out.den V_cr.out V_cd.out)
 cases ok with
 | false =>
  subst hs hc
  refine wfn [] [(4,.agg cr.toArray),(5,.bool false),(6,.bool true)] _ (by simp only [zz4,zz5,zq];rfl) (by kernel_rfl) (by kernel_rfl) rfl ?_ ?_ ?_ ?_
  ·intro W' hW'
   have rd0:=AB0.out.below hW'
   refine fxo (wlg (by rfl) rfl rfl rd0 Tryz.underlying27 rfl (qR V_cr.out) (wqn (by simp only [zq]))) ?_
   refine fxo ?_ ?_;(go_big_quiet_step ((go_at_call 106;exact qaA (HV.out _)));(try simp only [zq]);exact wqn rfl)
   refine fxo ?_ ?_;(go_big_quiet_step (fail);(try simp only [zq]);exact wqn rfl)
   exact fxn
  ·exact oN
  ·exact oN
  intro β wx1 E
  replace FR:=hid (FR.out.fnw E rfl)
  replace AB0:=hid (AB0.out.fnw E rfl)
  replace AB0_n:=hid (AB0_n.out.fnw E rfl)
  replace AB0_d:=hid (AB0_d.out.fnw E rfl)
  have hE:=E.below rfl
  simp only [nP,zr,zq]
  replace FR0:=hid FR.out.le
  clear E
  go_wp2
  go_ret2
  exact ⟨rfl,fend HB0 FR⟩
 | true =>
  have HS:=hid (qdT V_cn.out (show s=sgnI n p by rw [hs];rfl) HP.out)
  clear hs
  subst hc
  refine wfn [] [(4,.agg cr.toArray),(5,.bool true),(6,.bool false)] _ (by simp only [zz4,zz5,zq];rfl) (by kernel_rfl) (by kernel_rfl) rfl ?_ ?_ ?_ ?_
  ·intro W' hW'
   have rd0:=AB0.out.below hW'
   refine fxo (wlg (by rfl) rfl rfl rd0 Tryz.underlying27 rfl (qR V_cr.out) (wqn (by simp only [zq]))) ?_
   refine fxo ?_ ?_;(go_big_quiet_step ((go_at_call 106;exact qaA (HV.out _)));(try simp only [zq]);exact wqn rfl)
   refine fxo ?_ ?_;(go_big_quiet_step (fail);(try simp only [zq]);exact wqn rfl)
   exact fxn
  ·exact oN
  ·exact oN
  intro β wx1 E
  replace FR:=hid (FR.out.fnw E rfl)
  replace AB0:=hid (AB0.out.fnw E rfl)
  replace AB0_n:=hid (AB0_n.out.fnw E rfl)
  replace AB0_d:=hid (AB0_d.out.fnw E rfl)
  have hE:=E.below rfl
  simp only [nP,zr,zq]
  replace FR0:=hid FR.out.le
  clear E
  go_upto_region 3 with fail
  refine wfn [] [(7,.pointer (some ⟨B0,0,none⟩)),(8,.agg cn.toArray),(9,.int .i64 s),(2,.int .i64 s),(3,.int .i64 0)] _ (by simp only [zz4,zz5,zq];rfl) (by kernel_rfl) (by kernel_rfl) rfl ?_ ?_ ?_ ?_
  ·intro W' hW'
   have rd0:=AB0_n.out.below hW'
   refine fxo ?_ ?_;(go_big_quiet_step (fail);(try simp only [zq]);exact wqn rfl)
   refine fxo (wlg (by rfl) rfl rfl rd0 Tryz.underlying25 rfl (qI V_cn.out) (wqn (by simp only [zq]))) ?_
   refine fxo ?_ ?_;(go_big_quiet_step ((go_at_call 107;exact qaA (HS.out _)));(try simp only [zq]);exact wqn rfl)
   iterate 2 (refine fxo ?_ ?_;(go_big_quiet_step (fail);(try simp only [zq]);exact wqn rfl))
   exact fxn
  ·exact oN
  ·exact oN
  intro β wx2 E
  replace FR:=hid (FR.out.fnw E rfl)
  replace AB0:=hid (AB0.out.fnw E rfl)
  replace AB0_n:=hid (AB0_n.out.fnw E rfl)
  replace AB0_d:=hid (AB0_d.out.fnw E rfl)
  have hE:=E.below rfl
  simp only [nP,zr,zq]
  replace FR0:=hid FR.out.le
  clear E
  go_wp2
  go_ret2
  exact ⟨rfl,fend HB0 FR⟩
theorem jcO {ca cb:List Value} {na nb:Bool} {pa qa pb qb:Nat} {z:Int} (h1:ca=rat na pa false qa) (h2:cb=rat nb pb false qb)
  (ha:∀ W,Calls Tryz.prog 106 #[.agg ca.toArray] W fun e w'=>e=.returned (.bool true)∧Below W.heap.size W w') (hb:∀ W,Calls Tryz.prog 106 #[.agg cb.toArray] W fun e w'=>e=.returned (.bool true)∧Below W.heap.size W w')
  (hz:z=cmpZ (zI (cs1 na (pa*qb)) (pa*qb)) (zI (cs1 nb (pb*qa)) (pb*qa))) (b1:pa<B480) (b2:qa<B480) (b3:pb<B480) (b4:qb<B480) (w:World) :
  Calls Tryz.prog 124 #[.agg ca.toArray,.agg cb.toArray] w fun e w'=>e=.returned (.tuple #[.int .i64 z,.int .i64 0])∧Below w.heap.size w w':=by
 have V_ca:=hid h1
 have V_cb:=hid h2
 obtain ⟨x,hx⟩:∃ x,x=pa*qb:=⟨_,rfl⟩
 obtain ⟨y,hy⟩:∃ y,y=pb*qa:=⟨_,rfl⟩
 rw [←hx,←hy] at hz
 obtain ⟨nx,hnx⟩:∃ n,n=cs1 na x:=⟨_,rfl⟩
 obtain ⟨ny,hny⟩:∃ n,n=cs1 nb y:=⟨_,rfl⟩
 rw [←hnx,←hny] at hz
 have u30:BB^30≤BB^32:=Nat.pow_le_pow_right qaY (by omega)
 have hxB:x<BB^30:=by rw [hx];exact qdX b1 b4
 have hyB:y<BB^30:=by rw [hy];exact qdX b3 b2
 obtain ⟨cna,V_cna⟩:∃ c:List Value,Hid (c=.bool na::lv 32 pa):=⟨_,hid rfl⟩
 obtain ⟨cda,V_cda⟩:∃ c:List Value,Hid (c=.bool false::lv 32 qa):=⟨_,hid rfl⟩
 obtain ⟨cnb,V_cnb⟩:∃ c:List Value,Hid (c=.bool nb::lv 32 pb):=⟨_,hid rfl⟩
 obtain ⟨cdb,V_cdb⟩:∃ c:List Value,Hid (c=.bool false::lv 32 qb):=⟨_,hid rfl⟩
 obtain ⟨cx,V_cx⟩:∃ c:List Value,Hid (c=.bool nx::lv 32 x):=⟨_,hid rfl⟩
 obtain ⟨cy,V_cy⟩:∃ c:List Value,Hid (c=.bool ny::lv 32 y):=⟨_,hid rfl⟩
 have HA:=hid ha
 have HB:=hid hb
 have HPX:=hid (qgG V_cna.out V_cdb.out V_cx.out hx (by rw [hnx];cases na<;>rfl) (qaX b1) (qaX b4) (by omega))
 have HPY:=hid (qgG V_cnb.out V_cda.out V_cy.out hy (by rw [hny];cases nb<;>rfl) (qaX b3) (qaX b2) (by omega))
 have HZ:=hid (qoP V_cx.out V_cy.out hz (by omega) (by omega))
 clear h1 h2 ha hb hz hx hy hnx hny b1 b2 b3 b4 u30 hxB hyB
 obtain ⟨B0,hB0⟩:∃ B,B=w.heap.size:=⟨_,rfl⟩
 obtain ⟨B1,hB1⟩:∃ B,B=w.heap.size+1:=⟨_,rfl⟩
 obtain ⟨w0,hw0⟩:∃ w0,w0=((w.alloc (.cells ca.toArray 27)).alloc (.cells cb.toArray 27)):=⟨_,rfl⟩
 have AB0:=hid (show At w0 B0 0 ca by rw [hw0];exact ((show At (w.alloc (.cells ca.toArray 27)) B0 0 ca from At.fresh _ ca _ (by simp [hB0])).alloc _))
 have AB1:=hid (show At w0 B1 0 cb by rw [hw0];exact (show At ((w.alloc (.cells ca.toArray 27)).alloc (.cells cb.toArray 27)) B1 0 cb from At.fresh _ cb _ (by simp [hB1])))
 have FR:=hid (show Fr B0 w w0 by rw [hw0,hB0];exact ((Fr.start w).alloc _).alloc _)
 have FR0:=hid FR.out.le
 have l01:B0<B1:=by omega
 have hZB1:B0≤B1:=by omega
 have hZB0:B0≤B0:=Nat.le_refl _
 have HB0:=hid hB0
 go_enter Tryz.func124,Tryz.ntmps124
 go_upto_region 1 with fail
 rw [←hw0,←hB1,←hB0]
 clear hw0 hB0 hB1
 have AB0_n:=hid (AB0.out.num V_ca.out V_cna.out)
 have AB0_d:=hid (AB0.out.den V_ca.out V_cda.out)
 have AB1_n:=hid (AB1.out.num V_cb.out V_cnb.out)
 have AB1_d:=hid (AB1.out.den V_cb.out V_cdb.out)
 refine wfn [] [(6,.agg ca.toArray),(7,.bool true),(8,.bool false),(9,.bool false),(10,.agg cb.toArray),(11,.bool true),(12,.bool false),(13,.bool false)] _ (by simp only [zz4,zz5,zq];rfl) (by kernel_rfl) (by kernel_rfl) rfl ?_ ?_ ?_ ?_
 ·intro W' hW'
  have rd0:=AB0.out.below hW'
  have rd1:=AB1.out.below hW'
  refine fxo (wlg (by rfl) rfl rfl rd0 Tryz.underlying27 rfl (qR V_ca.out) (wqn (by simp only [zq]))) ?_
  refine fxo ?_ ?_;(go_big_quiet_step ((go_at_call 106;exact qaA (HA.out _)));(try simp only [zq]);exact wqn rfl)
  iterate 2 (refine fxo ?_ ?_;(go_big_quiet_step (fail);(try simp only [zq]);exact wqn rfl))
  refine fxo (wlg (by rfl) rfl rfl rd1 Tryz.underlying27 rfl (qR V_cb.out) (wqn (by simp only [zq]))) ?_
  refine fxo ?_ ?_;(go_big_quiet_step ((go_at_call 106;exact qaA (HB.out _)));(try simp only [zq]);exact wqn rfl)
  iterate 2 (refine fxo ?_ ?_;(go_big_quiet_step (fail);(try simp only [zq]);exact wqn rfl))
  exact fxn
 ·exact oN
 ·exact oN
 intro β wx1 E
 replace FR:=hid (FR.out.fnw E rfl)
 replace AB0:=hid (AB0.out.fnw E rfl)
 replace AB1:=hid (AB1.out.fnw E rfl)
 replace AB0_n:=hid (AB0_n.out.fnw E rfl)
 replace AB0_d:=hid (AB0_d.out.fnw E rfl)
 replace AB1_n:=hid (AB1_n.out.fnw E rfl)
 replace AB1_d:=hid (AB1_d.out.fnw E rfl)
 have hE:=E.below rfl
 simp only [nP,zr,zq]
 replace FR0:=hid FR.out.le
 clear E
 go_upto_region 3 with fail
 refine wfn [] [(14,.pointer (some ⟨B0,0,none⟩)),(15,.agg cna.toArray),(16,.pointer (some ⟨B1,33,none⟩)),(17,.agg cdb.toArray),(18,.agg cx.toArray),(19,.pointer (some ⟨B1,0,none⟩)),(20,.agg cnb.toArray),(21,.pointer (some ⟨B0,33,none⟩)),(22,.agg cda.toArray),(23,.agg cy.toArray),(24,.int .i64 z),(4,.int .i64 z),(5,.int .i64 0)] _ (by simp only [zz4,zz5,zq];rfl) (by kernel_rfl) (by kernel_rfl) rfl ?_ ?_ ?_ ?_
 ·intro W' hW'
  have rd0:=AB0_n.out.below hW'
  have rd1:=AB1_d.out.below hW'
  have rd2:=AB1_n.out.below hW'
  have rd3:=AB0_d.out.below hW'
  refine fxo ?_ ?_;(go_big_quiet_step (fail);(try simp only [zq]);exact wqn rfl)
  refine fxo (wlg (by rfl) rfl rfl rd0 Tryz.underlying25 rfl (qI V_cna.out) (wqn (by simp only [zq]))) ?_
  refine fxo ?_ ?_;(go_big_quiet_step (fail);(try simp only [zq]);exact wqn rfl)
  refine fxo (wlg (by rfl) rfl rfl rd1 Tryz.underlying25 rfl (qI V_cdb.out) (wqn (by simp only [zq]))) ?_
  refine fxo ?_ ?_;(go_big_quiet_step ((go_at_call 79;exact qaA (HPX.out _)));(try simp only [zq]);exact wqn rfl)
  refine fxo ?_ ?_;(go_big_quiet_step (fail);(try simp only [zq]);exact wqn rfl)
  refine fxo (wlg (by rfl) rfl rfl rd2 Tryz.underlying25 rfl (qI V_cnb.out) (wqn (by simp only [zq]))) ?_
  refine fxo ?_ ?_;(go_big_quiet_step (fail);(try simp only [zq]);exact wqn rfl)
  refine fxo (wlg (by rfl) rfl rfl rd3 Tryz.underlying25 rfl (qI V_cda.out) (wqn (by simp only [zq]))) ?_
  refine fxo ?_ ?_;(go_big_quiet_step ((go_at_call 79;exact qaA (HPY.out _)));(try simp only [zq]);exact wqn rfl)
  refine fxo ?_ ?_;(go_big_quiet_step ((go_at_call 154;exact qaA (HZ.out _)));(try simp only [zq]);exact wqn rfl)
  iterate 2 (refine fxo ?_ ?_;(go_big_quiet_step (fail);(try simp only [zq]);exact wqn rfl))
  exact fxn
 ·exact oN
 ·exact oN
 intro β wx2 E
 replace FR:=hid (FR.out.fnw E rfl)
 replace AB0:=hid (AB0.out.fnw E rfl)
 replace AB1:=hid (AB1.out.fnw E rfl)
 replace AB0_n:=hid (AB0_n.out.fnw E rfl)
 replace AB0_d:=hid (AB0_d.out.fnw E rfl)
 replace AB1_n:=hid (AB1_n.out.fnw E rfl)
 replace AB1_d:=hid (AB1_d.out.fnw E rfl)
 have hE:=E.below rfl
 simp only [nP,zr,zq]
 replace FR0:=hid FR.out.le
 clear E
 go_wp2
 go_ret2
 exact ⟨rfl,fend HB0 FR⟩
theorem jdI {ca cb:List Value} {a b:Qn} {z:Int} (h1:ca=ratZ a.1 a.2) (h2:cb=ratZ b.1 b.2) (ha:VQ a) (hb:VQ b) (hz:z=cmpZ (a.1*b.2) (b.1*a.2)) (w:World) :
  Calls Tryz.prog 124 #[.agg ca.toArray,.agg cb.toArray] w fun e w'=>e=.returned (.tuple #[.int .i64 z,.int .i64 0])∧Below w.heap.size w w' :=
 jcO h1 h2 (qfF h1 ha) (qfF h2 hb) (by
  rw [hz]
  have e:=(qjF (a:=a) (b:=b) true).1
  have f:=(qjF (a:=b) (b:=a) true).1
  rw [e,f]) ha.num ha.den hb.num hb.den w
end Go.Proofs.YtemoddmadfoaiaaGreat
