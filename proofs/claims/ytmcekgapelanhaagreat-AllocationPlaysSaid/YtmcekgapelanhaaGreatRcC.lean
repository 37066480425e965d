import Derived.Test.YtmcekgapelanhaaGreatQrB
import Derived.Test.YtmcekgapelanhaaGreatAlE
import Derived.Test.YtmcekgapelanhaaGreatAlC
set_option linter.unusedVariables false
set_option linter.unusedSimpArgs false
set_option maxRecDepth 100000
set_option maxHeartbeats 8000000
namespace Go.Proofs.YtmcekgapelanhaaGreat
open Go.RowKit Big Al Tok Ap
open Lib (hid)
theorem low_zero {c:Qn} (h:VQ c) (h0:c.1=0):c=(0,1):=by
 have h1:=h.low
 rw [h0] at h1
 simp at h1
 exact Prod.ext h0 h1
theorem ex_form (a o z d S:Int):z*(d*S)+a*o=a*o+z*d*S:=by grind
theorem rvalueQ {cc cb cR:List Value} {c:Qn} {S:Nat} {x:Bk} {code:Int} (h1:cc=ratZ c.1 c.2) (h2:cb=x.cells) (hc:VQ c) (hx:Ok x) (hS:S≤4000000000000000) (h0:S=0→c.1=0) (hR:cR=resR (exR c S x)) (hcode:code=resE (exR c S x)) (w:World) :
  Calls Tryz.prog 44 #[.agg cc.toArray,.agg cb.toArray,.int .i64 (S:Int)] w fun e w'=>e=.returned (.tuple #[.agg cR.toArray,.int .i64 code])∧Below w.heap.size w w':=by
 have V_cc:=hid h1
 have V_cb:=hid h2
 obtain ⟨rn,rp,rm,rq,hcR⟩:∃ rn rp rm rq,cR=rat rn rp rm rq:=by
  rw [hR]
  cases exR c S x with
  | none=>exact ⟨_,_,_,_,rfl⟩
  | some r=>exact ⟨_,_,_,_,rfl⟩
 have V_cR:=hid hcR
 obtain ⟨cz,V_cz⟩:∃ c:List Value,Hid (c=rat false 0 false 0):=⟨_,hid rfl⟩
 have hop:=hx.op_eq
 have hopl:=hx.op_le
 have how:=hx.own
 have hnt:=hx.net
 have hfl:=hx.flows
 obtain ⟨o,ho⟩:∃ o,o=x.op:=⟨_,rfl⟩
 rw [←ho] at hop hopl
 obtain ⟨z,hz⟩:∃ z,z=(o:Int)+x.own:=⟨_,rfl⟩
 have w5:IntKind.i64.wrap (x.net+x.flows)=(o:Int):=by rw [IntWalk.i64_in _ (by omega)];exact hop
 have w6:IntKind.i64.wrap ((o:Int)+x.own)=z:=by rw [IntWalk.i64_in _ (by omega)];exact hz.symm
 have hzb:-2000000000000000≤z∧z≤2000000000000000:=by omega
 obtain ⟨cw,V_cw⟩:∃ c:List Value,Hid (c=iZ z):=⟨_,hid rfl⟩
 have HW:=hid (rfromZ V_cw.out (by omega) (by omega))
 have HXR:=hid (show exR c S x=mkQ (c.1*(o:Int)+z*(c.2:Int)*(max S 1:Nat)) (c.2*max S 1) by rw [hz,ho];rfl)
 have HRC:=hid (And.intro hR hcode)
 have HVC:=hid hc
 have HS0:=hid h0
 clear h1 h2 hcR hx hop hz ho hR hcode hc hnt hfl how h0
 obtain ⟨B0,hB0⟩:∃ B,B=w.heap.size:=⟨_,rfl⟩
 obtain ⟨B1,hB1⟩:∃ B,B=w.heap.size+1:=⟨_,rfl⟩
 obtain ⟨B2,hB2⟩:∃ B,B=w.heap.size+1+1:=⟨_,rfl⟩
 obtain ⟨w0,hw0⟩:∃ w0,w0=(((w.alloc (.cells cc.toArray 27)).alloc (.cells cb.toArray 47)).alloc (.cells Tryz.zeroCells27 27)):=⟨_,rfl⟩
 have AB0:=hid (show At w0 B0 0 cc by rw [hw0];exact (((show At (w.alloc (.cells cc.toArray 27)) B0 0 cc from At.fresh _ cc _ (by simp [hB0])).alloc _).alloc _))
 have AB1:=hid (show At w0 B1 0 cb by rw [hw0];exact ((show At ((w.alloc (.cells cc.toArray 27)).alloc (.cells cb.toArray 47)) B1 0 cb from At.fresh _ cb _ (by simp [hB1])).alloc _))
 have AB2:=hid (show At w0 B2 0 cz by rw [hw0];exact (show At (((w.alloc (.cells cc.toArray 27)).alloc (.cells cb.toArray 47)).alloc (.cells Tryz.zeroCells27 27)) B2 0 cz from (by rw [Tryz.zeroR,V_cz.out];exact At.fresh _ (rat false 0 false 0) _ (by simp [hB2]))))
 have FR:=hid (show Fr B0 w w0 by rw [hw0,hB0];exact (((Fr.start w).alloc _).alloc _).alloc _)
 have FR0:=hid FR.out.le
 have l01:B0<B1:=by omega
 have hZB1:B0≤B1:=by omega
 have l12:B1<B2:=by omega
 have hZB2:B0≤B2:=by omega
 have hZB0:B0≤B0:=Nat.le_refl _
 have HB0:=hid hB0
 go_enter Tryz.func44,Tryz.ntmps44
 go_upto_region 1 with fail
 rw [←hw0,←hB2,←hB1,←hB0]
 clear hw0 hB0 hB1 hB2
 refine wfn [⟨true,9,8,10,0,0,25,25,cw,0,cw,[]⟩] [(17,.pointer (some ⟨B1,1,none⟩)),(18,.int .i64 x.net),(19,.pointer (some ⟨B1,2,none⟩)),(20,.int .i64 x.flows),(21,.int .i64 (o:Int)),(22,.pointer (some ⟨B1,3,none⟩)),(23,.int .i64 x.own),(24,.int .i64 z),(25,.agg cw.toArray)] _ (by simp only [zz4,zz5,zq];rfl) (by kernel_rfl) (by kernel_rfl) rfl ?_ ?_ ?_ ?_
 ·intro W' hW'
  have cl1:=cellB (k:=1) (v:=.int .i64 x.net) (AB1.out.below hW') (by rw [V_cb.out];rfl)
  have cl2:=cellB (k:=2) (v:=.int .i64 x.flows) (AB1.out.below hW') (by rw [V_cb.out];rfl)
  have cl3:=cellB (k:=3) (v:=.int .i64 x.own) (AB1.out.below hW') (by rw [V_cb.out];rfl)
  refine fxo ?_ ?_;(go_big_quiet_step (fail);(try simp only [zq]);exact wqn rfl)
  refine fxo (wcg (by rfl) rfl rfl (fun W h=>by simp [loadVar,h,go_sem]) cl1 (wqn (by simp only [zq]))) ?_
  refine fxo ?_ ?_;(go_big_quiet_step (fail);(try simp only [zq]);exact wqn rfl)
  refine fxo (wcg (by rfl) rfl rfl (fun W h=>by simp [loadVar,h,go_sem]) cl2 (wqn (by simp only [zq]))) ?_
  iterate 2 (refine fxo ?_ ?_;(go_big_quiet_step (fail);(try simp only [zq]);exact wqn rfl))
  refine fxo (wcg (by rfl) rfl rfl (fun W h=>by simp [loadVar,h,go_sem]) cl3 (wqn (by simp only [zq]))) ?_
  refine fxo ?_ ?_;(go_big_quiet_step (fail);(try simp only [zq]);exact wqn rfl)
  refine fxo ?_ ?_;(go_big_quiet_step ((go_at_call 49;exact Calls.below_of (HW.out _)));(try simp only [zq]);exact wqn rfl)
  iterate 2 (refine fxs (by rfl) ?_)
  exact fxn
 ·exact oP _ _ (Tryz.alI (qI V_cw.out)) (oN)
 ·exact oP _ _ (stw rfl (qI V_cw.out) (oneI V_cw.out) (fun _=>rfl)) (oN)
 intro β wx1 E
 replace FR:=hid (FR.out.fnw E rfl)
 obtain ⟨b8,hb8⟩:∃ b,b=β 9:=⟨_,rfl⟩
 have eb8:=E.atNew mms rfl
 simp only at eb8
 rw [←hb8] at eb8
 have lB0_b8:B0<b8:=by have h1:=eb8.1;have h2:=AB0.out.lt;omega
 have lB1_b8:B1<b8:=by have h1:=eb8.1;have h2:=AB1.out.lt;omega
 have lB2_b8:B2<b8:=by have h1:=eb8.1;have h2:=AB2.out.lt;omega
 have hZb8:B0≤b8:=by have h1:=eb8.1;have h2:=FR0.out;omega
 replace AB0:=hid (AB0.out.fnw E rfl)
 replace AB1:=hid (AB1.out.fnw E rfl)
 replace AB2:=hid (AB2.out.fnw E rfl)
 have Ab8:=hid eb8.2
 simp only [nP,zr,zq]
 rw [←hb8]
 replace FR0:=hid FR.out.le
 clear E eb8 hb8
 by_cases hS0:S=0
 ·obtain ⟨c1,V_c1⟩:∃ c:List Value,Hid (c=iZ 1):=⟨_,hid rfl⟩
  have HF1:=hid (rfromZ V_c1.out (by decide) (by decide))
  have hcz:=HS0.out hS0
  have hc2:=low_zero HVC.out hcz
  have HM:=hid (rmakeQ (D:=1) V_cw.out V_c1.out (cR:=cR) (code:=code) (by rw [HRC.out.1,HXR.out,hS0,hc2];simp) (by rw [HRC.out.2,HXR.out,hS0,hc2];simp) (bp_up (big_small (by omega) (by omega)) (by omega)) (by exact Nat.one_lt_pow (by omega) (by unfold BB;decide)) (by decide))
  have hSb:((S:Int)==0)=true:=by rw [beq_iff_eq];omega
  clear hcz hc2 hS0
  go_upto_region 3 with fail
  refine qwf [⟨false,0,6,5,B2,0,27,31,cR,0,cR,[]⟩] [(28,.agg cw.toArray),(29,.agg c1.toArray),(30,.tuple #[.agg cR.toArray,.int .i64 code]),(31,.agg cR.toArray),(32,.int .i64 code),(7,.int .i64 code)] _ (by simp only [zz4,zz5,zq];rfl) (by kernel_rfl) (by kernel_rfl) ?_ ?_ ?_ ?_ ?_ ?_ ?_
  ·intro W' hW'
   have rd0:=Ab8.out.below hW'
   refine fxo (wlg (by rfl) rfl rfl rd0 Tryz.underlying25 rfl (qI V_cw.out) (wqn (by simp only [zq]))) ?_
   refine fxo ?_ ?_;(go_big_quiet_step ((go_at_call 49;exact Calls.below_of (HF1.out _)));(try simp only [zq]);exact wqn rfl)
   refine fxo ?_ ?_;(go_big_quiet_step ((go_at_call 54;exact Calls.below_of (HM.out _)));(try simp only [zq]);exact wqn rfl)
   iterate 2 (refine fxo ?_ ?_;(go_big_quiet_step (fail);(try simp only [zq]);exact wqn rfl))
   refine fxs (by rfl) ?_
   refine fxo ?_ ?_;(go_big_quiet_step (fail);(try simp only [zq]);exact wqn rfl)
   exact fxn
  ·intro W' hK'
   have rd0:=At.keep hK' Ab8.out (oP _ _ (fun _=>(by show B2≠b8;omega)) (oN))
   refine fxo (wlg (by rfl) rfl rfl rd0 Tryz.underlying25 rfl (qI V_cw.out) (wqn (by simp only [zq]))) ?_
   iterate 2 (refine fxs (by kernel_rfl) ?_)
   iterate 2 (first|(refine fxo ?_ ?_;(go_big_quiet_step (fail);(try simp only [zq]);exact wqn rfl))|(refine fxs (by kernel_rfl) ?_))
   refine fxs (by kernel_rfl) ?_
   first|(refine fxo ?_ ?_;(go_big_quiet_step (fail);(try simp only [zq]);exact wqn rfl))|(refine fxs (by kernel_rfl) ?_)
   exact fxn
  ·exact oP _ _ (fun h=>Bool.noConfusion h) (oN)
  ·exact oP _ _ (fun _=>⟨AB2.out.lt,rfl,At.room AB2.out (qR V_cz.out) (qR V_cR.out)⟩) (oN)
  ·exact uno
  ·exact oP _ _ (stw rfl (qR V_cR.out) (oneR V_cR.out) (fun _=>rfl)) (oN)
  intro β wx2 E
  replace FR:=hid (FR.out.flow E (oP _ _ (fun _=>(by show B0≤B2;omega)) (oN)))
  replace AB0:=hid (At.flow E AB0.out (oP _ _ (fun _=>(by show B2≠B0;omega)) (oN)))
  replace AB1:=hid (At.flow E AB1.out (oP _ _ (fun _=>(by show B2≠B1;omega)) (oN)))
  replace AB2:=hid (show At wx2 B2 0 cR from E.atOld mms rfl AB2.out.lt)
  replace Ab8:=hid (At.flow E Ab8.out (oP _ _ (fun _=>(by show B2≠b8;omega)) (oN)))
  simp only [nP,zr,zq]
  replace FR0:=hid FR.out.le
  clear E
  go_wp2_with fail
  have hld:=AB2.out.read (P:=Tryz.prog) Tryz.underlying27 rfl (qR V_cR.out)
  refine bodyPost_ret (v:=.tuple #[.agg cR.toArray,.int .i64 code]) (by simp [results,Tryz.results44,asAddr,hld]) rfl ?_
  exact ⟨rfl,by rw [HB0.out] at FR;exact FR.out.below⟩
 ·have hSb:((S:Int)==0)=false:=by rw [beq_eq_false_iff_ne];omega
  have hmx:max S 1=S:=by omega
  have HB:=hid (show ExB c S o z from ⟨bp_up (show c.1.natAbs<BB^15 from HVC.out.num) (Nat.le_refl _),by rw [Int.natAbs_natCast];exact HVC.out.den,big_small (by omega) (by omega),big_small (by omega) (by omega),big_small (by omega) (by omega),Nat.mul_ne_zero HVC.out.pos hS0⟩)
  obtain ⟨cnm,V_cnm⟩:∃ q:List Value,Hid (q=iZ c.1):=⟨_,hid rfl⟩
  obtain ⟨cS,V_cS⟩:∃ q:List Value,Hid (q=iZ (S:Int)):=⟨_,hid rfl⟩
  obtain ⟨cop,V_cop⟩:∃ q:List Value,Hid (q=iZ (o:Int)):=⟨_,hid rfl⟩
  obtain ⟨cde,V_cde⟩:∃ q:List Value,Hid (q=iZ ((c.2:Int)*(S:Int))):=⟨_,hid rfl⟩
  obtain ⟨cx,V_cx⟩:∃ q:List Value,Hid (q=iZ (z*((c.2:Int)*(S:Int)))):=⟨_,hid rfl⟩
  obtain ⟨cy,V_cy⟩:∃ q:List Value,Hid (q=iZ (c.1*(o:Int))):=⟨_,hid rfl⟩
  obtain ⟨cN,V_cN⟩:∃ q:List Value,Hid (q=iZ (z*((c.2:Int)*(S:Int))+c.1*(o:Int))):=⟨_,hid rfl⟩
  obtain ⟨cdn,V_cdn⟩:∃ q:List Value,Hid (q=.bool false::lv 32 c.2):=⟨_,hid rfl⟩
  have hdn:cdn=iZ (c.2:Int):=by rw [V_cdn.out,iZ_nat]
  have b1:=bp_up (abs_bp HB.out.d HB.out.m) (show 15+2≤32 by omega)
  have b2:(z*((c.2:Int)*(S:Int))).natAbs<BB^30:=by rw [←Int.mul_assoc];exact bp_up (abs_bp (abs_bp HB.out.y HB.out.d) HB.out.m) (by omega)
  have b3:=bp_up (abs_bp HB.out.n HB.out.o) (show 15+2≤32 by omega)
  have b4:(z*((c.2:Int)*(S:Int))+c.1*(o:Int)).natAbs<BB^32:=by rw [ex_form];exact HB.out.num
  have HFS:=hid (rfromZ V_cS.out (by omega) (by omega))
  have HFO:=hid (rfromZ V_cop.out (by omega) (by omega))
  have HDE:=hid (rmulZ hdn V_cS.out V_cde.out (abs_lt HB.out.d (by omega)) (abs_lt HB.out.m (by omega)) b1)
  have HX:=hid (rmulZ V_cw.out V_cde.out V_cx.out (abs_lt HB.out.y (by omega)) b1 (bp_up b2 (by omega)))
  have HY:=hid (rmulZ V_cnm.out V_cop.out V_cy.out (abs_lt HB.out.n (by omega)) (abs_lt HB.out.o (by omega)) b3)
  have HN:=hid (raddZ V_cx.out V_cy.out V_cN.out (bp_up b2 (by omega)) b3 b4)
  have HM:=hid (rmakeQ (N:=z*((c.2:Int)*(S:Int))+c.1*(o:Int)) (D:=c.2*S) V_cN.out (show cde=iZ ((c.2*S:Nat):Int) by rw [V_cde.out,Int.natCast_mul]) (cR:=cR) (code:=code) (by rw [HRC.out.1,HXR.out,hmx,ex_form]) (by rw [HRC.out.2,HXR.out,hmx,ex_form]) b4 HB.out.den HB.out.pos)
  clear hmx hS0 hdn b1 b2 b3 b4
  go_upto_region 4 with fail
  have AB0_n:=hid (AB0.out.num V_cc.out V_cnm.out)
  have AB0_d:=hid (AB0.out.den V_cc.out V_cdn.out)
  refine wfn [⟨true,8,9,9,0,0,25,39,cde,0,cde,[]⟩] [(34,.pointer (some ⟨B0,33,none⟩)),(35,.agg cdn.toArray),(36,.int .i64 (S:Int)),(37,.agg cS.toArray),(38,.tuple #[.agg cde.toArray,.int .i64 0]),(33,.tuple #[.agg cde.toArray,.int .i64 0]),(39,.agg cde.toArray),(40,.int .i64 0),(10,.int .i64 0)] _ (by simp only [zz4,zz5,zq];rfl) (by kernel_rfl) (by kernel_rfl) rfl ?_ ?_ ?_ ?_
  ·intro W' hW'
   have rd0:=AB0_d.out.below hW'
   refine fxo ?_ ?_;(go_big_quiet_step (fail);(try simp only [zq]);exact wqn rfl)
   refine fxo (wlg (by rfl) rfl rfl rd0 Tryz.underlying25 rfl (qI V_cdn.out) (wqn (by simp only [zq]))) ?_
   refine fxo ?_ ?_;(go_big_quiet_step (fail);(try simp only [zq]);exact wqn rfl)
   refine fxo ?_ ?_;(go_big_quiet_step ((go_at_call 49;exact Calls.below_of (HFS.out _)));(try simp only [zq]);exact wqn rfl)
   refine fxo ?_ ?_;(go_big_quiet_step ((go_at_call 80;exact Calls.below_of (HDE.out _)));(try simp only [zq]);exact wqn rfl)
   iterate 3 (refine fxo ?_ ?_;(go_big_quiet_step (fail);(try simp only [zq]);exact wqn rfl))
   iterate 2 (refine fxs (by rfl) ?_)
   refine fxo ?_ ?_;(go_big_quiet_step (fail);(try simp only [zq]);exact wqn rfl)
   exact fxn
  ·exact oP _ _ (Tryz.alI (qI V_cde.out)) (oN)
  ·exact oP _ _ (stw rfl (qI V_cde.out) (oneI V_cde.out) (fun _=>rfl)) (oN)
  intro β wx2 E
  replace FR:=hid (FR.out.fnw E rfl)
  obtain ⟨b9,hb9⟩:∃ b,b=β 8:=⟨_,rfl⟩
  have eb9:=E.atNew mms rfl
  simp only at eb9
  rw [←hb9] at eb9
  have lB0_b9:B0<b9:=by have h1:=eb9.1;have h2:=AB0.out.lt;omega
  have lB1_b9:B1<b9:=by have h1:=eb9.1;have h2:=AB1.out.lt;omega
  have lB2_b9:B2<b9:=by have h1:=eb9.1;have h2:=AB2.out.lt;omega
  have lb8_b9:b8<b9:=by have h1:=eb9.1;have h2:=Ab8.out.lt;omega
  have hZb9:B0≤b9:=by have h1:=eb9.1;have h2:=FR0.out;omega
  replace AB0:=hid (AB0.out.fnw E rfl)
  replace AB1:=hid (AB1.out.fnw E rfl)
  replace AB2:=hid (AB2.out.fnw E rfl)
  replace Ab8:=hid (Ab8.out.fnw E rfl)
  replace AB0_n:=hid (AB0_n.out.fnw E rfl)
  replace AB0_d:=hid (AB0_d.out.fnw E rfl)
  have Ab9:=hid eb9.2
  simp only [nP,zr,zq]
  rw [←hb9]
  replace FR0:=hid FR.out.le
  clear E eb9 hb9
  go_upto_region 5 with fail
  refine wfn [⟨true,6,11,7,0,0,25,45,cx,0,cx,[]⟩] [(42,.agg cw.toArray),(43,.agg cde.toArray),(44,.tuple #[.agg cx.toArray,.int .i64 0]),(41,.tuple #[.agg cx.toArray,.int .i64 0]),(45,.agg cx.toArray),(46,.int .i64 0),(12,.int .i64 0)] _ (by simp only [zz4,zz5,zq];rfl) (by kernel_rfl) (by kernel_rfl) rfl ?_ ?_ ?_ ?_
  ·intro W' hW'
   have rd0:=Ab8.out.below hW'
   have rd1:=Ab9.out.below hW'
   refine fxo (wlg (by rfl) rfl rfl rd0 Tryz.underlying25 rfl (qI V_cw.out) (wqn (by simp only [zq]))) ?_
   refine fxo (wlg (by rfl) rfl rfl rd1 Tryz.underlying25 rfl (qI V_cde.out) (wqn (by simp only [zq]))) ?_
   refine fxo ?_ ?_;(go_big_quiet_step ((go_at_call 80;exact Calls.below_of (HX.out _)));(try simp only [zq]);exact wqn rfl)
   iterate 3 (refine fxo ?_ ?_;(go_big_quiet_step (fail);(try simp only [zq]);exact wqn rfl))
   iterate 2 (refine fxs (by rfl) ?_)
   refine fxo ?_ ?_;(go_big_quiet_step (fail);(try simp only [zq]);exact wqn rfl)
   exact fxn
  ·exact oP _ _ (Tryz.alI (qI V_cx.out)) (oN)
  ·exact oP _ _ (stw rfl (qI V_cx.out) (oneI V_cx.out) (fun _=>rfl)) (oN)
  intro β wx3 E
  replace FR:=hid (FR.out.fnw E rfl)
  obtain ⟨b11,hb11⟩:∃ b,b=β 6:=⟨_,rfl⟩
  have eb11:=E.atNew mms rfl
  simp only at eb11
  rw [←hb11] at eb11
  have lB0_b11:B0<b11:=by have h1:=eb11.1;have h2:=AB0.out.lt;omega
  have lB1_b11:B1<b11:=by have h1:=eb11.1;have h2:=AB1.out.lt;omega
  have lB2_b11:B2<b11:=by have h1:=eb11.1;have h2:=AB2.out.lt;omega
  have lb8_b11:b8<b11:=by have h1:=eb11.1;have h2:=Ab8.out.lt;omega
  have lb9_b11:b9<b11:=by have h1:=eb11.1;have h2:=Ab9.out.lt;omega
  have hZb11:B0≤b11:=by have h1:=eb11.1;have h2:=FR0.out;omega
  replace AB0:=hid (AB0.out.fnw E rfl)
  replace AB1:=hid (AB1.out.fnw E rfl)
  replace AB2:=hid (AB2.out.fnw E rfl)
  clear Ab8
  replace AB0_n:=hid (AB0_n.out.fnw E rfl)
  replace AB0_d:=hid (AB0_d.out.fnw E rfl)
  replace Ab9:=hid (Ab9.out.fnw E rfl)
  have Ab11:=hid eb11.2
  simp only [nP,zr,zq]
  rw [←hb11]
  replace FR0:=hid FR.out.le
  clear E eb11 hb11
  go_upto_region 6 with fail
  refine wfn [⟨true,12,13,13,0,0,25,57,cy,0,cy,[]⟩] [(48,.pointer (some ⟨B0,0,none⟩)),(49,.agg cnm.toArray),(50,.pointer (some ⟨B1,1,none⟩)),(51,.int .i64 x.net),(52,.pointer (some ⟨B1,2,none⟩)),(53,.int .i64 x.flows),(54,.int .i64 (o:Int)),(55,.agg cop.toArray),(56,.tuple #[.agg cy.toArray,.int .i64 0]),(47,.tuple #[.agg cy.toArray,.int .i64 0]),(57,.agg cy.toArray),(58,.int .i64 0),(14,.int .i64 0)] _ (by simp only [zz4,zz5,zq];rfl) (by kernel_rfl) (by kernel_rfl) rfl ?_ ?_ ?_ ?_
  ·intro W' hW'
   have rd0:=AB0_n.out.below hW'
   have cl1:=cellB (k:=1) (v:=.int .i64 x.net) (AB1.out.below hW') (by rw [V_cb.out];rfl)
   have cl2:=cellB (k:=2) (v:=.int .i64 x.flows) (AB1.out.below hW') (by rw [V_cb.out];rfl)
   refine fxo ?_ ?_;(go_big_quiet_step (fail);(try simp only [zq]);exact wqn rfl)
   refine fxo (wlg (by rfl) rfl rfl rd0 Tryz.underlying25 rfl (qI V_cnm.out) (wqn (by simp only [zq]))) ?_
   refine fxo ?_ ?_;(go_big_quiet_step (fail);(try simp only [zq]);exact wqn rfl)
   refine fxo (wcg (by rfl) rfl rfl (fun W h=>by simp [loadVar,h,go_sem]) cl1 (wqn (by simp only [zq]))) ?_
   refine fxo ?_ ?_;(go_big_quiet_step (fail);(try simp only [zq]);exact wqn rfl)
   refine fxo (wcg (by rfl) rfl rfl (fun W h=>by simp [loadVar,h,go_sem]) cl2 (wqn (by simp only [zq]))) ?_
   refine fxo ?_ ?_;(go_big_quiet_step (fail);(try simp only [zq]);exact wqn rfl)
   refine fxo ?_ ?_;(go_big_quiet_step ((go_at_call 49;exact Calls.below_of (HFO.out _)));(try simp only [zq]);exact wqn rfl)
   refine fxo ?_ ?_;(go_big_quiet_step ((go_at_call 80;exact Calls.below_of (HY.out _)));(try simp only [zq]);exact wqn rfl)
   iterate 3 (refine fxo ?_ ?_;(go_big_quiet_step (fail);(try simp only [zq]);exact wqn rfl))
   iterate 2 (refine fxs (by rfl) ?_)
   refine fxo ?_ ?_;(go_big_quiet_step (fail);(try simp only [zq]);exact wqn rfl)
   exact fxn
  ·exact oP _ _ (Tryz.alI (qI V_cy.out)) (oN)
  ·exact oP _ _ (stw rfl (qI V_cy.out) (oneI V_cy.out) (fun _=>rfl)) (oN)
  intro β wx4 E
  replace FR:=hid (FR.out.fnw E rfl)
  obtain ⟨b13,hb13⟩:∃ b,b=β 12:=⟨_,rfl⟩
  have eb13:=E.atNew mms rfl
  simp only at eb13
  rw [←hb13] at eb13
  have lB0_b13:B0<b13:=by have h1:=eb13.1;have h2:=AB0.out.lt;omega
  have lB1_b13:B1<b13:=by have h1:=eb13.1;have h2:=AB1.out.lt;omega
  have lB2_b13:B2<b13:=by have h1:=eb13.1;have h2:=AB2.out.lt;omega
  have lb9_b13:b9<b13:=by have h1:=eb13.1;have h2:=Ab9.out.lt;omega
  have lb11_b13:b11<b13:=by have h1:=eb13.1;have h2:=Ab11.out.lt;omega
  have hZb13:B0≤b13:=by have h1:=eb13.1;have h2:=FR0.out;omega
  replace AB0:=hid (AB0.out.fnw E rfl)
  replace AB1:=hid (AB1.out.fnw E rfl)
  replace AB2:=hid (AB2.out.fnw E rfl)
  replace AB0_n:=hid (AB0_n.out.fnw E rfl)
  replace AB0_d:=hid (AB0_d.out.fnw E rfl)
  replace Ab9:=hid (Ab9.out.fnw E rfl)
  replace Ab11:=hid (Ab11.out.fnw E rfl)
  have Ab13:=hid eb13.2
  simp only [nP,zr,zq]
  rw [←hb13]
  replace FR0:=hid FR.out.le
  clear E eb13 hb13
  go_upto_region 7 with fail
  refine wfn [⟨true,6,15,7,0,0,25,63,cN,0,cN,[]⟩] [(60,.agg cx.toArray),(61,.agg cy.toArray),(62,.tuple #[.agg cN.toArray,.int .i64 0]),(59,.tuple #[.agg cN.toArray,.int .i64 0]),(63,.agg cN.toArray),(64,.int .i64 0),(16,.int .i64 0)] _ (by simp only [zz4,zz5,zq];rfl) (by kernel_rfl) (by kernel_rfl) rfl ?_ ?_ ?_ ?_
  ·intro W' hW'
   have rd0:=Ab11.out.below hW'
   have rd1:=Ab13.out.below hW'
   refine fxo (wlg (by rfl) rfl rfl rd0 Tryz.underlying25 rfl (qI V_cx.out) (wqn (by simp only [zq]))) ?_
   refine fxo (wlg (by rfl) rfl rfl rd1 Tryz.underlying25 rfl (qI V_cy.out) (wqn (by simp only [zq]))) ?_
   refine fxo ?_ ?_;(go_big_quiet_step ((go_at_call 56;exact Calls.below_of (HN.out _)));(try simp only [zq]);exact wqn rfl)
   iterate 3 (refine fxo ?_ ?_;(go_big_quiet_step (fail);(try simp only [zq]);exact wqn rfl))
   iterate 2 (refine fxs (by rfl) ?_)
   refine fxo ?_ ?_;(go_big_quiet_step (fail);(try simp only [zq]);exact wqn rfl)
   exact fxn
  ·exact oP _ _ (Tryz.alI (qI V_cN.out)) (oN)
  ·exact oP _ _ (stw rfl (qI V_cN.out) (oneI V_cN.out) (fun _=>rfl)) (oN)
  intro β wx5 E
  replace FR:=hid (FR.out.fnw E rfl)
  obtain ⟨b15,hb15⟩:∃ b,b=β 6:=⟨_,rfl⟩
  have eb15:=E.atNew mms rfl
  simp only at eb15
  rw [←hb15] at eb15
  have lB0_b15:B0<b15:=by have h1:=eb15.1;have h2:=AB0.out.lt;omega
  have lB1_b15:B1<b15:=by have h1:=eb15.1;have h2:=AB1.out.lt;omega
  have lB2_b15:B2<b15:=by have h1:=eb15.1;have h2:=AB2.out.lt;omega
  have lb9_b15:b9<b15:=by have h1:=eb15.1;have h2:=Ab9.out.lt;omega
  have lb11_b15:b11<b15:=by have h1:=eb15.1;have h2:=Ab11.out.lt;omega
  have lb13_b15:b13<b15:=by have h1:=eb15.1;have h2:=Ab13.out.lt;omega
  have hZb15:B0≤b15:=by have h1:=eb15.1;have h2:=FR0.out;omega
  replace AB0:=hid (AB0.out.fnw E rfl)
  replace AB1:=hid (AB1.out.fnw E rfl)
  replace AB2:=hid (AB2.out.fnw E rfl)
  replace AB0_n:=hid (AB0_n.out.fnw E rfl)
  replace AB0_d:=hid (AB0_d.out.fnw E rfl)
  replace Ab9:=hid (Ab9.out.fnw E rfl)
  replace Ab11:=hid (Ab11.out.fnw E rfl)
  replace Ab13:=hid (Ab13.out.fnw E rfl)
  have Ab15:=hid eb15.2
  simp only [nP,zr,zq]
  rw [←hb15]
  replace FR0:=hid FR.out.le
  clear E eb15 hb15
  go_upto_region 8 with fail
  refine qwf [⟨false,0,6,5,B2,0,27,68,cR,0,cR,[]⟩] [(65,.agg cN.toArray),(66,.agg cde.toArray),(67,.tuple #[.agg cR.toArray,.int .i64 code]),(68,.agg cR.toArray),(69,.int .i64 code),(7,.int .i64 code)] _ (by simp only [zz4,zz5,zq];rfl) (by kernel_rfl) (by kernel_rfl) ?_ ?_ ?_ ?_ ?_ ?_ ?_
  ·intro W' hW'
   have rd0:=Ab15.out.below hW'
   have rd1:=Ab9.out.below hW'
   refine fxo (wlg (by rfl) rfl rfl rd0 Tryz.underlying25 rfl (qI V_cN.out) (wqn (by simp only [zq]))) ?_
   refine fxo (wlg (by rfl) rfl rfl rd1 Tryz.underlying25 rfl (qI V_cde.out) (wqn (by simp only [zq]))) ?_
   refine fxo ?_ ?_;(go_big_quiet_step ((go_at_call 54;exact Calls.below_of (HM.out _)));(try simp only [zq]);exact wqn rfl)
   iterate 2 (refine fxo ?_ ?_;(go_big_quiet_step (fail);(try simp only [zq]);exact wqn rfl))
   refine fxs (by rfl) ?_
   refine fxo ?_ ?_;(go_big_quiet_step (fail);(try simp only [zq]);exact wqn rfl)
   exact fxn
  ·intro W' hK'
   have rd0:=At.keep hK' Ab15.out (oP _ _ (fun _=>(by show B2≠b15;omega)) (oN))
   have rd1:=At.keep hK' Ab9.out (oP _ _ (fun _=>(by show B2≠b9;omega)) (oN))
   refine fxo (wlg (by rfl) rfl rfl rd0 Tryz.underlying25 rfl (qI V_cN.out) (wqn (by simp only [zq]))) ?_
   refine fxo (wlg (by rfl) rfl rfl rd1 Tryz.underlying25 rfl (qI V_cde.out) (wqn (by simp only [zq]))) ?_
   refine fxs (by kernel_rfl) ?_
   iterate 2 (first|(refine fxo ?_ ?_;(go_big_quiet_step (fail);(try simp only [zq]);exact wqn rfl))|(refine fxs (by kernel_rfl) ?_))
   refine fxs (by kernel_rfl) ?_
   first|(refine fxo ?_ ?_;(go_big_quiet_step (fail);(try simp only [zq]);exact wqn rfl))|(refine fxs (by kernel_rfl) ?_)
   exact fxn
  ·exact oP _ _ (fun h=>Bool.noConfusion h) (oN)
  ·exact oP _ _ (fun _=>⟨AB2.out.lt,rfl,At.room AB2.out (qR V_cz.out) (qR V_cR.out)⟩) (oN)
  ·exact uno
  ·exact oP _ _ (stw rfl (qR V_cR.out) (oneR V_cR.out) (fun _=>rfl)) (oN)
  intro β wx6 E
  replace FR:=hid (FR.out.flow E (oP _ _ (fun _=>(by show B0≤B2;omega)) (oN)))
  replace AB0:=hid (At.flow E AB0.out (oP _ _ (fun _=>(by show B2≠B0;omega)) (oN)))
  replace AB1:=hid (At.flow E AB1.out (oP _ _ (fun _=>(by show B2≠B1;omega)) (oN)))
  replace AB2:=hid (show At wx6 B2 0 cR from E.atOld mms rfl AB2.out.lt)
  replace AB0_n:=hid (At.flow E AB0_n.out (oP _ _ (fun _=>(by show B2≠B0;omega)) (oN)))
  replace AB0_d:=hid (At.flow E AB0_d.out (oP _ _ (fun _=>(by show B2≠B0;omega)) (oN)))
  replace Ab9:=hid (At.flow E Ab9.out (oP _ _ (fun _=>(by show B2≠b9;omega)) (oN)))
  replace Ab11:=hid (At.flow E Ab11.out (oP _ _ (fun _=>(by show B2≠b11;omega)) (oN)))
  replace Ab13:=hid (At.flow E Ab13.out (oP _ _ (fun _=>(by show B2≠b13;omega)) (oN)))
  replace Ab15:=hid (At.flow E Ab15.out (oP _ _ (fun _=>(by show B2≠b15;omega)) (oN)))
  simp only [nP,zr,zq]
  replace FR0:=hid FR.out.le
  clear E
  go_wp2_with fail
  have hld:=AB2.out.read (P:=Tryz.prog) Tryz.underlying27 rfl (qR V_cR.out)
  refine bodyPost_ret (v:=.tuple #[.agg cR.toArray,.int .i64 code]) (by simp [results,Tryz.results44,asAddr,hld]) rfl ?_
  exact ⟨rfl,by rw [HB0.out] at FR;exact FR.out.below⟩
end Go.Proofs.YtmcekgapelanhaaGreat
