import Derived.Test.YtemoddmadfoaiaaGreatQrA
set_option linter.unusedVariables false
set_option linter.unusedSimpArgs false
set_option maxRecDepth 100000
set_option maxHeartbeats 8000000
namespace Go.Proofs.YtemoddmadfoaiaaGreat
open Go.RowKit Big
open Lib (hid)
theorem qqT {ca cb:List Value} {na nb:Bool} {a b:Nat} {z:Int} (hca:ca=.bool na::lv 32 a) (hcb:cb=.bool nb::lv 32 b) (hz:z=cmpZ (zI na a) (zI nb b)) (ha:a<BB^32) (hb:b<BB^32) (w:World) :
  CB 154 #[.agg ca.toArray,.agg cb.toArray] (.int .i64 z) w:=by
 have V_ca:=hid hca;have V_cb:=hid hcb;obtain ⟨ma,V_ma⟩:=nvx (lv 32 a);obtain ⟨mb,V_mb⟩:=nvx (lv 32 b);obtain ⟨s,hs⟩:=nqx (sgnI na a);obtain ⟨t,ht⟩:=nqx (sgnI nb b);obtain ⟨x,hx⟩:=nqx (cmpI a b);obtain ⟨n1,hn1⟩:=nqx (cs1 na a);obtain ⟨n2,hn2⟩:=nqx (cs1 nb b);have hsb:(s=-1∨s=0∨s=1)∧(t=-1∨t=0∨t=1)∧(x=-1∨x=0∨x=1):=⟨by rw [hs];exact qgS _ _,by rw [ht];exact qgS _ _,by rw [hx];exact qpQ _ _⟩;have HZ:=hid (show (s<t→z=-1)∧(t<s→z=1)∧(s=t→z=s*x) by rw [hz,hs,ht,hx];exact qpR na nb a b);have HS:=hid (qeP V_ca.out hs ha);have HT:=hid (qeP V_cb.out ht hb);have HPA:=hid (qbT V_ca.out V_ma.out hn1 ha);have HPB:=hid (qbT V_cb.out V_mb.out hn2 hb);have HX:=hid (And.intro hx (And.intro ha hb));clear hs ht hx ha hb hz hca hcb hn1 hn2;obtain ⟨B0,B1,w0,hw0,hB0,hB1,AB0,AB1,FR,FR0,HB0,hZB0,l01,hZB1⟩:=en2 w 25 25 (bxq ca) (bxq cb);go_enter Tryz.func154,Tryz.ntmps154
 go_upto_region 1 with fail
 rw [←hw0,←hB1,←hB0];clear hw0 hB0 hB1;refine wE [(11,aT ca),(12,iT s),(13,aT cb),(14,iT t),(5,iT s),(6,iT t)] (by simp only [zu];rfl) (by kernel_rfl) ?_ ?_
 ·intro W' hW';refine lhI AB0 hW' V_ca rfl<|fxo ?_<|lhI AB1 hW' V_cb rfl<|fxo (by go_big_quiet_step (exact qaA (HT.out _));exact wqn rfl)<|fo2 ?_ ?_<|fxn;all_goals (go_big_quiet_step (exact qaA (HS.out _));exact wqn rfl)
 intro β wx1 E;replace FR:=fnf FR E rfl;replace AB0:=fnh AB0 E rfl;replace AB1:=fnh AB1 E rfl;simp only [nP,zu];replace FR0:=hid FR.out.le;obtain ⟨hs,ht,hx⟩:=hsb;by_cases c1:s<t
 ·have HE:=hid (HZ.out.1 c1);have ne:s≠t:=by omega
  clear hs ht hx HS HT;go_wp2
  go_ret
  exact ⟨qaH HE.out.symm,qaY HB0 FR⟩
 ·by_cases c2:t<s
  ·have HE:=hid (HZ.out.2.1 c2);have ne:s≠t:=by omega
   clear hs ht hx HS HT;go_wp2
   go_ret
   exact ⟨qaH HE.out.symm,qaY HB0 FR⟩
  ·have hst:t=s:=by omega
   have HE:=hid (HZ.out.2.2 hst.symm);have wq:IntKind.i64.wrap (s*x)=s*x:=by rcases hs with rfl|rfl|rfl<;>rcases hx with rfl|rfl|rfl<;>exact IntWalk.i64_in _ (by omega)
   clear hs ht hx HS HT c1 c2;subst hst;go_upto_region 6 with fail
   refine wT [⟨true,5,8,7,0,0,140,25,ma,0,ma,[]⟩] [(22,aT ca),(23,.tuple #[.bool n1,aT ma]),(21,.tuple #[.bool n1,aT ma]),(24,.bool n1),(25,aT ma),(7,.bool n1)] (by simp only [zu];rfl) (by kernel_rfl) rfl ?_ ?_ ?_ ?_
   ·intro W' hW';refine lhI AB0 hW' V_ca rfl<|fo4 ?_ ?_ ?_ ?_<|fxs rfl<|fxo ?_<|fxs rfl<|fxn;all_goals (go_big_quiet_step (exact qaA (HPA.out _));exact wqn rfl)
   ·exact fP1 (Tryz.alG (qG V_ma.out))
   ·exact fP1 (sG V_ma (fun _=>rfl) rfl)
   intro β wx2 E;replace FR:=fnf FR E rfl;obtain ⟨b8,hb8,eb8⟩:=nwb E mms;have lB0_b8:B0<b8:=ltb AB0 eb8.1;have lB1_b8:B1<b8:=ltb AB1 eb8.1;have hZb8:B0≤b8:=Nat.le_trans FR0.out eb8.1;replace AB0:=fnh AB0 E rfl;replace AB1:=fnh AB1 E rfl;have Ab8:=hid eb8.2;simp only [nP,zu];rw [←hb8];replace FR0:=hid FR.out.le;clear E eb8 hb8;go_upto_region 7 with fail
   refine wT [⟨true,5,10,7,0,0,140,30,mb,0,mb,[]⟩] [(27,aT cb),(28,.tuple #[.bool n2,aT mb]),(26,.tuple #[.bool n2,aT mb]),(29,.bool n2),(30,aT mb),(9,.bool n2)] (by simp only [zu];rfl) (by kernel_rfl) rfl ?_ ?_ ?_ ?_
   ·intro W' hW';refine lhI AB1 hW' V_cb rfl<|fo4 ?_ ?_ ?_ ?_<|fxs rfl<|fxo ?_<|fxs rfl<|fxn;all_goals (go_big_quiet_step (exact qaA (HPB.out _));exact wqn rfl)
   ·exact fP1 (Tryz.alG (qG V_mb.out))
   ·exact fP1 (sG V_mb (fun _=>rfl) rfl)
   intro β wx3 E;replace FR:=fnf FR E rfl;obtain ⟨b10,hb10,eb10⟩:=nwb E mms;have lB0_b10:B0<b10:=ltb AB0 eb10.1;have lB1_b10:B1<b10:=ltb AB1 eb10.1;have lb8_b10:b8<b10:=ltb Ab8 eb10.1;have hZb10:B0≤b10:=Nat.le_trans FR0.out eb10.1;replace Ab8:=fnh Ab8 E rfl;have Ab10:=hid eb10.2;simp only [nP,zu];rw [←hb10];clear E eb10 hb10;have HC:=hid (qnK a b b8 0 b10 0 wx3 (by have:=Ab8.out;rwa [V_ma.out] at this) (by have:=Ab10.out;rwa [V_mb.out] at this) HX.out.2.1 HX.out.2.2);rw [←HX.out.1] at HC;go_wp2_with (go_at_call 165;refine HC.out.mono ?_;rintro e w' ⟨rfl,hbc⟩)
   go_ret
   exact ⟨qaH HE.out.symm,by rw [HB0.out] at FR;exact (FR.out.below.trans (hbc.mono FR.out.below.size))⟩
theorem jfW {ca cb cN cD:List Value} {na nb n:Bool} {pa qa pb qb v d:Nat} (h1:ca=rat na pa false qa) (h2:cb=rat nb pb false qb) (hN:cN=.bool n::lv 32 v) (hD:cD=.bool false::lv 32 d)
  (hv:v=pa*pb) (hd:d=qa*qb) (hn:n=cs1 (na != nb) v) (b1:pa<B480) (b2:qa<B480) (b3:pb<B480) (b4:qb<B480) (w:World) :
  CB 78 #[.agg ca.toArray,.agg cb.toArray] (.tuple #[.agg cN.toArray,.agg cD.toArray]) w:=by
 have V_ca:=hid h1;have V_cb:=hid h2;have V_cN:=hid hN;have V_cD:=hid hD;have u30:BB^30≤BB^32:=Nat.pow_le_pow_right qbK (by omega);have hvB:v<BB^30:=by rw [hv];exact qeZ b1 b3
 have hdB:d<BB^30:=by rw [hd];exact qeZ b2 b4
 obtain ⟨cna,V_cna⟩:=nvx (.bool na::lv 32 pa);obtain ⟨cda,V_cda⟩:=nvx (.bool false::lv 32 qa);obtain ⟨cnb,V_cnb⟩:=nvx (.bool nb::lv 32 pb);obtain ⟨cdb,V_cdb⟩:=nvx (.bool false::lv 32 qb);obtain ⟨cz,V_cz⟩:=nvx (.bool false::lv 32 0);have HPN:=hid (qhL V_cna.out V_cnb.out V_cN.out hv hn (qaG b1) (qaG b3) (by omega));have HPD:=hid (qhL V_cda.out V_cdb.out V_cD.out hd rfl (qaG b2) (qaG b4) (by omega));clear h1 h2 hN hD hv hd hn b1 b2 b3 b4 u30 hvB hdB;obtain ⟨B0,B1,B2,B3,w0,hw0,hB0,hB1,hB2,hB3,AB0,AB1,AB2,AB3,FR,FR0,HB0,hZB0,l01,hZB1,l12,hZB2,l23,hZB3⟩:=en4 w 27 27 25 25 (bxq ca) (bxq cb) (zQI V_cz) (zQI V_cz);unfold zero33 at hw0;go_enter Tryz.func78,Tryz.ntmps78
 go_upto_region 1 with fail
 rw [←hw0,←hB3,←hB2,←hB1,←hB0];clear hw0 hB0 hB1 hB2 hB3;have AB0_n:=hid (AB0.out.num V_ca.out V_cna.out);have AB0_d:=hid (AB0.out.den V_ca.out V_cda.out);have AB1_n:=hid (AB1.out.num V_cb.out V_cnb.out);have AB1_d:=hid (AB1.out.den V_cb.out V_cdb.out);refine wF [⟨false,0,4,10,B2,0,25,10,cN,0,cN,[]⟩,⟨false,0,5,11,B3,0,25,15,cD,0,cD,[]⟩] [(6,pT B0 0),(7,aT cna),(8,pT B1 0),(9,aT cnb),(10,aT cN),(11,pT B0 33),(12,aT cda),(13,pT B1 33),(14,aT cdb),(15,aT cD)] (by simp only [zu];rfl) (by kernel_rfl) ?_ ?_ (oP _ _ bnC (fP1 bnC)) ?_ ?_ ?_ ?_
 ·intro W' hW';refine fxo ?_<|lhI AB0_n hW' V_cna rfl<|fxo ?_<|lhI AB1_n hW' V_cnb rfl<|fo2 ?_ ?_<|lhI AB0_d hW' V_cda rfl<|fxo ?_<|lhI AB1_d hW' V_cdb rfl<|fxo (by go_big_quiet_step (exact qaA (HPD.out _));exact wqn rfl)<|fxs rfl<|fxs rfl<|fxn;all_goals (go_big_quiet_step (exact qaA (HPN.out _));exact wqn rfl)
 ·intro W' hK';have rd0:=At.keep hK' AB0_n.out (oP _ _ (fun _=>(by show B2≠B0;omega)) (oP _ _ (fun _=>(by show B3≠B0;omega)) (oN)));have rd1:=At.keep hK' AB1_n.out (oP _ _ (fun _=>(by show B2≠B1;omega)) (oP _ _ (fun _=>(by show B3≠B1;omega)) (oN)));have rd2:=At.keep hK' AB0_d.out (oP _ _ (fun _=>(by show B2≠B0;omega)) (oP _ _ (fun _=>(by show B3≠B0;omega)) (oN)));have rd3:=At.keep hK' AB1_d.out (oP _ _ (fun _=>(by show B2≠B1;omega)) (oP _ _ (fun _=>(by show B3≠B1;omega)) (oN)));refine fxi ?_<|ldI rd0 V_cna rfl<|fxi ?_<|ldI rd1 V_cnb rfl<|fxs (by kernel_rfl)<|fxi ?_<|ldI rd2 V_cda rfl<|fxi ?_<|ldI rd3 V_cdb rfl<|fxs (by kernel_rfl)<|fxs (by kernel_rfl)<|fxs (by kernel_rfl)<|fxn;all_goals (first|(refine .inr ?_;go_big_quiet_step (fail);exact wqn rfl)|exact .inl (by kernel_rfl))
 ·exact oP _ _ (fun _=>rmh AB2 (qI V_cz.out) (qI V_cN.out) rfl) (oP _ _ (fun _=>rmh AB3 (qI V_cz.out) (qI V_cD.out) rfl) (oN))
 ·intro q hq r hr hqn hrn e;simp only [List.mem_cons,List.not_mem_nil,or_false] at hq hr;rcases hq with rfl|rfl<;>rcases hr with rfl|rfl<;>first|rfl|(exact Bool.noConfusion hqn)|(exact Bool.noConfusion hrn)|(exfalso;simp only at e;omega)
 ·exact oP _ _ (stw rfl (qI V_cN.out) (qfH V_cN.out) (fun _=>rfl)) (oP _ _ (stw rfl (qI V_cD.out) (qfH V_cD.out) (fun _=>rfl)) (oN))
 intro β wx1 E;replace FR:=hid (FR.out.flow E (oP _ _ (fun _=>(by show B0≤B2;omega)) (oP _ _ (fun _=>(by show B0≤B3;omega)) (oN))));replace AB2:=aoh E AB2 mms;replace AB3:=aoh E AB3 (List.mem_cons_of_mem _ mms);simp only [nP,zu];go_wp2_with fail
 have hld0:=rdI AB2 V_cN;have hld1:=rdI AB3 V_cD;refine bodyPost_ret (v:=.tuple #[.agg cN.toArray,.agg cD.toArray]) (by simp [results,Tryz.results78,asAddr,hld0,hld1]) rfl ?_;exact ⟨rfl,qaY HB0 FR⟩
theorem jdK {ca cb cN cD cR:List Value} {na nb:Bool} {pa qa pb qb:Nat} {code:Int} (w:World) (h1:ca=rat na pa false qa) (h2:cb=rat nb pb false qb)
  (ha:∀ W,CB 106 #[.agg ca.toArray] (.bool true) W) (hb:∀ W,CB 106 #[.agg cb.toArray] (.bool true) W)
  (hC:∀ W,CB 78 #[.agg ca.toArray,.agg cb.toArray] (.tuple #[.agg cN.toArray,.agg cD.toArray]) W)
  (hMk:∀ W,CB 75 #[.agg cN.toArray,.agg cD.toArray] (.tuple #[.agg cR.toArray,.int .i64 code]) W) {rn:Bool} {rp rq:Nat} {rm:Bool} (hcR:cR=rat rn rp rm rq) :
  CB 77 #[.agg ca.toArray,.agg cb.toArray,.func (.func 78) #[] #[]] (.tuple #[.agg cR.toArray,.int .i64 code]) w:=by
 have V_ca:=hid h1;have V_cb:=hid h2;have V_cR:=hid hcR;obtain ⟨cz,V_cz⟩:=nvx (rat false 0 false 0);have HA:=hid ha;have HB:=hid hb;have HC:=hid hC;have HK:=hid hMk;clear h1 h2 ha hb hC hMk hcR;obtain ⟨B0,B1,B2,w0,hw0,hB0,hB1,hB2,AB0,AB1,AB2,FR,FR0,HB0,hZB0,l01,hZB1,l12,hZB2⟩:=en3 w 27 27 27 (bxq ca) (bxq cb) (zQR V_cz);go_enter Tryz.func77,Tryz.ntmps77
 go_upto_region 1 with fail
 rw [←hw0,←hB2,←hB1,←hB0];clear hw0 hB0 hB1 hB2;refine wE [(8,aT ca),(9,bT),(10,bF),(11,bF),(12,aT cb),(13,bT),(14,bF),(15,bF)] (by simp only [zu];rfl) (by kernel_rfl) ?_ ?_
 ·intro W' hW';refine lhR AB0 hW' V_ca rfl<|fo3 ?_ ?_ ?_<|lhR AB1 hW' V_cb rfl<|fxo (by go_big_quiet_step (exact qaA (HB.out _));exact wqn rfl)<|fo2 ?_ ?_<|fxn;all_goals (go_big_quiet_step (exact qaA (HA.out _));exact wqn rfl)
 intro β wx1 E;replace FR:=fnf FR E rfl;replace AB0:=fnh AB0 E rfl;replace AB1:=fnh AB1 E rfl;replace AB2:=fnh AB2 E rfl;simp only [nP,zu];go_upto_region 3 with fail
 refine wF [⟨false,0,6,9,B2,0,27,24,cR,0,cR,[]⟩] [(17,.func (.func 78) #[] #[]),(18,aT ca),(19,aT cb),(20,.tuple #[aT cN,aT cD]),(21,aT cN),(22,aT cD),(23,.tuple #[aT cR,iT code]),(24,aT cR),(25,iT code),(7,iT code)] (by simp only [zu];rfl) (by kernel_rfl) ?_ ?_ (fP1 bnC) ?_ uno ?_ ?_
 ·intro W' hW';refine fxo ?_<|lhR AB0 hW' V_ca rfl<|lhR AB1 hW' V_cb rfl<|fo3 ?_ ?_ ?_<|fxo (by go_big_quiet_step (exact qaA (HK.out _));exact wqn rfl)<|fo2 ?_ ?_<|fxs rfl<|fxo ?_<|fxn;all_goals (go_big_quiet_step (exact qaA (HC.out _));exact wqn rfl)
 ·intro W' hK';have rd0:=akh AB0 hK' (by omega);have rd1:=akh AB1 hK' (by omega);refine fxi ?_<|ldR rd0 V_ca rfl<|ldR rd1 V_cb rfl<|fxs (by kernel_rfl)<|fxi ?_<|fxi ?_<|fxs (by kernel_rfl)<|fxi ?_<|fxi ?_<|fxs (by kernel_rfl)<|fxi ?_<|fxn;all_goals (first|(refine .inr ?_;go_big_quiet_step (fail);exact wqn rfl)|exact .inl (by kernel_rfl))
 ·exact fP1 (fun _=>rmh AB2 (qR V_cz.out) (qR V_cR.out) rfl)
 ·exact fP1 (sR V_cR (fun _=>rfl) rfl)
 intro β wx2 E;replace FR:=ffh FR E (by omega);replace AB2:=aoh E AB2 mms;simp only [nP,zu];go_wp2_with fail
 have hld:=rdR AB2 V_cR;refine bodyPost_ret (v:=.tuple #[.agg cR.toArray,.int .i64 code]) (by simp [results,Tryz.results77,asAddr,hld]) rfl ?_;exact ⟨rfl,qaY HB0 FR⟩
theorem jfV {ca cb cR:List Value} {na nb:Bool} {pa qa pb qb:Nat} {code:Int} (w:World) (h1:ca=rat na pa false qa) (h2:cb=rat nb pb false qb) {rn:Bool} {rp rq:Nat} {rm:Bool} (hcR:cR=rat rn rp rm rq)
  (hC:∀ W,CB 77 #[.agg ca.toArray,.agg cb.toArray,.func (.func 78) #[] #[]] (.tuple #[.agg cR.toArray,.int .i64 code]) W) :
  CB 45 #[.agg ca.toArray,.agg cb.toArray] (.tuple #[.agg cR.toArray,.int .i64 code]) w:=by
 have V_ca:=hid h1;have V_cb:=hid h2;have V_cR:=hid hcR;obtain ⟨cz,V_cz⟩:=nvx (rat false 0 false 0);have HC:=hid hC;clear h1 h2 hC hcR;obtain ⟨B0,B1,B2,w0,hw0,hB0,hB1,hB2,AB0,AB1,AB2,FR,FR0,HB0,hZB0,l01,hZB1,l12,hZB2⟩:=en3 w 27 27 27 (bxq ca) (bxq cb) (zQR V_cz);go_enter Tryz.func45,Tryz.ntmps45
 go_upto_region 1 with fail
 rw [←hw0,←hB2,←hB1,←hB0];clear hw0 hB0 hB1 hB2;refine wF [⟨false,0,4,5,B2,0,27,9,cR,0,cR,[]⟩] [(6,aT ca),(7,aT cb),(8,.tuple #[aT cR,iT code]),(9,aT cR),(10,iT code),(5,iT code)] (by simp only [zu];rfl) (by kernel_rfl) ?_ ?_ (fP1 bnC) ?_ uno ?_ ?_
 ·intro W' hW';refine lhR AB0 hW' V_ca rfl<|lhR AB1 hW' V_cb rfl<|fo3 ?_ ?_ ?_<|fxs rfl<|fxo ?_<|fxn;all_goals (go_big_quiet_step (exact qaA (HC.out _));exact wqn rfl)
 ·intro W' hK';have rd0:=akh AB0 hK' (by omega);have rd1:=akh AB1 hK' (by omega);refine ldR rd0 V_ca rfl<|ldR rd1 V_cb rfl<|fxs (by kernel_rfl)<|fxi ?_<|fxi ?_<|fxs (by kernel_rfl)<|fxi ?_<|fxn;all_goals (first|(refine .inr ?_;go_big_quiet_step (fail);exact wqn rfl)|exact .inl (by kernel_rfl))
 ·exact fP1 (fun _=>rmh AB2 (qR V_cz.out) (qR V_cR.out) rfl)
 ·exact fP1 (sR V_cR (fun _=>rfl) rfl)
 intro β wx1 E;replace FR:=ffh FR E (by omega);replace AB2:=aoh E AB2 mms;simp only [nP,zu];go_wp2_with fail
 have hld:=rdR AB2 V_cR;refine bodyPost_ret (v:=.tuple #[.agg cR.toArray,.int .i64 code]) (by simp [results,Tryz.results45,asAddr,hld]) rfl ?_;exact ⟨rfl,qaY HB0 FR⟩
namespace Big
def mulQ (a b:Qn):Option Qn:=mkQ (a.1*b.1) (a.2*b.2)
end Big
theorem qxQ {a b:Qn} (ha:VQ a) (hb:VQ b):(a.1*b.1).natAbs<BB^32∧a.2*b.2<BB^32∧a.2*b.2≠0:=by
 have h1:=qhQ ha.num hb.num;have h2:=qhQ ha.den hb.den;rw [Int.natAbs_mul];exact ⟨b30 h1,b30 h2,Nat.mul_ne_zero ha.pos hb.pos⟩
theorem pmulQ {ca cb cR:List Value} {a b:Qn} {code:Int} (h1:ca=ratZ a.1 a.2) (h2:cb=ratZ b.1 b.2) (ha:VQ a) (hb:VQ b) (hR:cR=resR (mulQ a b)) (hc:code=resE (mulQ a b)) (w:World) :
  CB 45 #[.agg ca.toArray,.agg cb.toArray] (.tuple #[.agg cR.toArray,.int .i64 code]) w:=by
 obtain ⟨B1,B2,B3⟩:=qxQ ha hb;obtain ⟨cN,hN⟩:=nqx (iZ (a.1*b.1));obtain ⟨cD,hD⟩:=nqx (iZ ((a.2*b.2:Nat):Int))
 obtain ⟨rn,rp,rm,rq,hcr⟩:∃ rn rp rm rq,cR=rat rn rp rm rq:=by
  rw [hR];cases mulQ a b with
  | none=>exact ⟨_,_,_,_,rfl⟩
  | some r=>exact ⟨_,_,_,_,rfl⟩
 exact jfV w h1 h2 hcr fun W=>jdK W h1 h2 (qgL h1 ha) (qgL h2 hb)
  (fun W=>jfW h1 h2 hN (by rw [hD];unfold iZ;rw [Int.natAbs_natCast,decide_eq_false (Int.not_lt.2 (Int.natCast_nonneg _))]) (by rw [Int.natAbs_mul]) rfl (by rw [qiN,Int.natAbs_mul]) ha.num ha.den hb.num hb.den W)
  (fun W=>qxC hN hD hR hc B1 B2 B3 W) hcr
theorem jaZ {cr:List Value} {n m ok:Bool} {p q:Nat} {s:Int} {code:Int} (h:cr=rat n p m q) (hok:ok=decide (p<B480∧q<B480∧n=cs1 n p∧m=false∧q≠0∧Nat.gcd p q=1)) (hs:s=if ok=true then sgnI n p else 0) (hc:code=if ok=true then 0 else 20) (hp:p<BB^32) (hq:q<BB^32) (w:World) :
  CB 74 #[.agg cr.toArray] (.tuple #[.int .i64 s,.int .i64 code]) w:=by
 have V_cr:=hid h;obtain ⟨cn,V_cn⟩:=nvx (.bool n::lv 32 p);obtain ⟨cd,V_cd⟩:=nvx (.bool m::lv 32 q);have HV:=hid (qoR V_cr.out hok hp hq);have HP:=hid hp;clear h hok hp hq;obtain ⟨B0,w0,hw0,hB0,AB0,FR,FR0,HB0,hZB0⟩:=en1 w 27 (bxq cr);go_enter Tryz.func74,Tryz.ntmps74
 go_upto_region 1 with fail
 rw [←hw0,←hB0];clear hw0 hB0;have AB0_n:=hid (AB0.out.num V_cr.out V_cn.out)
 cases ok with
 | false =>
  subst hs hc;refine wE [(4,aT cr),(5,bF),(6,bT)] (by simp only [zu];rfl) (by kernel_rfl) ?_ ?_
  ·intro W' hW';refine lhR AB0 hW' V_cr rfl<|fo2 ?_ ?_<|fxn;all_goals (go_big_quiet_step (exact qaA (HV.out _));exact wqn rfl)
  intro β wx1 E;replace FR:=fnf FR E rfl;simp only [nP,zu];go_wp2
  go_ret2
  exact ⟨rfl,qaY HB0 FR⟩
 | true =>
  have HS:=hid (qeP V_cn.out (show s=sgnI n p by rw [hs];rfl) HP.out);clear hs;subst hc;refine wE [(4,aT cr),(5,bT),(6,bF)] (by simp only [zu];rfl) (by kernel_rfl) ?_ ?_
  ·intro W' hW';refine lhR AB0 hW' V_cr rfl<|fo2 ?_ ?_<|fxn;all_goals (go_big_quiet_step (exact qaA (HV.out _));exact wqn rfl)
  intro β wx1 E;replace FR:=fnf FR E rfl;replace AB0_n:=fnh AB0_n E rfl;simp only [nP,zu];go_upto_region 3 with fail
  refine wE [(7,pT B0 0),(8,aT cn),(9,iT s),(2,iT s),(3,iT 0)] (by simp only [zu];rfl) (by kernel_rfl) ?_ ?_
  ·intro W' hW';refine fxo ?_<|lhI AB0_n hW' V_cn rfl<|fo3 ?_ ?_ ?_<|fxn;all_goals (go_big_quiet_step (exact qaA (HS.out _));exact wqn rfl)
  intro β wx2 E;replace FR:=fnf FR E rfl;simp only [nP,zu];go_wp2
  go_ret2
  exact ⟨rfl,qaY HB0 FR⟩
theorem jgT {ca cb:List Value} {na nb:Bool} {pa qa pb qb:Nat} {z:Int} (h1:ca=rat na pa false qa) (h2:cb=rat nb pb false qb)
  (ha:∀ W,CB 106 #[.agg ca.toArray] (.bool true) W) (hb:∀ W,CB 106 #[.agg cb.toArray] (.bool true) W)
  (hz:z=cmpZ (zI (cs1 na (pa*qb)) (pa*qb)) (zI (cs1 nb (pb*qa)) (pb*qa))) (b1:pa<B480) (b2:qa<B480) (b3:pb<B480) (b4:qb<B480) (w:World) :
  CB 124 #[.agg ca.toArray,.agg cb.toArray] (.tuple #[.int .i64 z,.int .i64 0]) w:=by
 have V_ca:=hid h1;have V_cb:=hid h2;obtain ⟨x,hx⟩:=nqx (pa*qb);obtain ⟨y,hy⟩:=nqx (pb*qa);rw [←hx,←hy] at hz;obtain ⟨nx,hnx⟩:=nqx (cs1 na x);obtain ⟨ny,hny⟩:=nqx (cs1 nb y);rw [←hnx,←hny] at hz;have u30:BB^30≤BB^32:=Nat.pow_le_pow_right qbK (by omega);have hxB:x<BB^30:=by rw [hx];exact qeZ b1 b4
 have hyB:y<BB^30:=by rw [hy];exact qeZ b3 b2
 obtain ⟨cna,V_cna⟩:=nvx (.bool na::lv 32 pa);obtain ⟨cda,V_cda⟩:=nvx (.bool false::lv 32 qa);obtain ⟨cnb,V_cnb⟩:=nvx (.bool nb::lv 32 pb);obtain ⟨cdb,V_cdb⟩:=nvx (.bool false::lv 32 qb);obtain ⟨cx,V_cx⟩:=nvx (.bool nx::lv 32 x);obtain ⟨cy,V_cy⟩:=nvx (.bool ny::lv 32 y);have HA:=hid ha;have HB:=hid hb;have HPX:=hid (qhL V_cna.out V_cdb.out V_cx.out hx (by rw [hnx];cases na<;>rfl) (qaG b1) (qaG b4) (by omega));have HPY:=hid (qhL V_cnb.out V_cda.out V_cy.out hy (by rw [hny];cases nb<;>rfl) (qaG b3) (qaG b2) (by omega));have HZ:=hid (qqT V_cx.out V_cy.out hz (by omega) (by omega));clear h1 h2 ha hb hz hx hy hnx hny b1 b2 b3 b4 u30 hxB hyB;obtain ⟨B0,B1,w0,hw0,hB0,hB1,AB0,AB1,FR,FR0,HB0,hZB0,l01,hZB1⟩:=en2 w 27 27 (bxq ca) (bxq cb);go_enter Tryz.func124,Tryz.ntmps124
 go_upto_region 1 with fail
 rw [←hw0,←hB1,←hB0];clear hw0 hB0 hB1;have AB0_n:=hid (AB0.out.num V_ca.out V_cna.out);have AB0_d:=hid (AB0.out.den V_ca.out V_cda.out);have AB1_n:=hid (AB1.out.num V_cb.out V_cnb.out);have AB1_d:=hid (AB1.out.den V_cb.out V_cdb.out);refine wE [(6,aT ca),(7,bT),(8,bF),(9,bF),(10,aT cb),(11,bT),(12,bF),(13,bF)] (by simp only [zu];rfl) (by kernel_rfl) ?_ ?_
 ·intro W' hW';refine lhR AB0 hW' V_ca rfl<|fo3 ?_ ?_ ?_<|lhR AB1 hW' V_cb rfl<|fxo (by go_big_quiet_step (exact qaA (HB.out _));exact wqn rfl)<|fo2 ?_ ?_<|fxn;all_goals (go_big_quiet_step (exact qaA (HA.out _));exact wqn rfl)
 intro β wx1 E;replace FR:=fnf FR E rfl;replace AB0_n:=fnh AB0_n E rfl;replace AB0_d:=fnh AB0_d E rfl;replace AB1_n:=fnh AB1_n E rfl;replace AB1_d:=fnh AB1_d E rfl;simp only [nP,zu];go_upto_region 3 with fail
 refine wE [(14,pT B0 0),(15,aT cna),(16,pT B1 33),(17,aT cdb),(18,aT cx),(19,pT B1 0),(20,aT cnb),(21,pT B0 33),(22,aT cda),(23,aT cy),(24,iT z),(4,iT z),(5,iT 0)] (by simp only [zu];rfl) (by kernel_rfl) ?_ ?_
 ·intro W' hW';refine fxo ?_<|lhI AB0_n hW' V_cna rfl<|fxo ?_<|lhI AB1_d hW' V_cdb rfl<|fo2 ?_ ?_<|lhI AB1_n hW' V_cnb rfl<|fxo ?_<|lhI AB0_d hW' V_cda rfl<|fxo (by go_big_quiet_step (exact qaA (HPY.out _));exact wqn rfl)<|fxo (by go_big_quiet_step (exact qaA (HZ.out _));exact wqn rfl)<|fo2 ?_ ?_<|fxn;all_goals (go_big_quiet_step (exact qaA (HPX.out _));exact wqn rfl)
 intro β wx2 E;replace FR:=fnf FR E rfl;simp only [nP,zu];go_wp2
 go_ret2
 exact ⟨rfl,qaY HB0 FR⟩
theorem jhP {ca cb:List Value} {a b:Qn} {z:Int} (h1:ca=ratZ a.1 a.2) (h2:cb=ratZ b.1 b.2) (ha:VQ a) (hb:VQ b) (hz:z=cmpZ (a.1*b.2) (b.1*a.2)) (w:World) :
  CB 124 #[.agg ca.toArray,.agg cb.toArray] (.tuple #[.int .i64 z,.int .i64 0]) w :=
 jgT h1 h2 (qgL h1 ha) (qgL h2 hb) (by
  rw [hz];have e:=(qmA (a:=a) (b:=b) true).1;have f:=(qmA (a:=b) (b:=a) true).1;rw [e,f]) ha.num ha.den hb.num hb.den w
end Go.Proofs.YtemoddmadfoaiaaGreat
