import Derived.Test.YtemoddmadfoaiaaGreatBkJ
set_option linter.unusedVariables false
set_option linter.unusedSimpArgs false
set_option maxRecDepth 100000
set_option maxHeartbeats 8000000
namespace Go.Proofs.YtemoddmadfoaiaaGreat
open Go.RowKit Big
open Lib (hid)
theorem qwI {ca cb cg:List Value} {na nb:Bool} {a b G:Nat} (h1:ca=.bool na::lv 32 a) (h2:cb=.bool nb::lv 32 b) (hg:cg=.bool false::lv 32 G) (hG:G=Nat.gcd a b) (ha:a<BB^32) (hb:b<BB^32) (w:World) :
  CB 108 #[.agg ca.toArray,.agg cb.toArray] (.agg cg.toArray) w:=by
 have V_ca:=hid h1;have V_cb:=hid h2;have V_cg:=hid hg;obtain ⟨sa,hsa⟩:=nqx (cs1 na a);obtain ⟨sb,hsb⟩:=nqx (cs1 nb b);obtain ⟨ma,V_ma⟩:=nvx (lv 32 a);obtain ⟨mb,V_mb⟩:=nvx (lv 32 b);obtain ⟨cz,V_cz⟩:=nvx (lv 32 0);obtain ⟨cy,V_cy⟩:=nvx (.bool false::lv 32 0);have HSA:=hid (qbR V_ca.out V_ma.out hsa ha);have HSB:=hid (qbR V_cb.out V_mb.out hsb hb);have HA:=hid (And.intro ha (And.intro hb hG));have HGB:=hid (show G<BB^32 by rw [hG];exact qkM ha hb);clear h1 h2 hg hG ha hb hsa hsb;obtain ⟨B0,B1,B2,w0,hw0,hB0,hB1,hB2,AB0,AB1,AB2,FR,FR0,HB0,hZB0,l01,hZB1,l12,hZB2⟩:=en3 w 25 25 25 (bxq ca) (bxq cb) (zQI V_cy);unfold zero33 at hw0;go_enter Tryz.func108,Tryz.ntmps108
 go_upto_region 1 with fail
 rw [←hw0,←hB2,←hB1,←hB0];clear hw0 hB0 hB1 hB2;refine wT [⟨true,5,6,7,0,0,140,15,ma,0,ma,[]⟩] [(12,aT ca),(13,.tuple #[.bool sa,aT ma]),(11,.tuple #[.bool sa,aT ma]),(14,.bool sa),(15,aT ma),(5,.bool sa)] (by simp only [zu];rfl) (by kernel_rfl) rfl ?_ ?_ ?_ ?_
 ·intro W' hW';refine lhI AB0 hW' V_ca rfl<|fo4 ?_ ?_ ?_ ?_<|fxs rfl<|fxo ?_<|fxs rfl<|fxn;all_goals (go_big_quiet_step (exact qaA (HSA.out _));exact wqn rfl)
 ·exact fP1 (Tryz.alG (qG V_ma.out))
 ·exact fP1 (sG V_ma (fun _=>rfl) rfl)
 intro β wx1 E;replace FR:=fnf FR E rfl;obtain ⟨b6,hb6,eb6⟩:=nwb E mms;have lB0_b6:B0<b6:=ltb AB0 eb6.1;have lB1_b6:B1<b6:=ltb AB1 eb6.1;have lB2_b6:B2<b6:=ltb AB2 eb6.1;have hZb6:B0≤b6:=Nat.le_trans FR0.out eb6.1;replace AB0:=fnh AB0 E rfl;replace AB1:=fnh AB1 E rfl;replace AB2:=fnh AB2 E rfl;have Ab6:=hid eb6.2;simp only [nP,zu];rw [←hb6];replace FR0:=hid FR.out.le;clear E eb6 hb6;go_upto_region 2 with fail
 refine wT [⟨true,5,8,7,0,0,140,20,mb,0,mb,[]⟩] [(17,aT cb),(18,.tuple #[.bool sb,aT mb]),(16,.tuple #[.bool sb,aT mb]),(19,.bool sb),(20,aT mb),(7,.bool sb)] (by simp only [zu];rfl) (by kernel_rfl) rfl ?_ ?_ ?_ ?_
 ·intro W' hW';refine lhI AB1 hW' V_cb rfl<|fo4 ?_ ?_ ?_ ?_<|fxs rfl<|fxo ?_<|fxs rfl<|fxn;all_goals (go_big_quiet_step (exact qaA (HSB.out _));exact wqn rfl)
 ·exact fP1 (Tryz.alG (qG V_mb.out))
 ·exact fP1 (sG V_mb (fun _=>rfl) rfl)
 intro β wx2 E;replace FR:=fnf FR E rfl;obtain ⟨b8,hb8,eb8⟩:=nwb E mms;have lB0_b8:B0<b8:=ltb AB0 eb8.1;have lB1_b8:B1<b8:=ltb AB1 eb8.1;have lB2_b8:B2<b8:=ltb AB2 eb8.1;have lb6_b8:b6<b8:=ltb Ab6 eb8.1;have hZb8:B0≤b8:=Nat.le_trans FR0.out eb8.1;clear AB0;clear AB1;replace AB2:=fnh AB2 E rfl;replace Ab6:=fnh Ab6 E rfl;have Ab8:=hid eb8.2;simp only [nP,zu];rw [←hb8];replace FR0:=hid FR.out.le;clear E eb8 hb8;go_wp2
 go_loopg [] b (fun m wr=>∃ vm vn,At wr b6 0 (lv 32 vm)∧At wr b8 0 (lv 32 vn)∧At wr B2 0 cy∧Fr B0 w wr∧vm<BB^32∧vn<BB^32∧G=Nat.gcd vm vn∧vn≤m)
 case atStart=>exact ⟨a,b,by have:=Ab6.out;rwa [V_ma.out] at this,by have:=Ab8.out;rwa [V_mb.out] at this,AB2.out,FR.out,HA.out.1,HA.out.2.1,HA.out.2.2,Nat.le_refl _⟩
 case round =>
  obtain ⟨vm,vn,h5,h6,h2,hf,hm,hn,hg,hle⟩:=hrel;obtain ⟨cm,V_cm⟩:=nvx (lv 32 vm);obtain ⟨cn,V_cn⟩:=nvx (lv 32 vn);replace Ab6:=hid (show At wr b6 0 cm by rw [V_cm.out];exact h5);replace Ab8:=hid (show At wr b8 0 cn by rw [V_cn.out];exact h6);replace AB2:=hid h2;replace FR:=hid hf;replace FR0:=hid FR.out.le;have HV:=hid (And.intro hm (And.intro hn hg));clear h5 h6 h2 hf hm hn hg;by_cases h0:vn=0
  ·have HE:=hid (show cm=lv 32 G by rw [HV.out.2.2,h0,Nat.gcd_zero_right];exact V_cm.out);have HZ:=hid (show false=!decide (vn=0) by simp [h0]);clear h0 hle;go_upto_region 3 with fail
   refine wE [(21,aT cn),(22,aT cz),(23,bF)] (by simp only [zu];rfl) (by kernel_rfl) ?_ ?_
   ·intro W' hW';exact lhG Ab8 hW' V_cn rfl<|fxb (qcA V_cz.out) rfl<|fxo (qcH (r:=false) (by rfl) rfl rfl rfl V_cn.out V_cz.out HV.out.2.1 qcJ HZ.out (wqn (by simp only [zq])))<|fxn
   intro β wx3 E;replace FR:=fnf FR E rfl;replace AB2:=fnh AB2 E rfl;replace Ab6:=fnh Ab6 E rfl;simp only [nP,zu];go_upto_region 6 with fail
   refine wF [⟨false,0,4,2,B2,0,25,31,cg,0,cg,[]⟩] [(30,aT cm),(31,aT cg)] (by simp only [zu];rfl) (by kernel_rfl) ?_ ?_ (fP1 bnC) ?_ uno ?_ ?_
   ·intro W' hW';refine lhG Ab6 hW' V_cm rfl<|fxo ?_<|fxs rfl<|fxn
    go_big_quiet_step (exact qaA (qeO (neg:=false) HE.out V_cg.out rfl HGB.out _));exact wqn rfl
   ·intro W' hK';have rd0:=akh Ab6 hK' (by omega);exact ldG rd0 V_cm rfl<|fxs (by kernel_rfl)<|fxs (by kernel_rfl)<|fxn
   ·exact fP1 (fun _=>rmh AB2 (qI V_cy.out) (qI V_cg.out) rfl)
   ·exact fP1 (sI V_cg (fun _=>rfl) rfl)
   intro β wx4 E;replace FR:=ffh FR E (by omega);replace AB2:=aoh E AB2 mms;simp only [nP,zu];go_wp2_with fail
   have hld:=rdI AB2 V_cg;refine bodyPost_ret (v:=.agg cg.toArray) (by simp [results,Tryz.results108,asAddr,hld]) rfl ?_;exact ⟨rfl,qbL HB0 FR⟩
  ·have HZ:=hid (show true=!decide (vn=0) by simp [h0]);have H0:=hid h0;clear h0;obtain ⟨cq,V_cq⟩:=nvx (lv 32 (vm / vn));obtain ⟨cr,V_cr⟩:=nvx (lv 32 (vm%vn));have HQ:=hid (fun (W:World) (p q:Nat) (hp:At W p 0 cm) (hq:At W q 0 cn)=>qqD W hp hq V_cm.out V_cn.out V_cq.out V_cr.out HV.out.1 HV.out.2.1 (Nat.pos_of_ne_zero H0.out));go_upto_region 3 with fail
   refine wE [(21,aT cn),(22,aT cz),(23,bT)] (by simp only [zu];rfl) (by kernel_rfl) ?_ ?_
   ·intro W' hW';exact lhG Ab8 hW' V_cn rfl<|fxb (qcA V_cz.out) rfl<|fxo (qcH (r:=true) (by rfl) rfl rfl rfl V_cn.out V_cz.out HV.out.2.1 qcJ HZ.out (wqn (by simp only [zq])))<|fxn
   intro β wx3 E;replace FR:=fnf FR E rfl;replace AB2:=fnh AB2 E rfl;replace Ab6:=fnh Ab6 E rfl;replace Ab8:=fnh Ab8 E rfl;simp only [nP,zu];replace FR0:=hid FR.out.le;go_upto_region 4 with fail
   refine wT [⟨true,4,9,6,0,0,140,26,cq,0,cq,[]⟩,⟨true,5,10,7,0,0,140,27,cr,0,cr,[]⟩] [(25,.tuple #[aT cq,aT cr]),(24,.tuple #[aT cq,aT cr]),(26,aT cq),(27,aT cr)] (by simp only [zu];rfl) (by kernel_rfl) rfl ?_ ?_ ?_ ?_
   ·intro W' hW';refine fo4 ?_ ?_ ?_ ?_<|fxs rfl<|fxs rfl<|fxs rfl<|fxs rfl<|fxn;all_goals (go_big_quiet_step (exact qaA (HQ.out _ _ _ ((Ab6.out.below hW').below (qbG _ _ _)) ((Ab8.out.below hW').below (qbG _ _ _))));exact wqn rfl)
   ·exact oP _ _ (Tryz.alG (qG V_cq.out)) (oP _ _ (Tryz.alG (qG V_cr.out)) (oN))
   ·exact oP _ _ (stw rfl (qG V_cq.out) (qpO V_cq.out) (fun _=>rfl)) (oP _ _ (stw rfl (qG V_cr.out) (qpO V_cr.out) (fun _=>rfl)) (oN))
   intro β wx4 E;replace FR:=fnf FR E rfl;obtain ⟨b9,hb9,eb9⟩:=nwb E mms;have lB2_b9:B2<b9:=ltb AB2 eb9.1;have lb6_b9:b6<b9:=ltb Ab6 eb9.1;have lb8_b9:b8<b9:=ltb Ab8 eb9.1;have hZb9:B0≤b9:=Nat.le_trans FR0.out eb9.1;obtain ⟨b10,hb10,eb10⟩:=nwb E (List.mem_cons_of_mem _ mms);have lB2_b10:B2<b10:=ltb AB2 eb10.1;have lb6_b10:b6<b10:=ltb Ab6 eb10.1;have lb8_b10:b8<b10:=ltb Ab8 eb10.1;have hZb10:B0≤b10:=Nat.le_trans FR0.out eb10.1;have nb9_b10:b9≠b10:=fun e=>absurd (E.apart _ mms _ (List.mem_cons_of_mem _ mms) rfl rfl (by rw [hb9,hb10] at e;exact e)) (show ¬(4:Nat)=5 by decide)
   replace AB2:=fnh AB2 E rfl;replace Ab6:=fnh Ab6 E rfl;replace Ab8:=fnh Ab8 E rfl;have Ab10:=hid eb10.2;simp only [nP,zu];rw [←hb9];rw [←hb10];clear E eb9 hb9 eb10 hb10;go_upto_region 5 with fail
   refine wF [⟨false,0,6,2,b6,0,140,28,cn,0,cn,[]⟩,⟨false,0,8,3,b8,0,140,29,cr,0,cr,[]⟩] [(28,aT cn),(29,aT cr)] (by simp only [zu];rfl) (by kernel_rfl) ?_ ?_ (oP _ _ bnC (fP1 bnC)) ?_ ?_ ?_ ?_
   ·intro W' hW';exact lhG Ab8 hW' V_cn rfl<|lhG Ab10 hW' V_cr rfl<|fxs rfl<|fxs rfl<|fxn
   ·intro W' hK';have rd1:=At.keep hK' Ab10.out (oP _ _ (fun _=>(by show b6≠b10;omega)) (oP _ _ (fun _=>(by show b8≠b10;omega)) (oN)));exact fxs (by kernel_rfl)<|ldG rd1 V_cr rfl<|fxs (by kernel_rfl)<|fxs (by kernel_rfl)<|fxn
   ·exact oP _ _ (fun _=>rmh Ab6 (qG V_cm.out) (qG V_cn.out) rfl) (oP _ _ (fun _=>rmh Ab8 (qG V_cn.out) (qG V_cr.out) rfl) (oN))
   ·intro q hq r hr hqn hrn e;simp only [List.mem_cons,List.not_mem_nil,or_false] at hq hr;rcases hq with rfl|rfl<;>rcases hr with rfl|rfl<;>first|rfl|(exact Bool.noConfusion hqn)|(exact Bool.noConfusion hrn)|(exfalso;simp only at e;omega)
   ·exact oP _ _ (stw rfl (qG V_cn.out) (qpO V_cn.out) (fun _=>rfl)) (oP _ _ (stw rfl (qG V_cr.out) (qpO V_cr.out) (fun _=>rfl)) (oN))
   intro β wx5 E;replace FR:=hid (FR.out.flow E (oP _ _ (fun _=>(by show B0≤b6;omega)) (oP _ _ (fun _=>(by show B0≤b8;omega)) (oN))));replace AB2:=hid (At.flow E AB2.out (oP _ _ (fun _=>(by show b6≠B2;omega)) (oP _ _ (fun _=>(by show b8≠B2;omega)) (oN))));replace Ab6:=aoh E Ab6 mms;replace Ab8:=aoh E Ab8 (List.mem_cons_of_mem _ mms);simp only [nP,zu];go_wp2_with fail
   go_roundg (gk - 1)
   case measure=>have:=H0.out;omega
   case rel =>
    have hlt:vm%vn<vn:=Nat.mod_lt _ (Nat.pos_of_ne_zero H0.out);exact ⟨vn,vm%vn,by have:=Ab6.out;rwa [V_cn.out] at this,by have:=Ab8.out;rwa [V_cr.out] at this,AB2.out,FR.out,HV.out.2.1,Nat.lt_trans hlt HV.out.2.1,by rw [HV.out.2.2,Nat.gcd_comm,Nat.gcd_rec vn vm,Nat.gcd_comm],by omega⟩
theorem qhM {ca cb cq cr:List Value} {na nb s:Bool} {a b:Nat} (h1:ca=.bool na::lv 32 a) (h2:cb=.bool nb::lv 32 b) (hq:cq=.bool s::lv 32 (a / b)) (hr:cr=.bool false::lv 32 (a%b)) (hs:s=cs1 (na != nb) (a / b)) (hx:na=false∨a%b=0) (ha:a<BB^32) (hb:b<BB^32) (h0:b≠0) (w:World) :
  CB 146 #[.agg ca.toArray,.agg cb.toArray] (.tuple #[.agg cq.toArray,.agg cr.toArray,.int .i64 0]) w:=by
 have V_ca:=hid h1;have V_cb:=hid h2;have V_cq:=hid hq;have V_cr:=hid hr;obtain ⟨sa,hsa⟩:=nqx (cs1 na a);obtain ⟨sb,hsb⟩:=nqx (cs1 nb b);have hqB:a / b<BB^32:=Nat.lt_of_le_of_lt (Nat.div_le_self _ _) ha;have hrB:a%b<BB^32:=Nat.lt_of_le_of_lt (Nat.mod_le _ _) ha;obtain ⟨ma,V_ma⟩:=nvx (lv 32 a);obtain ⟨mb,V_mb⟩:=nvx (lv 32 b);obtain ⟨mq,V_mq⟩:=nvx (lv 32 (a / b));obtain ⟨mr,V_mr⟩:=nvx (lv 32 (a%b));obtain ⟨cz,V_cz⟩:=nvx (lv 32 0);obtain ⟨cy,V_cy⟩:=nvx (.bool false::lv 32 0);have HSA:=hid (qbR V_ca.out V_ma.out hsa ha);have HSB:=hid (qbR V_cb.out V_mb.out hsb hb)
 have HM1:=hid (fun (t:Bool) (ht:t=(sa != sb))=>qeO (neg:=t) V_mq.out V_cq.out (show s=cs1 t (a / b) by
  rw [ht,hs,hsa,hsb];unfold cs1;by_cases hz:a=0
  ·subst hz;simp
  ·simp [hz,h0]) hqB)
 have HM2:=hid (qeO (neg:=false) V_mr.out V_cr.out rfl hrB);have HQ:=hid (fun (W:World) (p q:Nat) (hp:At W p 0 ma) (hq:At W q 0 mb)=>qqD W hp hq V_ma.out V_mb.out V_mq.out V_mr.out ha hb (Nat.pos_of_ne_zero h0))
 have HN:=hid (show sa=true→false=!decide (a%b=0) by
  intro h;rcases hx with hx|hx
  ·rw [hsa,hx] at h;simp [cs1] at h
  ·simp [hx])
 have HB:=hid (And.intro hb hrB);have HZ:=hid (show false=decide (b=0) by simp [h0]);clear h1 h2 hq hr hs hx ha hb h0 hsa hsb hqB hrB;obtain ⟨B0,B1,B2,B3,w0,hw0,hB0,hB1,hB2,hB3,AB0,AB1,AB2,AB3,FR,FR0,HB0,hZB0,l01,hZB1,l12,hZB2,l23,hZB3⟩:=en4 w 25 25 25 25 (bxq ca) (bxq cb) (zQI V_cy) (zQI V_cy);unfold zero33 at hw0;go_enter Tryz.func146,Tryz.ntmps146
 go_upto_region 1 with fail
 rw [←hw0,←hB3,←hB2,←hB1,←hB0];clear hw0 hB0 hB1 hB2 hB3;refine wT [⟨true,5,8,7,0,0,140,17,ma,0,ma,[]⟩] [(14,aT ca),(15,.tuple #[.bool sa,aT ma]),(13,.tuple #[.bool sa,aT ma]),(16,.bool sa),(17,aT ma),(7,.bool sa)] (by simp only [zu];rfl) (by kernel_rfl) rfl ?_ ?_ ?_ ?_
 ·intro W' hW';refine lhI AB0 hW' V_ca rfl<|fo4 ?_ ?_ ?_ ?_<|fxs rfl<|fxo ?_<|fxs rfl<|fxn;all_goals (go_big_quiet_step (exact qaA (HSA.out _));exact wqn rfl)
 ·exact fP1 (Tryz.alG (qG V_ma.out))
 ·exact fP1 (sG V_ma (fun _=>rfl) rfl)
 intro β wx1 E;replace FR:=fnf FR E rfl;obtain ⟨b8,hb8,eb8⟩:=nwb E mms;have lB0_b8:B0<b8:=ltb AB0 eb8.1;have lB1_b8:B1<b8:=ltb AB1 eb8.1;have lB2_b8:B2<b8:=ltb AB2 eb8.1;have lB3_b8:B3<b8:=ltb AB3 eb8.1;have hZb8:B0≤b8:=Nat.le_trans FR0.out eb8.1;clear AB0;replace AB1:=fnh AB1 E rfl;replace AB2:=fnh AB2 E rfl;replace AB3:=fnh AB3 E rfl;have Ab8:=hid eb8.2;simp only [nP,zu];rw [←hb8];replace FR0:=hid FR.out.le;clear E eb8 hb8;go_upto_region 2 with fail
 refine wT [⟨true,5,10,7,0,0,140,22,mb,0,mb,[]⟩] [(19,aT cb),(20,.tuple #[.bool sb,aT mb]),(18,.tuple #[.bool sb,aT mb]),(21,.bool sb),(22,aT mb),(9,.bool sb)] (by simp only [zu];rfl) (by kernel_rfl) rfl ?_ ?_ ?_ ?_
 ·intro W' hW';refine lhI AB1 hW' V_cb rfl<|fo4 ?_ ?_ ?_ ?_<|fxs rfl<|fxo ?_<|fxs rfl<|fxn;all_goals (go_big_quiet_step (exact qaA (HSB.out _));exact wqn rfl)
 ·exact fP1 (Tryz.alG (qG V_mb.out))
 ·exact fP1 (sG V_mb (fun _=>rfl) rfl)
 intro β wx2 E;replace FR:=fnf FR E rfl;obtain ⟨b10,hb10,eb10⟩:=nwb E mms;have lB1_b10:B1<b10:=ltb AB1 eb10.1;have lB2_b10:B2<b10:=ltb AB2 eb10.1;have lB3_b10:B3<b10:=ltb AB3 eb10.1;have lb8_b10:b8<b10:=ltb Ab8 eb10.1;have hZb10:B0≤b10:=Nat.le_trans FR0.out eb10.1;clear AB1;replace AB2:=fnh AB2 E rfl;replace AB3:=fnh AB3 E rfl;replace Ab8:=fnh Ab8 E rfl;have Ab10:=hid eb10.2;simp only [nP,zu];rw [←hb10];replace FR0:=hid FR.out.le;clear E eb10 hb10;go_upto_region 3 with fail
 refine wE [(23,aT mb),(24,aT cz),(25,bF)] (by simp only [zu];rfl) (by kernel_rfl) ?_ ?_
 ·intro W' hW';exact lhG Ab10 hW' V_mb rfl<|fxb (qcA V_cz.out) rfl<|fxo (qdT (r:=false) (by rfl) rfl rfl rfl V_mb.out V_cz.out HB.out.1 qcJ HZ.out (wqn (by simp only [zq])))<|fxn
 intro β wx3 E;replace FR:=fnf FR E rfl;replace AB2:=fnh AB2 E rfl;replace AB3:=fnh AB3 E rfl;replace Ab8:=fnh Ab8 E rfl;replace Ab10:=fnh Ab10 E rfl;simp only [nP,zu];replace FR0:=hid FR.out.le;go_upto_region 5 with fail
 refine wT [⟨true,4,11,6,0,0,140,30,mq,0,mq,[]⟩,⟨true,5,12,7,0,0,140,31,mr,0,mr,[]⟩] [(29,.tuple #[aT mq,aT mr]),(28,.tuple #[aT mq,aT mr]),(30,aT mq),(31,aT mr)] (by simp only [zu];rfl) (by kernel_rfl) rfl ?_ ?_ ?_ ?_
 ·intro W' hW';refine fo4 ?_ ?_ ?_ ?_<|fxs rfl<|fxs rfl<|fxs rfl<|fxs rfl<|fxn;all_goals (go_big_quiet_step (exact qaA (HQ.out _ _ _ ((Ab8.out.below hW').below (qbG _ _ _)) ((Ab10.out.below hW').below (qbG _ _ _))));exact wqn rfl)
 ·exact oP _ _ (Tryz.alG (qG V_mq.out)) (oP _ _ (Tryz.alG (qG V_mr.out)) (oN))
 ·exact oP _ _ (stw rfl (qG V_mq.out) (qpO V_mq.out) (fun _=>rfl)) (oP _ _ (stw rfl (qG V_mr.out) (qpO V_mr.out) (fun _=>rfl)) (oN))
 intro β wx4 E;replace FR:=fnf FR E rfl;obtain ⟨b11,hb11,eb11⟩:=nwb E mms;have lB2_b11:B2<b11:=ltb AB2 eb11.1;have lB3_b11:B3<b11:=ltb AB3 eb11.1;have lb8_b11:b8<b11:=ltb Ab8 eb11.1;have lb10_b11:b10<b11:=ltb Ab10 eb11.1;have hZb11:B0≤b11:=Nat.le_trans FR0.out eb11.1;obtain ⟨b12,hb12,eb12⟩:=nwb E (List.mem_cons_of_mem _ mms);have lB2_b12:B2<b12:=ltb AB2 eb12.1;have lB3_b12:B3<b12:=ltb AB3 eb12.1;have lb8_b12:b8<b12:=ltb Ab8 eb12.1;have lb10_b12:b10<b12:=ltb Ab10 eb12.1;have hZb12:B0≤b12:=Nat.le_trans FR0.out eb12.1;have nb11_b12:b11≠b12:=fun e=>absurd (E.apart _ mms _ (List.mem_cons_of_mem _ mms) rfl rfl (by rw [hb11,hb12] at e;exact e)) (show ¬(4:Nat)=5 by decide)
 replace AB2:=fnh AB2 E rfl;replace AB3:=fnh AB3 E rfl;have Ab11:=hid eb11.2;have Ab12:=hid eb12.2;simp only [nP,zu];rw [←hb11];rw [←hb12];clear E eb11 hb11 eb12 hb12;go_upto_region 6 with fail
 cases sa with
 | true =>
  have HNZ:=hid (HN.out rfl);refine wE [(32,bT),(33,bT),(34,aT mr),(35,aT cz),(36,bF),(37,bF)] (by simp only [zu];rfl) (by kernel_rfl) ?_ ?_
  ·intro W' hW';refine fo2 ?_ ?_<|lhG Ab12 hW' V_mr rfl<|fxo (qbO (by rfl) _ _ rfl _ rfl _ (qcA V_cz.out) (wqn (by simp only [zq])))<|fxo (qcH (r:=false) (by rfl) rfl rfl rfl V_mr.out V_cz.out HB.out.2 qcJ HNZ.out (wqn (by simp only [zq])))<|fxo ?_<|fxn;all_goals (go_big_quiet_step (fail);exact wqn rfl)
  intro β wx5 E;replace FR:=fnf FR E rfl;replace AB2:=fnh AB2 E rfl;replace AB3:=fnh AB3 E rfl;replace Ab11:=fnh Ab11 E rfl;replace Ab12:=fnh Ab12 E rfl;simp only [nP,zu];go_upto_region 9 with fail
  refine wF [⟨false,0,4,7,B2,0,25,49,cq,0,cq,[]⟩,⟨false,0,5,8,B3,0,25,51,cr,0,cr,[]⟩] [(45,bT),(46,.bool sb),(47,.bool (!sb)),(48,aT mq),(49,aT cq),(50,aT mr),(51,aT cr),(6,iT 0)] (by simp only [zu];rfl) (by kernel_rfl) ?_ ?_ (oP _ _ bnC (fP1 bnC)) ?_ ?_ ?_ ?_
  ·intro W' hW';refine fo3 ?_ ?_ ?_<|lhG Ab11 hW' V_mq rfl<|fxo ?_<|lhG Ab12 hW' V_mr rfl<|fxo (by go_big_quiet_step (exact qaA (HM2.out _));exact wqn rfl)<|fxs rfl<|fxs rfl<|fxo ?_<|fxn;all_goals (go_big_quiet_step (exact qaA (HM1.out (!sb) (by cases sb<;>rfl) _));exact wqn rfl)
  ·intro W' hK';have rd0:=At.keep hK' Ab11.out (oP _ _ (fun _=>(by show B2≠b11;omega)) (oP _ _ (fun _=>(by show B3≠b11;omega)) (oN)));have rd1:=At.keep hK' Ab12.out (oP _ _ (fun _=>(by show B2≠b12;omega)) (oP _ _ (fun _=>(by show B3≠b12;omega)) (oN)));refine fxi ?_<|fxi ?_<|fxi ?_<|ldG rd0 V_mq rfl<|fxs (by kernel_rfl)<|ldG rd1 V_mr rfl<|fxs (by kernel_rfl)<|fxs (by kernel_rfl)<|fxs (by kernel_rfl)<|fxi ?_<|fxn;all_goals (first|(refine .inr ?_;go_big_quiet_step (fail);exact wqn rfl)|exact .inl (by kernel_rfl))
  ·exact oP _ _ (fun _=>rmh AB2 (qI V_cy.out) (qI V_cq.out) rfl) (oP _ _ (fun _=>rmh AB3 (qI V_cy.out) (qI V_cr.out) rfl) (oN))
  ·intro q hq r hr hqn hrn e;simp only [List.mem_cons,List.not_mem_nil,or_false] at hq hr;rcases hq with rfl|rfl<;>rcases hr with rfl|rfl<;>first|rfl|(exact Bool.noConfusion hqn)|(exact Bool.noConfusion hrn)|(exfalso;simp only at e;omega)
  ·exact oP _ _ (stw rfl (qI V_cq.out) (qgF V_cq.out) (fun _=>rfl)) (oP _ _ (stw rfl (qI V_cr.out) (qgF V_cr.out) (fun _=>rfl)) (oN))
  intro β wx6 E;replace FR:=hid (FR.out.flow E (oP _ _ (fun _=>(by show B0≤B2;omega)) (oP _ _ (fun _=>(by show B0≤B3;omega)) (oN))));replace AB2:=aoh E AB2 mms;replace AB3:=aoh E AB3 (List.mem_cons_of_mem _ mms);simp only [nP,zu];go_wp2_with fail
  have hld0:=rdI AB2 V_cq;have hld1:=rdI AB3 V_cr;refine bodyPost_ret (v:=.tuple #[.agg cq.toArray,.agg cr.toArray,.int .i64 0]) (by simp [results,Tryz.results146,asAddr,hld0,hld1]) rfl ?_;exact ⟨rfl,qbL HB0 FR⟩
 | false =>
  refine wE [(32,bF),(33,bF),(34,undef),(35,undef),(36,undef),(37,bF)] (by simp only [zu];rfl) (by kernel_rfl) ?_ ?_
  ·intro W' hW';refine fo4 ?_ ?_ ?_ ?_<|fo2 ?_ ?_<|fxn;all_goals (go_big_quiet_step (fail);exact wqn rfl)
  intro β wx5 E;replace FR:=fnf FR E rfl;replace AB2:=fnh AB2 E rfl;replace AB3:=fnh AB3 E rfl;replace Ab11:=fnh Ab11 E rfl;replace Ab12:=fnh Ab12 E rfl;simp only [nP,zu];go_upto_region 9 with fail
  refine wF [⟨false,0,4,7,B2,0,25,49,cq,0,cq,[]⟩,⟨false,0,5,8,B3,0,25,51,cr,0,cr,[]⟩] [(45,bF),(46,.bool sb),(47,.bool sb),(48,aT mq),(49,aT cq),(50,aT mr),(51,aT cr),(6,iT 0)] (by simp only [zu];rfl) (by kernel_rfl) ?_ ?_ (oP _ _ bnC (fP1 bnC)) ?_ ?_ ?_ ?_
  ·intro W' hW';refine fo3 ?_ ?_ ?_<|lhG Ab11 hW' V_mq rfl<|fxo ?_<|lhG Ab12 hW' V_mr rfl<|fxo (by go_big_quiet_step (exact qaA (HM2.out _));exact wqn rfl)<|fxs rfl<|fxs rfl<|fxo ?_<|fxn;all_goals (go_big_quiet_step (exact qaA (HM1.out sb (by cases sb<;>rfl) _));exact wqn rfl)
  ·intro W' hK';have rd0:=At.keep hK' Ab11.out (oP _ _ (fun _=>(by show B2≠b11;omega)) (oP _ _ (fun _=>(by show B3≠b11;omega)) (oN)));have rd1:=At.keep hK' Ab12.out (oP _ _ (fun _=>(by show B2≠b12;omega)) (oP _ _ (fun _=>(by show B3≠b12;omega)) (oN)));refine fxi ?_<|fxi ?_<|fxi ?_<|ldG rd0 V_mq rfl<|fxs (by kernel_rfl)<|ldG rd1 V_mr rfl<|fxs (by kernel_rfl)<|fxs (by kernel_rfl)<|fxs (by kernel_rfl)<|fxi ?_<|fxn;all_goals (first|(refine .inr ?_;go_big_quiet_step (fail);exact wqn rfl)|exact .inl (by kernel_rfl))
  ·exact oP _ _ (fun _=>rmh AB2 (qI V_cy.out) (qI V_cq.out) rfl) (oP _ _ (fun _=>rmh AB3 (qI V_cy.out) (qI V_cr.out) rfl) (oN))
  ·intro q hq r hr hqn hrn e;simp only [List.mem_cons,List.not_mem_nil,or_false] at hq hr;rcases hq with rfl|rfl<;>rcases hr with rfl|rfl<;>first|rfl|(exact Bool.noConfusion hqn)|(exact Bool.noConfusion hrn)|(exfalso;simp only at e;omega)
  ·exact oP _ _ (stw rfl (qI V_cq.out) (qgF V_cq.out) (fun _=>rfl)) (oP _ _ (stw rfl (qI V_cr.out) (qgF V_cr.out) (fun _=>rfl)) (oN))
  intro β wx6 E;replace FR:=hid (FR.out.flow E (oP _ _ (fun _=>(by show B0≤B2;omega)) (oP _ _ (fun _=>(by show B0≤B3;omega)) (oN))));replace AB2:=aoh E AB2 mms;replace AB3:=aoh E AB3 (List.mem_cons_of_mem _ mms);simp only [nP,zu];go_wp2_with fail
  have hld0:=rdI AB2 V_cq;have hld1:=rdI AB3 V_cr;refine bodyPost_ret (v:=.tuple #[.agg cq.toArray,.agg cr.toArray,.int .i64 0]) (by simp [results,Tryz.results146,asAddr,hld0,hld1]) rfl ?_;exact ⟨rfl,qbL HB0 FR⟩
theorem qqZ {ca cb cq:List Value} {na nb s:Bool} {a b:Nat} (h1:ca=.bool na::lv 32 a) (h2:cb=.bool nb::lv 32 b) (hq:cq=.bool s::lv 32 (a / b)) (hs:s=cs1 (na != nb) (a / b)) (hx:na=false∨a%b=0) (ha:a<BB^32) (hb:b<BB^32) (h0:b≠0) (w:World) :
  CB 110 #[.agg ca.toArray,.agg cb.toArray] (.agg cq.toArray) w:=by
 have V_ca:=hid h1;have V_cb:=hid h2;have V_cq:=hid hq;obtain ⟨cr,V_cr⟩:=nvx (.bool false::lv 32 (a%b));obtain ⟨cy,V_cy⟩:=nvx (.bool false::lv 32 0);have HD:=hid (qhM V_ca.out V_cb.out V_cq.out V_cr.out hs hx ha hb h0);clear h1 h2 hq hs hx ha hb h0;obtain ⟨B0,B1,B2,w0,hw0,hB0,hB1,hB2,AB0,AB1,AB2,FR,FR0,HB0,hZB0,l01,hZB1,l12,hZB2⟩:=en3 w 25 25 25 (bxq ca) (bxq cb) (zQI V_cy);unfold zero33 at hw0;go_enter Tryz.func110,Tryz.ntmps110
 go_upto_region 1 with fail
 rw [←hw0,←hB2,←hB1,←hB0];clear hw0 hB0 hB1 hB2;refine wT [⟨true,7,5,9,0,0,25,12,cq,0,cq,[]⟩,⟨true,8,6,10,0,0,25,13,cr,0,cr,[]⟩] [(9,aT ca),(10,aT cb),(11,.tuple #[aT cq,aT cr,iT 0]),(8,.tuple #[aT cq,aT cr,iT 0]),(12,aT cq),(13,aT cr),(14,iT 0),(7,iT 0)] (by simp only [zu];rfl) (by kernel_rfl) rfl ?_ ?_ ?_ ?_
 ·intro W' hW';refine lhI AB0 hW' V_ca rfl<|lhI AB1 hW' V_cb rfl<|fo4 ?_ ?_ ?_ ?_<|fxo ?_<|fxs rfl<|fxs rfl<|fxs rfl<|fxs rfl<|fxo ?_<|fxn;all_goals (go_big_quiet_step (exact qaA (HD.out _));exact wqn rfl)
 ·exact oP _ _ (Tryz.alI (qI V_cq.out)) (oP _ _ (Tryz.alI (qI V_cr.out)) (oN))
 ·exact oP _ _ (stw rfl (qI V_cq.out) (qgF V_cq.out) (fun _=>rfl)) (oP _ _ (stw rfl (qI V_cr.out) (qgF V_cr.out) (fun _=>rfl)) (oN))
 intro β wx1 E;replace FR:=fnf FR E rfl;obtain ⟨b5,hb5,eb5⟩:=nwb E mms;have lB0_b5:B0<b5:=ltb AB0 eb5.1;have lB1_b5:B1<b5:=ltb AB1 eb5.1;have lB2_b5:B2<b5:=ltb AB2 eb5.1;have hZb5:B0≤b5:=Nat.le_trans FR0.out eb5.1;obtain ⟨b6,hb6,eb6⟩:=nwb E (List.mem_cons_of_mem _ mms);have lB0_b6:B0<b6:=ltb AB0 eb6.1;have lB1_b6:B1<b6:=ltb AB1 eb6.1;have lB2_b6:B2<b6:=ltb AB2 eb6.1;have hZb6:B0≤b6:=Nat.le_trans FR0.out eb6.1;have nb5_b6:b5≠b6:=fun e=>absurd (E.apart _ mms _ (List.mem_cons_of_mem _ mms) rfl rfl (by rw [hb5,hb6] at e;exact e)) (show ¬(7:Nat)=8 by decide)
 replace AB2:=fnh AB2 E rfl;have Ab5:=hid eb5.2;simp only [nP,zu];rw [←hb5];rw [←hb6];clear E eb5 hb5 eb6 hb6;go_upto_region 2 with fail
 refine wF [⟨false,0,4,1,B2,0,25,15,cq,0,cq,[]⟩] [(15,aT cq)] (by simp only [zu];rfl) (by kernel_rfl) ?_ ?_ (fP1 bnC) ?_ uno ?_ ?_
 ·intro W' hW';exact lhI Ab5 hW' V_cq rfl<|fxs rfl<|fxn
 ·intro W' hK';have rd0:=akh Ab5 hK' (by omega);exact ldI rd0 V_cq rfl<|fxs (by kernel_rfl)<|fxn
 ·exact fP1 (fun _=>rmh AB2 (qI V_cy.out) (qI V_cq.out) rfl)
 ·exact fP1 (sI V_cq (fun _=>rfl) rfl)
 intro β wx2 E;replace FR:=ffh FR E (by omega);replace AB2:=aoh E AB2 mms;simp only [nP,zu];go_wp2_with fail
 have hld:=rdI AB2 V_cq;refine bodyPost_ret (v:=.agg cq.toArray) (by simp [results,Tryz.results110,asAddr,hld]) rfl ?_;exact ⟨rfl,qbL HB0 FR⟩
theorem qhJ {ca cb cr:List Value} {na nb n:Bool} {a b v:Nat} (h1:ca=.bool na::lv 32 a) (h2:cb=.bool nb::lv 32 b) (hr:cr=.bool n::lv 32 v) (hv:v=a*b) (hn:n=cs1 (na != nb) v) (ha:a<BB^32) (hb:b<BB^32) (hvb:v<BB^32) (w:World) :
  CB 79 #[.agg ca.toArray,.agg cb.toArray] (.agg cr.toArray) w:=by
 have V_ca:=hid h1;have V_cb:=hid h2;have V_cr:=hid hr;obtain ⟨cy,V_cy⟩:=nvx (.bool false::lv 32 0);have HD:=hid (qwE V_ca.out V_cb.out V_cr.out hv hn ha hb hvb);clear h1 h2 hr hv hn ha hb hvb;obtain ⟨B0,B1,B2,w0,hw0,hB0,hB1,hB2,AB0,AB1,AB2,FR,FR0,HB0,hZB0,l01,hZB1,l12,hZB2⟩:=en3 w 25 25 25 (bxq ca) (bxq cb) (zQI V_cy);unfold zero33 at hw0;go_enter Tryz.func79,Tryz.ntmps79
 go_upto_region 1 with fail
 rw [←hw0,←hB2,←hB1,←hB0];clear hw0 hB0 hB1 hB2;refine wT [⟨true,6,5,7,0,0,25,11,cr,0,cr,[]⟩] [(8,aT ca),(9,aT cb),(10,.tuple #[aT cr,iT 0]),(7,.tuple #[aT cr,iT 0]),(11,aT cr),(12,iT 0),(6,iT 0)] (by simp only [zu];rfl) (by kernel_rfl) rfl ?_ ?_ ?_ ?_
 ·intro W' hW';refine lhI AB0 hW' V_ca rfl<|lhI AB1 hW' V_cb rfl<|fo4 ?_ ?_ ?_ ?_<|fxs rfl<|fxs rfl<|fxo ?_<|fxn;all_goals (go_big_quiet_step (exact qaA (HD.out _));exact wqn rfl)
 ·exact fP1 (Tryz.alI (qI V_cr.out))
 ·exact fP1 (sI V_cr (fun _=>rfl) rfl)
 intro β wx1 E;replace FR:=fnf FR E rfl;obtain ⟨b5,hb5,eb5⟩:=nwb E mms;have lB0_b5:B0<b5:=ltb AB0 eb5.1;have lB1_b5:B1<b5:=ltb AB1 eb5.1;have lB2_b5:B2<b5:=ltb AB2 eb5.1;have hZb5:B0≤b5:=Nat.le_trans FR0.out eb5.1;replace AB2:=fnh AB2 E rfl;have Ab5:=hid eb5.2;simp only [nP,zu];rw [←hb5];clear E eb5 hb5;go_upto_region 2 with fail
 refine wF [⟨false,0,4,1,B2,0,25,13,cr,0,cr,[]⟩] [(13,aT cr)] (by simp only [zu];rfl) (by kernel_rfl) ?_ ?_ (fP1 bnC) ?_ uno ?_ ?_
 ·intro W' hW';exact lhI Ab5 hW' V_cr rfl<|fxs rfl<|fxn
 ·intro W' hK';have rd0:=akh Ab5 hK' (by omega);exact ldI rd0 V_cr rfl<|fxs (by kernel_rfl)<|fxn
 ·exact fP1 (fun _=>rmh AB2 (qI V_cy.out) (qI V_cr.out) rfl)
 ·exact fP1 (sI V_cr (fun _=>rfl) rfl)
 intro β wx2 E;replace FR:=ffh FR E (by omega);replace AB2:=aoh E AB2 mms;simp only [nP,zu];go_wp2_with fail
 have hld:=rdI AB2 V_cr;refine bodyPost_ret (v:=.agg cr.toArray) (by simp [results,Tryz.results79,asAddr,hld]) rfl ?_;exact ⟨rfl,qbL HB0 FR⟩
theorem qiD {cx:List Value} {s r:Bool} {v:Nat} (h:cx=.bool s::lv 32 v) (hr:r=decide (s=cs1 s v)) (hv:v<BB^32) (w:World) :
  CB 143 #[.agg cx.toArray] (.bool r) w:=by
 have V_cx:=hid h;obtain ⟨x,hx⟩:=nqx (sgnI s v);have HS:=hid (qeL V_cx.out hx hv);have hr1:s=false→r=true:=fun h=>by rw [hr,h];rfl
 have hr2:s=true→decide (x<0)=r:=fun h=>by
  rw [hr,hx,h];unfold sgnI cs1;by_cases hz:v=0<;>simp [hz]
 clear h hr hx hv;obtain ⟨B0,w0,hw0,hB0,AB0,FR,FR0,HB0,hZB0⟩:=en1 w 25 (bxq cx);go_enter Tryz.func143,Tryz.ntmps143
 go_upto_region 1 with fail
 rw [←hw0,←hB0];clear hw0 hB0
 cases s with
 | true =>
  have hr3:=hr2 rfl;clear hr1 hr2;refine wE [(3,pT B0 0),(4,bT),(5,bF),(6,bF),(7,aT cx),(8,iT x),(9,.bool r),(10,.bool r),(2,.bool r)] (by simp only [zu];rfl) (by kernel_rfl) ?_ ?_
  ·intro W' hW';have cl0:=fun p os=>qaB ((AB0.out.below hW').neg V_cx.out) p os
   refine fo4 ?_ ?_ ?_ ?_<|lhI AB0 hW' V_cx rfl<|fo4 ?_ ?_ ?_ ?_<|fxn;all_goals (go_big_quiet_step (exact qaA (HS.out _));exact wqn rfl)
  intro β wx1 E;replace FR:=fnf FR E rfl;simp only [nP,zu];go_wp2
  go_ret
  exact ⟨rfl,qbL HB0 FR⟩
 | false =>
  have hr3:=hr1 rfl;subst hr3;clear hr1 hr2;refine wE [(3,pT B0 0),(4,bF),(5,bT),(6,bT),(7,undef),(8,undef),(9,undef),(10,bT),(2,bT)] (by simp only [zu];rfl) (by kernel_rfl) ?_ ?_
  ·intro W' hW';have cl0:=fun p os=>qaB ((AB0.out.below hW').neg V_cx.out) p os
   iterate 9 (refine fxo ?_ ?_;(go_big_quiet_step (fail);(try simp only [zq]);exact wqn rfl))
   exact fxn
  intro β wx1 E;replace FR:=fnf FR E rfl;simp only [nP,zu];go_wp2
  go_ret
  exact ⟨rfl,qbL HB0 FR⟩
theorem qhB {v k:Nat} (h:IsBits v k):(k:Int)≤480↔v<B480:=by
 constructor
 ·intro hk;unfold B480;have h2:=Nat.pow_le_pow_right (show 0<2 by omega) (show k≤32*15 by omega);have h3:=h.1;rw [qfY];exact Nat.lt_of_lt_of_le h3 h2
 ·intro hv
  have:=qfG hv h
  omega
theorem qyA {cr:List Value} {n m r:Bool} {p q:Nat} (h:cr=rat n p m q) (hr:r=decide (p<B480∧q<B480)) (hp:p<BB^32) (hq:q<BB^32) (w:World) :
  CB 111 #[.agg cr.toArray] (.bool r) w:=by
 have V_cr:=hid h;obtain ⟨cp,V_cp⟩:=nvx (.bool n::lv 32 p);obtain ⟨cq,V_cq⟩:=nvx (.bool m::lv 32 q);obtain ⟨k1,hk1⟩:=qaO p;obtain ⟨k2,hk2⟩:=qaO q;have HB1:=hid (qrL V_cp.out hk1 hp);have HB2:=hid (qrL V_cq.out hk2 hq);have hf1:=qhB hk1;have hf2:=qhB hk2;have hr2:r=(decide ((k1:Int)≤480)&&decide ((k2:Int)≤480)):=by rw [hr,←Bool.decide_and];simp only [hf1,hf2]
 clear h hr hp hq hk1 hk2 hf1 hf2;obtain ⟨B0,w0,hw0,hB0,AB0,FR,FR0,HB0,hZB0⟩:=en1 w 27 (bxq cr);go_enter Tryz.func111,Tryz.ntmps111
 go_upto_region 1 with fail
 rw [←hw0,←hB0];clear hw0 hB0;have AB0n:=hid (AB0.out.num V_cr.out V_cp.out);have AB0d:=hid (AB0.out.den V_cr.out V_cq.out);by_cases h1:(k1:Int)≤480
 ·have hr3:decide ((k2:Int)≤480)=r:=by rw [hr2];simp [h1]
  clear hr2;refine wE [(3,pT B0 0),(4,aT cp),(5,iT k1),(6,bT),(7,bT),(8,pT B0 33),(9,aT cq),(10,iT k2),(11,.bool r),(12,.bool r),(2,.bool r)] (by simp only [zu];rfl) (by kernel_rfl) ?_ ?_
  ·intro W' hW';refine fxo ?_<|lhI AB0n hW' V_cp rfl<|fo4 ?_ ?_ ?_ ?_<|lhI AB0d hW' V_cq rfl<|fxo (by go_big_quiet_step (exact qaA (HB2.out _));exact wqn rfl)<|fo3 ?_ ?_ ?_<|fxn;all_goals (go_big_quiet_step (exact qaA (HB1.out _));exact wqn rfl)
  intro β wx1 E;replace FR:=fnf FR E rfl;simp only [nP,zu];go_wp2
  go_ret
  exact ⟨rfl,qbL HB0 FR⟩
 ·have hr3:r=false:=by rw [hr2];simp [h1]
  subst hr3;clear hr2;refine wE [(3,pT B0 0),(4,aT cp),(5,iT k1),(6,bF),(7,bF),(8,undef),(9,undef),(10,undef),(11,undef),(12,bF),(2,bF)] (by simp only [zu];rfl) (by kernel_rfl) ?_ ?_
  ·intro W' hW';refine fxo ?_<|lhI AB0n hW' V_cp rfl<|fo4 ?_ ?_ ?_ ?_<|fo4 ?_ ?_ ?_ ?_<|fxo ?_<|fxn;all_goals (go_big_quiet_step (exact qaA (HB1.out _));exact wqn rfl)
  intro β wx1 E;replace FR:=fnf FR E rfl;simp only [nP,zu];go_wp2
  go_ret
  exact ⟨rfl,qbL HB0 FR⟩
end Go.Proofs.YtemoddmadfoaiaaGreat
