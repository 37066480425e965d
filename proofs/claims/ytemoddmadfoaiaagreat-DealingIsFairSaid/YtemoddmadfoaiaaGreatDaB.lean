import Derived.Test.YtemoddmadfoaiaaGreatGaC
set_option linter.unusedVariables false
set_option linter.unusedSimpArgs false
set_option maxRecDepth 100000
set_option maxHeartbeats 8000000
namespace Go.Proofs.YtemoddmadfoaiaaGreat
open Go.RowKit Big
open Lib (hid)
def ceilQ (r:Qn):Int:=if r.1%(r.2:Int)=0 then r.1 / (r.2:Int) else r.1 / (r.2:Int)+1
theorem jcL {c:List Value} (w:World):CB 195 #[.agg c.toArray] (.bool true) w:=by
 go_enter Tryz.func195,Tryz.ntmps195
 go_wp2
 go_ret
 exact ⟨rfl,(Below.refl _ _).alloc (Nat.le_refl _) _⟩
theorem qwU {c:List Value} (hl:c.length=35) (w:World):CB 178 #[.agg c.toArray,.int .i64 4] (.func (.func 195) #[.agg c.toArray] #[]) w:=by
 have HA:=hid (At.fresh w c 193 rfl);have HS:=hid (show (Tryz.prog.info? 193).map (·.size)=some c.length by rw [hl];exact Tryz.info127);clear hl;go_enter Tryz.func178,Tryz.ntmps178
 go_wp2_with (refine wpList_load_mid rfl _ _ rfl w.heap.size 0 rfl c _ HA.out.range Tryz.underlying193 rfl HS.out ?_)
 go_ret
 exact ⟨rfl,(Below.refl _ _).alloc (Nat.le_refl _) _⟩
theorem qjC {cr cv:List Value} {r:Qn} (h:cr=ratZ r.1 r.2) (hv:VQ r) (hz:cv=iZ (ceilQ r)) (w:World) :
  CB 155 #[.agg cr.toArray,.int .i64 0,.int .i64 4] (.tuple #[.agg cv.toArray,.int .i64 0]) w:=by
 have HCK:=hid (qwJ h hv);obtain ⟨z,d⟩:=r;have V_cr:=hid (show cr=rat (decide (z<0)) z.natAbs false d from h);obtain ⟨y,hy⟩:=nqx (z / (d:Int));obtain ⟨y1,hy1⟩:=nqx (ceilQ (z,d));rw [←hy1] at hz;have V_cv:=hid (show cv=.bool (decide (y1<0))::lv 32 y1.natAbs from hz);obtain ⟨cy,V_cy⟩:=nvx (.bool (decide (y<0))::lv 32 y.natAbs);have u15:BB^15<BB^30:=Nat.pow_lt_pow_right (by unfold BB;decide) (by decide);have u30:2*BB^30≤BB^32:=qzS;have hzB:z.natAbs<BB^15:=hv.num;have hdB:d<BB^15:=hv.den;have hd0:d≠0:=hv.pos;obtain ⟨t,ht⟩:=nqx (z%(d:Int));have ht0:0≤t:=by rw [ht];exact Int.emod_nonneg _ (by omega)
 have ht1:t<d:=by rw [ht];exact Int.emod_lt_of_pos _ (by omega)
 obtain ⟨x,hx⟩:=nqx (cmpZ (t+t) (d:Int));obtain ⟨s,hs⟩:=nqx (z.sign);obtain ⟨cn,V_cn⟩:=nvx (.bool (decide (z<0))::lv 32 z.natAbs);obtain ⟨cd,V_cd⟩:=nvx (.bool false::lv 32 d);obtain ⟨ct,V_ct⟩:=nvx (.bool (decide (t<0))::lv 32 t.natAbs);obtain ⟨cw,V_cw⟩:=nvx (.bool (decide (t+t<0))::lv 32 (t+t).natAbs);obtain ⟨cB,V_cB⟩:=nvx (btw cy x (decide (s<0)));obtain ⟨ce,V_ce⟩:=nvx (.bool (decide ((1:Int)<0))::lv 32 (1:Int).natAbs);obtain ⟨cz,V_cz⟩:=nvx (.bool false::lv 32 0);have hcd:cd=iZ (d:Int):=by rw [V_cd.out];unfold iZ;rw [Int.natAbs_natCast];simp
 have HSC:=hid (qwD (cq:=cy) (ct:=ct) h hv (by rw [V_cy.out,hy];rfl) (by rw [V_ct.out,ht];rfl));have HAD:=hid (jeO (a:=t) (b:=t) (ca:=ct) (cb:=ct) (cr:=cw) V_ct.out V_ct.out V_cw.out (by omega) (by omega) (by omega));have HCM:=hid (qqH (z:=x) (ca:=cw) (cb:=cd) V_cw.out V_cd.out (by rw [hx,qpP];rfl) (by omega) (by omega));have HSN:=hid (qrJ (cx:=cn) (z:=z) V_cn.out (by omega));rw [←hs] at HSN;have HST:=hid (qrJ (cx:=ct) (z:=t) V_ct.out (by omega));have hL:cy.length=33:=by rw [V_cy.out,List.length_cons,qlL]
 have HBB:=hid (show Tryz.prog.built 193 [(0,.agg cy.toArray),(1,.int .i64 x),(2,.bool (decide (s<0)))]=some cB.toArray by rw [V_cB.out];exact qpI V_cy.out);have HMO:=hid (qwU (c:=cB) (by rw [V_cB.out];exact qzD hL));have HFL:=hid (jcL (c:=cB));have HT:=hid (show (t=0∧y1=y)∨(0<t∧y1=y+1) by rw [hy1,hy];unfold ceilQ;simp only;rw [←ht];by_cases h0:t=0<;>simp [h0]<;>omega);have hyb:y.natAbs≤z.natAbs:=by rw [hy];exact Int.natAbs_ediv_le_natAbs z (d:Int)
 have HF1:=hid (qrK (z:=1) (cr:=ce) V_ce.out (by decide) (by decide));have HA1:=hid (fun (h:y1=y+1)=>jeO (a:=y) (b:=1) (ca:=cy) (cb:=ce) (cr:=cv) V_cy.out V_ce.out (by rw [V_cv.out,h];rfl) (by omega) (by omega) (by omega));have qf:∀ (w:World) (f:Fn) (b c:Array Value),(binOp .eql 31 (.func f b c) .nilFunc).run Tryz.prog w=.ok (.bool false) w:=fun w f b c=>qfU w Tryz.underlying31 f b c
 clear h hv hz u15 u30 hzB hdB hd0 ht ht0 ht1 hx hs hcd hL hy hy1 hyb;obtain ⟨B0,B1,w0,hw0,hB0,hB1,AB0,AB1,FR,FR0,HB0,hZB0,l01,hZB1⟩:=en2 w 27 25 (bxq cr) (zQI V_cz);unfold zero33 at hw0;go_enter Tryz.func155,Tryz.ntmps155
 go_upto_region 1 with fail
 rw [←hw0,←hB1,←hB0];clear hw0 hB0 hB1;have AB0_n:=hid (AB0.out.num V_cr.out V_cn.out);have AB0_d:=hid (AB0.out.den V_cr.out V_cd.out);refine wE [(16,aT cr),(17,iT 0),(18,iT 0),(8,iT 0)] (by simp only [zu];rfl) (by kernel_rfl) ?_ ?_
 ·intro W' hW';refine lhR AB0 hW' V_cr rfl<|fo3 ?_ ?_ ?_<|fxn;all_goals (go_big_quiet_step (exact qaA (HCK.out _));exact wqn rfl)
 intro β wx1 E;replace FR:=fnf FR E rfl;replace AB0:=fnh AB0 E rfl;replace AB1:=fnh AB1 E rfl;replace AB0_n:=fnh AB0_n E rfl;replace AB0_d:=fnh AB0_d E rfl;simp only [nP,zu];replace FR0:=hid FR.out.le;go_upto_region 4 with fail
 refine wT [⟨true,6,9,8,0,0,25,27,cy,0,cy,[]⟩,⟨true,7,10,9,0,0,25,28,ct,0,ct,[]⟩] [(24,aT cr),(25,iT 0),(26,.tuple #[aT cy,aT ct]),(23,.tuple #[aT cy,aT ct]),(27,aT cy),(28,aT ct)] (by simp only [zu];rfl) (by kernel_rfl) rfl ?_ ?_ ?_ ?_
 ·intro W' hW';refine lhR AB0 hW' V_cr rfl<|fo4 ?_ ?_ ?_ ?_<|fxo ?_<|fxs rfl<|fxs rfl<|fxs rfl<|fxs rfl<|fxn;all_goals (go_big_quiet_step (exact qaA (HSC.out _));exact wqn rfl)
 ·exact oP _ _ (Tryz.alI (qI V_cy.out)) (oP _ _ (Tryz.alI (qI V_ct.out)) (oN))
 ·exact oP _ _ (stw rfl (qI V_cy.out) (qgF V_cy.out) (fun _=>rfl)) (oP _ _ (stw rfl (qI V_ct.out) (qgF V_ct.out) (fun _=>rfl)) (oN))
 intro β wx2 E;replace FR:=fnf FR E rfl;obtain ⟨b9,hb9,eb9⟩:=nwb E mms;have lB0_b9:B0<b9:=ltb AB0 eb9.1;have lB1_b9:B1<b9:=ltb AB1 eb9.1;have hZb9:B0≤b9:=Nat.le_trans FR0.out eb9.1;obtain ⟨b10,hb10,eb10⟩:=nwb E (List.mem_cons_of_mem _ mms);have lB0_b10:B0<b10:=ltb AB0 eb10.1;have lB1_b10:B1<b10:=ltb AB1 eb10.1;have hZb10:B0≤b10:=Nat.le_trans FR0.out eb10.1;have nb9_b10:b9≠b10:=fun e=>absurd (E.apart _ mms _ (List.mem_cons_of_mem _ mms) rfl rfl (by rw [hb9,hb10] at e;exact e)) (show ¬(6:Nat)=7 by decide)
 replace AB0:=fnh AB0 E rfl;replace AB1:=fnh AB1 E rfl;replace AB0_n:=fnh AB0_n E rfl;replace AB0_d:=fnh AB0_d E rfl;have Ab9:=hid eb9.2;have Ab10:=hid eb10.2;simp only [nP,zu];rw [←hb9];rw [←hb10];replace FR0:=hid FR.out.le;clear E eb9 hb9 eb10 hb10;go_upto_region 5 with fail
 refine wT [⟨true,6,11,7,0,0,25,33,cw,0,cw,[]⟩] [(30,aT ct),(31,aT ct),(32,.tuple #[aT cw,iT 0]),(29,.tuple #[aT cw,iT 0]),(33,aT cw),(34,iT 0),(12,iT 0)] (by simp only [zu];rfl) (by kernel_rfl) rfl ?_ ?_ ?_ ?_
 ·intro W' hW';have rd0:=Ab10.out.below hW';refine ldI rd0 V_ct rfl<|ldI rd0 V_ct rfl<|fo4 ?_ ?_ ?_ ?_<|fxs rfl<|fxs rfl<|fxo ?_<|fxn;all_goals (go_big_quiet_step (exact qaA (HAD.out _));exact wqn rfl)
 ·exact fP1 (Tryz.alI (qI V_cw.out))
 ·exact fP1 (sI V_cw (fun _=>rfl) rfl)
 intro β wx3 E;replace FR:=fnf FR E rfl;obtain ⟨b11,hb11,eb11⟩:=nwb E mms;have lB0_b11:B0<b11:=ltb AB0 eb11.1;have lB1_b11:B1<b11:=ltb AB1 eb11.1;have lb9_b11:b9<b11:=ltb Ab9 eb11.1;have lb10_b11:b10<b11:=ltb Ab10 eb11.1;have hZb11:B0≤b11:=Nat.le_trans FR0.out eb11.1;replace AB0:=fnh AB0 E rfl;replace AB1:=fnh AB1 E rfl;replace AB0_n:=fnh AB0_n E rfl;replace AB0_d:=fnh AB0_d E rfl;replace Ab9:=fnh Ab9 E rfl;replace Ab10:=fnh Ab10 E rfl;have Ab11:=hid eb11.2;simp only [nP,zu];rw [←hb11];replace FR0:=hid FR.out.le;clear E eb11 hb11;go_upto_region 6 with fail
 refine wE [(35,aT cy),(36,aT cw),(37,pT B0 33),(38,aT cd),(39,iT x),(40,pT B0 0),(41,aT cn),(42,iT s),(43,.bool (decide (s<0))),(44,aT cB),(45,iT 4),(46,.func (.func 195) #[aT cB] #[]),(13,.func (.func 195) #[aT cB] #[])] (by simp only [zu];rfl) (by kernel_rfl) ?_ ?_
 ·intro W' hW';refine lhI Ab9 hW' V_cy rfl<|lhI Ab11 hW' V_cw rfl<|fxo ?_<|lhI AB0_d hW' V_cd rfl<|fo2 ?_ ?_<|lhI AB0_n hW' V_cn rfl<|fxo (by go_big_quiet_step (exact qaA (HSN.out _));exact wqn rfl)<|fxo ?_<|fxb HBB.out rfl<|fxo ?_<|fxo (by go_big_quiet_step (exact qaA (HMO.out _));exact wqn rfl)<|fxo ?_<|fxn;all_goals (go_big_quiet_step (exact qaA (HCM.out _));exact wqn rfl)
 intro β wx4 E;replace FR:=fnf FR E rfl;replace AB0:=fnh AB0 E rfl;replace AB1:=fnh AB1 E rfl;replace Ab9:=fnh Ab9 E rfl;replace Ab10:=fnh Ab10 E rfl;replace Ab11:=fnh Ab11 E rfl;simp only [nP,zu];replace FR0:=hid FR.out.le;go_upto_region 9 with fail
 rcases HT.out with ⟨ht,hyy⟩|⟨ht,hyy⟩
 ·have hsg:t.sign=0:=by rw [ht];rfl
  rw [hsg] at HST;subst hyy;obtain rfl:cy=cv:=by rw [V_cv.out,V_cy.out]
  clear ht hsg HA1;refine wE [(52,aT ct),(53,iT 0),(54,bT),(55,bT),(56,undef),(57,undef),(58,undef),(59,bT),(51,bT)] (by simp only [zu];rfl) (by kernel_rfl) ?_ ?_
  ·intro W' hW';refine lhI Ab10 hW' V_ct rfl<|fo4 ?_ ?_ ?_ ?_<|fo4 ?_ ?_ ?_ ?_<|fxn;all_goals (go_big_quiet_step (exact qaA (HST.out _));exact wqn rfl)
  intro β wx5 E;replace FR:=fnf FR E rfl;replace AB1:=fnh AB1 E rfl;replace Ab9:=fnh Ab9 E rfl;simp only [nP,zu];go_upto_region 10 with fail
  refine wF [⟨false,0,6,1,B1,0,25,60,cy,0,cy,[]⟩] [(60,aT cy),(7,iT 0)] (by simp only [zu];rfl) (by kernel_rfl) ?_ ?_ (fP1 bnC) ?_ uno ?_ ?_
  ·intro W' hW';refine lhI Ab9 hW' V_cy rfl<|fxs rfl<|fxo ?_<|fxn
   go_big_quiet_step (fail);exact wqn rfl
  ·intro W' hK';have rd0:=akh Ab9 hK' (by omega);refine ldI rd0 V_cy rfl<|fxs (by kernel_rfl)<|fxi ?_<|fxn
   first|(refine .inr ?_;go_big_quiet_step (fail);exact wqn rfl)|exact .inl (by kernel_rfl)
  ·exact fP1 (fun _=>rmh AB1 (qI V_cz.out) (qI V_cy.out) rfl)
  ·exact fP1 (sI V_cy (fun _=>rfl) rfl)
  intro β wx6 E;replace FR:=ffh FR E (by omega);replace AB1:=aoh E AB1 mms;simp only [nP,zu];go_wp2_with fail
  have hld:=rdI AB1 V_cy;refine bodyPost_ret (v:=.tuple #[.agg cy.toArray,.int .i64 0]) (by simp [results,Tryz.results155,asAddr,hld]) rfl ?_;exact ⟨rfl,qbL HB0 FR⟩
 ·have hsg:t.sign=1:=Int.sign_eq_one_of_pos ht;rw [hsg] at HST;have HA2:=hid (HA1.out hyy);clear ht hsg hyy HA1;refine wE [(52,aT ct),(53,iT 1),(54,bF),(55,bF),(56,.func (.func 195) #[aT cB] #[]),(57,bT),(58,bF),(59,bF),(51,bF)] (by simp only [zu];rfl) (by kernel_rfl) ?_ ?_
  ·intro W' hW';refine lhI Ab10 hW' V_ct rfl<|fo4 ?_ ?_ ?_ ?_<|fxo (by go_big_quiet_step (exact qaA (HFL.out _));exact wqn rfl)<|fo3 ?_ ?_ ?_<|fxn;all_goals (go_big_quiet_step (exact qaA (HST.out _));exact wqn rfl)
  intro β wx5 E;replace FR:=fnf FR E rfl;replace AB0:=fnh AB0 E rfl;replace AB1:=fnh AB1 E rfl;replace Ab9:=fnh Ab9 E rfl;replace Ab10:=fnh Ab10 E rfl;replace Ab11:=fnh Ab11 E rfl;simp only [nP,zu];replace FR0:=hid FR.out.le;go_upto_region 11 with fail
  refine wT [⟨true,6,14,7,0,0,25,65,cv,0,cv,[]⟩] [(62,aT cy),(63,aT ce),(64,.tuple #[aT cv,iT 0]),(61,.tuple #[aT cv,iT 0]),(65,aT cv),(66,iT 0),(15,iT 0)] (by simp only [zu];rfl) (by kernel_rfl) rfl ?_ ?_ ?_ ?_
  ·intro W' hW';refine lhI Ab9 hW' V_cy rfl<|fxo ?_<|fxo (by go_big_quiet_step (exact qaA (HA2.out _));exact wqn rfl)<|fo3 ?_ ?_ ?_<|fxs rfl<|fxs rfl<|fxo ?_<|fxn;all_goals (go_big_quiet_step (exact qaA (HF1.out _));exact wqn rfl)
  ·exact fP1 (Tryz.alI (qI V_cv.out))
  ·exact fP1 (sI V_cv (fun _=>rfl) rfl)
  intro β wx6 E;replace FR:=fnf FR E rfl;obtain ⟨b14,hb14,eb14⟩:=nwb E mms;have lB0_b14:B0<b14:=ltb AB0 eb14.1;have lB1_b14:B1<b14:=ltb AB1 eb14.1;have lb9_b14:b9<b14:=ltb Ab9 eb14.1;have lb10_b14:b10<b14:=ltb Ab10 eb14.1;have lb11_b14:b11<b14:=ltb Ab11 eb14.1;have hZb14:B0≤b14:=Nat.le_trans FR0.out eb14.1;replace AB1:=fnh AB1 E rfl;have Ab14:=hid eb14.2;simp only [nP,zu];rw [←hb14];clear E eb14 hb14;go_upto_region 12 with fail
  refine wF [⟨false,0,6,1,B1,0,25,67,cv,0,cv,[]⟩] [(67,aT cv),(7,iT 0)] (by simp only [zu];rfl) (by kernel_rfl) ?_ ?_ (fP1 bnC) ?_ uno ?_ ?_
  ·intro W' hW';refine lhI Ab14 hW' V_cv rfl<|fxs rfl<|fxo ?_<|fxn
   go_big_quiet_step (fail);exact wqn rfl
  ·intro W' hK';have rd0:=akh Ab14 hK' (by omega);refine ldI rd0 V_cv rfl<|fxs (by kernel_rfl)<|fxi ?_<|fxn
   first|(refine .inr ?_;go_big_quiet_step (fail);exact wqn rfl)|exact .inl (by kernel_rfl)
  ·exact fP1 (fun _=>rmh AB1 (qI V_cz.out) (qI V_cv.out) rfl)
  ·exact fP1 (sI V_cv (fun _=>rfl) rfl)
  intro β wx7 E;replace FR:=ffh FR E (by omega);replace AB1:=aoh E AB1 mms;simp only [nP,zu];go_wp2_with fail
  have hld:=rdI AB1 V_cv;refine bodyPost_ret (v:=.tuple #[.agg cv.toArray,.int .i64 0]) (by simp [results,Tryz.results155,asAddr,hld]) rfl ?_;exact ⟨rfl,qbL HB0 FR⟩
theorem qoG {cr:List Value} {r:Qn} {n:Int} (h:cr=ratZ r.1 r.2) (hv:VQ r) (hn:n=ceilQ r) (h1:-1000000000000000≤n) (h2:n≤1000000000000000) (w:World) :
  CB 125 #[.agg cr.toArray,.int .i64 0,.int .i64 4] (.tuple #[.int .i64 n,.int .i64 0]) w:=by
 obtain ⟨cv,V_cv⟩:=nvx (.bool (decide (n<0))::lv 32 n.natAbs);have HR:=hid (qjC (cv:=cv) h hv (by rw [V_cv.out,←hn];rfl));have HI:=hid (qmE (ca:=cv) (z:=n) V_cv.out (by omega) (by omega));have V_cr:=hid (show cr=rat (decide (r.1<0)) r.1.natAbs false r.2 from h);have p1:¬n < -1000000000000000:=by omega
 have p2:¬(1000000000000000:Int)<n:=by omega
 clear h hv hn h1 h2;obtain ⟨B0,w0,hw0,hB0,AB0,FR,FR0,HB0,hZB0⟩:=en1 w 27 (bxq cr);go_enter Tryz.func125,Tryz.ntmps125
 go_upto_region 1 with fail
 rw [←hw0,←hB0];clear hw0 hB0;refine wT [⟨true,7,8,8,0,0,25,17,cv,0,cv,[]⟩] [(13,aT cr),(14,iT 0),(15,iT 4),(16,.tuple #[aT cv,iT 0]),(12,.tuple #[aT cv,iT 0]),(17,aT cv),(18,iT 0),(9,iT 0)] (by simp only [zu];rfl) (by kernel_rfl) rfl ?_ ?_ ?_ ?_
 ·intro W' hW';refine lhR AB0 hW' V_cr rfl<|fo4 ?_ ?_ ?_ ?_<|fo2 ?_ ?_<|fxs rfl<|fxs rfl<|fxo ?_<|fxn;all_goals (go_big_quiet_step (exact qaA (HR.out _));exact wqn rfl)
 ·exact fP1 (Tryz.alI (qI V_cv.out))
 ·exact fP1 (sI V_cv (fun _=>rfl) rfl)
 intro β wx1 E;replace FR:=fnf FR E rfl;obtain ⟨b8,hb8,eb8⟩:=nwb E mms;have lB0_b8:B0<b8:=ltb AB0 eb8.1;have hZb8:B0≤b8:=Nat.le_trans FR0.out eb8.1;have Ab8:=hid eb8.2;simp only [nP,zu];rw [←hb8];clear E eb8 hb8;go_upto_region 4 with fail
 refine wE [(23,aT cv),(24,.tuple #[iT n,bT]),(22,.tuple #[iT n,bT]),(25,iT n),(26,bT),(10,iT n),(11,bT)] (by simp only [zu];rfl) (by kernel_rfl) ?_ ?_
 ·intro W' hW';refine lhI Ab8 hW' V_cv rfl<|fo4 ?_ ?_ ?_ ?_<|fo2 ?_ ?_<|fxn;all_goals (go_big_quiet_step (exact qaA (HI.out _));exact wqn rfl)
 intro β wx2 E;replace FR:=fnf FR E rfl;simp only [nP,zu];go_wp2
 go_ret2
 exact ⟨rfl,qbL HB0 FR⟩
set_option maxHeartbeats 8000000
theorem qkG {ca:List Value} {z:Int} (h:ca=iZ z) (h1:9223372036854775808≤z) (h2:z.natAbs<BB^32) (w:World) :
  CB 156 #[.agg ca.toArray] (.tuple #[.int .i64 0,.bool false]) w:=by
 have V_ca:=hid (show ca=.bool false::lv 32 z.natAbs by rw [h];unfold iZ;rw [decide_eq_false (by omega)]);obtain ⟨v,hv⟩:=nqx (z.natAbs);rw [←hv] at V_ca h2;have hvb:9223372036854775808≤v:=by omega
 obtain ⟨k,hk⟩:=qaO v;obtain ⟨cm,V_cm⟩:=nvx (lv 32 v);have HS:=hid (qbR V_ca.out V_cm.out (show false=cs1 false v by simp [cs1]) h2);have HV:=hid (And.intro h2 hk);by_cases hs:k≤64
 ·have hv2:v<BB^2:=by
   have:=Nat.lt_of_lt_of_le hk.1 (Nat.pow_le_pow_right (show 0<2 by omega) hs)
   exact qnO (by omega)
  have hl:=qeE hv2;have l0:=qaG v 0;have l1:=qaG v 1;obtain ⟨x,hx⟩:=nqx (lim v 0);obtain ⟨y,hy⟩:=nqx (lim v 1);have HXY:=hid (And.intro hx hy);rw [←hx,←hy] at hl;rw [←hx] at l0;rw [←hy] at l1;have hor:=jdD l0 l1 hl;have wx:IntKind.u64.wrap (x:Int)=(x:Int):=by unfold BB at l0;rw [IntKind.wrap_u64];omega
  have wy:IntKind.u64.wrap (y:Int)=(y:Int):=by unfold BB at l1;rw [IntKind.wrap_u64];omega
  have hkI:¬(64:Int)<(k:Int):=by omega
  clear h hv hv2 h2 hk hs hl l0 l1 hx hy h1;obtain ⟨B0,w0,hw0,hB0,AB0,FR,FR0,HB0,hZB0⟩:=en1 w 25 (bxq ca);go_enter Tryz.func156,Tryz.ntmps156
  go_upto_region 1 with fail
  rw [←hw0,←hB0];clear hw0 hB0;refine wT [⟨true,5,5,7,0,0,140,11,cm,0,cm,[]⟩] [(8,aT ca),(9,.tuple #[bF,aT cm]),(7,.tuple #[bF,aT cm]),(10,bF),(11,aT cm),(4,bF)] (by simp only [zu];rfl) (by kernel_rfl) rfl ?_ ?_ ?_ ?_
  ·intro W' hW';refine lhI AB0 hW' V_ca rfl<|fo4 ?_ ?_ ?_ ?_<|fxs rfl<|fxo ?_<|fxs rfl<|fxn;all_goals (go_big_quiet_step (exact qaA (HS.out _));exact wqn rfl)
  ·exact fP1 (Tryz.alG (qG V_cm.out))
  ·exact fP1 (sG V_cm (fun _=>rfl) rfl)
  intro β wx1 E;replace FR:=fnf FR E rfl;obtain ⟨b5,hb5,eb5⟩:=nwb E mms;have lB0_b5:B0<b5:=ltb AB0 eb5.1;have hZb5:B0≤b5:=Nat.le_trans FR0.out eb5.1;have Ab5:=hid eb5.2;simp only [nP,zu];rw [←hb5];clear E eb5 hb5;have HM:=hid (show At wx1 b5 0 (lv 32 v) by have:=Ab5.out;rwa [V_cm.out] at this);have HB:=hid (qiO v k b5 0 wx1 HM.out HV.out.1 HV.out.2);have cx:=HM.out.limb (j:=0) (by omega);have cy:=HM.out.limb (j:=1) (by omega);rw [←HXY.out.1] at cx;rw [←HXY.out.2] at cy;obtain ⟨V,hV⟩:=nqx ((v:Int):Int);rw [←hV] at hor;have hV1:¬V<9223372036854775808:=by omega
  clear hV hvb;go_wp2_with (go_at_call 172;refine HB.out.mono ?_;rintro e w' ⟨rfl,rfl⟩)
  go_ret2
  exact ⟨rfl,qbL HB0 FR⟩
 ·have hkI:(64:Int)<(k:Int):=by omega
  clear h hv h2 hk hs hvb h1;obtain ⟨B0,w0,hw0,hB0,AB0,FR,FR0,HB0,hZB0⟩:=en1 w 25 (bxq ca);go_enter Tryz.func156,Tryz.ntmps156
  go_upto_region 1 with fail
  rw [←hw0,←hB0];clear hw0 hB0;refine wT [⟨true,5,5,7,0,0,140,11,cm,0,cm,[]⟩] [(8,aT ca),(9,.tuple #[bF,aT cm]),(7,.tuple #[bF,aT cm]),(10,bF),(11,aT cm),(4,bF)] (by simp only [zu];rfl) (by kernel_rfl) rfl ?_ ?_ ?_ ?_
  ·intro W' hW';refine lhI AB0 hW' V_ca rfl<|fo4 ?_ ?_ ?_ ?_<|fxs rfl<|fxo ?_<|fxs rfl<|fxn;all_goals (go_big_quiet_step (exact qaA (HS.out _));exact wqn rfl)
  ·exact fP1 (Tryz.alG (qG V_cm.out))
  ·exact fP1 (sG V_cm (fun _=>rfl) rfl)
  intro β wx1 E;replace FR:=fnf FR E rfl;obtain ⟨b5,hb5,eb5⟩:=nwb E mms;have lB0_b5:B0<b5:=ltb AB0 eb5.1;have hZb5:B0≤b5:=Nat.le_trans FR0.out eb5.1;have Ab5:=hid eb5.2;simp only [nP,zu];rw [←hb5];clear E eb5 hb5;have HM:=hid (show At wx1 b5 0 (lv 32 v) by have:=Ab5.out;rwa [V_cm.out] at this);have HB:=hid (qiO v k b5 0 wx1 HM.out HV.out.1 HV.out.2);go_wp2_with (go_at_call 172;refine HB.out.mono ?_;rintro e w' ⟨rfl,rfl⟩)
  go_ret2
  exact ⟨rfl,qbL HB0 FR⟩
theorem qqG {cr:List Value} {r:Qn} {n:Int} (h:cr=ratZ r.1 r.2) (hv:VQ r) (hn:n=r.1 / (r.2:Int)) (h1:1000000000000000<n) (w:World) :
  CB 125 #[.agg cr.toArray,.int .i64 0,.int .i64 3] (.tuple #[.int .i64 0,.int .i64 33]) w:=by
 have hnb:n.natAbs<BB^32:=by
  have e1:=hv.num;have e2:=Int.natAbs_ediv_le_natAbs r.1 (r.2:Int);have e3:BB^15+1≤BB^32:=Nat.pow_lt_pow_right (by unfold BB;decide) (by decide);unfold B480 at e1;rw [hn];omega
 obtain ⟨cv,V_cv⟩:=nvx (.bool (decide (n<0))::lv 32 n.natAbs);have HR:=hid (qiA (cv:=cv) h hv (by rw [V_cv.out,hn];rfl));have V_cr:=hid (show cr=rat (decide (r.1<0)) r.1.natAbs false r.2 from h);by_cases hf:n<9223372036854775808
 ·have HI:=hid (qmE (ca:=cv) (z:=n) V_cv.out (by omega) hf);have p1:¬n < -1000000000000000:=by omega
  clear h hv hn hnb hf;obtain ⟨B0,w0,hw0,hB0,AB0,FR,FR0,HB0,hZB0⟩:=en1 w 27 (bxq cr);go_enter Tryz.func125,Tryz.ntmps125
  go_upto_region 1 with fail
  rw [←hw0,←hB0];clear hw0 hB0;refine wT [⟨true,7,8,8,0,0,25,17,cv,0,cv,[]⟩] [(13,aT cr),(14,iT 0),(15,iT 3),(16,.tuple #[aT cv,iT 0]),(12,.tuple #[aT cv,iT 0]),(17,aT cv),(18,iT 0),(9,iT 0)] (by simp only [zu];rfl) (by kernel_rfl) rfl ?_ ?_ ?_ ?_
  ·intro W' hW';refine lhR AB0 hW' V_cr rfl<|fo4 ?_ ?_ ?_ ?_<|fo2 ?_ ?_<|fxs rfl<|fxs rfl<|fxo ?_<|fxn;all_goals (go_big_quiet_step (exact qaA (HR.out _));exact wqn rfl)
  ·exact fP1 (Tryz.alI (qI V_cv.out))
  ·exact fP1 (sI V_cv (fun _=>rfl) rfl)
  intro β wx1 E;replace FR:=fnf FR E rfl;obtain ⟨b8,hb8,eb8⟩:=nwb E mms;have lB0_b8:B0<b8:=ltb AB0 eb8.1;have hZb8:B0≤b8:=Nat.le_trans FR0.out eb8.1;have Ab8:=hid eb8.2;simp only [nP,zu];rw [←hb8];clear E eb8 hb8;go_upto_region 4 with fail
  refine wE [(23,aT cv),(24,.tuple #[iT n,bT]),(22,.tuple #[iT n,bT]),(25,iT n),(26,bT),(10,iT n),(11,bT)] (by simp only [zu];rfl) (by kernel_rfl) ?_ ?_
  ·intro W' hW';refine lhI Ab8 hW' V_cv rfl<|fo4 ?_ ?_ ?_ ?_<|fo2 ?_ ?_<|fxn;all_goals (go_big_quiet_step (exact qaA (HI.out _));exact wqn rfl)
  intro β wx2 E;replace FR:=fnf FR E rfl;simp only [nP,zu];go_wp2
  go_ret2
  exact ⟨rfl,qbL HB0 FR⟩
 ·have HI:=hid (qkG (ca:=cv) (z:=n) V_cv.out (by omega) hnb);clear h hv hn hnb hf;obtain ⟨B0,w0,hw0,hB0,AB0,FR,FR0,HB0,hZB0⟩:=en1 w 27 (bxq cr);go_enter Tryz.func125,Tryz.ntmps125
  go_upto_region 1 with fail
  rw [←hw0,←hB0];clear hw0 hB0;refine wT [⟨true,7,8,8,0,0,25,17,cv,0,cv,[]⟩] [(13,aT cr),(14,iT 0),(15,iT 3),(16,.tuple #[aT cv,iT 0]),(12,.tuple #[aT cv,iT 0]),(17,aT cv),(18,iT 0),(9,iT 0)] (by simp only [zu];rfl) (by kernel_rfl) rfl ?_ ?_ ?_ ?_
  ·intro W' hW';refine lhR AB0 hW' V_cr rfl<|fo4 ?_ ?_ ?_ ?_<|fo2 ?_ ?_<|fxs rfl<|fxs rfl<|fxo ?_<|fxn;all_goals (go_big_quiet_step (exact qaA (HR.out _));exact wqn rfl)
  ·exact fP1 (Tryz.alI (qI V_cv.out))
  ·exact fP1 (sI V_cv (fun _=>rfl) rfl)
  intro β wx1 E;replace FR:=fnf FR E rfl;obtain ⟨b8,hb8,eb8⟩:=nwb E mms;have lB0_b8:B0<b8:=ltb AB0 eb8.1;have hZb8:B0≤b8:=Nat.le_trans FR0.out eb8.1;have Ab8:=hid eb8.2;simp only [nP,zu];rw [←hb8];clear E eb8 hb8;go_upto_region 4 with fail
  refine wE [(23,aT cv),(24,.tuple #[iT 0,bF]),(22,.tuple #[iT 0,bF]),(25,iT 0),(26,bF),(10,iT 0),(11,bF)] (by simp only [zu];rfl) (by kernel_rfl) ?_ ?_
  ·intro W' hW';refine lhI Ab8 hW' V_cv rfl<|fo4 ?_ ?_ ?_ ?_<|fo2 ?_ ?_<|fxn;all_goals (go_big_quiet_step (exact qaA (HI.out _));exact wqn rfl)
  intro β wx2 E;replace FR:=fnf FR E rfl;simp only [nP,zu];go_wp2
  go_ret2
  exact ⟨rfl,qbL HB0 FR⟩
theorem qtI {cr:List Value} {r:Qn} {n:Int} (h:cr=ratZ r.1 r.2) (hv:VQ r) (hn:n=ceilQ r) (h1:1000000000000000<n) (w:World) :
  CB 125 #[.agg cr.toArray,.int .i64 0,.int .i64 4] (.tuple #[.int .i64 0,.int .i64 33]) w:=by
 have hnb:n.natAbs<BB^32:=by
  have e1:=hv.num;have e2:=Int.natAbs_ediv_le_natAbs r.1 (r.2:Int);have e3:BB^15+1≤BB^32:=Nat.pow_lt_pow_right (by unfold BB;decide) (by decide);unfold B480 at e1;rw [hn];unfold ceilQ;split<;>omega
 obtain ⟨cv,V_cv⟩:=nvx (.bool (decide (n<0))::lv 32 n.natAbs);have HR:=hid (qjC (cv:=cv) h hv (by rw [V_cv.out,hn];rfl));have V_cr:=hid (show cr=rat (decide (r.1<0)) r.1.natAbs false r.2 from h);by_cases hf:n<9223372036854775808
 ·have HI:=hid (qmE (ca:=cv) (z:=n) V_cv.out (by omega) hf);have p1:¬n < -1000000000000000:=by omega
  clear h hv hn hnb hf;obtain ⟨B0,w0,hw0,hB0,AB0,FR,FR0,HB0,hZB0⟩:=en1 w 27 (bxq cr);go_enter Tryz.func125,Tryz.ntmps125
  go_upto_region 1 with fail
  rw [←hw0,←hB0];clear hw0 hB0;refine wT [⟨true,7,8,8,0,0,25,17,cv,0,cv,[]⟩] [(13,aT cr),(14,iT 0),(15,iT 4),(16,.tuple #[aT cv,iT 0]),(12,.tuple #[aT cv,iT 0]),(17,aT cv),(18,iT 0),(9,iT 0)] (by simp only [zu];rfl) (by kernel_rfl) rfl ?_ ?_ ?_ ?_
  ·intro W' hW';refine lhR AB0 hW' V_cr rfl<|fo4 ?_ ?_ ?_ ?_<|fo2 ?_ ?_<|fxs rfl<|fxs rfl<|fxo ?_<|fxn;all_goals (go_big_quiet_step (exact qaA (HR.out _));exact wqn rfl)
  ·exact fP1 (Tryz.alI (qI V_cv.out))
  ·exact fP1 (sI V_cv (fun _=>rfl) rfl)
  intro β wx1 E;replace FR:=fnf FR E rfl;obtain ⟨b8,hb8,eb8⟩:=nwb E mms;have lB0_b8:B0<b8:=ltb AB0 eb8.1;have hZb8:B0≤b8:=Nat.le_trans FR0.out eb8.1;have Ab8:=hid eb8.2;simp only [nP,zu];rw [←hb8];clear E eb8 hb8;go_upto_region 4 with fail
  refine wE [(23,aT cv),(24,.tuple #[iT n,bT]),(22,.tuple #[iT n,bT]),(25,iT n),(26,bT),(10,iT n),(11,bT)] (by simp only [zu];rfl) (by kernel_rfl) ?_ ?_
  ·intro W' hW';refine lhI Ab8 hW' V_cv rfl<|fo4 ?_ ?_ ?_ ?_<|fo2 ?_ ?_<|fxn;all_goals (go_big_quiet_step (exact qaA (HI.out _));exact wqn rfl)
  intro β wx2 E;replace FR:=fnf FR E rfl;simp only [nP,zu];go_wp2
  go_ret2
  exact ⟨rfl,qbL HB0 FR⟩
 ·have HI:=hid (qkG (ca:=cv) (z:=n) V_cv.out (by omega) hnb);clear h hv hn hnb hf;obtain ⟨B0,w0,hw0,hB0,AB0,FR,FR0,HB0,hZB0⟩:=en1 w 27 (bxq cr);go_enter Tryz.func125,Tryz.ntmps125
  go_upto_region 1 with fail
  rw [←hw0,←hB0];clear hw0 hB0;refine wT [⟨true,7,8,8,0,0,25,17,cv,0,cv,[]⟩] [(13,aT cr),(14,iT 0),(15,iT 4),(16,.tuple #[aT cv,iT 0]),(12,.tuple #[aT cv,iT 0]),(17,aT cv),(18,iT 0),(9,iT 0)] (by simp only [zu];rfl) (by kernel_rfl) rfl ?_ ?_ ?_ ?_
  ·intro W' hW';refine lhR AB0 hW' V_cr rfl<|fo4 ?_ ?_ ?_ ?_<|fo2 ?_ ?_<|fxs rfl<|fxs rfl<|fxo ?_<|fxn;all_goals (go_big_quiet_step (exact qaA (HR.out _));exact wqn rfl)
  ·exact fP1 (Tryz.alI (qI V_cv.out))
  ·exact fP1 (sI V_cv (fun _=>rfl) rfl)
  intro β wx1 E;replace FR:=fnf FR E rfl;obtain ⟨b8,hb8,eb8⟩:=nwb E mms;have lB0_b8:B0<b8:=ltb AB0 eb8.1;have hZb8:B0≤b8:=Nat.le_trans FR0.out eb8.1;have Ab8:=hid eb8.2;simp only [nP,zu];rw [←hb8];clear E eb8 hb8;go_upto_region 4 with fail
  refine wE [(23,aT cv),(24,.tuple #[iT 0,bF]),(22,.tuple #[iT 0,bF]),(25,iT 0),(26,bF),(10,iT 0),(11,bF)] (by simp only [zu];rfl) (by kernel_rfl) ?_ ?_
  ·intro W' hW';refine lhI Ab8 hW' V_cv rfl<|fo4 ?_ ?_ ?_ ?_<|fo2 ?_ ?_<|fxn;all_goals (go_big_quiet_step (exact qaA (HI.out _));exact wqn rfl)
  intro β wx2 E;replace FR:=fnf FR E rfl;simp only [nP,zu];go_wp2
  go_ret2
  exact ⟨rfl,qbL HB0 FR⟩
end Go.Proofs.YtemoddmadfoaiaaGreat
