import Derived.Test.YtemoddmadfoaiaaGreatBkM
set_option linter.unusedVariables false
set_option linter.unusedSimpArgs false
set_option maxRecDepth 100000
set_option maxHeartbeats 8000000
namespace Go.Proofs.YtemoddmadfoaiaaGreat
open Go.RowKit Big
open Lib (hid)
theorem qvZ {cr:List Value} {z:Int} {n:Bool} {v:Nat} (h:cr=rat n v false 1) (hn:n=decide (z<0)) (hv:v=z.natAbs) (h1:-9223372036854775808≤z) (h2:z≤9223372036854775807) (w:World) :
  CB 123 #[.int .i64 z] (.agg cr.toArray) w:=by
 have V_cr:=hid h;obtain ⟨cn,V_cn⟩:=nvx (.bool n::lv 32 v);obtain ⟨co,V_co⟩:=nvx (.bool false::lv 32 1);obtain ⟨cz,V_cz⟩:=nvx (rat false 0 false 0);have HZ:=hid (qiK V_cn.out hn hv h1 h2);have HO:=hid (qiK (z:=1) V_co.out rfl rfl (by decide) (by decide));clear h hn hv h1 h2;obtain ⟨B0,w0,hw0,hB0,AB0,FR,FR0,HB0,hZB0⟩:=en1 w 27 (zQR V_cz);go_enter Tryz.func123,Tryz.ntmps123
 go_upto_region 1 with fail
 rw [←hw0,←hB0];clear hw0 hB0;refine wF [⟨false,0,2,4,B0,0,27,6,cr,0,cr,[]⟩] [(3,iT z),(4,aT cn),(5,aT co),(6,aT cr)] (by simp only [zu];rfl) (by kernel_rfl) ?_ ?_ (fP1 bnC) ?_ uno ?_ ?_
 ·intro W' hW';refine fo2 ?_ ?_<|fxo (by go_big_quiet_step (exact qaA (HO.out _));exact wqn rfl)<|fxb (qfE V_cn.out V_co.out V_cr.out) rfl<|fxs rfl<|fxn;all_goals (go_big_quiet_step (exact qaA (HZ.out _));exact wqn rfl)
 ·intro W' hK';refine fxi ?_<|fxs (by kernel_rfl)<|fxs (by kernel_rfl)<|fxb (qfE V_cn.out V_co.out V_cr.out) rfl<|fxs (by kernel_rfl)<|fxn
  first|(refine .inr ?_;go_big_quiet_step (fail);exact wqn rfl)|exact .inl (by kernel_rfl)
 ·exact fP1 (fun _=>rmh AB0 (qR V_cz.out) (qR V_cr.out) rfl)
 ·exact fP1 (sR V_cr (fun _=>rfl) rfl)
 intro β wx1 E;replace FR:=ffh FR E (by omega);replace AB0:=aoh E AB0 mms;simp only [nP,zu];go_wp2_with fail
 have hld:=rdR AB0 V_cr;refine bodyPost_ret (v:=.agg cr.toArray) (by simp [results,Tryz.results123,asAddr,hld]) rfl ?_;exact ⟨rfl,qbL HB0 FR⟩
theorem jdX {m:Bool} {q:Nat}:decide (0<sgnI m q)=decide (m=false∧q≠0):=by
 unfold sgnI;by_cases h:q=0<;>cases m<;>simp [h]
theorem qoF {cr:List Value} {n m r:Bool} {p q:Nat} (h:cr=rat n p m q) (hr:r=decide (p<B480∧q<B480∧n=cs1 n p∧m=false∧q≠0∧Nat.gcd p q=1)) (hp:p<BB^32) (hq:q<BB^32) (w:World) :
  CB 106 #[.agg cr.toArray] (.bool r) w:=by
 have V_cr:=hid h;obtain ⟨c1,hc1⟩:=nqx (decide (p<B480∧q<B480));obtain ⟨c2,hc2⟩:=nqx (decide (n=cs1 n p));obtain ⟨c3,hc3⟩:=nqx (decide (m=cs1 m q));obtain ⟨s,hs⟩:=nqx (sgnI m q);obtain ⟨c4,hc4⟩:=nqx (decide (0<s));obtain ⟨g,hg⟩:=nqx (Nat.gcd p q);obtain ⟨c5,hc5⟩:=nqx (decide (false=false∧g=1));have hgB:g<BB^32:=by rw [hg];exact qkM hp hq
 have hrr:r=(c1&&(c2&&(c3&&(c4&&c5)))):=by
  rw [hr,hc1,hc2,hc3,hc4,hc5,hs,jdX,hg];simp only [true_and];rw [←Bool.decide_and,←Bool.decide_and,←Bool.decide_and,←Bool.decide_and];congr 1
  apply propext
  constructor
  ·rintro ⟨h1,h2,h3,h4,h5,h6⟩;exact ⟨⟨h1,h2⟩,h3,by subst h4;rfl,⟨h4,h5⟩,h6⟩
  ·rintro ⟨⟨h1,h2⟩,h3,_,⟨h4,h5⟩,h6⟩;exact ⟨h1,h2,h3,h4,h5,h6⟩
 obtain ⟨cn,V_cn⟩:=nvx (.bool n::lv 32 p);obtain ⟨cd,V_cd⟩:=nvx (.bool m::lv 32 q);obtain ⟨cg,V_cg⟩:=nvx (.bool false::lv 32 g);obtain ⟨co,V_co⟩:=nvx (.bool false::lv 32 1);have HF:=hid (qyA V_cr.out hc1 hp hq);have HC2:=hid (qiD V_cn.out hc2 hp);have HC3:=hid (qiD V_cd.out hc3 hq);have HS:=hid (qeL V_cd.out hs hq);have HG:=hid (qwI V_cn.out V_cd.out V_cg.out hg hp hq);have HO:=hid (qiK (z:=1) V_co.out rfl rfl (by decide) (by decide));have HE:=hid hc5;have H1:=hid (And.intro hgB (show 1<BB^32 from Nat.one_lt_pow (by omega) (by unfold BB;omega)));have hc4':=hc4.symm;clear h hr hp hq hc1 hc2 hc3 hs hg hc5 hgB hc4;obtain ⟨B0,w0,hw0,hB0,AB0,FR,FR0,HB0,hZB0⟩:=en1 w 27 (bxq cr);go_enter Tryz.func106,Tryz.ntmps106
 go_upto_region 1 with fail
 rw [←hw0,←hB0];clear hw0 hB0;have AB0_n:=hid (AB0.out.num V_cr.out V_cn.out);have AB0_d:=hid (AB0.out.den V_cr.out V_cd.out)
 cases c1 with
 | false =>
  have hr3:r=false:=by rw [hrr];simp
  subst hr3;clear hrr;refine wE [(3,aT cr),(4,bF),(5,bF),(6,undef),(7,undef),(8,undef),(9,bF),(10,bF),(11,undef),(12,undef),(13,undef),(14,bF),(15,bF),(16,undef),(17,undef),(18,undef),(19,undef),(20,bF),(21,bF),(22,undef),(23,undef),(24,undef),(25,undef),(26,undef),(27,undef),(28,undef),(29,bF),(2,bF)] (by simp only [zu];rfl) (by kernel_rfl) ?_ ?_
  ·intro W' hW';refine lhR AB0 hW' V_cr rfl<|fo4 ?_ ?_ ?_ ?_<|fo4 ?_ ?_ ?_ ?_<|fo4 ?_ ?_ ?_ ?_<|fo4 ?_ ?_ ?_ ?_<|fo4 ?_ ?_ ?_ ?_<|fo4 ?_ ?_ ?_ ?_<|fo3 ?_ ?_ ?_<|fxn;all_goals (go_big_quiet_step (exact qaA (HF.out _));exact wqn rfl)
  intro β wx1 E;replace FR:=fnf FR E rfl;simp only [nP,zu];go_wp2
  go_ret
  exact ⟨rfl,qbL HB0 FR⟩
 | true =>
  cases c2 with
  | false =>
   have hr3:r=false:=by rw [hrr];simp
   subst hr3;clear hrr;refine wE [(3,aT cr),(4,bT),(5,bT),(6,pT B0 0),(7,aT cn),(8,bF),(9,bF),(10,bF),(11,undef),(12,undef),(13,undef),(14,bF),(15,bF),(16,undef),(17,undef),(18,undef),(19,undef),(20,bF),(21,bF),(22,undef),(23,undef),(24,undef),(25,undef),(26,undef),(27,undef),(28,undef),(29,bF),(2,bF)] (by simp only [zu];rfl) (by kernel_rfl) ?_ ?_
   ·intro W' hW';refine lhR AB0 hW' V_cr rfl<|fo3 ?_ ?_ ?_<|lhI AB0_n hW' V_cn rfl<|fxo (by go_big_quiet_step (exact qaA (HC2.out _));exact wqn rfl)<|fo4 ?_ ?_ ?_ ?_<|fo4 ?_ ?_ ?_ ?_<|fo4 ?_ ?_ ?_ ?_<|fo4 ?_ ?_ ?_ ?_<|fo4 ?_ ?_ ?_ ?_<|fo2 ?_ ?_<|fxn;all_goals (go_big_quiet_step (exact qaA (HF.out _));exact wqn rfl)
   intro β wx1 E;replace FR:=fnf FR E rfl;simp only [nP,zu];go_wp2
   go_ret
   exact ⟨rfl,qbL HB0 FR⟩
  | true =>
   cases c3 with
   | false =>
    have hr3:r=false:=by rw [hrr];simp
    subst hr3;clear hrr;refine wE [(3,aT cr),(4,bT),(5,bT),(6,pT B0 0),(7,aT cn),(8,bT),(9,bT),(10,bT),(11,pT B0 33),(12,aT cd),(13,bF),(14,bF),(15,bF),(16,undef),(17,undef),(18,undef),(19,undef),(20,bF),(21,bF),(22,undef),(23,undef),(24,undef),(25,undef),(26,undef),(27,undef),(28,undef),(29,bF),(2,bF)] (by simp only [zu];rfl) (by kernel_rfl) ?_ ?_
    ·intro W' hW';refine lhR AB0 hW' V_cr rfl<|fo3 ?_ ?_ ?_<|lhI AB0_n hW' V_cn rfl<|fxo (by go_big_quiet_step (exact qaA (HC2.out _));exact wqn rfl)<|fo3 ?_ ?_ ?_<|lhI AB0_d hW' V_cd rfl<|fxo (by go_big_quiet_step (exact qaA (HC3.out _));exact wqn rfl)<|fo4 ?_ ?_ ?_ ?_<|fo4 ?_ ?_ ?_ ?_<|fo4 ?_ ?_ ?_ ?_<|fo4 ?_ ?_ ?_ ?_<|fxo ?_<|fxn;all_goals (go_big_quiet_step (exact qaA (HF.out _));exact wqn rfl)
    intro β wx1 E;replace FR:=fnf FR E rfl;simp only [nP,zu];go_wp2
    go_ret
    exact ⟨rfl,qbL HB0 FR⟩
   | true =>
    cases c4 with
    | false =>
     have hr3:r=false:=by rw [hrr];simp
     subst hr3;clear hrr;refine wE [(3,aT cr),(4,bT),(5,bT),(6,pT B0 0),(7,aT cn),(8,bT),(9,bT),(10,bT),(11,pT B0 33),(12,aT cd),(13,bT),(14,bT),(15,bT),(16,pT B0 33),(17,aT cd),(18,iT s),(19,bF),(20,bF),(21,bF),(22,undef),(23,undef),(24,undef),(25,undef),(26,undef),(27,undef),(28,undef),(29,bF),(2,bF)] (by simp only [zu];rfl) (by kernel_rfl) ?_ ?_
     ·intro W' hW';have rd2:=AB0_d.out.below hW';refine lhR AB0 hW' V_cr rfl<|fo3 ?_ ?_ ?_<|lhI AB0_n hW' V_cn rfl<|fxo (by go_big_quiet_step (exact qaA (HC2.out _));exact wqn rfl)<|fo3 ?_ ?_ ?_<|ldI rd2 V_cd rfl<|fxo (by go_big_quiet_step (exact qaA (HC3.out _));exact wqn rfl)<|fo3 ?_ ?_ ?_<|ldI rd2 V_cd rfl<|fxo (by go_big_quiet_step (exact qaA (HS.out _));exact wqn rfl)<|fo4 ?_ ?_ ?_ ?_<|fo4 ?_ ?_ ?_ ?_<|fo4 ?_ ?_ ?_ ?_<|fxn;all_goals (go_big_quiet_step (exact qaA (HF.out _));exact wqn rfl)
     intro β wx1 E;replace FR:=fnf FR E rfl;simp only [nP,zu];go_wp2
     go_ret
     exact ⟨rfl,qbL HB0 FR⟩
    | true =>
     have hr3:r=c5:=by rw [hrr];simp
     subst hr3;clear hrr;refine wE [(3,aT cr),(4,bT),(5,bT),(6,pT B0 0),(7,aT cn),(8,bT),(9,bT),(10,bT),(11,pT B0 33),(12,aT cd),(13,bT),(14,bT),(15,bT),(16,pT B0 33),(17,aT cd),(18,iT s),(19,bT),(20,bT),(21,bT),(22,pT B0 0),(23,aT cn),(24,pT B0 33),(25,aT cd),(26,aT cg),(27,aT co),(28,.bool r),(29,.bool r),(2,.bool r)] (by simp only [zu];rfl) (by kernel_rfl) ?_ ?_
     ·intro W' hW';have rd1:=AB0_n.out.below hW';have rd2:=AB0_d.out.below hW';refine lhR AB0 hW' V_cr rfl<|fo3 ?_ ?_ ?_<|ldI rd1 V_cn rfl<|fxo (by go_big_quiet_step (exact qaA (HC2.out _));exact wqn rfl)<|fo3 ?_ ?_ ?_<|ldI rd2 V_cd rfl<|fxo (by go_big_quiet_step (exact qaA (HC3.out _));exact wqn rfl)<|fo3 ?_ ?_ ?_<|ldI rd2 V_cd rfl<|fxo (by go_big_quiet_step (exact qaA (HS.out _));exact wqn rfl)<|fo4 ?_ ?_ ?_ ?_<|ldI rd1 V_cn rfl<|fxo ?_<|ldI rd2 V_cd rfl<|fxo (by go_big_quiet_step (exact qaA (HG.out _));exact wqn rfl)<|fxo (by go_big_quiet_step (exact qaA (HO.out _));exact wqn rfl)<|fxo (qgB (r:=r) (by rfl) rfl rfl rfl V_cg.out V_co.out H1.out.1 H1.out.2 HE.out (wqn (by simp only [zq])))<|fo2 ?_ ?_<|fxn;all_goals (go_big_quiet_step (exact qaA (HF.out _));exact wqn rfl)
     intro β wx1 E;replace FR:=fnf FR E rfl;simp only [nP,zu];go_wp2
     go_ret
     exact ⟨rfl,qbL HB0 FR⟩
theorem jaU {ca cb cR:List Value} {na nb n ok:Bool} {a b g p q:Nat} {code:Int} (h1:ca=.bool na::lv 32 a) (h2:cb=.bool nb::lv 32 b) (hn:n=cs1 (na != nb) p) (hg:g=Nat.gcd a b) (hp:p=a / g) (hq:q=b / g) (hok:ok=decide (p<B480∧q<B480))
  (hR:cR=if ok=true then rat n p false q else rat false 0 false 0) (hcode:code=if ok=true then 0 else 10) (ha:a<BB^32) (hb:b<BB^32) (h0:b≠0) (w:World) :
  CB 75 #[.agg ca.toArray,.agg cb.toArray] (.tuple #[.agg cR.toArray,.int .i64 code]) w:=by
 have V_ca:=hid h1;have V_cb:=hid h2;have hg0:g≠0:=by rw [hg];intro h;exact h0 (Nat.eq_zero_of_gcd_eq_zero_right h)
 have hga:g∣a:=by rw [hg];exact Nat.gcd_dvd_left a b
 have hgb:g∣b:=by rw [hg];exact Nat.gcd_dvd_right a b
 have hq0:q≠0:=by rw [hq];intro h;have:=Nat.div_mul_cancel hgb;rw [h] at this;omega
 have hgB:g<BB^32:=by rw [hg];exact qkM ha hb
 have hpB:p<BB^32:=by rw [hp];exact Nat.lt_of_le_of_lt (Nat.div_le_self _ _) ha
 have hqB:q<BB^32:=by rw [hq];exact Nat.lt_of_le_of_lt (Nat.div_le_self _ _) hb
 obtain ⟨s,hs⟩:=nqx (sgnI nb b)
 have hse:(s==0)=false:=by
  rw [hs];unfold sgnI;rw [if_neg h0];cases nb<;>rfl
 have hsl:decide (s<0)=nb:=by
  rw [hs];unfold sgnI;rw [if_neg h0];cases nb<;>rfl
 obtain ⟨cg,V_cg⟩:=nvx (.bool false::lv 32 g);obtain ⟨ch,V_ch⟩:=nvx (.bool nb::lv 32 g);obtain ⟨cN,V_cN⟩:=nvx (.bool n::lv 32 p);obtain ⟨cD,V_cD⟩:=nvx (.bool false::lv 32 q);obtain ⟨cz,V_cz⟩:=nvx (rat false 0 false 0);obtain ⟨cM,V_cM⟩:=nvx (rat n p false q);have HS:=hid (qeL V_cb.out hs hb);have HG:=hid (qwI V_ca.out V_cb.out V_cg.out hg ha hb);have HNG:=hid (fun (h:nb=true)=>jeM (n:=nb) V_cg.out V_ch.out (by rw [h];simp [cs1,hg0]) hgB);have HW1:=hid (qqZ (s:=n) (cq:=cN) V_ca.out V_ch.out (by rw [←hp];exact V_cN.out) (by rw [hn,hp]) (.inr (Nat.mod_eq_zero_of_dvd hga)) ha hgB hg0);have HW2:=hid (qqZ (s:=false) (cq:=cD) V_cb.out V_ch.out (by rw [←hq];exact V_cD.out) (by cases nb<;>rfl) (.inr (Nat.mod_eq_zero_of_dvd hgb)) hb hgB hg0);have HF:=hid (qyA V_cM.out hok hpB hqB);have HCG:=hid (show nb=false→cg=ch by intro h;rw [V_cg.out,V_ch.out,h]);have HRR:=hid (And.intro hR hcode);clear h1 h2 hn hg hp hq ha hb h0 hg0 hga hgb hq0 hgB hpB hqB hs hR hcode hok;obtain ⟨B0,B1,B2,w0,hw0,hB0,hB1,hB2,AB0,AB1,AB2,FR,FR0,HB0,hZB0,l01,hZB1,l12,hZB2⟩:=en3 w 25 25 27 (bxq ca) (bxq cb) (zQR V_cz);go_enter Tryz.func75,Tryz.ntmps75
 go_upto_region 1 with fail
 rw [←hw0,←hB2,←hB1,←hB0];clear hw0 hB0 hB1 hB2;refine wE [(8,aT cb),(9,iT s),(10,bF)] (by simp only [zu];rfl) (by kernel_rfl) ?_ ?_
 ·intro W' hW';refine lhI AB1 hW' V_cb rfl<|fo2 ?_ ?_<|fxn;all_goals (go_big_quiet_step (exact qaA (HS.out _));exact wqn rfl)
 intro β wx1 E;replace FR:=fnf FR E rfl;replace AB0:=fnh AB0 E rfl;replace AB1:=fnh AB1 E rfl;replace AB2:=fnh AB2 E rfl;simp only [nP,zu];replace FR0:=hid FR.out.le;clear hse;go_upto_region 3 with fail
 refine wT [⟨true,3,6,4,0,0,25,14,cg,0,cg,[]⟩] [(12,aT ca),(13,aT cb),(14,aT cg)] (by simp only [zu];rfl) (by kernel_rfl) rfl ?_ ?_ ?_ ?_
 ·intro W' hW';refine lhI AB0 hW' V_ca rfl<|lhI AB1 hW' V_cb rfl<|fxo ?_<|fxs rfl<|fxs rfl<|fxn
  go_big_quiet_step (exact qaA (HG.out _));exact wqn rfl
 ·exact fP1 (Tryz.alI (qI V_cg.out))
 ·exact fP1 (sI V_cg (fun _=>rfl) rfl)
 intro β wx2 E;replace FR:=fnf FR E rfl;obtain ⟨b6,hb6,eb6⟩:=nwb E mms;have lB0_b6:B0<b6:=ltb AB0 eb6.1;have lB1_b6:B1<b6:=ltb AB1 eb6.1;have lB2_b6:B2<b6:=ltb AB2 eb6.1;have hZb6:B0≤b6:=Nat.le_trans FR0.out eb6.1;replace AB0:=fnh AB0 E rfl;replace AB1:=fnh AB1 E rfl;replace AB2:=fnh AB2 E rfl;have Ab6:=hid eb6.2;simp only [nP,zu];rw [←hb6];replace FR0:=hid FR.out.le;clear E eb6 hb6;go_upto_region 4 with fail
 cases nb with
 | true =>
  refine wE [(15,aT cb),(16,iT s),(17,bT)] (by simp only [zu];rfl) (by kernel_rfl) ?_ ?_
  ·intro W' hW';refine lhI AB1 hW' V_cb rfl<|fo2 ?_ ?_<|fxn;all_goals (go_big_quiet_step (exact qaA (HS.out _));exact wqn rfl)
  intro β wx3 E;replace FR:=fnf FR E rfl;replace AB0:=fnh AB0 E rfl;replace AB1:=fnh AB1 E rfl;replace AB2:=fnh AB2 E rfl;replace Ab6:=fnh Ab6 E rfl;simp only [nP,zu];replace FR0:=hid FR.out.le;clear hsl;go_upto_region 5 with fail
  refine wF [⟨false,0,6,2,b6,0,25,19,ch,0,ch,[]⟩] [(18,aT cg),(19,aT ch)] (by simp only [zu];rfl) (by kernel_rfl) ?_ ?_ (fP1 bnC) ?_ uno ?_ ?_
  ·intro W' hW';refine lhI Ab6 hW' V_cg rfl<|fxo ?_<|fxs rfl<|fxn
   go_big_quiet_step (exact qaA (HNG.out rfl _));exact wqn rfl
  ·intro W' hK';iterate 3 (refine fxs (by kernel_rfl) ?_)
   exact fxn
  ·exact fP1 (fun _=>rmh Ab6 (qI V_cg.out) (qI V_ch.out) rfl)
  ·exact fP1 (sI V_ch (fun _=>rfl) rfl)
  intro β wx4 E;replace FR:=ffh FR E (by omega);replace AB0:=afh AB0 E (by omega);replace AB1:=afh AB1 E (by omega);replace AB2:=afh AB2 E (by omega);replace Ab6:=aoh E Ab6 mms;simp only [nP,zu];replace FR0:=hid FR.out.le;go_upto_region 6 with fail
  refine wT [⟨true,7,7,8,0,0,27,26,cM,0,cM,[]⟩] [(20,aT ca),(21,aT ch),(22,aT cN),(23,aT cb),(24,aT ch),(25,aT cD),(26,aT cM)] (by simp only [zu];rfl) (by kernel_rfl) rfl ?_ ?_ ?_ ?_
  ·intro W' hW';have rd1:=Ab6.out.below hW';refine lhI AB0 hW' V_ca rfl<|ldI rd1 V_ch rfl<|fxo ?_<|lhI AB1 hW' V_cb rfl<|ldI rd1 V_ch rfl<|fxo (by go_big_quiet_step (exact qaA (HW2.out _));exact wqn rfl)<|fxb (qfE V_cN.out V_cD.out V_cM.out) rfl<|fxs rfl<|fxs rfl<|fxn
   go_big_quiet_step (exact qaA (HW1.out _));exact wqn rfl
  ·exact fP1 (Tryz.alR (qR V_cM.out))
  ·exact fP1 (sR V_cM (fun _=>rfl) rfl)
  intro β wx5 E;replace FR:=fnf FR E rfl;obtain ⟨b7,hb7,eb7⟩:=nwb E mms;have lB0_b7:B0<b7:=ltb AB0 eb7.1;have lB1_b7:B1<b7:=ltb AB1 eb7.1;have lB2_b7:B2<b7:=ltb AB2 eb7.1;have lb6_b7:b6<b7:=ltb Ab6 eb7.1;have hZb7:B0≤b7:=Nat.le_trans FR0.out eb7.1;replace AB2:=fnh AB2 E rfl;have Ab7:=hid eb7.2;simp only [nP,zu];rw [←hb7];clear E eb7 hb7;go_upto_region 7 with fail
  cases ok with
  | true =>
   refine wE [(27,aT cM),(28,bT),(29,bF)] (by simp only [zu];rfl) (by kernel_rfl) ?_ ?_
   ·intro W' hW';refine lhR Ab7 hW' V_cM rfl<|fo2 ?_ ?_<|fxn;all_goals (go_big_quiet_step (exact qaA (HF.out _));exact wqn rfl)
   intro β wx6 E;replace FR:=fnf FR E rfl;replace AB2:=fnh AB2 E rfl;replace Ab7:=fnh Ab7 E rfl;simp only [nP,zu];go_upto_region 9 with fail
   refine wF [⟨false,0,4,1,B2,0,27,31,cM,0,cM,[]⟩] [(31,aT cM),(5,iT 0)] (by simp only [zu];rfl) (by kernel_rfl) ?_ ?_ (fP1 bnC) ?_ uno ?_ ?_
   ·intro W' hW';refine lhR Ab7 hW' V_cM rfl<|fxs rfl<|fxo ?_<|fxn
    go_big_quiet_step (fail);exact wqn rfl
   ·intro W' hK';have rd0:=akh Ab7 hK' (by omega);refine ldR rd0 V_cM rfl<|fxs (by kernel_rfl)<|fxi ?_<|fxn
    first|(refine .inr ?_;go_big_quiet_step (fail);exact wqn rfl)|exact .inl (by kernel_rfl)
   ·exact fP1 (fun _=>rmh AB2 (qR V_cz.out) (qR V_cM.out) rfl)
   ·exact fP1 (sR V_cM (fun _=>rfl) rfl)
   intro β wx7 E;replace FR:=ffh FR E (by omega);replace AB2:=aoh E AB2 mms;simp only [nP,zu]
   have hres:cM=cR∧code=0:=by
    obtain ⟨h1,h2⟩:=HRR.out;simp only [if_true] at h1 h2;exact ⟨by rw [V_cM.out,h1],h2⟩
   obtain ⟨rfl,rfl⟩:=hres;go_wp2_with fail
   have hld:=rdR AB2 V_cM;refine bodyPost_ret (v:=.tuple #[.agg cM.toArray,.int .i64 0]) (by simp [results,Tryz.results75,asAddr,hld]) rfl ?_;exact ⟨rfl,qbL HB0 FR⟩
  | false =>
   refine wE [(27,aT cM),(28,bF),(29,bT)] (by simp only [zu];rfl) (by kernel_rfl) ?_ ?_
   ·intro W' hW';refine lhR Ab7 hW' V_cM rfl<|fo2 ?_ ?_<|fxn;all_goals (go_big_quiet_step (exact qaA (HF.out _));exact wqn rfl)
   intro β wx6 E;replace FR:=fnf FR E rfl;replace AB2:=fnh AB2 E rfl;simp only [nP,zu];go_upto_region 8 with fail
   refine wF [⟨false,0,4,1,B2,0,27,30,cz,0,cz,[]⟩] [(30,aT cz),(5,iT 10)] (by simp only [zu];rfl) (by kernel_rfl) ?_ ?_ (fP1 bnC) ?_ uno ?_ ?_
   ·intro W' hW';refine fxb (qbP V_cz.out) rfl<|fxs rfl<|fxo ?_<|fxn
    go_big_quiet_step (fail);exact wqn rfl
   ·intro W' hK';refine fxb (qbP V_cz.out) rfl<|fxs (by kernel_rfl)<|fxi ?_<|fxn
    first|(refine .inr ?_;go_big_quiet_step (fail);exact wqn rfl)|exact .inl (by kernel_rfl)
   ·exact fP1 (fun _=>rmh AB2 (qR V_cz.out) (qR V_cz.out) rfl)
   ·exact fP1 (sR V_cz (fun _=>rfl) rfl)
   intro β wx7 E;replace FR:=ffh FR E (by omega);replace AB2:=aoh E AB2 mms;simp only [nP,zu]
   have hres:cz=cR∧code=10:=by
    obtain ⟨h1,h2⟩:=HRR.out;simp only [Bool.false_eq_true,if_false] at h1 h2;exact ⟨by rw [V_cz.out,h1],h2⟩
   obtain ⟨rfl,rfl⟩:=hres;go_wp2_with fail
   have hld:=rdR AB2 V_cz;refine bodyPost_ret (v:=.tuple #[.agg cz.toArray,.int .i64 10]) (by simp [results,Tryz.results75,asAddr,hld]) rfl ?_;exact ⟨rfl,qbL HB0 FR⟩
 | false =>
  refine wE [(15,aT cb),(16,iT s),(17,bF)] (by simp only [zu];rfl) (by kernel_rfl) ?_ ?_
  ·intro W' hW';refine lhI AB1 hW' V_cb rfl<|fo2 ?_ ?_<|fxn;all_goals (go_big_quiet_step (exact qaA (HS.out _));exact wqn rfl)
  intro β wx3 E;replace FR:=fnf FR E rfl;replace AB0:=fnh AB0 E rfl;replace AB1:=fnh AB1 E rfl;replace AB2:=fnh AB2 E rfl;replace Ab6:=fnh Ab6 E rfl;simp only [nP,zu];replace FR0:=hid FR.out.le;clear hsl;rw [HCG.out rfl] at Ab6;go_upto_region 6 with fail
  refine wT [⟨true,7,7,8,0,0,27,26,cM,0,cM,[]⟩] [(20,aT ca),(21,aT ch),(22,aT cN),(23,aT cb),(24,aT ch),(25,aT cD),(26,aT cM)] (by simp only [zu];rfl) (by kernel_rfl) rfl ?_ ?_ ?_ ?_
  ·intro W' hW';have rd1:=Ab6.out.below hW';refine lhI AB0 hW' V_ca rfl<|ldI rd1 V_ch rfl<|fxo ?_<|lhI AB1 hW' V_cb rfl<|ldI rd1 V_ch rfl<|fxo (by go_big_quiet_step (exact qaA (HW2.out _));exact wqn rfl)<|fxb (qfE V_cN.out V_cD.out V_cM.out) rfl<|fxs rfl<|fxs rfl<|fxn
   go_big_quiet_step (exact qaA (HW1.out _));exact wqn rfl
  ·exact fP1 (Tryz.alR (qR V_cM.out))
  ·exact fP1 (sR V_cM (fun _=>rfl) rfl)
  intro β wx4 E;replace FR:=fnf FR E rfl;obtain ⟨b7,hb7,eb7⟩:=nwb E mms;have lB0_b7:B0<b7:=ltb AB0 eb7.1;have lB1_b7:B1<b7:=ltb AB1 eb7.1;have lB2_b7:B2<b7:=ltb AB2 eb7.1;have lb6_b7:b6<b7:=ltb Ab6 eb7.1;have hZb7:B0≤b7:=Nat.le_trans FR0.out eb7.1;replace AB2:=fnh AB2 E rfl;have Ab7:=hid eb7.2;simp only [nP,zu];rw [←hb7];clear E eb7 hb7;go_upto_region 7 with fail
  cases ok with
  | true =>
   refine wE [(27,aT cM),(28,bT),(29,bF)] (by simp only [zu];rfl) (by kernel_rfl) ?_ ?_
   ·intro W' hW';refine lhR Ab7 hW' V_cM rfl<|fo2 ?_ ?_<|fxn;all_goals (go_big_quiet_step (exact qaA (HF.out _));exact wqn rfl)
   intro β wx5 E;replace FR:=fnf FR E rfl;replace AB2:=fnh AB2 E rfl;replace Ab7:=fnh Ab7 E rfl;simp only [nP,zu];go_upto_region 9 with fail
   refine wF [⟨false,0,4,1,B2,0,27,31,cM,0,cM,[]⟩] [(31,aT cM),(5,iT 0)] (by simp only [zu];rfl) (by kernel_rfl) ?_ ?_ (fP1 bnC) ?_ uno ?_ ?_
   ·intro W' hW';refine lhR Ab7 hW' V_cM rfl<|fxs rfl<|fxo ?_<|fxn
    go_big_quiet_step (fail);exact wqn rfl
   ·intro W' hK';have rd0:=akh Ab7 hK' (by omega);refine ldR rd0 V_cM rfl<|fxs (by kernel_rfl)<|fxi ?_<|fxn
    first|(refine .inr ?_;go_big_quiet_step (fail);exact wqn rfl)|exact .inl (by kernel_rfl)
   ·exact fP1 (fun _=>rmh AB2 (qR V_cz.out) (qR V_cM.out) rfl)
   ·exact fP1 (sR V_cM (fun _=>rfl) rfl)
   intro β wx6 E;replace FR:=ffh FR E (by omega);replace AB2:=aoh E AB2 mms;simp only [nP,zu]
   have hres:cM=cR∧code=0:=by
    obtain ⟨h1,h2⟩:=HRR.out;simp only [if_true] at h1 h2;exact ⟨by rw [V_cM.out,h1],h2⟩
   obtain ⟨rfl,rfl⟩:=hres;go_wp2_with fail
   have hld:=rdR AB2 V_cM;refine bodyPost_ret (v:=.tuple #[.agg cM.toArray,.int .i64 0]) (by simp [results,Tryz.results75,asAddr,hld]) rfl ?_;exact ⟨rfl,qbL HB0 FR⟩
  | false =>
   refine wE [(27,aT cM),(28,bF),(29,bT)] (by simp only [zu];rfl) (by kernel_rfl) ?_ ?_
   ·intro W' hW';refine lhR Ab7 hW' V_cM rfl<|fo2 ?_ ?_<|fxn;all_goals (go_big_quiet_step (exact qaA (HF.out _));exact wqn rfl)
   intro β wx5 E;replace FR:=fnf FR E rfl;replace AB2:=fnh AB2 E rfl;simp only [nP,zu];go_upto_region 8 with fail
   refine wF [⟨false,0,4,1,B2,0,27,30,cz,0,cz,[]⟩] [(30,aT cz),(5,iT 10)] (by simp only [zu];rfl) (by kernel_rfl) ?_ ?_ (fP1 bnC) ?_ uno ?_ ?_
   ·intro W' hW';refine fxb (qbP V_cz.out) rfl<|fxs rfl<|fxo ?_<|fxn
    go_big_quiet_step (fail);exact wqn rfl
   ·intro W' hK';refine fxb (qbP V_cz.out) rfl<|fxs (by kernel_rfl)<|fxi ?_<|fxn
    first|(refine .inr ?_;go_big_quiet_step (fail);exact wqn rfl)|exact .inl (by kernel_rfl)
   ·exact fP1 (fun _=>rmh AB2 (qR V_cz.out) (qR V_cz.out) rfl)
   ·exact fP1 (sR V_cz (fun _=>rfl) rfl)
   intro β wx6 E;replace FR:=ffh FR E (by omega);replace AB2:=aoh E AB2 mms;simp only [nP,zu]
   have hres:cz=cR∧code=10:=by
    obtain ⟨h1,h2⟩:=HRR.out;simp only [Bool.false_eq_true,if_false] at h1 h2;exact ⟨by rw [V_cz.out,h1],h2⟩
   obtain ⟨rfl,rfl⟩:=hres;go_wp2_with fail
   have hld:=rdR AB2 V_cz;refine bodyPost_ret (v:=.tuple #[.agg cz.toArray,.int .i64 10]) (by simp [results,Tryz.results75,asAddr,hld]) rfl ?_;exact ⟨rfl,qbL HB0 FR⟩
end Go.Proofs.YtemoddmadfoaiaaGreat
namespace Go.Proofs.YtemoddmadfoaiaaGreat
open Go.RowKit Big
def iZ (z:Int):List Value:=.bool (decide (z<0))::lv 32 z.natAbs
def ratZ (z:Int) (q:Nat):List Value:=rat (decide (z<0)) z.natAbs false q
theorem qpP (z:Int):zI (decide (z<0)) z.natAbs=z:=by
 unfold zI;by_cases h:z<0
 ·simp [h];omega
 ·simp [h];omega
theorem qzO (n:Bool) (v:Nat):zI (cs1 n v) v=zI n v:=by
 unfold zI cs1
 cases n
 ·simp
 ·by_cases h:v=0<;>simp [h]
theorem jcI (z:Int):cs1 (decide (z<0)) z.natAbs=decide (z<0):=by
 unfold cs1;by_cases h:z<0
 ·have:z.natAbs≠0:=by omega
  simp [h,this]
 ·simp [h]
theorem qnK (a b:Int):(a*b).natAbs=a.natAbs*b.natAbs:=Int.natAbs_mul a b
theorem qiI (a b:Int):decide (a*b<0)=cs1 (decide (a<0) != decide (b<0)) (a.natAbs*b.natAbs):=by
 unfold cs1;rcases Int.lt_trichotomy a 0 with ha|ha|ha<;>rcases Int.lt_trichotomy b 0 with hb|hb|hb
 ·have:=Int.mul_pos_of_neg_of_neg ha hb
  have h1:¬a*b<0:=by omega
  simp [ha,hb,h1]
 ·subst hb;simp
 ·have:=Int.mul_neg_of_neg_of_pos ha hb
  have h2:¬b<0:=by omega
  have h3:a.natAbs*b.natAbs≠0:=Nat.mul_ne_zero (by omega) (by omega);simp only [this,ha,h2,decide_true,decide_false];simp [h3]
 ·subst ha;simp
 ·subst ha;simp
 ·subst ha;simp
 ·have:=Int.mul_neg_of_pos_of_neg ha hb
  have h2:¬a<0:=by omega
  have h3:a.natAbs*b.natAbs≠0:=Nat.mul_ne_zero (by omega) (by omega);simp only [this,hb,h2,decide_true,decide_false];simp [h3]
 ·subst hb;simp
 ·have:=Int.mul_pos ha hb
  have h1:¬a*b<0:=by omega
  have h2:¬a<0:=by omega
  have h3:¬b<0:=by omega
  simp [h1,h2,h3]
theorem pmulZ {ca cb cr:List Value} {a b:Int} (h1:ca=iZ a) (h2:cb=iZ b) (hr:cr=iZ (a*b)) (ha:a.natAbs<BB^32) (hb:b.natAbs<BB^32) (hv:(a*b).natAbs<BB^32) (w:World) :
  CB 113 #[.agg ca.toArray,.agg cb.toArray] (.tuple #[.agg cr.toArray,.int .i64 0]) w :=
 qwE h1 h2 hr (qnK a b) (by rw [qiI,qnK]) ha hb hv w
theorem jeO {ca cb cr:List Value} {a b:Int} (h1:ca=iZ a) (h2:cb=iZ b) (hr:cr=iZ (a+b)) (ha:a.natAbs<BB^32) (hb:b.natAbs<BB^32) (hv:(a+b).natAbs<BB^32) (w:World) :
  CB 177 #[.agg ca.toArray,.agg cb.toArray] (.tuple #[.agg cr.toArray,.int .i64 0]) w :=
 jeN h1 h2 hr (by rw [qpP,qpP]) (by rw [qpP,qpP]) ha hb hv w
theorem qrK {cr:List Value} {z:Int} (h:cr=iZ z) (h1:-9223372036854775808≤z) (h2:z≤9223372036854775807) (w:World) :
  CB 76 #[.int .i64 z] (.agg cr.toArray) w :=
 qiK h rfl rfl h1 h2 w
theorem jgN (z:Int):sgnI (decide (z<0)) z.natAbs=z.sign:=by
 unfold sgnI;rcases Int.lt_trichotomy z 0 with h|h|h
 ·have:z.natAbs≠0:=by omega
  simp [h,this,Int.sign_eq_neg_one_of_neg h]
 ·subst h;rfl
 ·have h1:z.natAbs≠0:=by omega
  have h2:¬z<0:=by omega
  simp [h1,h2,Int.sign_eq_one_of_pos h]
theorem qrJ {cx:List Value} {z:Int} (h:cx=iZ z) (hz:z.natAbs<BB^32) (w:World) :
  CB 107 #[.agg cx.toArray] (.int .i64 z.sign) w :=
 qeL h (jgN z).symm hz w
theorem qqE {cr:List Value} {z:Int} (h:cr=ratZ z 1) (h1:-9223372036854775808≤z) (h2:z≤9223372036854775807) (w:World) :
  CB 123 #[.int .i64 z] (.agg cr.toArray) w :=
 qvZ h rfl rfl h1 h2 w
abbrev Qn:=Int × Nat
structure VQ (r:Qn):Prop where
 num:r.1.natAbs<B480
 den:r.2<B480
 pos:r.2≠0
 low:Nat.gcd r.1.natAbs r.2=1
def mkQ (N:Int) (D:Nat):Option Qn :=
 if N.natAbs / Nat.gcd N.natAbs D<B480∧D / Nat.gcd N.natAbs D<B480 then some (N.sign*(N.natAbs / Nat.gcd N.natAbs D:Nat),D / Nat.gcd N.natAbs D) else none
def resR (o:Option Qn):List Value:=match o with|some r=>ratZ r.1 r.2|none=>rat false 0 false 0
def resE (o:Option Qn):Int:=if o.isSome=true then 0 else 10
theorem qgL (N:Int) (k:Nat) (hk:N=0→k=0):(N.sign*(k:Int)).natAbs=k∧decide (N.sign*(k:Int)<0)=cs1 (decide (N<0)) k:=by
 rcases Int.lt_trichotomy N 0 with h|h|h
 ·rw [Int.sign_eq_neg_one_of_neg h];refine ⟨by omega,?_⟩;unfold cs1;by_cases hk0:k=0
  ·subst hk0;simp
  ·have:-1*(k:Int)<0:=by omega
   simp [h,this,hk0];omega
 ·have:=hk h;subst this;simp [cs1]
 ·rw [Int.sign_eq_one_of_pos h];have h2:¬N<0:=by omega
  have h3:¬(1*(k:Int)<0):=by omega
  exact ⟨by omega,by unfold cs1;simp [h2,h3]⟩
theorem qhR {N:Int} {D:Nat} (h:D≠0):0<Nat.gcd N.natAbs D:=Nat.gcd_pos_of_pos_right _ (by omega)
theorem qgV {N:Int} {D:Nat} (h:D≠0) {r:Qn} (hr:mkQ N D=some r):VQ r:=by
 unfold mkQ at hr;split at hr
 ·rename_i hb
  injection hr with hr
  subst hr;have hg:=qhR (N:=N) h;have hs:=(qgL N (N.natAbs / Nat.gcd N.natAbs D) (fun h0=>by subst h0;simp)).1;refine ⟨by simp only;rw [hs];exact hb.1,hb.2,?_,?_⟩
  ·have:=Nat.div_pos (Nat.le_of_dvd (by omega) (Nat.gcd_dvd_right N.natAbs D)) hg
   simp only;omega
  ·simp only
   rw [hs];rw [Nat.gcd_div (Nat.gcd_dvd_left _ _) (Nat.gcd_dvd_right _ _),Nat.div_self hg]
 ·cases hr
theorem qwF {ca cb:List Value} {N:Int} {D:Nat} (h1:ca=iZ N) (h2:cb=iZ (D:Int)) {cR:List Value} {code:Int} (hR:cR=resR (mkQ N D)) (hc:code=resE (mkQ N D)) (ha:N.natAbs<BB^32) (hb:D<BB^32) (h0:D≠0) (w:World) :
  CB 75 #[.agg ca.toArray,.agg cb.toArray] (.tuple #[.agg cR.toArray,.int .i64 code]) w:=by
 have hg:=qhR (N:=N) h0;have hs:=qgL N (N.natAbs / Nat.gcd N.natAbs D) (fun h0=>by subst h0;simp);refine jaU (na:=decide (N<0)) (nb:=false) (n:=cs1 (decide (N<0)) (N.natAbs / Nat.gcd N.natAbs D)) (a:=N.natAbs) (b:=D) (g:=Nat.gcd N.natAbs D) h1 (by rw [h2];unfold iZ;simp) (by simp) rfl rfl rfl rfl ?_ ?_ ha hb h0 w
 ·rw [hR];unfold mkQ;by_cases hb:N.natAbs / Nat.gcd N.natAbs D<B480∧D / Nat.gcd N.natAbs D<B480
  ·rw [if_pos hb,decide_eq_true hb,if_pos rfl];simp only [resR,ratZ];rw [hs.1,hs.2]
  ·rw [if_neg hb,decide_eq_false hb];rfl
 ·rw [hc];unfold mkQ;by_cases hb:N.natAbs / Nat.gcd N.natAbs D<B480∧D / Nat.gcd N.natAbs D<B480
  ·rw [if_pos hb,decide_eq_true hb];rfl
  ·rw [if_neg hb,decide_eq_false hb];rfl
theorem qgE {c:List Value} {r:Qn} (h:c=ratZ r.1 r.2) (hv:VQ r) (w:World) :
  CB 106 #[.agg c.toArray] (.bool true) w:=by
 refine qoF (r:=true) h ?_ (qaT hv.num) (qaT hv.den) w;have h1:=hv.num;have h2:=hv.den;have h3:=hv.pos;have h4:=hv.low;rw [jcI];simp [h1,h2,h3,h4]
theorem qzS:2*BB^30≤BB^32:=by
 have h1:BB^32=BB^30*BB^2:=by rw [←Nat.pow_add]
 have h2:2≤BB^2:=by unfold BB;decide
 rw [h1,Nat.mul_comm 2];exact Nat.mul_le_mul_left _ h2
theorem qwT {a b:Nat} (ha:a<B480) (hb:b<B480):a*b<BB^30:=qeS ha hb
theorem b30 {a:Nat} (h:a<BB^30):a<BB^32:=by have:=qzS;omega
theorem qkP {a b:Qn} (mn:Bool):zI (cs1 (decide (a.1<0)) (a.1.natAbs*b.2)) (a.1.natAbs*b.2)=a.1*b.2 ∧
  zI (if mn=true then cs1 (!cs1 (decide (b.1<0)) (b.1.natAbs*a.2)) (b.1.natAbs*a.2) else cs1 (decide (b.1<0)) (b.1.natAbs*a.2)) (b.1.natAbs*a.2)=if mn=true then -(b.1*a.2) else b.1*a.2:=by
 have key:∀ (z:Int) (q:Nat),zI (decide (z<0)) (z.natAbs*q)=z*q:=by
  intro z q;unfold zI;by_cases h:z<0
  ·simp only [h,decide_true,if_true];rw [Int.natCast_mul,Int.ofNat_natAbs_of_nonpos (by omega)];rw [Int.neg_mul,Int.neg_neg]
  ·simp only [h,decide_false,if_false,Bool.false_eq_true];rw [Int.natCast_mul,Int.natAbs_of_nonneg (by omega)]
 refine ⟨by rw [qzO,key],?_⟩
 cases mn
 ·simp only [Bool.false_eq_true,if_false];rw [qzO,key]
 ·simp only [if_true];rw [qzO];have h:=key b.1 a.2;rw [←qzO] at h;rw [←h];unfold zI
  cases cs1 (decide (b.1<0)) (b.1.natAbs*a.2)<;>simp
end Go.Proofs.YtemoddmadfoaiaaGreat
set_option maxHeartbeats 8000000
namespace Go.Proofs.YtemoddmadfoaiaaGreat
open Go.RowKit Big
open Lib (hid)
theorem qqH {ca cb:List Value} {na nb:Bool} {a b:Nat} {z:Int} (hca:ca=.bool na::lv 32 a) (hcb:cb=.bool nb::lv 32 b) (hz:z=cmpZ (zI na a) (zI nb b)) (ha:a<BB^32) (hb:b<BB^32) (w:World) :
  CB 154 #[.agg ca.toArray,.agg cb.toArray] (.int .i64 z) w:=by
 have V_ca:=hid hca;have V_cb:=hid hcb;obtain ⟨ma,V_ma⟩:=nvx (lv 32 a);obtain ⟨mb,V_mb⟩:=nvx (lv 32 b);obtain ⟨s,hs⟩:=nqx (sgnI na a);obtain ⟨t,ht⟩:=nqx (sgnI nb b);obtain ⟨x,hx⟩:=nqx (cmpI a b);obtain ⟨n1,hn1⟩:=nqx (cs1 na a);obtain ⟨n2,hn2⟩:=nqx (cs1 nb b);have hsb:(s=-1∨s=0∨s=1)∧(t=-1∨t=0∨t=1)∧(x=-1∨x=0∨x=1):=⟨by rw [hs];exact qnY _ _,by rw [ht];exact qnY _ _,by rw [hx];exact qyN _ _⟩;have HZ:=hid (show (s<t→z=-1)∧(t<s→z=1)∧(s=t→z=s*x) by rw [hz,hs,ht,hx];exact qyO na nb a b);have HS:=hid (qeL V_ca.out hs ha);have HT:=hid (qeL V_cb.out ht hb);have HPA:=hid (qbR V_ca.out V_ma.out hn1 ha);have HPB:=hid (qbR V_cb.out V_mb.out hn2 hb);have HX:=hid (And.intro hx (And.intro ha hb));clear hs ht hx ha hb hz hca hcb hn1 hn2;obtain ⟨B0,B1,w0,hw0,hB0,hB1,AB0,AB1,FR,FR0,HB0,hZB0,l01,hZB1⟩:=en2 w 25 25 (bxq ca) (bxq cb);go_enter Tryz.func154,Tryz.ntmps154
 go_upto_region 1 with fail
 rw [←hw0,←hB1,←hB0];clear hw0 hB0 hB1;refine wE [(11,aT ca),(12,iT s),(13,aT cb),(14,iT t),(5,iT s),(6,iT t)] (by simp only [zu];rfl) (by kernel_rfl) ?_ ?_
 ·intro W' hW';refine lhI AB0 hW' V_ca rfl<|fxo ?_<|lhI AB1 hW' V_cb rfl<|fxo (by go_big_quiet_step (exact qaA (HT.out _));exact wqn rfl)<|fo2 ?_ ?_<|fxn;all_goals (go_big_quiet_step (exact qaA (HS.out _));exact wqn rfl)
 intro β wx1 E;replace FR:=fnf FR E rfl;replace AB0:=fnh AB0 E rfl;replace AB1:=fnh AB1 E rfl;simp only [nP,zu];replace FR0:=hid FR.out.le;obtain ⟨hs,ht,hx⟩:=hsb;by_cases c1:s<t
 ·have HE:=hid (HZ.out.1 c1);have ne:s≠t:=by omega
  clear hs ht hx HS HT;go_wp2
  go_ret
  exact ⟨qaK HE.out.symm,qbL HB0 FR⟩
 ·by_cases c2:t<s
  ·have HE:=hid (HZ.out.2.1 c2);have ne:s≠t:=by omega
   clear hs ht hx HS HT;go_wp2
   go_ret
   exact ⟨qaK HE.out.symm,qbL HB0 FR⟩
  ·have hst:t=s:=by omega
   have HE:=hid (HZ.out.2.2 hst.symm);have wq:IntKind.i64.wrap (s*x)=s*x:=by rcases hs with rfl|rfl|rfl<;>rcases hx with rfl|rfl|rfl<;>exact IntWalk.i64_in _ (by omega)
   clear hs ht hx HS HT c1 c2;subst hst;go_upto_region 6 with fail
   refine wT [⟨true,5,8,7,0,0,140,25,ma,0,ma,[]⟩] [(22,aT ca),(23,.tuple #[.bool n1,aT ma]),(21,.tuple #[.bool n1,aT ma]),(24,.bool n1),(25,aT ma),(7,.bool n1)] (by simp only [zu];rfl) (by kernel_rfl) rfl ?_ ?_ ?_ ?_
   ·intro W' hW';refine lhI AB0 hW' V_ca rfl<|fo4 ?_ ?_ ?_ ?_<|fxs rfl<|fxo ?_<|fxs rfl<|fxn;all_goals (go_big_quiet_step (exact qaA (HPA.out _));exact wqn rfl)
   ·exact fP1 (Tryz.alG (qG V_ma.out))
   ·exact fP1 (sG V_ma (fun _=>rfl) rfl)
   intro β wx2 E;replace FR:=fnf FR E rfl;obtain ⟨b8,hb8,eb8⟩:=nwb E mms;have lB0_b8:B0<b8:=ltb AB0 eb8.1;have lB1_b8:B1<b8:=ltb AB1 eb8.1;have hZb8:B0≤b8:=Nat.le_trans FR0.out eb8.1;replace AB0:=fnh AB0 E rfl;replace AB1:=fnh AB1 E rfl;have Ab8:=hid eb8.2;simp only [nP,zu];rw [←hb8];replace FR0:=hid FR.out.le;clear E eb8 hb8;go_upto_region 7 with fail
   refine wT [⟨true,5,10,7,0,0,140,30,mb,0,mb,[]⟩] [(27,aT cb),(28,.tuple #[.bool n2,aT mb]),(26,.tuple #[.bool n2,aT mb]),(29,.bool n2),(30,aT mb),(9,.bool n2)] (by simp only [zu];rfl) (by kernel_rfl) rfl ?_ ?_ ?_ ?_
   ·intro W' hW';refine lhI AB1 hW' V_cb rfl<|fo4 ?_ ?_ ?_ ?_<|fxs rfl<|fxo ?_<|fxs rfl<|fxn;all_goals (go_big_quiet_step (exact qaA (HPB.out _));exact wqn rfl)
   ·exact fP1 (Tryz.alG (qG V_mb.out))
   ·exact fP1 (sG V_mb (fun _=>rfl) rfl)
   intro β wx3 E;replace FR:=fnf FR E rfl;obtain ⟨b10,hb10,eb10⟩:=nwb E mms;have lB0_b10:B0<b10:=ltb AB0 eb10.1;have lB1_b10:B1<b10:=ltb AB1 eb10.1;have lb8_b10:b8<b10:=ltb Ab8 eb10.1;have hZb10:B0≤b10:=Nat.le_trans FR0.out eb10.1;replace Ab8:=fnh Ab8 E rfl;have Ab10:=hid eb10.2;simp only [nP,zu];rw [←hb10];clear E eb10 hb10;have HC:=hid (qnB a b b8 0 b10 0 wx3 (by have:=Ab8.out;rwa [V_ma.out] at this) (by have:=Ab10.out;rwa [V_mb.out] at this) HX.out.2.1 HX.out.2.2);rw [←HX.out.1] at HC;go_wp2_with (go_at_call 165;refine HC.out.mono ?_;rintro e w' ⟨rfl,hbc⟩)
   go_ret
   exact ⟨qaK HE.out.symm,by rw [HB0.out] at FR;exact (FR.out.below.trans (hbc.mono FR.out.below.size))⟩
theorem jeZ {ca cb cN cD:List Value} {na nb n:Bool} {pa qa pb qb v d:Nat} (h1:ca=rat na pa false qa) (h2:cb=rat nb pb false qb) (hN:cN=.bool n::lv 32 v) (hD:cD=.bool false::lv 32 d)
  (hv:v=pa*pb) (hd:d=qa*qb) (hn:n=cs1 (na != nb) v) (b1:pa<B480) (b2:qa<B480) (b3:pb<B480) (b4:qb<B480) (w:World) :
  CB 78 #[.agg ca.toArray,.agg cb.toArray] (.tuple #[.agg cN.toArray,.agg cD.toArray]) w:=by
 have V_ca:=hid h1;have V_cb:=hid h2;have V_cN:=hid hN;have V_cD:=hid hD;have u30:BB^30≤BB^32:=Nat.pow_le_pow_right qbH (by omega);have hvB:v<BB^30:=by rw [hv];exact qeS b1 b3
 have hdB:d<BB^30:=by rw [hd];exact qeS b2 b4
 obtain ⟨cna,V_cna⟩:=nvx (.bool na::lv 32 pa);obtain ⟨cda,V_cda⟩:=nvx (.bool false::lv 32 qa);obtain ⟨cnb,V_cnb⟩:=nvx (.bool nb::lv 32 pb);obtain ⟨cdb,V_cdb⟩:=nvx (.bool false::lv 32 qb);obtain ⟨cz,V_cz⟩:=nvx (.bool false::lv 32 0);have HPN:=hid (qhJ V_cna.out V_cnb.out V_cN.out hv hn (qaT b1) (qaT b3) (by omega));have HPD:=hid (qhJ V_cda.out V_cdb.out V_cD.out hd rfl (qaT b2) (qaT b4) (by omega));clear h1 h2 hN hD hv hd hn b1 b2 b3 b4 u30 hvB hdB;obtain ⟨B0,B1,B2,B3,w0,hw0,hB0,hB1,hB2,hB3,AB0,AB1,AB2,AB3,FR,FR0,HB0,hZB0,l01,hZB1,l12,hZB2,l23,hZB3⟩:=en4 w 27 27 25 25 (bxq ca) (bxq cb) (zQI V_cz) (zQI V_cz);unfold zero33 at hw0;go_enter Tryz.func78,Tryz.ntmps78
 go_upto_region 1 with fail
 rw [←hw0,←hB3,←hB2,←hB1,←hB0];clear hw0 hB0 hB1 hB2 hB3;have AB0_n:=hid (AB0.out.num V_ca.out V_cna.out);have AB0_d:=hid (AB0.out.den V_ca.out V_cda.out);have AB1_n:=hid (AB1.out.num V_cb.out V_cnb.out);have AB1_d:=hid (AB1.out.den V_cb.out V_cdb.out);refine wF [⟨false,0,4,10,B2,0,25,10,cN,0,cN,[]⟩,⟨false,0,5,11,B3,0,25,15,cD,0,cD,[]⟩] [(6,pT B0 0),(7,aT cna),(8,pT B1 0),(9,aT cnb),(10,aT cN),(11,pT B0 33),(12,aT cda),(13,pT B1 33),(14,aT cdb),(15,aT cD)] (by simp only [zu];rfl) (by kernel_rfl) ?_ ?_ (oP _ _ bnC (fP1 bnC)) ?_ ?_ ?_ ?_
 ·intro W' hW';refine fxo ?_<|lhI AB0_n hW' V_cna rfl<|fxo ?_<|lhI AB1_n hW' V_cnb rfl<|fo2 ?_ ?_<|lhI AB0_d hW' V_cda rfl<|fxo ?_<|lhI AB1_d hW' V_cdb rfl<|fxo (by go_big_quiet_step (exact qaA (HPD.out _));exact wqn rfl)<|fxs rfl<|fxs rfl<|fxn;all_goals (go_big_quiet_step (exact qaA (HPN.out _));exact wqn rfl)
 ·intro W' hK';have rd0:=At.keep hK' AB0_n.out (oP _ _ (fun _=>(by show B2≠B0;omega)) (oP _ _ (fun _=>(by show B3≠B0;omega)) (oN)));have rd1:=At.keep hK' AB1_n.out (oP _ _ (fun _=>(by show B2≠B1;omega)) (oP _ _ (fun _=>(by show B3≠B1;omega)) (oN)));have rd2:=At.keep hK' AB0_d.out (oP _ _ (fun _=>(by show B2≠B0;omega)) (oP _ _ (fun _=>(by show B3≠B0;omega)) (oN)));have rd3:=At.keep hK' AB1_d.out (oP _ _ (fun _=>(by show B2≠B1;omega)) (oP _ _ (fun _=>(by show B3≠B1;omega)) (oN)));refine fxi ?_<|ldI rd0 V_cna rfl<|fxi ?_<|ldI rd1 V_cnb rfl<|fxs (by kernel_rfl)<|fxi ?_<|ldI rd2 V_cda rfl<|fxi ?_<|ldI rd3 V_cdb rfl<|fxs (by kernel_rfl)<|fxs (by kernel_rfl)<|fxs (by kernel_rfl)<|fxn;all_goals (first|(refine .inr ?_;go_big_quiet_step (fail);exact wqn rfl)|exact .inl (by kernel_rfl))
 ·exact oP _ _ (fun _=>rmh AB2 (qI V_cz.out) (qI V_cN.out) rfl) (oP _ _ (fun _=>rmh AB3 (qI V_cz.out) (qI V_cD.out) rfl) (oN))
 ·intro q hq r hr hqn hrn e;simp only [List.mem_cons,List.not_mem_nil,or_false] at hq hr;rcases hq with rfl|rfl<;>rcases hr with rfl|rfl<;>first|rfl|(exact Bool.noConfusion hqn)|(exact Bool.noConfusion hrn)|(exfalso;simp only at e;omega)
 ·exact oP _ _ (stw rfl (qI V_cN.out) (qgF V_cN.out) (fun _=>rfl)) (oP _ _ (stw rfl (qI V_cD.out) (qgF V_cD.out) (fun _=>rfl)) (oN))
 intro β wx1 E;replace FR:=hid (FR.out.flow E (oP _ _ (fun _=>(by show B0≤B2;omega)) (oP _ _ (fun _=>(by show B0≤B3;omega)) (oN))));replace AB2:=aoh E AB2 mms;replace AB3:=aoh E AB3 (List.mem_cons_of_mem _ mms);simp only [nP,zu];go_wp2_with fail
 have hld0:=rdI AB2 V_cN;have hld1:=rdI AB3 V_cD;refine bodyPost_ret (v:=.tuple #[.agg cN.toArray,.agg cD.toArray]) (by simp [results,Tryz.results78,asAddr,hld0,hld1]) rfl ?_;exact ⟨rfl,qbL HB0 FR⟩
theorem jcN {ca cb cN cD cR:List Value} {na nb:Bool} {pa qa pb qb:Nat} {code:Int} (w:World) (h1:ca=rat na pa false qa) (h2:cb=rat nb pb false qb)
  (ha:∀ W,CB 106 #[.agg ca.toArray] (.bool true) W) (hb:∀ W,CB 106 #[.agg cb.toArray] (.bool true) W)
  (hC:∀ W,CB 78 #[.agg ca.toArray,.agg cb.toArray] (.tuple #[.agg cN.toArray,.agg cD.toArray]) W)
  (hMk:∀ W,CB 75 #[.agg cN.toArray,.agg cD.toArray] (.tuple #[.agg cR.toArray,.int .i64 code]) W) {rn:Bool} {rp rq:Nat} {rm:Bool} (hcR:cR=rat rn rp rm rq) :
  CB 77 #[.agg ca.toArray,.agg cb.toArray,.func (.func 78) #[] #[]] (.tuple #[.agg cR.toArray,.int .i64 code]) w:=by
 have V_ca:=hid h1;have V_cb:=hid h2;have V_cR:=hid hcR;obtain ⟨cz,V_cz⟩:=nvx (rat false 0 false 0);have HA:=hid ha;have HB:=hid hb;have HC:=hid hC;have HK:=hid hMk;clear h1 h2 ha hb hC hMk hcR;obtain ⟨B0,B1,B2,w0,hw0,hB0,hB1,hB2,AB0,AB1,AB2,FR,FR0,HB0,hZB0,l01,hZB1,l12,hZB2⟩:=en3 w 27 27 27 (bxq ca) (bxq cb) (zQR V_cz);go_enter Tryz.func77,Tryz.ntmps77
 go_upto_region 1 with fail
 rw [←hw0,←hB2,←hB1,←hB0];clear hw0 hB0 hB1 hB2;refine wE [(8,aT ca),(9,bT),(10,bF),(11,bF),(12,aT cb),(13,bT),(14,bF),(15,bF)] (by simp only [zu];rfl) (by kernel_rfl) ?_ ?_
 ·intro W' hW';refine lhR AB0 hW' V_ca rfl<|fo3 ?_ ?_ ?_<|lhR AB1 hW' V_cb rfl<|fxo (by go_big_quiet_step (exact qaA (HB.out _));exact wqn rfl)<|fo2 ?_ ?_<|fxn;all_goals (go_big_quiet_step (exact qaA (HA.out _));exact wqn rfl)
 intro β wx1 E;replace FR:=fnf FR E rfl;replace AB0:=fnh AB0 E rfl;replace AB1:=fnh AB1 E rfl;replace AB2:=fnh AB2 E rfl;simp only [nP,zu];go_upto_region 3 with fail
 refine wF [⟨false,0,6,9,B2,0,27,24,cR,0,cR,[]⟩] [(17,.func (.func 78) #[] #[]),(18,aT ca),(19,aT cb),(20,.tuple #[aT cN,aT cD]),(21,aT cN),(22,aT cD),(23,.tuple #[aT cR,iT code]),(24,aT cR),(25,iT code),(7,iT code)] (by simp only [zu];rfl) (by kernel_rfl) ?_ ?_ (fP1 bnC) ?_ uno ?_ ?_
 ·intro W' hW';refine fxo ?_<|lhR AB0 hW' V_ca rfl<|lhR AB1 hW' V_cb rfl<|fo3 ?_ ?_ ?_<|fxo (by go_big_quiet_step (exact qaA (HK.out _));exact wqn rfl)<|fo2 ?_ ?_<|fxs rfl<|fxo ?_<|fxn;all_goals (go_big_quiet_step (exact qaA (HC.out _));exact wqn rfl)
 ·intro W' hK';have rd0:=akh AB0 hK' (by omega);have rd1:=akh AB1 hK' (by omega);refine fxi ?_<|ldR rd0 V_ca rfl<|ldR rd1 V_cb rfl<|fxs (by kernel_rfl)<|fxi ?_<|fxi ?_<|fxs (by kernel_rfl)<|fxi ?_<|fxi ?_<|fxs (by kernel_rfl)<|fxi ?_<|fxn;all_goals (first|(refine .inr ?_;go_big_quiet_step (fail);exact wqn rfl)|exact .inl (by kernel_rfl))
 ·exact fP1 (fun _=>rmh AB2 (qR V_cz.out) (qR V_cR.out) rfl)
 ·exact fP1 (sR V_cR (fun _=>rfl) rfl)
 intro β wx2 E;replace FR:=ffh FR E (by omega);replace AB2:=aoh E AB2 mms;simp only [nP,zu];go_wp2_with fail
 have hld:=rdR AB2 V_cR;refine bodyPost_ret (v:=.tuple #[.agg cR.toArray,.int .i64 code]) (by simp [results,Tryz.results77,asAddr,hld]) rfl ?_;exact ⟨rfl,qbL HB0 FR⟩
theorem jeY {ca cb cR:List Value} {na nb:Bool} {pa qa pb qb:Nat} {code:Int} (w:World) (h1:ca=rat na pa false qa) (h2:cb=rat nb pb false qb) {rn:Bool} {rp rq:Nat} {rm:Bool} (hcR:cR=rat rn rp rm rq)
  (hC:∀ W,CB 77 #[.agg ca.toArray,.agg cb.toArray,.func (.func 78) #[] #[]] (.tuple #[.agg cR.toArray,.int .i64 code]) W) :
  CB 45 #[.agg ca.toArray,.agg cb.toArray] (.tuple #[.agg cR.toArray,.int .i64 code]) w:=by
 have V_ca:=hid h1;have V_cb:=hid h2;have V_cR:=hid hcR;obtain ⟨cz,V_cz⟩:=nvx (rat false 0 false 0);have HC:=hid hC;clear h1 h2 hC hcR;obtain ⟨B0,B1,B2,w0,hw0,hB0,hB1,hB2,AB0,AB1,AB2,FR,FR0,HB0,hZB0,l01,hZB1,l12,hZB2⟩:=en3 w 27 27 27 (bxq ca) (bxq cb) (zQR V_cz);go_enter Tryz.func45,Tryz.ntmps45
 go_upto_region 1 with fail
 rw [←hw0,←hB2,←hB1,←hB0];clear hw0 hB0 hB1 hB2;refine wF [⟨false,0,4,5,B2,0,27,9,cR,0,cR,[]⟩] [(6,aT ca),(7,aT cb),(8,.tuple #[aT cR,iT code]),(9,aT cR),(10,iT code),(5,iT code)] (by simp only [zu];rfl) (by kernel_rfl) ?_ ?_ (fP1 bnC) ?_ uno ?_ ?_
 ·intro W' hW';refine lhR AB0 hW' V_ca rfl<|lhR AB1 hW' V_cb rfl<|fo3 ?_ ?_ ?_<|fxs rfl<|fxo ?_<|fxn;all_goals (go_big_quiet_step (exact qaA (HC.out _));exact wqn rfl)
 ·intro W' hK';have rd0:=akh AB0 hK' (by omega);have rd1:=akh AB1 hK' (by omega);refine ldR rd0 V_ca rfl<|ldR rd1 V_cb rfl<|fxs (by kernel_rfl)<|fxi ?_<|fxi ?_<|fxs (by kernel_rfl)<|fxi ?_<|fxn;all_goals (first|(refine .inr ?_;go_big_quiet_step (fail);exact wqn rfl)|exact .inl (by kernel_rfl))
 ·exact fP1 (fun _=>rmh AB2 (qR V_cz.out) (qR V_cR.out) rfl)
 ·exact fP1 (sR V_cR (fun _=>rfl) rfl)
 intro β wx1 E;replace FR:=ffh FR E (by omega);replace AB2:=aoh E AB2 mms;simp only [nP,zu];go_wp2_with fail
 have hld:=rdR AB2 V_cR;refine bodyPost_ret (v:=.tuple #[.agg cR.toArray,.int .i64 code]) (by simp [results,Tryz.results45,asAddr,hld]) rfl ?_;exact ⟨rfl,qbL HB0 FR⟩
namespace Big
def mulQ (a b:Qn):Option Qn:=mkQ (a.1*b.1) (a.2*b.2)
end Big
theorem qwS {a b:Qn} (ha:VQ a) (hb:VQ b):(a.1*b.1).natAbs<BB^32∧a.2*b.2<BB^32∧a.2*b.2≠0:=by
 have h1:=qwT ha.num hb.num;have h2:=qwT ha.den hb.den;rw [Int.natAbs_mul];exact ⟨b30 h1,b30 h2,Nat.mul_ne_zero ha.pos hb.pos⟩
theorem pmulQ {ca cb cR:List Value} {a b:Qn} {code:Int} (h1:ca=ratZ a.1 a.2) (h2:cb=ratZ b.1 b.2) (ha:VQ a) (hb:VQ b) (hR:cR=resR (mulQ a b)) (hc:code=resE (mulQ a b)) (w:World) :
  CB 45 #[.agg ca.toArray,.agg cb.toArray] (.tuple #[.agg cR.toArray,.int .i64 code]) w:=by
 obtain ⟨B1,B2,B3⟩:=qwS ha hb;obtain ⟨cN,hN⟩:=nqx (iZ (a.1*b.1));obtain ⟨cD,hD⟩:=nqx (iZ ((a.2*b.2:Nat):Int))
 obtain ⟨rn,rp,rm,rq,hcr⟩:∃ rn rp rm rq,cR=rat rn rp rm rq:=by
  rw [hR];cases mulQ a b with
  | none=>exact ⟨_,_,_,_,rfl⟩
  | some r=>exact ⟨_,_,_,_,rfl⟩
 exact jeY w h1 h2 hcr fun W=>jcN W h1 h2 (qgE h1 ha) (qgE h2 hb)
  (fun W=>jeZ h1 h2 hN (by rw [hD];unfold iZ;rw [Int.natAbs_natCast,decide_eq_false (Int.not_lt.2 (Int.natCast_nonneg _))]) (by rw [Int.natAbs_mul]) rfl (by rw [qiI,Int.natAbs_mul]) ha.num ha.den hb.num hb.den W)
  (fun W=>qwF hN hD hR hc B1 B2 B3 W) hcr
theorem jaG {cr:List Value} {n m ok:Bool} {p q:Nat} {s:Int} {code:Int} (h:cr=rat n p m q) (hok:ok=decide (p<B480∧q<B480∧n=cs1 n p∧m=false∧q≠0∧Nat.gcd p q=1)) (hs:s=if ok=true then sgnI n p else 0) (hc:code=if ok=true then 0 else 20) (hp:p<BB^32) (hq:q<BB^32) (w:World) :
  CB 74 #[.agg cr.toArray] (.tuple #[.int .i64 s,.int .i64 code]) w:=by
 have V_cr:=hid h;obtain ⟨cn,V_cn⟩:=nvx (.bool n::lv 32 p);obtain ⟨cd,V_cd⟩:=nvx (.bool m::lv 32 q);have HV:=hid (qoF V_cr.out hok hp hq);have HP:=hid hp;clear h hok hp hq;obtain ⟨B0,w0,hw0,hB0,AB0,FR,FR0,HB0,hZB0⟩:=en1 w 27 (bxq cr);go_enter Tryz.func74,Tryz.ntmps74
 go_upto_region 1 with fail
 rw [←hw0,←hB0];clear hw0 hB0;have AB0_n:=hid (AB0.out.num V_cr.out V_cn.out)
 cases ok with
 | false =>
  subst hs hc;refine wE [(4,aT cr),(5,bF),(6,bT)] (by simp only [zu];rfl) (by kernel_rfl) ?_ ?_
  ·intro W' hW';refine lhR AB0 hW' V_cr rfl<|fo2 ?_ ?_<|fxn;all_goals (go_big_quiet_step (exact qaA (HV.out _));exact wqn rfl)
  intro β wx1 E;replace FR:=fnf FR E rfl;simp only [nP,zu];go_wp2
  go_ret2
  exact ⟨rfl,qbL HB0 FR⟩
 | true =>
  have HS:=hid (qeL V_cn.out (show s=sgnI n p by rw [hs];rfl) HP.out);clear hs;subst hc;refine wE [(4,aT cr),(5,bT),(6,bF)] (by simp only [zu];rfl) (by kernel_rfl) ?_ ?_
  ·intro W' hW';refine lhR AB0 hW' V_cr rfl<|fo2 ?_ ?_<|fxn;all_goals (go_big_quiet_step (exact qaA (HV.out _));exact wqn rfl)
  intro β wx1 E;replace FR:=fnf FR E rfl;replace AB0_n:=fnh AB0_n E rfl;simp only [nP,zu];go_upto_region 3 with fail
  refine wE [(7,pT B0 0),(8,aT cn),(9,iT s),(2,iT s),(3,iT 0)] (by simp only [zu];rfl) (by kernel_rfl) ?_ ?_
  ·intro W' hW';refine fxo ?_<|lhI AB0_n hW' V_cn rfl<|fo3 ?_ ?_ ?_<|fxn;all_goals (go_big_quiet_step (exact qaA (HS.out _));exact wqn rfl)
  intro β wx2 E;replace FR:=fnf FR E rfl;simp only [nP,zu];go_wp2
  go_ret2
  exact ⟨rfl,qbL HB0 FR⟩
theorem jfZ {ca cb:List Value} {na nb:Bool} {pa qa pb qb:Nat} {z:Int} (h1:ca=rat na pa false qa) (h2:cb=rat nb pb false qb)
  (ha:∀ W,CB 106 #[.agg ca.toArray] (.bool true) W) (hb:∀ W,CB 106 #[.agg cb.toArray] (.bool true) W)
  (hz:z=cmpZ (zI (cs1 na (pa*qb)) (pa*qb)) (zI (cs1 nb (pb*qa)) (pb*qa))) (b1:pa<B480) (b2:qa<B480) (b3:pb<B480) (b4:qb<B480) (w:World) :
  CB 124 #[.agg ca.toArray,.agg cb.toArray] (.tuple #[.int .i64 z,.int .i64 0]) w:=by
 have V_ca:=hid h1;have V_cb:=hid h2;obtain ⟨x,hx⟩:=nqx (pa*qb);obtain ⟨y,hy⟩:=nqx (pb*qa);rw [←hx,←hy] at hz;obtain ⟨nx,hnx⟩:=nqx (cs1 na x);obtain ⟨ny,hny⟩:=nqx (cs1 nb y);rw [←hnx,←hny] at hz;have u30:BB^30≤BB^32:=Nat.pow_le_pow_right qbH (by omega);have hxB:x<BB^30:=by rw [hx];exact qeS b1 b4
 have hyB:y<BB^30:=by rw [hy];exact qeS b3 b2
 obtain ⟨cna,V_cna⟩:=nvx (.bool na::lv 32 pa);obtain ⟨cda,V_cda⟩:=nvx (.bool false::lv 32 qa);obtain ⟨cnb,V_cnb⟩:=nvx (.bool nb::lv 32 pb);obtain ⟨cdb,V_cdb⟩:=nvx (.bool false::lv 32 qb);obtain ⟨cx,V_cx⟩:=nvx (.bool nx::lv 32 x);obtain ⟨cy,V_cy⟩:=nvx (.bool ny::lv 32 y);have HA:=hid ha;have HB:=hid hb;have HPX:=hid (qhJ V_cna.out V_cdb.out V_cx.out hx (by rw [hnx];cases na<;>rfl) (qaT b1) (qaT b4) (by omega));have HPY:=hid (qhJ V_cnb.out V_cda.out V_cy.out hy (by rw [hny];cases nb<;>rfl) (qaT b3) (qaT b2) (by omega));have HZ:=hid (qqH V_cx.out V_cy.out hz (by omega) (by omega));clear h1 h2 ha hb hz hx hy hnx hny b1 b2 b3 b4 u30 hxB hyB;obtain ⟨B0,B1,w0,hw0,hB0,hB1,AB0,AB1,FR,FR0,HB0,hZB0,l01,hZB1⟩:=en2 w 27 27 (bxq ca) (bxq cb);go_enter Tryz.func124,Tryz.ntmps124
 go_upto_region 1 with fail
 rw [←hw0,←hB1,←hB0];clear hw0 hB0 hB1;have AB0_n:=hid (AB0.out.num V_ca.out V_cna.out);have AB0_d:=hid (AB0.out.den V_ca.out V_cda.out);have AB1_n:=hid (AB1.out.num V_cb.out V_cnb.out);have AB1_d:=hid (AB1.out.den V_cb.out V_cdb.out);refine wE [(6,aT ca),(7,bT),(8,bF),(9,bF),(10,aT cb),(11,bT),(12,bF),(13,bF)] (by simp only [zu];rfl) (by kernel_rfl) ?_ ?_
 ·intro W' hW';refine lhR AB0 hW' V_ca rfl<|fo3 ?_ ?_ ?_<|lhR AB1 hW' V_cb rfl<|fxo (by go_big_quiet_step (exact qaA (HB.out _));exact wqn rfl)<|fo2 ?_ ?_<|fxn;all_goals (go_big_quiet_step (exact qaA (HA.out _));exact wqn rfl)
 intro β wx1 E;replace FR:=fnf FR E rfl;replace AB0_n:=fnh AB0_n E rfl;replace AB0_d:=fnh AB0_d E rfl;replace AB1_n:=fnh AB1_n E rfl;replace AB1_d:=fnh AB1_d E rfl;simp only [nP,zu];go_upto_region 3 with fail
 refine wE [(14,pT B0 0),(15,aT cna),(16,pT B1 33),(17,aT cdb),(18,aT cx),(19,pT B1 0),(20,aT cnb),(21,pT B0 33),(22,aT cda),(23,aT cy),(24,iT z),(4,iT z),(5,iT 0)] (by simp only [zu];rfl) (by kernel_rfl) ?_ ?_
 ·intro W' hW';refine fxo ?_<|lhI AB0_n hW' V_cna rfl<|fxo ?_<|lhI AB1_d hW' V_cdb rfl<|fo2 ?_ ?_<|lhI AB1_n hW' V_cnb rfl<|fxo ?_<|lhI AB0_d hW' V_cda rfl<|fxo (by go_big_quiet_step (exact qaA (HPY.out _));exact wqn rfl)<|fxo (by go_big_quiet_step (exact qaA (HZ.out _));exact wqn rfl)<|fo2 ?_ ?_<|fxn;all_goals (go_big_quiet_step (exact qaA (HPX.out _));exact wqn rfl)
 intro β wx2 E;replace FR:=fnf FR E rfl;simp only [nP,zu];go_wp2
 go_ret2
 exact ⟨rfl,qbL HB0 FR⟩
theorem jgT {ca cb:List Value} {a b:Qn} {z:Int} (h1:ca=ratZ a.1 a.2) (h2:cb=ratZ b.1 b.2) (ha:VQ a) (hb:VQ b) (hz:z=cmpZ (a.1*b.2) (b.1*a.2)) (w:World) :
  CB 124 #[.agg ca.toArray,.agg cb.toArray] (.tuple #[.int .i64 z,.int .i64 0]) w :=
 jfZ h1 h2 (qgE h1 ha) (qgE h2 hb) (by
  rw [hz];have e:=(qkP (a:=a) (b:=b) true).1;have f:=(qkP (a:=b) (b:=a) true).1;rw [e,f]) ha.num ha.den hb.num hb.den w
end Go.Proofs.YtemoddmadfoaiaaGreat
