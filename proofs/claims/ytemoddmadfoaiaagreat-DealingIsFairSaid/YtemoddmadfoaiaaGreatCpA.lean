import Derived.Test.YtemoddmadfoaiaaGreatApI
import Derived.Test.YtemoddmadfoaiaaGreatGaC
set_option linter.unusedVariables false
set_option linter.unusedSimpArgs false
set_option maxRecDepth 100000
namespace Go.Proofs.YtemoddmadfoaiaaGreat
open Go.RowKit Big Al Tok Ap
theorem At.of_own {w:World} {B n g cap:Nat} {e:TypeId} {size:Nat} {xs:List Value} (h:w.ownsRow B e size (.slice (some ⟨g,0,none⟩) n cap) n xs):At w g 0 xs:=by
 have hc:=fun g'=>World.ownsRow.cells h (g:=g')
 rcases h.2 with ⟨h2,_⟩|⟨g',cap',cur,hv,hg,hh,hrest⟩
 ·cases h2
 ·injection hv with h1 h2 h3
  injection h1 with h1
  injection h1 with h1
  subst h1;refine ⟨fun j u hj=>?_,fun j hj=>?_,(Array.getElem?_eq_some_iff.1 hh).1⟩
  ·have:=hc g rfl j u hj
   have hadd:(⟨g,0,none⟩:Addr).add j=⟨g,0+j,none⟩:=by unfold Addr.add;split<;>simp_all
   rwa [hadd] at this
  ·obtain ⟨u,hu⟩:∃ u,xs[j]?=some u:=⟨xs[j]'hj,List.getElem?_eq_getElem hj⟩
   have:=hc g rfl j u hu
   have hadd:(⟨g,0,none⟩:Addr).add j=⟨g,0+j,none⟩:=by unfold Addr.add;split<;>simp_all
   rw [hadd] at this;exact ⟨by rw [this];rfl,frozen_of_row _ _ _ _ _ hh⟩
theorem jhM {a b i j:Nat} (ha:a<BB^i) (hb:b<BB^j):a*b<BB^(i+j):=by
 rw [Nat.pow_add];exact Nat.mul_lt_mul'' ha hb
theorem jgA {a i j:Nat} (ha:a<BB^i) (hij:i≤j):a<BB^j:=Nat.lt_of_lt_of_le ha (Nat.pow_le_pow_right qbH hij)
namespace Al
end Al
def cellsQ (rs:List Qn):List Value:=rs.flatMap fun r=>ratZ r.1 r.2
theorem qxO (n:Nat):iZ (n:Int)=.bool false::lv 32 n:=by unfold iZ;rw [Int.natAbs_natCast,decide_eq_false (by omega)]
theorem At.grown {w w':World} {b o:Nat} {cs:List Value} {row:Option Nat} (h:At w b o cs) (hg:w.grownBy w' row) (hq:∀ q,row=some q→q≠b):At w' b o cs:=by
 have hk:=hg.block b h.lt (fun e=>hq b e.symm rfl);refine ⟨fun j v hj=>?_,fun j hj=>?_,Nat.lt_of_lt_of_le h.lt hg.size⟩
 ·rw [World.cell?_of_block (w:=w) hk];exact h.range j v hj
 ·rw [World.cell?_of_block (w:=w) hk,World.frozen?_of_block (w:=w) hk];exact h.there j hj
theorem Tryz.infoI33:(Tryz.prog.info? 25).map (·.size)=some 33:=by kernel_rfl
theorem qsR {a b:Int} {i j:Nat} (ha:a.natAbs<BB^i) (hb:b.natAbs<BB^j):(a*b).natAbs<BB^(i+j):=by rw [Int.natAbs_mul];exact jhM ha hb
structure ExB (c:Qn) (M o:Nat) (y:Int):Prop where
 n:c.1.natAbs<BB^15
 d:((c.2:Nat):Int).natAbs<BB^15
 m:((M:Nat):Int).natAbs<BB^2
 o:((o:Nat):Int).natAbs<BB^2
 y:y.natAbs<BB^2
 pos:c.2*M≠0
theorem ExB.num {c:Qn} {M o:Nat} {y:Int} (h:ExB c M o y):(c.1*(o:Int)+y*(c.2:Int)*(M:Int)).natAbs<BB^32:=by
 have h1:=jgA (qsR h.n h.o) (show 15+2≤30 by omega);have h2:=jgA (qsR (qsR h.y h.d) h.m) (show 2+15+2≤30 by omega);have h3:=qzS;omega
theorem ExB.den {c:Qn} {M o:Nat} {y:Int} (h:ExB c M o y):c.2*M<BB^32:=by
 have:=jgA (qsR h.d h.m) (show 15+2≤32 by omega)
 rwa [←Int.natCast_mul,Int.natAbs_natCast] at this
end Go.Proofs.YtemoddmadfoaiaaGreat
set_option maxHeartbeats 8000000
namespace Go.Proofs.YtemoddmadfoaiaaGreat
open Go.RowKit Big
open Lib (hid)
theorem jdY {n:Bool} {p:Nat} (hn:true=cs1 true p) (h:n=true):-1=sgnI n p:=by
 have h1:p≠0:=by rintro rfl;simp [cs1] at hn
 unfold sgnI;rw [if_neg h1,if_pos h]
theorem qzR {cr:List Value} {n:Bool} {p q:Nat} (hr:cr=rat n p false q) (hn:n=cs1 n p) (hp:p<B480) (hq:q<B480) (h0:q≠0) (hg:Nat.gcd p q=1) (w:World) :
  CB 98 #[.agg cr.toArray] (.bool true) w:=by
 have V_cr:=hid hr;obtain ⟨x1,hx1⟩:=qaO p;obtain ⟨x2,hx2⟩:=qaO q;have hx1b:=qfG hp hx1;have hx2b:=qfG hq hx2;obtain ⟨cn,V_cn⟩:=nvx (.bool n::lv 32 p);obtain ⟨cd,V_cd⟩:=nvx (.bool false::lv 32 q);obtain ⟨co,V_co⟩:=nvx (.bool false::lv 32 1);have HSD:=hid (qhH (s:=1) V_cd.out (by unfold sgnI;rw [if_neg h0];rfl) (qaT hq));have HB1:=hid (qfF V_cn.out (qaT hp) hx1);have HB2:=hid (qfF V_cd.out (qaT hq) hx2);have HG:=hid (qxT V_cn.out V_cd.out V_co.out hg.symm (qaT hp) (qaT hq));have HO:=hid (qxU (z:=1) V_co.out rfl rfl (by decide) (by decide));have H1:=hid (show 1<BB^32 from Nat.one_lt_pow (by omega) (by unfold BB;omega));have n1:(x1:Int)≤480:=by omega
 have n2:(x2:Int)≤480:=by omega
 have HSN:=hid (fun (h:n=true)=>qhH (s:=-1) V_cn.out (jdY (h ▸ hn) h) (qaT hp));clear hr hn hp hq h0 hg hx1 hx2 hx1b hx2b;obtain ⟨B0,w0,hw0,hB0,AB0,FR,FR0,HB0,hZB0⟩:=en1 w 27 (bxq cr);go_enter Tryz.func98,Tryz.ntmps98
 go_upto_region 1 with fail
 rw [←hw0,←hB0];clear hw0 hB0;have AB0_n:=hid (AB0.out.num V_cr.out V_cn.out);have AB0_d:=hid (AB0.out.den V_cr.out V_cd.out)
 cases n with
 | true =>
  refine wE [(3,pT B0 0),(4,pT B0 0),(5,bT),(6,bT),(7,pT B0 0),(8,aT cn),(9,iT (-1)),(10,bF),(11,bF),(12,bF),(13,pT B0 33),(14,aT cd),(15,iT 1),(16,bF),(17,bF)] (by simp only [zu];rfl) (by kernel_rfl) ?_ ?_
  ·intro W' hW';have cl0:=fun p os=>qaB ((AB0_n.out.below hW').neg V_cn.out) p os
   refine fo4 ?_ ?_ ?_ ?_<|fxo ?_<|lhI AB0_n hW' V_cn rfl<|fo4 ?_ ?_ ?_ ?_<|fxo ?_<|lhI AB0_d hW' V_cd rfl<|fxo (by go_big_quiet_step (exact qaA (HSD.out _));exact wqn rfl)<|fo2 ?_ ?_<|fxn;all_goals (go_big_quiet_step (exact qaA (HSN.out rfl _));exact wqn rfl)
  intro β wx1 E;replace FR:=fnf FR E rfl;replace AB0_n:=fnh AB0_n E rfl;replace AB0_d:=fnh AB0_d E rfl;simp only [nP,zu];go_upto_region 3 with fail
  refine wE [(18,pT B0 0),(19,aT cn),(20,iT x1),(21,bT),(22,bT),(23,pT B0 33),(24,aT cd),(25,iT x2),(26,bT),(27,bT),(28,bT),(29,pT B0 0),(30,aT cn),(31,pT B0 33),(32,aT cd),(33,aT co),(34,aT co),(35,bT),(36,bT),(2,bT)] (by simp only [zu];rfl) (by kernel_rfl) ?_ ?_
  ·intro W' hW';have rd0:=AB0_n.out.below hW';have rd1:=AB0_d.out.below hW';refine fxo ?_<|ldI rd0 V_cn rfl<|fo4 ?_ ?_ ?_ ?_<|ldI rd1 V_cd rfl<|fxo (by go_big_quiet_step (exact qaA (HB2.out _));exact wqn rfl)<|fo4 ?_ ?_ ?_ ?_<|ldI rd0 V_cn rfl<|fxo ?_<|ldI rd1 V_cd rfl<|fxo (by go_big_quiet_step (exact qaA (HG.out _));exact wqn rfl)<|fxo (by go_big_quiet_step (exact qaA (HO.out _));exact wqn rfl)<|fxo (qgB (r:=true) (by rfl) rfl rfl rfl V_co.out V_co.out H1.out H1.out (by simp) (wqn (by simp only [zq])))<|fo2 ?_ ?_<|fxn;all_goals (go_big_quiet_step (exact qaA (HB1.out _));exact wqn rfl)
  intro β wx2 E;replace FR:=fnf FR E rfl;simp only [nP,zu];go_wp2
  go_ret
  exact ⟨rfl,qbL HB0 FR⟩
 | false =>
  refine wE [(3,pT B0 0),(4,pT B0 0),(5,bF),(6,bF),(7,undef),(8,undef),(9,undef),(10,undef),(11,bF),(12,bF),(13,pT B0 33),(14,aT cd),(15,iT 1),(16,bF),(17,bF)] (by simp only [zu];rfl) (by kernel_rfl) ?_ ?_
  ·intro W' hW';have cl0:=fun p os=>qaB ((AB0_n.out.below hW').neg V_cn.out) p os
   refine fo4 ?_ ?_ ?_ ?_<|fo4 ?_ ?_ ?_ ?_<|fo3 ?_ ?_ ?_<|lhI AB0_d hW' V_cd rfl<|fo3 ?_ ?_ ?_<|fxn;all_goals (go_big_quiet_step (exact qaA (HSD.out _));exact wqn rfl)
  intro β wx1 E;replace FR:=fnf FR E rfl;replace AB0_n:=fnh AB0_n E rfl;replace AB0_d:=fnh AB0_d E rfl;simp only [nP,zu];go_upto_region 3 with fail
  refine wE [(18,pT B0 0),(19,aT cn),(20,iT x1),(21,bT),(22,bT),(23,pT B0 33),(24,aT cd),(25,iT x2),(26,bT),(27,bT),(28,bT),(29,pT B0 0),(30,aT cn),(31,pT B0 33),(32,aT cd),(33,aT co),(34,aT co),(35,bT),(36,bT),(2,bT)] (by simp only [zu];rfl) (by kernel_rfl) ?_ ?_
  ·intro W' hW';have rd0:=AB0_n.out.below hW';have rd1:=AB0_d.out.below hW';refine fxo ?_<|ldI rd0 V_cn rfl<|fo4 ?_ ?_ ?_ ?_<|ldI rd1 V_cd rfl<|fxo (by go_big_quiet_step (exact qaA (HB2.out _));exact wqn rfl)<|fo4 ?_ ?_ ?_ ?_<|ldI rd0 V_cn rfl<|fxo ?_<|ldI rd1 V_cd rfl<|fxo (by go_big_quiet_step (exact qaA (HG.out _));exact wqn rfl)<|fxo (by go_big_quiet_step (exact qaA (HO.out _));exact wqn rfl)<|fxo (qgB (r:=true) (by rfl) rfl rfl rfl V_co.out V_co.out H1.out H1.out (by simp) (wqn (by simp only [zq])))<|fo2 ?_ ?_<|fxn;all_goals (go_big_quiet_step (exact qaA (HB1.out _));exact wqn rfl)
  intro β wx2 E;replace FR:=fnf FR E rfl;simp only [nP,zu];go_wp2
  go_ret
  exact ⟨rfl,qbL HB0 FR⟩
theorem jhA {c d r:List Value} {na nb n:Bool} {a b v:Nat} (hc:c=.bool na::lv 32 a) (hd:d=.bool nb::lv 32 b) (hr:r=.bool n::lv 32 v) (hv:v=a*b) (hn:n=cs1 (na != nb) v) (ha:a<BB^32) (hb:b<BB^32) (hvb:v<BB^32) (W:World) :
  CB 136 #[.agg c.toArray,.agg d.toArray] (.tuple #[.agg r.toArray,.int .i64 0]) W:=by
 subst hn hv hc hd hr;exact jeX na nb a b W ha hb hvb
theorem rmulZ {ca cb cr:List Value} {a b:Int} (h1:ca=iZ a) (h2:cb=iZ b) (hr:cr=iZ (a*b)) (ha:a.natAbs<BB^32) (hb:b.natAbs<BB^32) (hv:(a*b).natAbs<BB^32) (w:World) :
  CB 136 #[.agg ca.toArray,.agg cb.toArray] (.tuple #[.agg cr.toArray,.int .i64 0]) w :=
 jhA h1 h2 hr (qnK a b) (by rw [qiI,qnK]) ha hb hv w
theorem jdG {cr:List Value} {z:Int} (h:cr=iZ z) (h1:-9223372036854775808≤z) (h2:z≤9223372036854775807) (w:World) :
  CB 101 #[.int .i64 z] (.agg cr.toArray) w :=
 qxU h rfl rfl h1 h2 w
theorem qvN {c:List Value} {r:Qn} (h:c=ratZ r.1 r.2) (hv:VQ r) (w:World) :
  CB 98 #[.agg c.toArray] (.bool true) w :=
 qzR h (jcI _).symm hv.num hv.den hv.pos hv.low w
theorem qtE {ca cb cR:List Value} {na n:Bool} {a b g p q:Nat} (h1:ca=.bool na::lv 32 a) (h2:cb=.bool false::lv 32 b) (hR:cR=rat false 0 false 0) (hg:g=Nat.gcd a b) (hp:p=a / g) (hq:q=b / g)
  (ha:a<BB^32) (hb:b<BB^32) (h0:b≠0) (hov:¬(p<B480∧q<B480)) (w:World) :
  CB 99 #[.agg ca.toArray,.agg cb.toArray] (.tuple #[.agg cR.toArray,.int .i64 10]) w:=by
 have V_ca:=hid h1;have V_cb:=hid h2;have V_cR:=hid hR;have hg0:g≠0:=by rw [hg];intro h;exact h0 (Nat.eq_zero_of_gcd_eq_zero_right h)
 have hga:g∣a:=by rw [hg];exact Nat.gcd_dvd_left a b
 have hgb:g∣b:=by rw [hg];exact Nat.gcd_dvd_right a b
 have hq0:q≠0:=by rw [hq];intro h;have:=Nat.div_mul_cancel hgb;rw [h] at this;omega
 have hgB:g<BB^32:=by rw [hg];exact qkM ha hb
 have hpB:p<BB^32:=by rw [hp];exact Nat.lt_of_le_of_lt (Nat.div_le_self _ _) ha
 have hqB:q<BB^32:=by rw [hq];exact Nat.lt_of_le_of_lt (Nat.div_le_self _ _) hb
 obtain ⟨x1,hx1⟩:=qaO p;obtain ⟨x2,hx2⟩:=qaO q;have hf1:=qhB hx1;have hf2:=qhB hx2;obtain ⟨hs1,hs2,hs3,hs4⟩:=qoM na false p q hq0;obtain ⟨sn,hsn⟩:=nqx (cs1 na p);obtain ⟨s,hs⟩:=nqx (sgnI false b)
 have hse:(s==0)=false:=by
  rw [hs];unfold sgnI;rw [if_neg h0];rfl
 obtain ⟨cg,V_cg⟩:=nvx (.bool false::lv 32 g);obtain ⟨cN,V_cN⟩:=nvx (.bool sn::lv 32 p);obtain ⟨cD,V_cD⟩:=nvx (.bool false::lv 32 q);obtain ⟨ce,V_ce⟩:=nvx (.bool false::lv 32 0);obtain ⟨cz,V_cz⟩:=nvx (rat false 0 false 0);have HS:=hid (qhH V_cb.out hs hb);have HG:=hid (qxT V_ca.out V_cb.out V_cg.out hg ha hb);have HDN:=hid (qhD (s:=sn) V_ca.out V_cg.out V_cN.out V_ce.out (by rw [hsn];cases na<;>rfl) (by rw [hp];exact (qdA na a g hga).1) (qdA na a g hga).2 ha hgB hg0);have HDD:=hid (qhD (s:=false) V_cb.out V_cg.out V_cD.out V_ce.out hs1.symm (by rw [hq];exact (qdA false b g hgb).1) (qdA false b g hgb).2 hb hgB hg0);have HS2:=hid (qhH (s:=1) V_cD.out hs4.symm hqB);have HB1:=hid (qfF V_cN.out hpB hx1);have HB2:=hid (qfF V_cD.out hqB hx2)
 have hov2:(480:Int)<(x1:Int)∨(¬(480:Int)<(x1:Int)∧(480:Int)<(x2:Int)):=by
  by_cases h:(x1:Int)≤480
  ·refine .inr ⟨by omega,?_⟩;by_cases h':(x2:Int)≤480
   ·exact absurd ⟨hf1.1 h,hf2.1 h'⟩ hov
   ·omega
  ·exact .inl (by omega)
 clear h1 h2 hR hg hp hq ha hb h0 hg0 hga hgb hq0 hgB hx1 hx2 hs1 hs2 hs3 hs4 hsn hs hpB hqB hf1 hf2 hov;obtain ⟨B0,B1,B2,w0,hw0,hB0,hB1,hB2,AB0,AB1,AB2,FR,FR0,HB0,hZB0,l01,hZB1,l12,hZB2⟩:=en3 w 25 25 27 (bxq ca) (bxq cb) (zQR V_cz);go_enter Tryz.func99,Tryz.ntmps99
 go_upto_region 1 with fail
 rw [←hw0,←hB2,←hB1,←hB0];clear hw0 hB0 hB1 hB2;refine wE [(13,aT cb),(14,iT s),(15,bF)] (by simp only [zu];rfl) (by kernel_rfl) ?_ ?_
 ·intro W' hW';refine lhI AB1 hW' V_cb rfl<|fo2 ?_ ?_<|fxn;all_goals (go_big_quiet_step (exact qaA (HS.out _));exact wqn rfl)
 intro β wx1 E;replace FR:=fnf FR E rfl;replace AB0:=fnh AB0 E rfl;replace AB1:=fnh AB1 E rfl;replace AB2:=fnh AB2 E rfl;simp only [nP,zu];replace FR0:=hid FR.out.le;clear hse;go_upto_region 3 with fail
 refine wT [⟨true,3,6,4,0,0,25,19,cg,0,cg,[]⟩] [(17,aT ca),(18,aT cb),(19,aT cg)] (by simp only [zu];rfl) (by kernel_rfl) rfl ?_ ?_ ?_ ?_
 ·intro W' hW';refine lhI AB0 hW' V_ca rfl<|lhI AB1 hW' V_cb rfl<|fxo ?_<|fxs rfl<|fxs rfl<|fxn
  go_big_quiet_step (exact qaA (HG.out _));exact wqn rfl
 ·exact fP1 (Tryz.alI (qI V_cg.out))
 ·exact fP1 (sI V_cg (fun _=>rfl) rfl)
 intro β wx2 E;replace FR:=fnf FR E rfl;obtain ⟨b6,hb6,eb6⟩:=nwb E mms;have lB0_b6:B0<b6:=ltb AB0 eb6.1;have lB1_b6:B1<b6:=ltb AB1 eb6.1;have lB2_b6:B2<b6:=ltb AB2 eb6.1;have hZb6:B0≤b6:=Nat.le_trans FR0.out eb6.1;replace AB0:=fnh AB0 E rfl;replace AB1:=fnh AB1 E rfl;replace AB2:=fnh AB2 E rfl;have Ab6:=hid eb6.2;simp only [nP,zu];rw [←hb6];replace FR0:=hid FR.out.le;clear E eb6 hb6;go_upto_region 4 with fail
 refine wT [⟨true,7,7,9,0,0,25,24,cN,0,cN,[]⟩,⟨true,8,8,10,0,0,25,25,ce,0,ce,[]⟩] [(21,aT ca),(22,aT cg),(23,.tuple #[aT cN,aT ce,iT 0]),(20,.tuple #[aT cN,aT ce,iT 0]),(24,aT cN),(25,aT ce),(26,iT 0),(9,iT 0)] (by simp only [zu];rfl) (by kernel_rfl) rfl ?_ ?_ ?_ ?_
 ·intro W' hW';refine lhI AB0 hW' V_ca rfl<|lhI Ab6 hW' V_cg rfl<|fo4 ?_ ?_ ?_ ?_<|fxo ?_<|fxs rfl<|fxs rfl<|fxs rfl<|fxs rfl<|fxo ?_<|fxn;all_goals (go_big_quiet_step (exact qaA (HDN.out _));exact wqn rfl)
 ·exact oP _ _ (Tryz.alI (qI V_cN.out)) (oP _ _ (Tryz.alI (qI V_ce.out)) (oN))
 ·exact oP _ _ (stw rfl (qI V_cN.out) (qgF V_cN.out) (fun _=>rfl)) (oP _ _ (stw rfl (qI V_ce.out) (qgF V_ce.out) (fun _=>rfl)) (oN))
 intro β wx3 E;replace FR:=fnf FR E rfl;obtain ⟨b7,hb7,eb7⟩:=nwb E mms;have lB0_b7:B0<b7:=ltb AB0 eb7.1;have lB1_b7:B1<b7:=ltb AB1 eb7.1;have lB2_b7:B2<b7:=ltb AB2 eb7.1;have lb6_b7:b6<b7:=ltb Ab6 eb7.1;have hZb7:B0≤b7:=Nat.le_trans FR0.out eb7.1;obtain ⟨b8,hb8,eb8⟩:=nwb E (List.mem_cons_of_mem _ mms);have lB0_b8:B0<b8:=ltb AB0 eb8.1;have lB1_b8:B1<b8:=ltb AB1 eb8.1;have lB2_b8:B2<b8:=ltb AB2 eb8.1;have lb6_b8:b6<b8:=ltb Ab6 eb8.1;have hZb8:B0≤b8:=Nat.le_trans FR0.out eb8.1;have nb7_b8:b7≠b8:=fun e=>absurd (E.apart _ mms _ (List.mem_cons_of_mem _ mms) rfl rfl (by rw [hb7,hb8] at e;exact e)) (show ¬(7:Nat)=8 by decide)
 clear AB0;replace AB1:=fnh AB1 E rfl;replace AB2:=fnh AB2 E rfl;replace Ab6:=fnh Ab6 E rfl;have Ab7:=hid eb7.2;have Ab8:=hid eb8.2;simp only [nP,zu];rw [←hb7];rw [←hb8];replace FR0:=hid FR.out.le;clear E eb7 hb7 eb8 hb8;go_upto_region 5 with fail
 refine wT [⟨true,7,10,9,0,0,25,31,cD,0,cD,[]⟩,⟨true,8,11,10,0,0,25,32,ce,0,ce,[]⟩] [(28,aT cb),(29,aT cg),(30,.tuple #[aT cD,aT ce,iT 0]),(27,.tuple #[aT cD,aT ce,iT 0]),(31,aT cD),(32,aT ce),(33,iT 0),(12,iT 0)] (by simp only [zu];rfl) (by kernel_rfl) rfl ?_ ?_ ?_ ?_
 ·intro W' hW';refine lhI AB1 hW' V_cb rfl<|lhI Ab6 hW' V_cg rfl<|fo4 ?_ ?_ ?_ ?_<|fxo ?_<|fxs rfl<|fxs rfl<|fxs rfl<|fxs rfl<|fxo ?_<|fxn;all_goals (go_big_quiet_step (exact qaA (HDD.out _));exact wqn rfl)
 ·exact oP _ _ (Tryz.alI (qI V_cD.out)) (oP _ _ (Tryz.alI (qI V_ce.out)) (oN))
 ·exact oP _ _ (stw rfl (qI V_cD.out) (qgF V_cD.out) (fun _=>rfl)) (oP _ _ (stw rfl (qI V_ce.out) (qgF V_ce.out) (fun _=>rfl)) (oN))
 intro β wx4 E;replace FR:=fnf FR E rfl;obtain ⟨b10,hb10,eb10⟩:=nwb E mms;have lB1_b10:B1<b10:=ltb AB1 eb10.1;have lB2_b10:B2<b10:=ltb AB2 eb10.1;have lb6_b10:b6<b10:=ltb Ab6 eb10.1;have lb7_b10:b7<b10:=ltb Ab7 eb10.1;have lb8_b10:b8<b10:=ltb Ab8 eb10.1;have hZb10:B0≤b10:=Nat.le_trans FR0.out eb10.1;obtain ⟨b11,hb11,eb11⟩:=nwb E (List.mem_cons_of_mem _ mms);have lB1_b11:B1<b11:=ltb AB1 eb11.1;have lB2_b11:B2<b11:=ltb AB2 eb11.1;have lb6_b11:b6<b11:=ltb Ab6 eb11.1;have lb7_b11:b7<b11:=ltb Ab7 eb11.1;have lb8_b11:b8<b11:=ltb Ab8 eb11.1;have hZb11:B0≤b11:=Nat.le_trans FR0.out eb11.1;have nb10_b11:b10≠b11:=fun e=>absurd (E.apart _ mms _ (List.mem_cons_of_mem _ mms) rfl rfl (by rw [hb10,hb11] at e;exact e)) (show ¬(7:Nat)=8 by decide)
 clear AB1;replace AB2:=fnh AB2 E rfl;clear Ab6;replace Ab7:=fnh Ab7 E rfl;clear Ab8;have Ab10:=hid eb10.2;simp only [nP,zu];rw [←hb10];rw [←hb11];clear E eb10 hb10 eb11 hb11;go_upto_region 6 with fail
 refine wE [(34,aT cD),(35,iT 1),(36,bF)] (by simp only [zu];rfl) (by kernel_rfl) ?_ ?_
 ·intro W' hW';refine lhI Ab10 hW' V_cD rfl<|fo2 ?_ ?_<|fxn;all_goals (go_big_quiet_step (exact qaA (HS2.out _));exact wqn rfl)
 intro β wx5 E;replace FR:=fnf FR E rfl;replace AB2:=fnh AB2 E rfl;replace Ab7:=fnh Ab7 E rfl;replace Ab10:=fnh Ab10 E rfl;simp only [nP,zu];go_upto_region 8 with fail
 rcases hov2 with h1|⟨h1,h2⟩
 ·refine wE [(41,aT cN),(42,iT x1),(43,bT),(44,bT),(45,undef),(46,undef),(47,undef),(48,bT)] (by simp only [zu];rfl) (by kernel_rfl) ?_ ?_
  ·intro W' hW';refine lhI Ab7 hW' V_cN rfl<|fo4 ?_ ?_ ?_ ?_<|fo3 ?_ ?_ ?_<|fxn;all_goals (go_big_quiet_step (exact qaA (HB1.out _));exact wqn rfl)
  intro β wx6 E;replace FR:=fnf FR E rfl;replace AB2:=fnh AB2 E rfl;simp only [nP,zu];go_upto_region 9 with fail
  refine wF [⟨false,0,4,1,B2,0,27,49,cR,0,cR,[]⟩] [(49,aT cR),(5,iT 10)] (by simp only [zu];rfl) (by kernel_rfl) ?_ ?_ (fP1 bnC) ?_ uno ?_ ?_
  ·intro W' hW';refine fxb (qbP V_cR.out) rfl<|fxs rfl<|fxo ?_<|fxn
   go_big_quiet_step (fail);exact wqn rfl
  ·intro W' hK';refine fxb (qbP V_cR.out) rfl<|fxs (by kernel_rfl)<|fxi ?_<|fxn
   first|(refine .inr ?_;go_big_quiet_step (fail);exact wqn rfl)|exact .inl (by kernel_rfl)
  ·exact fP1 (fun _=>rmh AB2 (qR V_cz.out) (qR V_cR.out) rfl)
  ·exact fP1 (sR V_cR (fun _=>rfl) rfl)
  intro β wx7 E;replace FR:=ffh FR E (by omega);replace AB2:=aoh E AB2 mms;simp only [nP,zu];go_wp2_with fail
  have hld:=rdR AB2 V_cR;refine bodyPost_ret (v:=.tuple #[.agg cR.toArray,.int .i64 10]) (by simp [results,Tryz.results99,asAddr,hld]) rfl ?_;exact ⟨rfl,qbL HB0 FR⟩
 ·refine wE [(41,aT cN),(42,iT x1),(43,bF),(44,bF),(45,aT cD),(46,iT x2),(47,bT),(48,bT)] (by simp only [zu];rfl) (by kernel_rfl) ?_ ?_
  ·intro W' hW';refine lhI Ab7 hW' V_cN rfl<|fo3 ?_ ?_ ?_<|lhI Ab10 hW' V_cD rfl<|fxo (by go_big_quiet_step (exact qaA (HB2.out _));exact wqn rfl)<|fo2 ?_ ?_<|fxn;all_goals (go_big_quiet_step (exact qaA (HB1.out _));exact wqn rfl)
  intro β wx6 E;replace FR:=fnf FR E rfl;replace AB2:=fnh AB2 E rfl;simp only [nP,zu];go_upto_region 9 with fail
  refine wF [⟨false,0,4,1,B2,0,27,49,cR,0,cR,[]⟩] [(49,aT cR),(5,iT 10)] (by simp only [zu];rfl) (by kernel_rfl) ?_ ?_ (fP1 bnC) ?_ uno ?_ ?_
  ·intro W' hW';refine fxb (qbP V_cR.out) rfl<|fxs rfl<|fxo ?_<|fxn
   go_big_quiet_step (fail);exact wqn rfl
  ·intro W' hK';refine fxb (qbP V_cR.out) rfl<|fxs (by kernel_rfl)<|fxi ?_<|fxn
   first|(refine .inr ?_;go_big_quiet_step (fail);exact wqn rfl)|exact .inl (by kernel_rfl)
  ·exact fP1 (fun _=>rmh AB2 (qR V_cz.out) (qR V_cR.out) rfl)
  ·exact fP1 (sR V_cR (fun _=>rfl) rfl)
  intro β wx7 E;replace FR:=ffh FR E (by omega);replace AB2:=aoh E AB2 mms;simp only [nP,zu];go_wp2_with fail
  have hld:=rdR AB2 V_cR;refine bodyPost_ret (v:=.tuple #[.agg cR.toArray,.int .i64 10]) (by simp [results,Tryz.results99,asAddr,hld]) rfl ?_;exact ⟨rfl,qbL HB0 FR⟩
theorem jdF {ca cb:List Value} {N:Int} {D:Nat} (h1:ca=iZ N) (h2:cb=iZ (D:Int)) {cR:List Value} {code:Int} (hR:cR=resR (mkQ N D)) (hc:code=resE (mkQ N D)) (ha:N.natAbs<BB^32) (hb:D<BB^32) (h0:D≠0) (w:World) :
  CB 99 #[.agg ca.toArray,.agg cb.toArray] (.tuple #[.agg cR.toArray,.int .i64 code]) w:=by
 have hs:=qgL N (N.natAbs / Nat.gcd N.natAbs D) (fun h0=>by subst h0;simp);have h2':cb=.bool false::lv 32 D:=by rw [h2,qxO]
 by_cases hbd:N.natAbs / Nat.gcd N.natAbs D<B480∧D / Nat.gcd N.natAbs D<B480
 ·obtain rfl:code=0:=by rw [hc];unfold mkQ;rw [if_pos hbd];rfl
  refine jfF (na:=decide (N<0)) (nb:=false) (n:=cs1 (decide (N<0)) (N.natAbs / Nat.gcd N.natAbs D)) (a:=N.natAbs) (b:=D) (g:=Nat.gcd N.natAbs D) h1 h2' ?_ (by simp) rfl rfl rfl ha hb h0 hbd.1 hbd.2 w;rw [hR];unfold mkQ;rw [if_pos hbd];simp only [resR,ratZ];rw [hs.1,hs.2]
 ·obtain rfl:code=10:=by rw [hc];unfold mkQ;rw [if_neg hbd];rfl
  exact qtE (n:=false) h1 h2' (by rw [hR];unfold mkQ;rw [if_neg hbd];rfl) rfl rfl rfl ha hb h0 hbd w
theorem jdE {ca cb cr:List Value} {a b:Int} (h1:ca=iZ a) (h2:cb=iZ b) (hr:cr=iZ (a*b)) (ha:a.natAbs<BB^32) (hb:b.natAbs<BB^32) (hv:(a*b).natAbs<BB^32) (w:World) :
  CB 100 #[.agg ca.toArray,.agg cb.toArray] (.agg cr.toArray) w:=by
 have V_ca:=hid h1;have V_cb:=hid h2;have V_cr:=hid hr;obtain ⟨cz,V_cz⟩:=nvx (.bool false::lv 32 0);have HM:=hid (rmulZ V_ca.out V_cb.out V_cr.out ha hb hv);clear h1 h2 hr ha hb hv;obtain ⟨B0,B1,B2,w0,hw0,hB0,hB1,hB2,AB0,AB1,AB2,FR,FR0,HB0,hZB0,l01,hZB1,l12,hZB2⟩:=en3 w 25 25 25 (bxq ca) (bxq cb) (zQI V_cz);unfold zero33 at hw0;go_enter Tryz.func100,Tryz.ntmps100
 go_upto_region 1 with fail
 rw [←hw0,←hB2,←hB1,←hB0];clear hw0 hB0 hB1 hB2;refine wT [⟨true,6,5,7,0,0,25,11,cr,0,cr,[]⟩] [(8,aT ca),(9,aT cb),(10,.tuple #[aT cr,iT 0]),(7,.tuple #[aT cr,iT 0]),(11,aT cr),(12,iT 0),(6,iT 0)] (by simp only [zu];rfl) (by kernel_rfl) rfl ?_ ?_ ?_ ?_
 ·intro W' hW';refine lhI AB0 hW' V_ca rfl<|lhI AB1 hW' V_cb rfl<|fo4 ?_ ?_ ?_ ?_<|fxs rfl<|fxs rfl<|fxo ?_<|fxn;all_goals (go_big_quiet_step (exact qaA (HM.out _));exact wqn rfl)
 ·exact fP1 (Tryz.alI (qI V_cr.out))
 ·exact fP1 (sI V_cr (fun _=>rfl) rfl)
 intro β wx1 E;replace FR:=fnf FR E rfl;obtain ⟨b5,hb5,eb5⟩:=nwb E mms;have lB0_b5:B0<b5:=ltb AB0 eb5.1;have lB1_b5:B1<b5:=ltb AB1 eb5.1;have lB2_b5:B2<b5:=ltb AB2 eb5.1;have hZb5:B0≤b5:=Nat.le_trans FR0.out eb5.1;replace AB2:=fnh AB2 E rfl;have Ab5:=hid eb5.2;simp only [nP,zu];rw [←hb5];clear E eb5 hb5;go_upto_region 2 with fail
 refine wF [⟨false,0,4,1,B2,0,25,13,cr,0,cr,[]⟩] [(13,aT cr)] (by simp only [zu];rfl) (by kernel_rfl) ?_ ?_ (fP1 bnC) ?_ uno ?_ ?_
 ·intro W' hW';exact lhI Ab5 hW' V_cr rfl<|fxs rfl<|fxn
 ·intro W' hK';have rd0:=akh Ab5 hK' (by omega);exact ldI rd0 V_cr rfl<|fxs (by kernel_rfl)<|fxn
 ·exact fP1 (fun _=>rmh AB2 (qI V_cz.out) (qI V_cr.out) rfl)
 ·exact fP1 (sI V_cr (fun _=>rfl) rfl)
 intro β wx2 E;replace FR:=ffh FR E (by omega);replace AB2:=aoh E AB2 mms;simp only [nP,zu];go_wp2_with fail
 have hld:=rdI AB2 V_cr;refine bodyPost_ret (v:=.agg cr.toArray) (by simp [results,Tryz.results100,asAddr,hld]) rfl ?_;exact ⟨rfl,qbL HB0 FR⟩
theorem rofQ {cR:List Value} {x y:Int} {d:Nat} {code:Int} (hy:y=(d:Int)) (hd:d≠0) (hR:cR=resR (mkQ x d)) (hc:code=resE (mkQ x d)) (h1:-9223372036854775808≤x) (h2:x≤9223372036854775807) (h3:y≤9223372036854775807) (w:World) :
  CB 73 #[.int .i64 x,.int .i64 y] (.tuple #[.agg cR.toArray,.int .i64 code]) w:=by
 obtain ⟨rn,rp,rm,rq,hcR⟩:∃ rn rp rm rq,cR=rat rn rp rm rq:=by
  rw [hR]
  cases mkQ x d with
  | none=>exact ⟨_,_,_,_,rfl⟩
  | some r=>exact ⟨_,_,_,_,rfl⟩
 have V_cR:=hid hcR;obtain ⟨cz,V_cz⟩:=nvx (rat false 0 false 0);obtain ⟨cx,V_cx⟩:=nvx (iZ x);obtain ⟨cy,V_cy⟩:=nvx (iZ y);have e1:(9223372036854775809:Nat)≤BB^2:=by unfold BB;decide
 have e2:BB^2≤BB^32:=Nat.pow_le_pow_right qbH (by omega);have HX:=hid (jdG V_cx.out h1 h2);have HY:=hid (jdG V_cy.out (by omega) h3);have HM:=hid (jdF (D:=d) (cb:=cy) V_cx.out (by rw [V_cy.out,hy]) hR hc (by omega) (by omega) hd);clear hy hd hR hc h1 h2 h3 hcR e1 e2;obtain ⟨B0,w0,hw0,hB0,AB0,FR,FR0,HB0,hZB0⟩:=en1 w 27 (zQR V_cz);go_enter Tryz.func73,Tryz.ntmps73
 go_upto_region 1 with fail
 rw [←hw0,←hB0];clear hw0 hB0;refine wF [⟨false,0,4,7,B0,0,27,11,cR,0,cR,[]⟩] [(6,iT x),(7,aT cx),(8,iT y),(9,aT cy),(10,.tuple #[aT cR,iT code]),(11,aT cR),(12,iT code),(5,iT code)] (by simp only [zu];rfl) (by kernel_rfl) ?_ ?_ (fP1 bnC) ?_ uno ?_ ?_
 ·intro W' hW';refine fo3 ?_ ?_ ?_<|fxo (by go_big_quiet_step (exact qaA (HY.out _));exact wqn rfl)<|fxo (by go_big_quiet_step (exact qaA (HM.out _));exact wqn rfl)<|fo2 ?_ ?_<|fxs rfl<|fxo ?_<|fxn;all_goals (go_big_quiet_step (exact qaA (HX.out _));exact wqn rfl)
 ·intro W' hK';refine fxi ?_<|fxs (by kernel_rfl)<|fxi ?_<|fxs (by kernel_rfl)<|fxs (by kernel_rfl)<|fxi ?_<|fxi ?_<|fxs (by kernel_rfl)<|fxi ?_<|fxn;all_goals (first|(refine .inr ?_;go_big_quiet_step (fail);exact wqn rfl)|exact .inl (by kernel_rfl))
 ·exact fP1 (fun _=>rmh AB0 (qR V_cz.out) (qR V_cR.out) rfl)
 ·exact fP1 (sR V_cR (fun _=>rfl) rfl)
 intro β wx1 E;replace FR:=ffh FR E (by omega);replace AB0:=aoh E AB0 mms;simp only [nP,zu];go_wp2_with fail
 have hld:=rdR AB0 V_cR;refine bodyPost_ret (v:=.tuple #[.agg cR.toArray,.int .i64 code]) (by simp [results,Tryz.results73,asAddr,hld]) rfl ?_;exact ⟨rfl,qbL HB0 FR⟩
end Go.Proofs.YtemoddmadfoaiaaGreat
namespace Go.Proofs.YtemoddmadfoaiaaGreat
open Go.RowKit Big
theorem At.low {w:World} {b:Nat} {c:List Value} {n:Bool} {v lo:Nat} (h:At w b 0 c) (hc:c=.bool n::lv 32 v) (hl:lo=lim v 0):w.cell? ⟨b,1,none⟩=some (.int .u32 (lo:Int)):=by
 subst hc hl
 have:=h.cell (j:=1) (v:=.int .u32 (lim v 0:Nat)) (by rw [List.getElem?_cons_succ];exact qrS v (by omega))
 simpa using this
section
open Ap
end
section
open Ap
theorem Row.below {w w':World} {d off:Nat} {l:List Int} (h:Row w d off l) (hb:Below w.heap.size w w') (hd:d<w.heap.size):Row w' d off l :=
 ⟨fun k x hk=>qcU (h.1 k x hk) hb,fun o=>by rw [hb.frozen (by simpa using hd)];exact h.2 o⟩
def Laid2 (w wx:World) (b7 bR:Nat) (l7 lR:List Int):Prop:=Row wx b7 0 l7∧Row wx bR 0 lR∧b7≠bR∧w.heap.size≤b7∧w.heap.size≤bR∧b7<wx.heap.size∧bR<wx.heap.size∧Below w.heap.size w wx
section
variable {w wx:World} {b7 bR:Nat} {l7 lR:List Int}
theorem Laid2.below {wy:World} (h:Laid2 w wx b7 bR l7 lR) (hb:Below wx.heap.size wx wy):Laid2 w wy b7 bR l7 lR:=by
 obtain ⟨h1,h2,h3,h4,h5,h6,h7,h8⟩:=h;exact ⟨h1.below hb h6,h2.below hb h7,h3,h4,h5,Nat.lt_of_lt_of_le h6 hb.size,Nat.lt_of_lt_of_le h7 hb.size,h8.trans (hb.mono h8.size)⟩
theorem Laid2.drewN (h:Laid2 w wx b7 bR l7 lR) (q:Nat):Laid2 w (wx.drewN q) b7 bR l7 lR:=h.below (below_drewN (Below.refl _ _) q)
end
theorem take_sum {ws:List Nat} {k x:Nat} (hx:ws[k]?=some x):sumL (ws.take (k+1))=sumL (ws.take k)+x:=by
 rw [List.take_add_one,hx,qrD];simp [sumL]
end
end Go.Proofs.YtemoddmadfoaiaaGreat
namespace Go.Proofs.YtemoddmadfoaiaaGreat
open Go.RowKit Ap
end Go.Proofs.YtemoddmadfoaiaaGreat
