import Derived.Test.YtemoddmadfoaiaaGreatApI
import Derived.Test.YtemoddmadfoaiaaGreatDaB
set_option linter.unusedVariables false
set_option linter.unusedSimpArgs false
set_option maxRecDepth 100000
namespace Go.Proofs.YtemoddmadfoaiaaGreat
open Go.RowKit Big Al Tok Ap
theorem At.of_own {w:World} {B n g cap:Nat} {e:TypeId} {size:Nat} {xs:List Value} (h:w.ownsRow B e size (.slice (some ⟨g,0,none⟩) n cap) n xs):At w g 0 xs:=by
 have hc:=fun g'=>World.ownsRow.cells h (g:=g')
 rcases h.2 with ⟨h2,_⟩|⟨g',cap',cur,hv,hg,hh,hrest⟩
 ·cases h2
 ·injection hv with h1 h2 h3
  injection h1 with h1
  injection h1 with h1
  subst h1;refine ⟨fun j u hj=>?_,fun j hj=>?_,(Array.getElem?_eq_some_iff.1 hh).1⟩
  ·have:=hc g rfl j u hj
   have hadd:(⟨g,0,none⟩:Addr).add j=⟨g,0+j,none⟩:=by unfold Addr.add;split<;>simp_all
   rwa [hadd] at this
  ·obtain ⟨u,hu⟩:∃ u,xs[j]?=some u:=⟨xs[j]'hj,List.getElem?_eq_getElem hj⟩
   have:=hc g rfl j u hu
   have hadd:(⟨g,0,none⟩:Addr).add j=⟨g,0+j,none⟩:=by unfold Addr.add;split<;>simp_all
   rw [hadd] at this;exact ⟨by rw [this];rfl,frozen_of_row _ _ _ _ _ hh⟩
theorem jiK {a b i j:Nat} (ha:a<BB^i) (hb:b<BB^j):a*b<BB^(i+j):=by
 rw [Nat.pow_add];exact Nat.mul_lt_mul'' ha hb
theorem jgU {a i j:Nat} (ha:a<BB^i) (hij:i≤j):a<BB^j:=Nat.lt_of_lt_of_le ha (Nat.pow_le_pow_right qbK hij)
namespace Al
end Al
def cellsQ (rs:List Qn):List Value:=rs.flatMap fun r=>ratZ r.1 r.2
theorem qjV (n:Nat):iZ (n:Int)=.bool false::lv 32 n:=by unfold iZ;rw [Int.natAbs_natCast,decide_eq_false (by omega)]
theorem At.grown {w w':World} {b o:Nat} {cs:List Value} {row:Option Nat} (h:At w b o cs) (hg:w.grownBy w' row) (hq:∀ q,row=some q→q≠b):At w' b o cs:=by
 have hk:=hg.block b h.lt (fun e=>hq b e.symm rfl);refine ⟨fun j v hj=>?_,fun j hj=>?_,Nat.lt_of_lt_of_le h.lt hg.size⟩
 ·rw [World.cell?_of_block (w:=w) hk];exact h.range j v hj
 ·rw [World.cell?_of_block (w:=w) hk,World.frozen?_of_block (w:=w) hk];exact h.there j hj
theorem Tryz.infoI33:(Tryz.prog.info? 25).map (·.size)=some 33:=by kernel_rfl
theorem qtI {a b:Int} {i j:Nat} (ha:a.natAbs<BB^i) (hb:b.natAbs<BB^j):(a*b).natAbs<BB^(i+j):=by rw [Int.natAbs_mul];exact jiK ha hb
structure ExB (c:Qn) (M o:Nat) (y:Int):Prop where
 n:c.1.natAbs<BB^15
 d:((c.2:Nat):Int).natAbs<BB^15
 m:((M:Nat):Int).natAbs<BB^2
 o:((o:Nat):Int).natAbs<BB^2
 y:y.natAbs<BB^2
 pos:c.2*M≠0
theorem ExB.num {c:Qn} {M o:Nat} {y:Int} (h:ExB c M o y):(c.1*(o:Int)+y*(c.2:Int)*(M:Int)).natAbs<BB^32:=by
 have h1:=jgU (qtI h.n h.o) (show 15+2≤30 by omega);have h2:=jgU (qtI (qtI h.y h.d) h.m) (show 2+15+2≤30 by omega);have h3:=qvN;omega
theorem ExB.den {c:Qn} {M o:Nat} {y:Int} (h:ExB c M o y):c.2*M<BB^32:=by
 have:=jgU (qtI h.d h.m) (show 15+2≤32 by omega)
 rwa [←Int.natCast_mul,Int.natAbs_natCast] at this
end Go.Proofs.YtemoddmadfoaiaaGreat
set_option maxHeartbeats 8000000
namespace Go.Proofs.YtemoddmadfoaiaaGreat
open Go.RowKit Big
open Lib (hid)
theorem jeV {n:Bool} {p:Nat} (hn:true=cs1 true p) (h:n=true):-1=sgnI n p:=by
 have h1:p≠0:=by rintro rfl;simp [cs1] at hn
 unfold sgnI;rw [if_neg h1,if_pos h]
theorem jaJ {cr:List Value} {n:Bool} {p q:Nat} (hr:cr=rat n p false q) (hn:n=cs1 n p) (hp:p<B480) (hq:q<B480) (h0:q≠0) (hg:Nat.gcd p q=1) (w:World) :
  CB 98 #[.agg cr.toArray] (.bool true) w:=by
 have V_cr:=hid hr;obtain ⟨x1,hx1⟩:=qaJ p;obtain ⟨x2,hx2⟩:=qaJ q;have hx1b:=qfM hp hx1;have hx2b:=qfM hq hx2;obtain ⟨cn,V_cn⟩:=nvx (.bool n::lv 32 p);obtain ⟨cd,V_cd⟩:=nvx (.bool false::lv 32 q);obtain ⟨co,V_co⟩:=nvx (.bool false::lv 32 1);have HSD:=hid (qcQ (s:=1) V_cd.out (by unfold sgnI;rw [if_neg h0];rfl) (qaG hq));have HB1:=hid (qeF V_cn.out (qaG hp) hx1);have HB2:=hid (qeF V_cd.out (qaG hq) hx2);have HG:=hid (qsS V_cn.out V_cd.out V_co.out hg.symm (qaG hp) (qaG hq));have HO:=hid (qjW (z:=1) V_co.out rfl rfl (by decide) (by decide));have H1:=hid (show 1<BB^32 from Nat.one_lt_pow (by omega) (by unfold BB;omega));have n1:(x1:Int)≤480:=by omega
 have n2:(x2:Int)≤480:=by omega
 have HSN:=hid (fun (h:n=true)=>qcQ (s:=-1) V_cn.out (jeV (h ▸ hn) h) (qaG hp));clear hr hn hp hq h0 hg hx1 hx2 hx1b hx2b;obtain ⟨B0,w0,hw0,hB0,AB0,FR,FR0,HB0,hZB0⟩:=en1 w 27 (bxq cr);go_enter Tryz.func98,Tryz.ntmps98
 go_upto_region 1 with fail
 rw [←hw0,←hB0];clear hw0 hB0;have AB0_n:=hid (AB0.out.num V_cr.out V_cn.out);have AB0_d:=hid (AB0.out.den V_cr.out V_cd.out)
 cases n with
 | true =>
  refine wE [(3,pT B0 0),(4,pT B0 0),(5,bT),(6,bT),(7,pT B0 0),(8,aT cn),(9,iT (-1)),(10,bF),(11,bF),(12,bF),(13,pT B0 33),(14,aT cd),(15,iT 1),(16,bF),(17,bF)] (by simp only [zu];rfl) (by kernel_rfl) ?_ ?_
  ·intro W' hW';have cl0:=fun p os=>qaB ((AB0_n.out.below hW').neg V_cn.out) p os
   refine fo4 ?_ ?_ ?_ ?_<|fxo ?_<|lhI AB0_n hW' V_cn rfl<|fo4 ?_ ?_ ?_ ?_<|fxo ?_<|lhI AB0_d hW' V_cd rfl<|fxo (by go_big_quiet_step (exact qaA (HSD.out _));exact wqn rfl)<|fo2 ?_ ?_<|fxn;all_goals (go_big_quiet_step (exact qaA (HSN.out rfl _));exact wqn rfl)
  intro β wx1 E;replace FR:=fnf FR E rfl;replace AB0_n:=fnh AB0_n E rfl;replace AB0_d:=fnh AB0_d E rfl;simp only [nP,zu];go_upto_region 3 with fail
  refine wE [(18,pT B0 0),(19,aT cn),(20,iT x1),(21,bT),(22,bT),(23,pT B0 33),(24,aT cd),(25,iT x2),(26,bT),(27,bT),(28,bT),(29,pT B0 0),(30,aT cn),(31,pT B0 33),(32,aT cd),(33,aT co),(34,aT co),(35,bT),(36,bT),(2,bT)] (by simp only [zu];rfl) (by kernel_rfl) ?_ ?_
  ·intro W' hW';have rd0:=AB0_n.out.below hW';have rd1:=AB0_d.out.below hW';refine fxo ?_<|ldI rd0 V_cn rfl<|fo4 ?_ ?_ ?_ ?_<|ldI rd1 V_cd rfl<|fxo (by go_big_quiet_step (exact qaA (HB2.out _));exact wqn rfl)<|fo4 ?_ ?_ ?_ ?_<|ldI rd0 V_cn rfl<|fxo ?_<|ldI rd1 V_cd rfl<|fxo (by go_big_quiet_step (exact qaA (HG.out _));exact wqn rfl)<|fxo (by go_big_quiet_step (exact qaA (HO.out _));exact wqn rfl)<|fxo (qeM (r:=true) (by rfl) rfl rfl rfl V_co.out V_co.out H1.out H1.out (by simp) (wqn (by simp only [zq])))<|fo2 ?_ ?_<|fxn;all_goals (go_big_quiet_step (exact qaA (HB1.out _));exact wqn rfl)
  intro β wx2 E;replace FR:=fnf FR E rfl;simp only [nP,zu];go_wp2
  go_ret
  exact ⟨rfl,qaY HB0 FR⟩
 | false =>
  refine wE [(3,pT B0 0),(4,pT B0 0),(5,bF),(6,bF),(7,undef),(8,undef),(9,undef),(10,undef),(11,bF),(12,bF),(13,pT B0 33),(14,aT cd),(15,iT 1),(16,bF),(17,bF)] (by simp only [zu];rfl) (by kernel_rfl) ?_ ?_
  ·intro W' hW';have cl0:=fun p os=>qaB ((AB0_n.out.below hW').neg V_cn.out) p os
   refine fo4 ?_ ?_ ?_ ?_<|fo4 ?_ ?_ ?_ ?_<|fo3 ?_ ?_ ?_<|lhI AB0_d hW' V_cd rfl<|fo3 ?_ ?_ ?_<|fxn;all_goals (go_big_quiet_step (exact qaA (HSD.out _));exact wqn rfl)
  intro β wx1 E;replace FR:=fnf FR E rfl;replace AB0_n:=fnh AB0_n E rfl;replace AB0_d:=fnh AB0_d E rfl;simp only [nP,zu];go_upto_region 3 with fail
  refine wE [(18,pT B0 0),(19,aT cn),(20,iT x1),(21,bT),(22,bT),(23,pT B0 33),(24,aT cd),(25,iT x2),(26,bT),(27,bT),(28,bT),(29,pT B0 0),(30,aT cn),(31,pT B0 33),(32,aT cd),(33,aT co),(34,aT co),(35,bT),(36,bT),(2,bT)] (by simp only [zu];rfl) (by kernel_rfl) ?_ ?_
  ·intro W' hW';have rd0:=AB0_n.out.below hW';have rd1:=AB0_d.out.below hW';refine fxo ?_<|ldI rd0 V_cn rfl<|fo4 ?_ ?_ ?_ ?_<|ldI rd1 V_cd rfl<|fxo (by go_big_quiet_step (exact qaA (HB2.out _));exact wqn rfl)<|fo4 ?_ ?_ ?_ ?_<|ldI rd0 V_cn rfl<|fxo ?_<|ldI rd1 V_cd rfl<|fxo (by go_big_quiet_step (exact qaA (HG.out _));exact wqn rfl)<|fxo (by go_big_quiet_step (exact qaA (HO.out _));exact wqn rfl)<|fxo (qeM (r:=true) (by rfl) rfl rfl rfl V_co.out V_co.out H1.out H1.out (by simp) (wqn (by simp only [zq])))<|fo2 ?_ ?_<|fxn;all_goals (go_big_quiet_step (exact qaA (HB1.out _));exact wqn rfl)
  intro β wx2 E;replace FR:=fnf FR E rfl;simp only [nP,zu];go_wp2
  go_ret
  exact ⟨rfl,qaY HB0 FR⟩
theorem jhV {c d r:List Value} {na nb n:Bool} {a b v:Nat} (hc:c=.bool na::lv 32 a) (hd:d=.bool nb::lv 32 b) (hr:r=.bool n::lv 32 v) (hv:v=a*b) (hn:n=cs1 (na != nb) v) (ha:a<BB^32) (hb:b<BB^32) (hvb:v<BB^32) (W:World) :
  CB 136 #[.agg c.toArray,.agg d.toArray] (.tuple #[.agg r.toArray,.int .i64 0]) W:=by
 subst hn hv hc hd hr;exact jfU na nb a b W ha hb hvb
theorem raddZ {ca cb cr:List Value} {a b:Int} (h1:ca=iZ a) (h2:cb=iZ b) (hr:cr=iZ (a+b)) (ha:a.natAbs<BB^32) (hb:b.natAbs<BB^32) (hv:(a+b).natAbs<BB^32) (w:World) :
  CB 105 #[.agg ca.toArray,.agg cb.toArray] (.tuple #[.agg cr.toArray,.int .i64 0]) w:=by
 subst h1 h2 hr;exact jiM (decide (a<0)) (decide (b<0)) (decide (a+b<0)) a.natAbs b.natAbs (a+b).natAbs w ha hb hv (by rw [qhJ,qhJ]) (by rw [qhJ,qhJ])
theorem rmulZ {ca cb cr:List Value} {a b:Int} (h1:ca=iZ a) (h2:cb=iZ b) (hr:cr=iZ (a*b)) (ha:a.natAbs<BB^32) (hb:b.natAbs<BB^32) (hv:(a*b).natAbs<BB^32) (w:World) :
  CB 136 #[.agg ca.toArray,.agg cb.toArray] (.tuple #[.agg cr.toArray,.int .i64 0]) w :=
 jhV h1 h2 hr (qnU a b) (by rw [qiN,qnU]) ha hb hv w
theorem jeC {cr:List Value} {z:Int} (h:cr=iZ z) (h1:-9223372036854775808≤z) (h2:z≤9223372036854775807) (w:World) :
  CB 101 #[.int .i64 z] (.agg cr.toArray) w :=
 qjW h rfl rfl h1 h2 w
theorem rnegZ {ca cr:List Value} {z:Int} (h:ca=iZ z) (hr:cr=iZ (-z)) (hz:z.natAbs<BB^32) (w:World) :
  CB 135 #[.agg ca.toArray] (.agg cr.toArray) w:=by
 refine qxN (n:=decide (-z<0)) h (by rw [hr];unfold iZ;rw [Int.natAbs_neg]) ?_ hz w;unfold cs1;rcases Int.lt_trichotomy z 0 with h|h|h
 ·have h1:¬-z<0:=by omega
  simp [h];omega
 ·subst h;rfl
 ·have h1:¬z<0:=by omega
  have h2:z.natAbs≠0:=by omega
  simp [h1,h2];omega
theorem jeY {cr:List Value} {z:Int} (h:cr=ratZ z 1) (h1:-9223372036854775808≤z) (h2:z≤9223372036854775807) (w:World) :
  CB 67 #[.int .i64 z] (.agg cr.toArray) w:=by
 subst h;exact jaI z _ _ w rfl rfl h1 h2
theorem qeD {c:List Value} {r:Qn} (h:c=ratZ r.1 r.2) (hv:VQ r) (w:World) :
  CB 98 #[.agg c.toArray] (.bool true) w :=
 jaJ h (jdF _).symm hv.num hv.den hv.pos hv.low w
theorem qtY {ca cb cR:List Value} {na n:Bool} {a b g p q:Nat} (h1:ca=.bool na::lv 32 a) (h2:cb=.bool false::lv 32 b) (hR:cR=rat false 0 false 0) (hg:g=Nat.gcd a b) (hp:p=a / g) (hq:q=b / g)
  (ha:a<BB^32) (hb:b<BB^32) (h0:b≠0) (hov:¬(p<B480∧q<B480)) (w:World) :
  CB 99 #[.agg ca.toArray,.agg cb.toArray] (.tuple #[.agg cR.toArray,.int .i64 10]) w:=by
 have V_ca:=hid h1;have V_cb:=hid h2;have V_cR:=hid hR;have hg0:g≠0:=by rw [hg];intro h;exact h0 (Nat.eq_zero_of_gcd_eq_zero_right h)
 have hga:g∣a:=by rw [hg];exact Nat.gcd_dvd_left a b
 have hgb:g∣b:=by rw [hg];exact Nat.gcd_dvd_right a b
 have hq0:q≠0:=by rw [hq];intro h;have:=Nat.div_mul_cancel hgb;rw [h] at this;omega
 have hgB:g<BB^32:=by rw [hg];exact qkY ha hb
 have hpB:p<BB^32:=by rw [hp];exact Nat.lt_of_le_of_lt (Nat.div_le_self _ _) ha
 have hqB:q<BB^32:=by rw [hq];exact Nat.lt_of_le_of_lt (Nat.div_le_self _ _) hb
 obtain ⟨x1,hx1⟩:=qaJ p;obtain ⟨x2,hx2⟩:=qaJ q;have hf1:=qeK hx1;have hf2:=qeK hx2;obtain ⟨hs1,hs2,hs3,hs4⟩:=qoX na false p q hq0;obtain ⟨sn,hsn⟩:=nqx (cs1 na p);obtain ⟨s,hs⟩:=nqx (sgnI false b)
 have hse:(s==0)=false:=by
  rw [hs];unfold sgnI;rw [if_neg h0];rfl
 obtain ⟨cg,V_cg⟩:=nvx (.bool false::lv 32 g);obtain ⟨cN,V_cN⟩:=nvx (.bool sn::lv 32 p);obtain ⟨cD,V_cD⟩:=nvx (.bool false::lv 32 q);obtain ⟨ce,V_ce⟩:=nvx (.bool false::lv 32 0);obtain ⟨cz,V_cz⟩:=nvx (rat false 0 false 0);have HS:=hid (qcQ V_cb.out hs hb);have HG:=hid (qsS V_ca.out V_cb.out V_cg.out hg ha hb);have HDN:=hid (qhG (s:=sn) V_ca.out V_cg.out V_cN.out V_ce.out (by rw [hsn];cases na<;>rfl) (by rw [hp];exact (qdE na a g hga).1) (qdE na a g hga).2 ha hgB hg0);have HDD:=hid (qhG (s:=false) V_cb.out V_cg.out V_cD.out V_ce.out hs1.symm (by rw [hq];exact (qdE false b g hgb).1) (qdE false b g hgb).2 hb hgB hg0);have HS2:=hid (qcQ (s:=1) V_cD.out hs4.symm hqB);have HB1:=hid (qeF V_cN.out hpB hx1);have HB2:=hid (qeF V_cD.out hqB hx2)
 have hov2:(480:Int)<(x1:Int)∨(¬(480:Int)<(x1:Int)∧(480:Int)<(x2:Int)):=by
  by_cases h:(x1:Int)≤480
  ·refine .inr ⟨by omega,?_⟩;by_cases h':(x2:Int)≤480
   ·exact absurd ⟨hf1.1 h,hf2.1 h'⟩ hov
   ·omega
  ·exact .inl (by omega)
 clear h1 h2 hR hg hp hq ha hb h0 hg0 hga hgb hq0 hgB hx1 hx2 hs1 hs2 hs3 hs4 hsn hs hpB hqB hf1 hf2 hov;obtain ⟨B0,B1,B2,w0,hw0,hB0,hB1,hB2,AB0,AB1,AB2,FR,FR0,HB0,hZB0,l01,hZB1,l12,hZB2⟩:=en3 w 25 25 27 (bxq ca) (bxq cb) (zQR V_cz);go_enter Tryz.func99,Tryz.ntmps99
 go_upto_region 1 with fail
 rw [←hw0,←hB2,←hB1,←hB0];clear hw0 hB0 hB1 hB2;refine wE [(13,aT cb),(14,iT s),(15,bF)] (by simp only [zu];rfl) (by kernel_rfl) ?_ ?_
 ·intro W' hW';refine lhI AB1 hW' V_cb rfl<|fo2 ?_ ?_<|fxn;all_goals (go_big_quiet_step (exact qaA (HS.out _));exact wqn rfl)
 intro β wx1 E;replace FR:=fnf FR E rfl;replace AB0:=fnh AB0 E rfl;replace AB1:=fnh AB1 E rfl;replace AB2:=fnh AB2 E rfl;simp only [nP,zu];replace FR0:=hid FR.out.le;clear hse;go_upto_region 3 with fail
 refine wT [⟨true,3,6,4,0,0,25,19,cg,0,cg,[]⟩] [(17,aT ca),(18,aT cb),(19,aT cg)] (by simp only [zu];rfl) (by kernel_rfl) rfl ?_ ?_ ?_ ?_
 ·intro W' hW';refine lhI AB0 hW' V_ca rfl<|lhI AB1 hW' V_cb rfl<|fxo ?_<|fxs rfl<|fxs rfl<|fxn
  go_big_quiet_step (exact qaA (HG.out _));exact wqn rfl
 ·exact fP1 (Tryz.alI (qI V_cg.out))
 ·exact fP1 (sI V_cg (fun _=>rfl) rfl)
 intro β wx2 E;replace FR:=fnf FR E rfl;obtain ⟨b6,hb6,eb6⟩:=nwb E mms;have lB0_b6:B0<b6:=ltb AB0 eb6.1;have lB1_b6:B1<b6:=ltb AB1 eb6.1;have lB2_b6:B2<b6:=ltb AB2 eb6.1;have hZb6:B0≤b6:=Nat.le_trans FR0.out eb6.1;replace AB0:=fnh AB0 E rfl;replace AB1:=fnh AB1 E rfl;replace AB2:=fnh AB2 E rfl;have Ab6:=hid eb6.2;simp only [nP,zu];rw [←hb6];replace FR0:=hid FR.out.le;clear E eb6 hb6;go_upto_region 4 with fail
 refine wT [⟨true,7,7,9,0,0,25,24,cN,0,cN,[]⟩,⟨true,8,8,10,0,0,25,25,ce,0,ce,[]⟩] [(21,aT ca),(22,aT cg),(23,.tuple #[aT cN,aT ce,iT 0]),(20,.tuple #[aT cN,aT ce,iT 0]),(24,aT cN),(25,aT ce),(26,iT 0),(9,iT 0)] (by simp only [zu];rfl) (by kernel_rfl) rfl ?_ ?_ ?_ ?_
 ·intro W' hW';refine lhI AB0 hW' V_ca rfl<|lhI Ab6 hW' V_cg rfl<|fo4 ?_ ?_ ?_ ?_<|fxo ?_<|fxs rfl<|fxs rfl<|fxs rfl<|fxs rfl<|fxo ?_<|fxn;all_goals (go_big_quiet_step (exact qaA (HDN.out _));exact wqn rfl)
 ·exact oP _ _ (Tryz.alI (qI V_cN.out)) (oP _ _ (Tryz.alI (qI V_ce.out)) (oN))
 ·exact oP _ _ (stw rfl (qI V_cN.out) (qfH V_cN.out) (fun _=>rfl)) (oP _ _ (stw rfl (qI V_ce.out) (qfH V_ce.out) (fun _=>rfl)) (oN))
 intro β wx3 E;replace FR:=fnf FR E rfl;obtain ⟨b7,hb7,eb7⟩:=nwb E mms;have lB0_b7:B0<b7:=ltb AB0 eb7.1;have lB1_b7:B1<b7:=ltb AB1 eb7.1;have lB2_b7:B2<b7:=ltb AB2 eb7.1;have lb6_b7:b6<b7:=ltb Ab6 eb7.1;have hZb7:B0≤b7:=Nat.le_trans FR0.out eb7.1;obtain ⟨b8,hb8,eb8⟩:=nwb E (List.mem_cons_of_mem _ mms);have lB0_b8:B0<b8:=ltb AB0 eb8.1;have lB1_b8:B1<b8:=ltb AB1 eb8.1;have lB2_b8:B2<b8:=ltb AB2 eb8.1;have lb6_b8:b6<b8:=ltb Ab6 eb8.1;have hZb8:B0≤b8:=Nat.le_trans FR0.out eb8.1;have nb7_b8:b7≠b8:=fun e=>absurd (E.apart _ mms _ (List.mem_cons_of_mem _ mms) rfl rfl (by rw [hb7,hb8] at e;exact e)) (show ¬(7:Nat)=8 by decide)
 clear AB0;replace AB1:=fnh AB1 E rfl;replace AB2:=fnh AB2 E rfl;replace Ab6:=fnh Ab6 E rfl;have Ab7:=hid eb7.2;have Ab8:=hid eb8.2;simp only [nP,zu];rw [←hb7];rw [←hb8];replace FR0:=hid FR.out.le;clear E eb7 hb7 eb8 hb8;go_upto_region 5 with fail
 refine wT [⟨true,7,10,9,0,0,25,31,cD,0,cD,[]⟩,⟨true,8,11,10,0,0,25,32,ce,0,ce,[]⟩] [(28,aT cb),(29,aT cg),(30,.tuple #[aT cD,aT ce,iT 0]),(27,.tuple #[aT cD,aT ce,iT 0]),(31,aT cD),(32,aT ce),(33,iT 0),(12,iT 0)] (by simp only [zu];rfl) (by kernel_rfl) rfl ?_ ?_ ?_ ?_
 ·intro W' hW';refine lhI AB1 hW' V_cb rfl<|lhI Ab6 hW' V_cg rfl<|fo4 ?_ ?_ ?_ ?_<|fxo ?_<|fxs rfl<|fxs rfl<|fxs rfl<|fxs rfl<|fxo ?_<|fxn;all_goals (go_big_quiet_step (exact qaA (HDD.out _));exact wqn rfl)
 ·exact oP _ _ (Tryz.alI (qI V_cD.out)) (oP _ _ (Tryz.alI (qI V_ce.out)) (oN))
 ·exact oP _ _ (stw rfl (qI V_cD.out) (qfH V_cD.out) (fun _=>rfl)) (oP _ _ (stw rfl (qI V_ce.out) (qfH V_ce.out) (fun _=>rfl)) (oN))
 intro β wx4 E;replace FR:=fnf FR E rfl;obtain ⟨b10,hb10,eb10⟩:=nwb E mms;have lB1_b10:B1<b10:=ltb AB1 eb10.1;have lB2_b10:B2<b10:=ltb AB2 eb10.1;have lb6_b10:b6<b10:=ltb Ab6 eb10.1;have lb7_b10:b7<b10:=ltb Ab7 eb10.1;have lb8_b10:b8<b10:=ltb Ab8 eb10.1;have hZb10:B0≤b10:=Nat.le_trans FR0.out eb10.1;obtain ⟨b11,hb11,eb11⟩:=nwb E (List.mem_cons_of_mem _ mms);have lB1_b11:B1<b11:=ltb AB1 eb11.1;have lB2_b11:B2<b11:=ltb AB2 eb11.1;have lb6_b11:b6<b11:=ltb Ab6 eb11.1;have lb7_b11:b7<b11:=ltb Ab7 eb11.1;have lb8_b11:b8<b11:=ltb Ab8 eb11.1;have hZb11:B0≤b11:=Nat.le_trans FR0.out eb11.1;have nb10_b11:b10≠b11:=fun e=>absurd (E.apart _ mms _ (List.mem_cons_of_mem _ mms) rfl rfl (by rw [hb10,hb11] at e;exact e)) (show ¬(7:Nat)=8 by decide)
 clear AB1;replace AB2:=fnh AB2 E rfl;clear Ab6;replace Ab7:=fnh Ab7 E rfl;clear Ab8;have Ab10:=hid eb10.2;simp only [nP,zu];rw [←hb10];rw [←hb11];clear E eb10 hb10 eb11 hb11;go_upto_region 6 with fail
 refine wE [(34,aT cD),(35,iT 1),(36,bF)] (by simp only [zu];rfl) (by kernel_rfl) ?_ ?_
 ·intro W' hW';refine lhI Ab10 hW' V_cD rfl<|fo2 ?_ ?_<|fxn;all_goals (go_big_quiet_step (exact qaA (HS2.out _));exact wqn rfl)
 intro β wx5 E;replace FR:=fnf FR E rfl;replace AB2:=fnh AB2 E rfl;replace Ab7:=fnh Ab7 E rfl;replace Ab10:=fnh Ab10 E rfl;simp only [nP,zu];go_upto_region 8 with fail
 rcases hov2 with h1|⟨h1,h2⟩
 ·refine wE [(41,aT cN),(42,iT x1),(43,bT),(44,bT),(45,undef),(46,undef),(47,undef),(48,bT)] (by simp only [zu];rfl) (by kernel_rfl) ?_ ?_
  ·intro W' hW';refine lhI Ab7 hW' V_cN rfl<|fo4 ?_ ?_ ?_ ?_<|fo3 ?_ ?_ ?_<|fxn;all_goals (go_big_quiet_step (exact qaA (HB1.out _));exact wqn rfl)
  intro β wx6 E;replace FR:=fnf FR E rfl;replace AB2:=fnh AB2 E rfl;simp only [nP,zu];go_upto_region 9 with fail
  refine wF [⟨false,0,4,1,B2,0,27,49,cR,0,cR,[]⟩] [(49,aT cR),(5,iT 10)] (by simp only [zu];rfl) (by kernel_rfl) ?_ ?_ (fP1 bnC) ?_ uno ?_ ?_
  ·intro W' hW';refine fxb (qaV V_cR.out) rfl<|fxs rfl<|fxo ?_<|fxn
   go_big_quiet_step (fail);exact wqn rfl
  ·intro W' hK';refine fxb (qaV V_cR.out) rfl<|fxs (by kernel_rfl)<|fxi ?_<|fxn
   first|(refine .inr ?_;go_big_quiet_step (fail);exact wqn rfl)|exact .inl (by kernel_rfl)
  ·exact fP1 (fun _=>rmh AB2 (qR V_cz.out) (qR V_cR.out) rfl)
  ·exact fP1 (sR V_cR (fun _=>rfl) rfl)
  intro β wx7 E;replace FR:=ffh FR E (by omega);replace AB2:=aoh E AB2 mms;simp only [nP,zu];go_wp2_with fail
  have hld:=rdR AB2 V_cR;refine bodyPost_ret (v:=.tuple #[.agg cR.toArray,.int .i64 10]) (by simp [results,Tryz.results99,asAddr,hld]) rfl ?_;exact ⟨rfl,qaY HB0 FR⟩
 ·refine wE [(41,aT cN),(42,iT x1),(43,bF),(44,bF),(45,aT cD),(46,iT x2),(47,bT),(48,bT)] (by simp only [zu];rfl) (by kernel_rfl) ?_ ?_
  ·intro W' hW';refine lhI Ab7 hW' V_cN rfl<|fo3 ?_ ?_ ?_<|lhI Ab10 hW' V_cD rfl<|fxo (by go_big_quiet_step (exact qaA (HB2.out _));exact wqn rfl)<|fo2 ?_ ?_<|fxn;all_goals (go_big_quiet_step (exact qaA (HB1.out _));exact wqn rfl)
  intro β wx6 E;replace FR:=fnf FR E rfl;replace AB2:=fnh AB2 E rfl;simp only [nP,zu];go_upto_region 9 with fail
  refine wF [⟨false,0,4,1,B2,0,27,49,cR,0,cR,[]⟩] [(49,aT cR),(5,iT 10)] (by simp only [zu];rfl) (by kernel_rfl) ?_ ?_ (fP1 bnC) ?_ uno ?_ ?_
  ·intro W' hW';refine fxb (qaV V_cR.out) rfl<|fxs rfl<|fxo ?_<|fxn
   go_big_quiet_step (fail);exact wqn rfl
  ·intro W' hK';refine fxb (qaV V_cR.out) rfl<|fxs (by kernel_rfl)<|fxi ?_<|fxn
   first|(refine .inr ?_;go_big_quiet_step (fail);exact wqn rfl)|exact .inl (by kernel_rfl)
  ·exact fP1 (fun _=>rmh AB2 (qR V_cz.out) (qR V_cR.out) rfl)
  ·exact fP1 (sR V_cR (fun _=>rfl) rfl)
  intro β wx7 E;replace FR:=ffh FR E (by omega);replace AB2:=aoh E AB2 mms;simp only [nP,zu];go_wp2_with fail
  have hld:=rdR AB2 V_cR;refine bodyPost_ret (v:=.tuple #[.agg cR.toArray,.int .i64 10]) (by simp [results,Tryz.results99,asAddr,hld]) rfl ?_;exact ⟨rfl,qaY HB0 FR⟩
theorem qwK {ca cb:List Value} {N:Int} {D:Nat} (h1:ca=iZ N) (h2:cb=iZ (D:Int)) {cR:List Value} {code:Int} (hR:cR=resR (mkQ N D)) (hc:code=resE (mkQ N D)) (ha:N.natAbs<BB^32) (hb:D<BB^32) (h0:D≠0) (w:World) :
  CB 99 #[.agg ca.toArray,.agg cb.toArray] (.tuple #[.agg cR.toArray,.int .i64 code]) w:=by
 have hs:=qgQ N (N.natAbs / Nat.gcd N.natAbs D) (fun h0=>by subst h0;simp);have h2':cb=.bool false::lv 32 D:=by rw [h2,qjV]
 by_cases hbd:N.natAbs / Nat.gcd N.natAbs D<B480∧D / Nat.gcd N.natAbs D<B480
 ·obtain rfl:code=0:=by rw [hc];unfold mkQ;rw [if_pos hbd];rfl
  refine jgC (na:=decide (N<0)) (nb:=false) (n:=cs1 (decide (N<0)) (N.natAbs / Nat.gcd N.natAbs D)) (a:=N.natAbs) (b:=D) (g:=Nat.gcd N.natAbs D) h1 h2' ?_ (by simp) rfl rfl rfl ha hb h0 hbd.1 hbd.2 w;rw [hR];unfold mkQ;rw [if_pos hbd];simp only [resR,ratZ];rw [hs.1,hs.2]
 ·obtain rfl:code=10:=by rw [hc];unfold mkQ;rw [if_neg hbd];rfl
  exact qtY (n:=false) h1 h2' (by rw [hR];unfold mkQ;rw [if_neg hbd];rfl) rfl rfl rfl ha hb h0 hbd w
theorem qjI {ca cb cr:List Value} {a b:Int} (h1:ca=iZ a) (h2:cb=iZ b) (hr:cr=iZ (a*b)) (ha:a.natAbs<BB^32) (hb:b.natAbs<BB^32) (hv:(a*b).natAbs<BB^32) (w:World) :
  CB 100 #[.agg ca.toArray,.agg cb.toArray] (.agg cr.toArray) w:=by
 have V_ca:=hid h1;have V_cb:=hid h2;have V_cr:=hid hr;obtain ⟨cz,V_cz⟩:=nvx (.bool false::lv 32 0);have HM:=hid (rmulZ V_ca.out V_cb.out V_cr.out ha hb hv);clear h1 h2 hr ha hb hv;obtain ⟨B0,B1,B2,w0,hw0,hB0,hB1,hB2,AB0,AB1,AB2,FR,FR0,HB0,hZB0,l01,hZB1,l12,hZB2⟩:=en3 w 25 25 25 (bxq ca) (bxq cb) (zQI V_cz);unfold zero33 at hw0;go_enter Tryz.func100,Tryz.ntmps100
 go_upto_region 1 with fail
 rw [←hw0,←hB2,←hB1,←hB0];clear hw0 hB0 hB1 hB2;refine wT [⟨true,6,5,7,0,0,25,11,cr,0,cr,[]⟩] [(8,aT ca),(9,aT cb),(10,.tuple #[aT cr,iT 0]),(7,.tuple #[aT cr,iT 0]),(11,aT cr),(12,iT 0),(6,iT 0)] (by simp only [zu];rfl) (by kernel_rfl) rfl ?_ ?_ ?_ ?_
 ·intro W' hW';refine lhI AB0 hW' V_ca rfl<|lhI AB1 hW' V_cb rfl<|fo4 ?_ ?_ ?_ ?_<|fxs rfl<|fxs rfl<|fxo ?_<|fxn;all_goals (go_big_quiet_step (exact qaA (HM.out _));exact wqn rfl)
 ·exact fP1 (Tryz.alI (qI V_cr.out))
 ·exact fP1 (sI V_cr (fun _=>rfl) rfl)
 intro β wx1 E;replace FR:=fnf FR E rfl;obtain ⟨b5,hb5,eb5⟩:=nwb E mms;have lB0_b5:B0<b5:=ltb AB0 eb5.1;have lB1_b5:B1<b5:=ltb AB1 eb5.1;have lB2_b5:B2<b5:=ltb AB2 eb5.1;have hZb5:B0≤b5:=Nat.le_trans FR0.out eb5.1;replace AB2:=fnh AB2 E rfl;have Ab5:=hid eb5.2;simp only [nP,zu];rw [←hb5];clear E eb5 hb5;go_upto_region 2 with fail
 refine wF [⟨false,0,4,1,B2,0,25,13,cr,0,cr,[]⟩] [(13,aT cr)] (by simp only [zu];rfl) (by kernel_rfl) ?_ ?_ (fP1 bnC) ?_ uno ?_ ?_
 ·intro W' hW';exact lhI Ab5 hW' V_cr rfl<|fxs rfl<|fxn
 ·intro W' hK';have rd0:=akh Ab5 hK' (by omega);exact ldI rd0 V_cr rfl<|fxs (by kernel_rfl)<|fxn
 ·exact fP1 (fun _=>rmh AB2 (qI V_cz.out) (qI V_cr.out) rfl)
 ·exact fP1 (sI V_cr (fun _=>rfl) rfl)
 intro β wx2 E;replace FR:=ffh FR E (by omega);replace AB2:=aoh E AB2 mms;simp only [nP,zu];go_wp2_with fail
 have hld:=rdI AB2 V_cr;refine bodyPost_ret (v:=.agg cr.toArray) (by simp [results,Tryz.results100,asAddr,hld]) rfl ?_;exact ⟨rfl,qaY HB0 FR⟩
theorem qtX {ca cr:List Value} {z:Int} {q:Nat} (h1:ca=ratZ z q) (hr:cr=ratZ (-z) q) (hz:z.natAbs<BB^32) (w:World) :
  CB 102 #[.agg ca.toArray] (.agg cr.toArray) w:=by
 have V_ca:=hid h1;have V_cr:=hid hr;obtain ⟨cn,V_cn⟩:=nvx (iZ z);obtain ⟨cm,V_cm⟩:=nvx (iZ (-z));obtain ⟨cd,V_cd⟩:=nvx (.bool false::lv 32 q);obtain ⟨cz,V_cz⟩:=nvx (rat false 0 false 0);have HN:=hid (rnegZ V_cn.out V_cm.out hz);clear h1 hr hz;obtain ⟨B0,B1,w0,hw0,hB0,hB1,AB0,AB1,FR,FR0,HB0,hZB0,l01,hZB1⟩:=en2 w 27 27 (bxq ca) (zQR V_cz);go_enter Tryz.func102,Tryz.ntmps102
 go_upto_region 1 with fail
 rw [←hw0,←hB1,←hB0];clear hw0 hB0 hB1;have AB0_n:=hid (AB0.out.num V_ca.out V_cn.out);have AB0_d:=hid (AB0.out.den V_ca.out V_cd.out);refine wF [⟨false,0,2,6,B1,0,27,8,cr,0,cr,[]⟩] [(3,pT B0 0),(4,aT cn),(5,aT cm),(6,pT B0 33),(7,aT cd),(8,aT cr)] (by simp only [zu];rfl) (by kernel_rfl) ?_ ?_ (fP1 bnC) ?_ uno ?_ ?_
 ·intro W' hW';refine fxo ?_<|lhI AB0_n hW' V_cn rfl<|fo2 ?_ ?_<|lhI AB0_d hW' V_cd rfl<|fxb (qdG V_cm.out V_cd.out V_cr.out) rfl<|fxs rfl<|fxn;all_goals (go_big_quiet_step (exact qaA (HN.out _));exact wqn rfl)
 ·intro W' hK';have rd0:=akh AB0_n hK' (by omega);have rd1:=akh AB0_d hK' (by omega);refine fxi ?_<|ldI rd0 V_cn rfl<|fxs (by kernel_rfl)<|fxi ?_<|ldI rd1 V_cd rfl<|fxb (qdG V_cm.out V_cd.out V_cr.out) rfl<|fxs (by kernel_rfl)<|fxn;all_goals (first|(refine .inr ?_;go_big_quiet_step (fail);exact wqn rfl)|exact .inl (by kernel_rfl))
 ·exact fP1 (fun _=>rmh AB1 (qR V_cz.out) (qR V_cr.out) rfl)
 ·exact fP1 (sR V_cr (fun _=>rfl) rfl)
 intro β wx1 E;replace FR:=ffh FR E (by omega);replace AB1:=aoh E AB1 mms;simp only [nP,zu];go_wp2_with fail
 have hld:=rdR AB1 V_cr;refine bodyPost_ret (v:=.agg cr.toArray) (by simp [results,Tryz.results102,asAddr,hld]) rfl ?_;exact ⟨rfl,qaY HB0 FR⟩
theorem jhL {ca cb cR:List Value} {a b:Qn} {code:Int} (h1:ca=ratZ a.1 a.2) (h2:cb=ratZ b.1 b.2) (ha:VQ a) (hb:VQ b) (hR:cR=resR (addQ a b)) (hc:code=resE (addQ a b)) (w:World) :
  CB 71 #[.agg ca.toArray,.agg cb.toArray] (.tuple #[.agg cR.toArray,.int .i64 code]) w:=by
 have V_ca:=hid h1;have V_cb:=hid h2;have hbd:=N_bd ha hb;have hx:(a.1*(b.2:Int)).natAbs<BB^30:=by rw [Int.natAbs_mul];exact qhQ ha.num (by simpa using hb.den)
 have hy:(b.1*(a.2:Int)).natAbs<BB^30:=by rw [Int.natAbs_mul];exact qhQ hb.num (by simpa using ha.den)
 have hd:((a.2:Int)*(b.2:Int)).natAbs<BB^30:=by rw [Int.natAbs_mul];exact qhQ (by simpa using ha.den) (by simpa using hb.den)
 obtain ⟨rn,rp,rm,rq,hcR⟩:∃ rn rp rm rq,cR=rat rn rp rm rq:=by
  rw [hR]
  cases addQ a b with
  | none=>exact ⟨_,_,_,_,rfl⟩
  | some r=>exact ⟨_,_,_,_,rfl⟩
 have V_cR:=hid hcR;obtain ⟨cz,V_cz⟩:=nvx (rat false 0 false 0);obtain ⟨cna,V_cna⟩:=nvx (iZ a.1);obtain ⟨cnb,V_cnb⟩:=nvx (iZ b.1);obtain ⟨cx,V_cx⟩:=nvx (iZ (a.1*(b.2:Int)));obtain ⟨cy,V_cy⟩:=nvx (iZ (b.1*(a.2:Int)));obtain ⟨cs,V_cs⟩:=nvx (iZ (jaF a b));obtain ⟨ce,V_ce⟩:=nvx (iZ ((a.2:Int)*(b.2:Int)));obtain ⟨cda,V_cda⟩:=nvx (.bool false::lv 32 a.2);obtain ⟨cdb,V_cdb⟩:=nvx (.bool false::lv 32 b.2);have hda:cda=iZ (a.2:Int):=by rw [V_cda.out,qjV]
 have hdb:cdb=iZ (b.2:Int):=by rw [V_cdb.out,qjV]
 have HVA:=hid (qeD V_ca.out ha);have HVB:=hid (qeD V_cb.out hb);have HX:=hid (qjI V_cna.out hdb V_cx.out (qaG ha.num) (qaG (by simpa using hb.den)) (b30 hx));have HY:=hid (qjI V_cnb.out hda V_cy.out (qaG hb.num) (qaG (by simpa using ha.den)) (b30 hy));have HD:=hid (qjI hda hdb V_ce.out (qaG (by simpa using ha.den)) (qaG (by simpa using hb.den)) (b30 hd));have HS:=hid (raddZ V_cx.out V_cy.out V_cs.out (b30 hx) (b30 hy) hbd.1);have HM:=hid (qwK V_cs.out (show ce=iZ ((a.2*b.2:Nat):Int) by rw [V_ce.out,Int.natCast_mul]) hR hc hbd.1 hbd.2.2.1 hbd.2.2.2);clear h1 h2 ha hb hR hc hbd hx hy hd hcR hda hdb;obtain ⟨B0,B1,B2,w0,hw0,hB0,hB1,hB2,AB0,AB1,AB2,FR,FR0,HB0,hZB0,l01,hZB1,l12,hZB2⟩:=en3 w 27 27 27 (bxq ca) (bxq cb) (zQR V_cz);go_enter Tryz.func71,Tryz.ntmps71
 go_upto_region 1 with fail
 rw [←hw0,←hB2,←hB1,←hB0];clear hw0 hB0 hB1 hB2;refine wE [(8,aT ca),(9,bT),(10,bF),(11,bF),(12,aT cb),(13,bT),(14,bF),(15,bF)] (by simp only [zu];rfl) (by kernel_rfl) ?_ ?_
 ·intro W' hW';refine lhR AB0 hW' V_ca rfl<|fo3 ?_ ?_ ?_<|lhR AB1 hW' V_cb rfl<|fxo (by go_big_quiet_step (exact qaA (HVB.out _));exact wqn rfl)<|fo2 ?_ ?_<|fxn;all_goals (go_big_quiet_step (exact qaA (HVA.out _));exact wqn rfl)
 intro β wx1 E;replace FR:=fnf FR E rfl;replace AB0:=fnh AB0 E rfl;replace AB1:=fnh AB1 E rfl;replace AB2:=fnh AB2 E rfl;simp only [nP,zu];replace FR0:=hid FR.out.le;go_upto_region 3 with fail
 have AB0_n:=hid (AB0.out.num V_ca.out V_cna.out);have AB0_d:=hid (AB0.out.den V_ca.out V_cda.out);have AB1_n:=hid (AB1.out.num V_cb.out V_cnb.out);have AB1_d:=hid (AB1.out.den V_cb.out V_cdb.out);refine wT [⟨true,14,6,15,0,0,25,29,cs,0,cs,[]⟩] [(18,pT B0 0),(19,aT cna),(20,pT B1 33),(21,aT cdb),(22,aT cx),(23,pT B1 0),(24,aT cnb),(25,pT B0 33),(26,aT cda),(27,aT cy),(28,.tuple #[aT cs,iT 0]),(17,.tuple #[aT cs,iT 0]),(29,aT cs),(30,iT 0),(7,iT 0)] (by simp only [zu];rfl) (by kernel_rfl) rfl ?_ ?_ ?_ ?_
 ·intro W' hW';refine fxo ?_<|lhI AB0_n hW' V_cna rfl<|fxo ?_<|lhI AB1_d hW' V_cdb rfl<|fo2 ?_ ?_<|lhI AB1_n hW' V_cnb rfl<|fxo ?_<|lhI AB0_d hW' V_cda rfl<|fxo (by go_big_quiet_step (exact qaA (HY.out _));exact wqn rfl)<|fxo (by go_big_quiet_step (exact qaA (HS.out _));exact wqn rfl)<|fo3 ?_ ?_ ?_<|fxs rfl<|fxs rfl<|fxo ?_<|fxn;all_goals (go_big_quiet_step (exact qaA (HX.out _));exact wqn rfl)
 ·exact fP1 (Tryz.alI (qI V_cs.out))
 ·exact fP1 (sI V_cs (fun _=>rfl) rfl)
 intro β wx2 E;replace FR:=fnf FR E rfl;obtain ⟨b6,hb6,eb6⟩:=nwb E mms;have lB0_b6:B0<b6:=ltb AB0 eb6.1;have lB1_b6:B1<b6:=ltb AB1 eb6.1;have lB2_b6:B2<b6:=ltb AB2 eb6.1;have hZb6:B0≤b6:=Nat.le_trans FR0.out eb6.1;replace AB2:=fnh AB2 E rfl;replace AB0_d:=fnh AB0_d E rfl;replace AB1_d:=fnh AB1_d E rfl;have Ab6:=hid eb6.2;simp only [nP,zu];rw [←hb6];clear E eb6 hb6;go_upto_region 4 with fail
 refine wF [⟨false,0,4,9,B2,0,27,38,cR,0,cR,[]⟩] [(31,aT cs),(32,pT B0 33),(33,aT cda),(34,pT B1 33),(35,aT cdb),(36,aT ce),(37,.tuple #[aT cR,iT code]),(38,aT cR),(39,iT code),(5,iT code)] (by simp only [zu];rfl) (by kernel_rfl) ?_ ?_ (fP1 bnC) ?_ uno ?_ ?_
 ·intro W' hW';refine lhI Ab6 hW' V_cs rfl<|fxo ?_<|lhI AB0_d hW' V_cda rfl<|fxo ?_<|lhI AB1_d hW' V_cdb rfl<|fxo ?_<|fxo (by go_big_quiet_step (exact qaA (HM.out _));exact wqn rfl)<|fo2 ?_ ?_<|fxs rfl<|fxo ?_<|fxn;all_goals (go_big_quiet_step (exact qaA (HD.out _));exact wqn rfl)
 ·intro W' hK';have rd0:=akh Ab6 hK' (by omega);have rd1:=akh AB0_d hK' (by omega);have rd2:=akh AB1_d hK' (by omega);refine ldI rd0 V_cs rfl<|fxi ?_<|ldI rd1 V_cda rfl<|fxi ?_<|ldI rd2 V_cdb rfl<|fxs (by kernel_rfl)<|fxs (by kernel_rfl)<|fxi ?_<|fxi ?_<|fxs (by kernel_rfl)<|fxi ?_<|fxn;all_goals (first|(refine .inr ?_;go_big_quiet_step (fail);exact wqn rfl)|exact .inl (by kernel_rfl))
 ·exact fP1 (fun _=>rmh AB2 (qR V_cz.out) (qR V_cR.out) rfl)
 ·exact fP1 (sR V_cR (fun _=>rfl) rfl)
 intro β wx3 E;replace FR:=ffh FR E (by omega);replace AB2:=aoh E AB2 mms;simp only [nP,zu];go_wp2_with fail
 have hld:=rdR AB2 V_cR;refine bodyPost_ret (v:=.tuple #[.agg cR.toArray,.int .i64 code]) (by simp [results,Tryz.results71,asAddr,hld]) rfl ?_;exact ⟨rfl,qaY HB0 FR⟩
theorem jhC {b:Qn} (h:VQ b):VQ (-b.1,b.2):=⟨by simpa using h.num,h.den,h.pos,by simpa using h.low⟩
theorem qrS (a b:Qn):subQ a b=addQ a (-b.1,b.2):=by unfold subQ addQ subN jaF;rw [Int.neg_mul,Int.sub_eq_add_neg]
theorem rsubQ {ca cb cR:List Value} {a b:Qn} {code:Int} (h1:ca=ratZ a.1 a.2) (h2:cb=ratZ b.1 b.2) (ha:VQ a) (hb:VQ b) (hR:cR=resR (subQ a b)) (hc:code=resE (subQ a b)) (w:World) :
  CB 68 #[.agg ca.toArray,.agg cb.toArray] (.tuple #[.agg cR.toArray,.int .i64 code]) w:=by
 have V_ca:=hid h1;have V_cb:=hid h2
 obtain ⟨rn,rp,rm,rq,hcR⟩:∃ rn rp rm rq,cR=rat rn rp rm rq:=by
  rw [hR]
  cases subQ a b with
  | none=>exact ⟨_,_,_,_,rfl⟩
  | some r=>exact ⟨_,_,_,_,rfl⟩
 have V_cR:=hid hcR;obtain ⟨cz,V_cz⟩:=nvx (rat false 0 false 0);obtain ⟨cm,V_cm⟩:=nvx (ratZ (-b.1) b.2);have HVA:=hid (qeD V_ca.out ha);have HVB:=hid (qeD V_cb.out hb);have HN:=hid (qtX V_cb.out V_cm.out (qaG hb.num));have HS:=hid (jhL (cR:=cR) (code:=code) (b:=(-b.1,b.2)) V_ca.out V_cm.out ha (jhC hb) (by rw [hR,qrS]) (by rw [hc,qrS]));clear h1 h2 ha hb hR hc hcR;obtain ⟨B0,B1,B2,w0,hw0,hB0,hB1,hB2,AB0,AB1,AB2,FR,FR0,HB0,hZB0,l01,hZB1,l12,hZB2⟩:=en3 w 27 27 27 (bxq ca) (bxq cb) (zQR V_cz);go_enter Tryz.func68,Tryz.ntmps68
 go_upto_region 1 with fail
 rw [←hw0,←hB2,←hB1,←hB0];clear hw0 hB0 hB1 hB2;refine wE [(6,aT ca),(7,bT),(8,bF),(9,bF),(10,aT cb),(11,bT),(12,bF),(13,bF)] (by simp only [zu];rfl) (by kernel_rfl) ?_ ?_
 ·intro W' hW';refine lhR AB0 hW' V_ca rfl<|fo3 ?_ ?_ ?_<|lhR AB1 hW' V_cb rfl<|fxo (by go_big_quiet_step (exact qaA (HVB.out _));exact wqn rfl)<|fo2 ?_ ?_<|fxn;all_goals (go_big_quiet_step (exact qaA (HVA.out _));exact wqn rfl)
 intro β wx1 E;replace FR:=fnf FR E rfl;replace AB0:=fnh AB0 E rfl;replace AB1:=fnh AB1 E rfl;replace AB2:=fnh AB2 E rfl;simp only [nP,zu];go_upto_region 3 with fail
 refine wF [⟨false,0,4,6,B2,0,27,19,cR,0,cR,[]⟩] [(15,aT ca),(16,aT cb),(17,aT cm),(18,.tuple #[aT cR,iT code]),(19,aT cR),(20,iT code),(5,iT code)] (by simp only [zu];rfl) (by kernel_rfl) ?_ ?_ (fP1 bnC) ?_ uno ?_ ?_
 ·intro W' hW';refine lhR AB0 hW' V_ca rfl<|lhR AB1 hW' V_cb rfl<|fxo ?_<|fxo (by go_big_quiet_step (exact qaA (HS.out _));exact wqn rfl)<|fo2 ?_ ?_<|fxs rfl<|fxo ?_<|fxn;all_goals (go_big_quiet_step (exact qaA (HN.out _));exact wqn rfl)
 ·intro W' hK';have rd0:=akh AB0 hK' (by omega);have rd1:=akh AB1 hK' (by omega);refine ldR rd0 V_ca rfl<|ldR rd1 V_cb rfl<|fxs (by kernel_rfl)<|fxs (by kernel_rfl)<|fxi ?_<|fxi ?_<|fxs (by kernel_rfl)<|fxi ?_<|fxn;all_goals (first|(refine .inr ?_;go_big_quiet_step (fail);exact wqn rfl)|exact .inl (by kernel_rfl))
 ·exact fP1 (fun _=>rmh AB2 (qR V_cz.out) (qR V_cR.out) rfl)
 ·exact fP1 (sR V_cR (fun _=>rfl) rfl)
 intro β wx2 E;replace FR:=ffh FR E (by omega);replace AB2:=aoh E AB2 mms;simp only [nP,zu];go_wp2_with fail
 have hld:=rdR AB2 V_cR;refine bodyPost_ret (v:=.tuple #[.agg cR.toArray,.int .i64 code]) (by simp [results,Tryz.results68,asAddr,hld]) rfl ?_;exact ⟨rfl,qaY HB0 FR⟩
theorem rofQ {cR:List Value} {x y:Int} {d:Nat} {code:Int} (hy:y=(d:Int)) (hd:d≠0) (hR:cR=resR (mkQ x d)) (hc:code=resE (mkQ x d)) (h1:-9223372036854775808≤x) (h2:x≤9223372036854775807) (h3:y≤9223372036854775807) (w:World) :
  CB 73 #[.int .i64 x,.int .i64 y] (.tuple #[.agg cR.toArray,.int .i64 code]) w:=by
 obtain ⟨rn,rp,rm,rq,hcR⟩:∃ rn rp rm rq,cR=rat rn rp rm rq:=by
  rw [hR]
  cases mkQ x d with
  | none=>exact ⟨_,_,_,_,rfl⟩
  | some r=>exact ⟨_,_,_,_,rfl⟩
 have V_cR:=hid hcR;obtain ⟨cz,V_cz⟩:=nvx (rat false 0 false 0);obtain ⟨cx,V_cx⟩:=nvx (iZ x);obtain ⟨cy,V_cy⟩:=nvx (iZ y);have e1:(9223372036854775809:Nat)≤BB^2:=by unfold BB;decide
 have e2:BB^2≤BB^32:=Nat.pow_le_pow_right qbK (by omega);have HX:=hid (jeC V_cx.out h1 h2);have HY:=hid (jeC V_cy.out (by omega) h3);have HM:=hid (qwK (D:=d) (cb:=cy) V_cx.out (by rw [V_cy.out,hy]) hR hc (by omega) (by omega) hd);clear hy hd hR hc h1 h2 h3 hcR e1 e2;obtain ⟨B0,w0,hw0,hB0,AB0,FR,FR0,HB0,hZB0⟩:=en1 w 27 (zQR V_cz);go_enter Tryz.func73,Tryz.ntmps73
 go_upto_region 1 with fail
 rw [←hw0,←hB0];clear hw0 hB0;refine wF [⟨false,0,4,7,B0,0,27,11,cR,0,cR,[]⟩] [(6,iT x),(7,aT cx),(8,iT y),(9,aT cy),(10,.tuple #[aT cR,iT code]),(11,aT cR),(12,iT code),(5,iT code)] (by simp only [zu];rfl) (by kernel_rfl) ?_ ?_ (fP1 bnC) ?_ uno ?_ ?_
 ·intro W' hW';refine fo3 ?_ ?_ ?_<|fxo (by go_big_quiet_step (exact qaA (HY.out _));exact wqn rfl)<|fxo (by go_big_quiet_step (exact qaA (HM.out _));exact wqn rfl)<|fo2 ?_ ?_<|fxs rfl<|fxo ?_<|fxn;all_goals (go_big_quiet_step (exact qaA (HX.out _));exact wqn rfl)
 ·intro W' hK';refine fxi ?_<|fxs (by kernel_rfl)<|fxi ?_<|fxs (by kernel_rfl)<|fxs (by kernel_rfl)<|fxi ?_<|fxi ?_<|fxs (by kernel_rfl)<|fxi ?_<|fxn;all_goals (first|(refine .inr ?_;go_big_quiet_step (fail);exact wqn rfl)|exact .inl (by kernel_rfl))
 ·exact fP1 (fun _=>rmh AB0 (qR V_cz.out) (qR V_cR.out) rfl)
 ·exact fP1 (sR V_cR (fun _=>rfl) rfl)
 intro β wx1 E;replace FR:=ffh FR E (by omega);replace AB0:=aoh E AB0 mms;simp only [nP,zu];go_wp2_with fail
 have hld:=rdR AB0 V_cR;refine bodyPost_ret (v:=.tuple #[.agg cR.toArray,.int .i64 code]) (by simp [results,Tryz.results73,asAddr,hld]) rfl ?_;exact ⟨rfl,qaY HB0 FR⟩
set_option maxHeartbeats 8000000
theorem rcmpZ {ca cb:List Value} {a b z:Int} (h1:ca=iZ a) (h2:cb=iZ b) (hz:z=cmpZ a b) (ha:a.natAbs<BB^32) (hb:b.natAbs<BB^32) (w:World) :
  CB 138 #[.agg ca.toArray,.agg cb.toArray] (.int .i64 z) w:=by
 subst h1 h2;exact jiI (decide (a<0)) (decide (b<0)) a.natAbs b.natAbs z w ha hb (by rw [qhJ,qhJ];exact hz)
theorem qwS {ca cb:List Value} {a b:Qn} {z:Int} (h1:ca=ratZ a.1 a.2) (h2:cb=ratZ b.1 b.2) (ha:VQ a) (hb:VQ b) (hz:z=cmpZ (a.1*(b.2:Int)) (b.1*(a.2:Int))) (w:World) :
  CB 104 #[.agg ca.toArray,.agg cb.toArray] (.int .i64 z) w:=by
 have V_ca:=hid h1;have V_cb:=hid h2;have hx:(a.1*(b.2:Int)).natAbs<BB^30:=by rw [Int.natAbs_mul];exact qhQ ha.num (by simpa using hb.den)
 have hy:(b.1*(a.2:Int)).natAbs<BB^30:=by rw [Int.natAbs_mul];exact qhQ hb.num (by simpa using ha.den)
 obtain ⟨cna,V_cna⟩:=nvx (iZ a.1);obtain ⟨cnb,V_cnb⟩:=nvx (iZ b.1);obtain ⟨cx,V_cx⟩:=nvx (iZ (a.1*(b.2:Int)));obtain ⟨cy,V_cy⟩:=nvx (iZ (b.1*(a.2:Int)));obtain ⟨cda,V_cda⟩:=nvx (.bool false::lv 32 a.2);obtain ⟨cdb,V_cdb⟩:=nvx (.bool false::lv 32 b.2);have hda:cda=iZ (a.2:Int):=by rw [V_cda.out,qjV]
 have hdb:cdb=iZ (b.2:Int):=by rw [V_cdb.out,qjV]
 have HX:=hid (qjI V_cna.out hdb V_cx.out (qaG ha.num) (qaG (by simpa using hb.den)) (b30 hx));have HY:=hid (qjI V_cnb.out hda V_cy.out (qaG hb.num) (qaG (by simpa using ha.den)) (b30 hy));have HC:=hid (rcmpZ V_cx.out V_cy.out hz (b30 hx) (b30 hy));clear h1 h2 ha hb hz hx hy hda hdb;obtain ⟨B0,B1,w0,hw0,hB0,hB1,AB0,AB1,FR,FR0,HB0,hZB0,l01,hZB1⟩:=en2 w 27 27 (bxq ca) (bxq cb);go_enter Tryz.func104,Tryz.ntmps104
 go_upto_region 1 with fail
 rw [←hw0,←hB1,←hB0];clear hw0 hB0 hB1;have AB0_n:=hid (AB0.out.num V_ca.out V_cna.out);have AB0_d:=hid (AB0.out.den V_ca.out V_cda.out);have AB1_n:=hid (AB1.out.num V_cb.out V_cnb.out);have AB1_d:=hid (AB1.out.den V_cb.out V_cdb.out);refine wE [(5,pT B0 0),(6,aT cna),(7,pT B1 33),(8,aT cdb),(9,aT cx),(10,pT B1 0),(11,aT cnb),(12,pT B0 33),(13,aT cda),(14,aT cy),(15,iT z),(4,iT z)] (by simp only [zu];rfl) (by kernel_rfl) ?_ ?_
 ·intro W' hW';refine fxo ?_<|lhI AB0_n hW' V_cna rfl<|fxo ?_<|lhI AB1_d hW' V_cdb rfl<|fo2 ?_ ?_<|lhI AB1_n hW' V_cnb rfl<|fxo ?_<|lhI AB0_d hW' V_cda rfl<|fxo (by go_big_quiet_step (exact qaA (HY.out _));exact wqn rfl)<|fxo (by go_big_quiet_step (exact qaA (HC.out _));exact wqn rfl)<|fxo ?_<|fxn;all_goals (go_big_quiet_step (exact qaA (HX.out _));exact wqn rfl)
 intro β wx1 E;replace FR:=fnf FR E rfl;simp only [nP,zu];go_wp2
 go_ret
 exact ⟨rfl,qaY HB0 FR⟩
set_option maxHeartbeats 8000000
theorem jbB {q:Nat} (h:q≠0):1=sgnI false q:=by unfold sgnI;rw [if_neg h];rfl
theorem jeW {m:Bool} {q:Nat} (h:m=true∨q=0):sgnI m q≤0:=by
 unfold sgnI;rcases h with rfl|rfl
 ·split<;>simp
 ·simp
theorem qrV {p:Nat} (h:p≠0):-1=sgnI true p:=by unfold sgnI;rw [if_neg h];rfl
theorem qwI {cr:List Value} {n m:Bool} {p q:Nat} (hr:cr=rat n p m q) (hp:p<BB^32) (hq:q<BB^32) (hbad:¬(p<B480∧q<B480∧n=cs1 n p∧m=false∧q≠0∧Nat.gcd p q=1)) (w:World) :
  CB 98 #[.agg cr.toArray] (.bool false) w:=by
 have V_cr:=hid hr;have HBAD:=hid hbad;have HPQ:=hid (And.intro hp hq);obtain ⟨bd,hbd⟩:=nqx (decide ((n=true∧p=0)∨m=true∨q=0):Bool);have HBD:=hid hbd;obtain ⟨cn,V_cn⟩:=nvx (.bool n::lv 32 p);obtain ⟨cd,V_cd⟩:=nvx (.bool m::lv 32 q);clear hr hbad hp hq hbd;obtain ⟨B0,w0,hw0,hB0,AB0,FR,FR0,HB0,hZB0⟩:=en1 w 27 (bxq cr);go_enter Tryz.func98,Tryz.ntmps98
 go_upto_region 1 with fail
 rw [←hw0,←hB0];clear hw0 hB0;have AB0_n:=hid (AB0.out.num V_cr.out V_cn.out);have AB0_d:=hid (AB0.out.den V_cr.out V_cd.out)
 go_cut [17] from 3 to 17 (fun t wx=>t=.bool bd∧At wx B0 0 cr∧Fr B0 w wx)
 case first =>
  by_cases hA:n=true∧p=0
  ·obtain ⟨rfl,rfl⟩:=hA;have HE:=hid (show bd=true by rw [HBD.out];simp);have HSN:=hid (qcQ (s:=0) V_cn.out (by unfold sgnI;simp) HPQ.out.1);refine wE [(3,pT B0 0),(4,pT B0 0),(5,bT),(6,bT),(7,pT B0 0),(8,aT cn),(9,iT 0),(10,bT),(11,bT),(12,bT),(13,undef),(14,undef),(15,undef),(16,undef),(17,bT)] (by simp only [zu];rfl) (by kernel_rfl) ?_ ?_
   ·intro W' hW';have cl0:=fun p os=>qaB ((AB0_n.out.below hW').neg V_cn.out) p os
    refine fo4 ?_ ?_ ?_ ?_<|fxo ?_<|lhI AB0_n hW' V_cn rfl<|fo4 ?_ ?_ ?_ ?_<|fo4 ?_ ?_ ?_ ?_<|fxo ?_<|fxn;all_goals (go_big_quiet_step (exact qaA (HSN.out _));exact wqn rfl)
   intro β wx1 E;replace FR:=fnf FR E rfl;replace AB0:=fnh AB0 E rfl;simp only [nP,zu];go_wp2_with fail
   go_meet
   exact ⟨by rw [HE.out],AB0.out,FR.out⟩
  ·by_cases hB:m=true∨q=0
   ·have HE:=hid (show bd=true by rw [HBD.out];exact decide_eq_true (.inr hB));obtain ⟨s,hs⟩:=nqx (sgnI m q);have HSD:=hid (qcQ V_cd.out hs HPQ.out.2);have hsl:s≤0:=by rw [hs];exact jeW hB
    clear hs hB
    cases n with
    | true =>
     have HSN:=hid (qcQ (s:=-1) V_cn.out (qrV (fun h=>hA ⟨rfl,h⟩)) HPQ.out.1);clear hA;refine wE [(3,pT B0 0),(4,pT B0 0),(5,bT),(6,bT),(7,pT B0 0),(8,aT cn),(9,iT (-1)),(10,bF),(11,bF),(12,bF),(13,pT B0 33),(14,aT cd),(15,iT s),(16,bT),(17,bT)] (by simp only [zu];rfl) (by kernel_rfl) ?_ ?_
     ·intro W' hW';have cl0:=fun p os=>qaB ((AB0_n.out.below hW').neg V_cn.out) p os
      refine fo4 ?_ ?_ ?_ ?_<|fxo ?_<|lhI AB0_n hW' V_cn rfl<|fo4 ?_ ?_ ?_ ?_<|fxo ?_<|lhI AB0_d hW' V_cd rfl<|fxo (by go_big_quiet_step (exact qaA (HSD.out _));exact wqn rfl)<|fo2 ?_ ?_<|fxn;all_goals (go_big_quiet_step (exact qaA (HSN.out _));exact wqn rfl)
     intro β wx1 E;replace FR:=fnf FR E rfl;replace AB0:=fnh AB0 E rfl;simp only [nP,zu];go_wp2_with fail
     go_meet
     exact ⟨by rw [HE.out],AB0.out,FR.out⟩
    | false =>
     clear hA;refine wE [(3,pT B0 0),(4,pT B0 0),(5,bF),(6,bF),(7,undef),(8,undef),(9,undef),(10,undef),(11,bF),(12,bF),(13,pT B0 33),(14,aT cd),(15,iT s),(16,bT),(17,bT)] (by simp only [zu];rfl) (by kernel_rfl) ?_ ?_
     ·intro W' hW';have cl0:=fun p os=>qaB ((AB0_n.out.below hW').neg V_cn.out) p os
      refine fo4 ?_ ?_ ?_ ?_<|fo4 ?_ ?_ ?_ ?_<|fo3 ?_ ?_ ?_<|lhI AB0_d hW' V_cd rfl<|fo3 ?_ ?_ ?_<|fxn;all_goals (go_big_quiet_step (exact qaA (HSD.out _));exact wqn rfl)
     intro β wx1 E;replace FR:=fnf FR E rfl;replace AB0:=fnh AB0 E rfl;simp only [nP,zu];go_wp2_with fail
     go_meet
     exact ⟨by rw [HE.out],AB0.out,FR.out⟩
   ·have HE:=hid (show bd=false by rw [HBD.out];exact decide_eq_false (fun h=>h.elim hA hB))
    have hm:m=false:=by cases m with
     | true=>exact absurd (.inl rfl) hB
     | false=>rfl
    subst hm;have HSD:=hid (qcQ (s:=1) V_cd.out (jbB (fun h=>hB (.inr h))) HPQ.out.2);clear hB
    cases n with
    | true =>
     have HSN:=hid (qcQ (s:=-1) V_cn.out (qrV (fun h=>hA ⟨rfl,h⟩)) HPQ.out.1);clear hA;refine wE [(3,pT B0 0),(4,pT B0 0),(5,bT),(6,bT),(7,pT B0 0),(8,aT cn),(9,iT (-1)),(10,bF),(11,bF),(12,bF),(13,pT B0 33),(14,aT cd),(15,iT 1),(16,bF),(17,bF)] (by simp only [zu];rfl) (by kernel_rfl) ?_ ?_
     ·intro W' hW';have cl0:=fun p os=>qaB ((AB0_n.out.below hW').neg V_cn.out) p os
      refine fo4 ?_ ?_ ?_ ?_<|fxo ?_<|lhI AB0_n hW' V_cn rfl<|fo4 ?_ ?_ ?_ ?_<|fxo ?_<|lhI AB0_d hW' V_cd rfl<|fxo (by go_big_quiet_step (exact qaA (HSD.out _));exact wqn rfl)<|fo2 ?_ ?_<|fxn;all_goals (go_big_quiet_step (exact qaA (HSN.out _));exact wqn rfl)
     intro β wx1 E;replace FR:=fnf FR E rfl;replace AB0:=fnh AB0 E rfl;simp only [nP,zu];go_wp2_with fail
     go_meet
     exact ⟨by rw [HE.out],AB0.out,FR.out⟩
    | false =>
     clear hA;refine wE [(3,pT B0 0),(4,pT B0 0),(5,bF),(6,bF),(7,undef),(8,undef),(9,undef),(10,undef),(11,bF),(12,bF),(13,pT B0 33),(14,aT cd),(15,iT 1),(16,bF),(17,bF)] (by simp only [zu];rfl) (by kernel_rfl) ?_ ?_
     ·intro W' hW';have cl0:=fun p os=>qaB ((AB0_n.out.below hW').neg V_cn.out) p os
      refine fo4 ?_ ?_ ?_ ?_<|fo4 ?_ ?_ ?_ ?_<|fo3 ?_ ?_ ?_<|lhI AB0_d hW' V_cd rfl<|fo3 ?_ ?_ ?_<|fxn;all_goals (go_big_quiet_step (exact qaA (HSD.out _));exact wqn rfl)
     intro β wx1 E;replace FR:=fnf FR E rfl;replace AB0:=fnh AB0 E rfl;simp only [nP,zu];go_wp2_with fail
     go_meet
     exact ⟨by rw [HE.out],AB0.out,FR.out⟩
 case rest =>
  clear AB0_n AB0_d AB0 FR FR0;obtain ⟨rfl,h0,hF⟩:=hcut;have FR:=hid hF;have AB0:=hid h0;have AB0_n:=hid (AB0.out.num V_cr.out V_cn.out);have AB0_d:=hid (AB0.out.den V_cr.out V_cd.out);clear h0 hF
  cases bd with
  | true =>
   go_wp2_with fail
   go_ret
   exact ⟨rfl,qaY HB0 FR⟩
  | false =>
   have hno:=HBD.out;have hno2:=of_decide_eq_false hno.symm;have hA:¬(n=true∧p=0):=fun h=>hno2 (.inl h)
   have hm:m=false:=by cases m with
    | true=>exact absurd (.inr (.inl rfl)) hno2
    | false=>rfl
   have hq0:q≠0:=fun h=>hno2 (.inr (.inr h))
   have hn:n=cs1 n p:=by
    unfold cs1
    cases n with
    | false=>rfl
    | true=>simp;exact fun h=>hA ⟨rfl,h⟩
   have HCS:=hid (show ¬(p<B480∧q<B480∧Nat.gcd p q=1) from fun h=>HBAD.out ⟨h.1,h.2.1,hn,hm,hq0,h.2.2⟩);obtain ⟨x1,hx1⟩:=qaJ p;obtain ⟨x2,hx2⟩:=qaJ q;have hf1:=qeK hx1;have hf2:=qeK hx2;have HB1:=hid (qeF V_cn.out HPQ.out.1 hx1);have HB2:=hid (qeF V_cd.out HPQ.out.2 hx2);clear hno hno2 hA hm hn hx1 hx2;go_upto_region 3 with fail
   by_cases h1:(x1:Int)≤480
   ·by_cases h2:(x2:Int)≤480
    ·obtain ⟨gg,hgg⟩:=nqx (Nat.gcd p q);have hg1:gg≠1:=fun h=>HCS.out ⟨hf1.1 h1,hf2.1 h2,by rw [←hgg,h]⟩
     obtain ⟨cg,V_cg⟩:=nvx (.bool false::lv 32 gg);obtain ⟨co,V_co⟩:=nvx (.bool false::lv 32 1);have HG:=hid (qsS V_cn.out V_cd.out V_cg.out hgg HPQ.out.1 HPQ.out.2);have HO:=hid (qjW (z:=1) V_co.out rfl rfl (by decide) (by decide));have H1:=hid (show 1<BB^32 from Nat.one_lt_pow (by omega) (by unfold BB;omega));have HGL:=hid (show gg<BB^32 by rw [hgg];exact Nat.lt_of_le_of_lt (Nat.le_of_dvd (by omega) (Nat.gcd_dvd_right p q)) HPQ.out.2);clear hgg hf1 hf2 hq0;refine wE [(18,pT B0 0),(19,aT cn),(20,iT x1),(21,bT),(22,bT),(23,pT B0 33),(24,aT cd),(25,iT x2),(26,bT),(27,bT),(28,bT),(29,pT B0 0),(30,aT cn),(31,pT B0 33),(32,aT cd),(33,aT cg),(34,aT co),(35,bF),(36,bF),(2,bF)] (by simp only [zu];rfl) (by kernel_rfl) ?_ ?_
     ·intro W' hW';have rd0:=AB0_n.out.below hW';have rd1:=AB0_d.out.below hW';refine fxo ?_<|ldI rd0 V_cn rfl<|fo4 ?_ ?_ ?_ ?_<|ldI rd1 V_cd rfl<|fxo (by go_big_quiet_step (exact qaA (HB2.out _));exact wqn rfl)<|fo4 ?_ ?_ ?_ ?_<|ldI rd0 V_cn rfl<|fxo ?_<|ldI rd1 V_cd rfl<|fxo (by go_big_quiet_step (exact qaA (HG.out _));exact wqn rfl)<|fxo (by go_big_quiet_step (exact qaA (HO.out _));exact wqn rfl)<|fxo (qeM (r:=false) (by rfl) rfl rfl rfl V_cg.out V_co.out HGL.out H1.out (by simp [hg1]) (wqn (by simp only [zq])))<|fo2 ?_ ?_<|fxn;all_goals (go_big_quiet_step (exact qaA (HB1.out _));exact wqn rfl)
     intro β wx51 E;replace FR:=fnf FR E rfl;simp only [nP,zu];go_wp2_with fail
     go_ret
     exact ⟨rfl,qaY HB0 FR⟩
    ·clear hf1 hf2 hq0;refine wE [(18,pT B0 0),(19,aT cn),(20,iT x1),(21,bT),(22,bT),(23,pT B0 33),(24,aT cd),(25,iT x2),(26,bF),(27,bF),(28,bF),(29,undef),(30,undef),(31,undef),(32,undef),(33,undef),(34,undef),(35,undef),(36,bF),(2,bF)] (by simp only [zu];rfl) (by kernel_rfl) ?_ ?_
     ·intro W' hW';refine fxo ?_<|lhI AB0_n hW' V_cn rfl<|fo4 ?_ ?_ ?_ ?_<|lhI AB0_d hW' V_cd rfl<|fxo (by go_big_quiet_step (exact qaA (HB2.out _));exact wqn rfl)<|fo4 ?_ ?_ ?_ ?_<|fo4 ?_ ?_ ?_ ?_<|fo4 ?_ ?_ ?_ ?_<|fxn;all_goals (go_big_quiet_step (exact qaA (HB1.out _));exact wqn rfl)
     intro β wx51 E;replace FR:=fnf FR E rfl;simp only [nP,zu];go_wp2_with fail
     go_ret
     exact ⟨rfl,qaY HB0 FR⟩
   ·clear hf1 hf2 hq0;refine wE [(18,pT B0 0),(19,aT cn),(20,iT x1),(21,bF),(22,bF),(23,undef),(24,undef),(25,undef),(26,undef),(27,bF),(28,bF),(29,undef),(30,undef),(31,undef),(32,undef),(33,undef),(34,undef),(35,undef),(36,bF),(2,bF)] (by simp only [zu];rfl) (by kernel_rfl) ?_ ?_
    ·intro W' hW';refine fxo ?_<|lhI AB0_n hW' V_cn rfl<|fo4 ?_ ?_ ?_ ?_<|fo4 ?_ ?_ ?_ ?_<|fo4 ?_ ?_ ?_ ?_<|fo4 ?_ ?_ ?_ ?_<|fo2 ?_ ?_<|fxn;all_goals (go_big_quiet_step (exact qaA (HB1.out _));exact wqn rfl)
    intro β wx51 E;replace FR:=fnf FR E rfl;simp only [nP,zu];go_wp2_with fail
    go_ret
    exact ⟨rfl,qaY HB0 FR⟩
end Go.Proofs.YtemoddmadfoaiaaGreat
namespace Go.Proofs.YtemoddmadfoaiaaGreat
open Go.RowKit Big
theorem At.low {w:World} {b:Nat} {c:List Value} {n:Bool} {v lo:Nat} (h:At w b 0 c) (hc:c=.bool n::lv 32 v) (hl:lo=lim v 0):w.cell? ⟨b,1,none⟩=some (.int .u32 (lo:Int)):=by
 subst hc hl
 have:=h.cell (j:=1) (v:=.int .u32 (lim v 0:Nat)) (by rw [List.getElem?_cons_succ];exact qsI v (by omega))
 simpa using this
theorem qrK (n:Bool) (m:Nat):cs1 n m=decide (zI (cs1 n m) m<0)∧m=(zI (cs1 n m) m).natAbs:=by
 unfold cs1 zI;by_cases h:m=0<;>cases n<;>simp [h]<;>omega
section
open Ap
end
section
open Ap
theorem Row.below {w w':World} {d off:Nat} {l:List Int} (h:Row w d off l) (hb:Below w.heap.size w w') (hd:d<w.heap.size):Row w' d off l :=
 ⟨fun k x hk=>qcU (h.1 k x hk) hb,fun o=>by rw [hb.frozen (by simpa using hd)];exact h.2 o⟩
def Laid2 (w wx:World) (b7 bR:Nat) (l7 lR:List Int):Prop:=Row wx b7 0 l7∧Row wx bR 0 lR∧b7≠bR∧w.heap.size≤b7∧w.heap.size≤bR∧b7<wx.heap.size∧bR<wx.heap.size∧Below w.heap.size w wx
section
variable {w wx:World} {b7 bR:Nat} {l7 lR:List Int}
theorem Laid2.below {wy:World} (h:Laid2 w wx b7 bR l7 lR) (hb:Below wx.heap.size wx wy):Laid2 w wy b7 bR l7 lR:=by
 obtain ⟨h1,h2,h3,h4,h5,h6,h7,h8⟩:=h;exact ⟨h1.below hb h6,h2.below hb h7,h3,h4,h5,Nat.lt_of_lt_of_le h6 hb.size,Nat.lt_of_lt_of_le h7 hb.size,h8.trans (hb.mono h8.size)⟩
theorem Laid2.drewN (h:Laid2 w wx b7 bR l7 lR) (q:Nat):Laid2 w (wx.drewN q) b7 bR l7 lR:=h.below (below_drewN (Below.refl _ _) q)
end
theorem take_sum {ws:List Nat} {k x:Nat} (hx:ws[k]?=some x):sumL (ws.take (k+1))=sumL (ws.take k)+x:=by
 rw [List.take_add_one,hx,qrQ];simp [sumL]
end
end Go.Proofs.YtemoddmadfoaiaaGreat
namespace Go.Proofs.YtemoddmadfoaiaaGreat
open Go.RowKit Ap
end Go.Proofs.YtemoddmadfoaiaaGreat
