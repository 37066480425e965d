import Derived.Test.YtemoddmadfoaiaaGreatApI
import Derived.Test.YtemoddmadfoaiaaGreatGaB
import Derived.Test.YtemoddmadfoaiaaGreatQrA
import Derived.Test.YtemoddmadfoaiaaGreatPcA
import Derived.Test.YtemoddmadfoaiaaGreatBiN
import Derived.Test.YtemoddmadfoaiaaGreatApH
import Derived.Test.YtemoddmadfoaiaaGreatToA
set_option linter.unusedVariables false
set_option linter.unusedSimpArgs false
set_option maxRecDepth 100000
namespace Go.Proofs.YtemoddmadfoaiaaGreat
open Go.RowKit Big Al Tok Ap
theorem At.of_own {w:World} {B n g cap:Nat} {e:TypeId} {size:Nat} {xs:List Value} (h:w.ownsRow B e size (.slice (some ⟨g,0,none⟩) n cap) n xs):At w g 0 xs:=by
 have hc:=fun g'=>World.ownsRow.cells h (g:=g')
 rcases h.2 with ⟨h2,_⟩|⟨g',cap',cur,hv,hg,hh,hrest⟩
 ·cases h2
 ·injection hv with h1 h2 h3
  injection h1 with h1
  injection h1 with h1
  subst h1;refine ⟨fun j u hj=>?_,fun j hj=>?_,(Array.getElem?_eq_some_iff.1 hh).1⟩
  ·have:=hc g rfl j u hj
   have hadd:(⟨g,0,none⟩:Addr).add j=⟨g,0+j,none⟩:=by unfold Addr.add;split<;>simp_all
   rwa [hadd] at this
  ·obtain ⟨u,hu⟩:∃ u,xs[j]?=some u:=⟨xs[j]'hj,List.getElem?_eq_getElem hj⟩
   have:=hc g rfl j u hu
   have hadd:(⟨g,0,none⟩:Addr).add j=⟨g,0+j,none⟩:=by unfold Addr.add;split<;>simp_all
   rw [hadd] at this;exact ⟨by rw [this];rfl,frozen_of_row _ _ _ _ _ hh⟩
theorem jeU {a b i j:Nat} (ha:a<BB^i) (hb:b<BB^j):a*b<BB^(i+j):=by
 rw [Nat.pow_add];exact Nat.mul_lt_mul'' ha hb
theorem jdF {a i j:Nat} (ha:a<BB^i) (hij:i≤j):a<BB^j:=Nat.lt_of_lt_of_le ha (Nat.pow_le_pow_right qaX hij)
namespace Al
end Al
def cellsQ (rs:List Qn):List Value:=rs.flatMap fun r=>ratZ r.1 r.2
theorem qvJ (n:Nat):iZ (n:Int)=.bool false::lv 32 n:=by unfold iZ;rw [Int.natAbs_natCast,decide_eq_false (by omega)]
theorem At.grown {w w':World} {b o:Nat} {cs:List Value} {row:Option Nat} (h:At w b o cs) (hg:w.grownBy w' row) (hq:∀ q,row=some q→q≠b):At w' b o cs:=by
 have hk:=hg.block b h.lt (fun e=>hq b e.symm rfl);refine ⟨fun j v hj=>?_,fun j hj=>?_,Nat.lt_of_lt_of_le h.lt hg.size⟩
 ·rw [World.cell?_of_block (w:=w) hk];exact h.range j v hj
 ·rw [World.cell?_of_block (w:=w) hk,World.frozen?_of_block (w:=w) hk];exact h.there j hj
theorem Tryz.infoI33:(Tryz.prog.info? 25).map (·.size)=some 33:=by kernel_rfl
theorem qrA {a b:Int} {i j:Nat} (ha:a.natAbs<BB^i) (hb:b.natAbs<BB^j):(a*b).natAbs<BB^(i+j):=by rw [Int.natAbs_mul];exact jeU ha hb
structure ExB (c:Qn) (M o:Nat) (y:Int):Prop where
 n:c.1.natAbs<BB^15
 d:((c.2:Nat):Int).natAbs<BB^15
 m:((M:Nat):Int).natAbs<BB^2
 o:((o:Nat):Int).natAbs<BB^2
 y:y.natAbs<BB^2
 pos:c.2*M≠0
theorem ExB.num {c:Qn} {M o:Nat} {y:Int} (h:ExB c M o y):(c.1*(o:Int)+y*(c.2:Int)*(M:Int)).natAbs<BB^32:=by
 have h1:=jdF (qrA h.n h.o) (show 15+2≤30 by omega);have h2:=jdF (qrA (qrA h.y h.d) h.m) (show 2+15+2≤30 by omega);have h3:=qxD;omega
theorem ExB.den {c:Qn} {M o:Nat} {y:Int} (h:ExB c M o y):c.2*M<BB^32:=by
 have:=jdF (qrA h.d h.m) (show 15+2≤32 by omega)
 rwa [←Int.natCast_mul,Int.natAbs_natCast] at this
end Go.Proofs.YtemoddmadfoaiaaGreat
set_option maxHeartbeats 8000000
namespace Go.Proofs.YtemoddmadfoaiaaGreat
open Go.RowKit Big
open Lib (hid)
theorem jbK {n:Bool} {p:Nat} (hn:true=cs1 true p) (h:n=true):-1=sgnI n p:=by
 have h1:p≠0:=by rintro rfl;simp [cs1] at hn
 unfold sgnI;rw [if_neg h1,if_pos h]
theorem qxC {cr:List Value} {n:Bool} {p q:Nat} (hr:cr=rat n p false q) (hn:n=cs1 n p) (hp:p<B480) (hq:q<B480) (h0:q≠0) (hg:Nat.gcd p q=1) (w:World) :
  Calls Tryz.prog 98 #[.agg cr.toArray] w fun e w'=>e=.returned (.bool true)∧Below w.heap.size w w':=by
 have V_cr:=hid hr;obtain ⟨x1,hx1⟩:=qaE p;obtain ⟨x2,hx2⟩:=qaE q;have hx1b:=qeN hp hx1;have hx2b:=qeN hq hx2;obtain ⟨cn,V_cn⟩:∃ c:List Value,Hid (c=.bool n::lv 32 p):=⟨_,hid rfl⟩;obtain ⟨cd,V_cd⟩:∃ c:List Value,Hid (c=.bool false::lv 32 q):=⟨_,hid rfl⟩;obtain ⟨co,V_co⟩:∃ c:List Value,Hid (c=.bool false::lv 32 1):=⟨_,hid rfl⟩;have HSD:=hid (qcS (s:=1) V_cd.out (by unfold sgnI;rw [if_neg h0];rfl) (qaO hq));have HB1:=hid (qdO V_cn.out (qaO hp) hx1);have HB2:=hid (qdO V_cd.out (qaO hq) hx2);have HG:=hid (qqO V_cn.out V_cd.out V_co.out hg.symm (qaO hp) (qaO hq));have HO:=hid (qpK (z:=1) V_co.out rfl rfl (by decide) (by decide));have H1:=hid (show 1<BB^32 from Nat.one_lt_pow (by omega) (by unfold BB;omega));have n1:(x1:Int)≤480:=by omega
 have n2:(x2:Int)≤480:=by omega
 have HSN:=hid (fun (h:n=true)=>qcS (s:=-1) V_cn.out (jbK (h ▸ hn) h) (qaO hp));clear hr hn hp hq h0 hg hx1 hx2 hx1b hx2b;obtain ⟨B0,w0,hw0,hB0,AB0,FR,FR0,HB0,hZB0⟩:=en1 w 27 (bxq cr);go_enter Tryz.func98,Tryz.ntmps98
 go_upto_region 1 with fail
 rw [←hw0,←hB0];clear hw0 hB0;have AB0_n:=hid (AB0.out.num V_cr.out V_cn.out);have AB0_d:=hid (AB0.out.den V_cr.out V_cd.out)
 cases n with
 | true =>
  refine wT [] [(3,.pointer (some ⟨B0,0,none⟩)),(4,.pointer (some ⟨B0,0,none⟩)),(5,.bool true),(6,.bool true),(7,.pointer (some ⟨B0,0,none⟩)),(8,.agg cn.toArray),(9,.int .i64 (-1)),(10,.bool false),(11,.bool false),(12,.bool false),(13,.pointer (some ⟨B0,33,none⟩)),(14,.agg cd.toArray),(15,.int .i64 1),(16,.bool false),(17,.bool false)] (by simp only [zr,zq];rfl) (by kernel_rfl) rfl ?_ oN oN ?_
  ·intro W' hW';have cl0:=fun p os=>qaC ((AB0_n.out.below hW').neg V_cn.out) p os
   refine fo4 ?_ ?_ ?_ ?_<|fxo ?_<|ldI (abl AB0_n hW') V_cn rfl<|fo4 ?_ ?_ ?_ ?_<|fxo ?_<|ldI (abl AB0_d hW') V_cd rfl<|fxo (by go_big_quiet_step ((go_at_call 103;exact qaA (HSD.out _)));exact wqn rfl)<|fo2 ?_ ?_<|fxn;all_goals (go_big_quiet_step ((go_at_call 103;exact qaA (HSN.out rfl _)));exact wqn rfl)
  intro β wx1 E;replace FR:=fnf FR E rfl;replace AB0:=fnh AB0 E rfl;replace AB0_n:=fnh AB0_n E rfl;replace AB0_d:=fnh AB0_d E rfl;simp only [nP,zr,zq];clear E;go_upto_region 3 with fail
  refine wT [] [(18,.pointer (some ⟨B0,0,none⟩)),(19,.agg cn.toArray),(20,.int .i64 (x1:Int)),(21,.bool true),(22,.bool true),(23,.pointer (some ⟨B0,33,none⟩)),(24,.agg cd.toArray),(25,.int .i64 (x2:Int)),(26,.bool true),(27,.bool true),(28,.bool true),(29,.pointer (some ⟨B0,0,none⟩)),(30,.agg cn.toArray),(31,.pointer (some ⟨B0,33,none⟩)),(32,.agg cd.toArray),(33,.agg co.toArray),(34,.agg co.toArray),(35,.bool true),(36,.bool true),(2,.bool true)] (by simp only [zr,zq];rfl) (by kernel_rfl) rfl ?_ oN oN ?_
  ·intro W' hW';have rd0:=AB0_n.out.below hW';have rd1:=AB0_d.out.below hW';refine fxo ?_<|ldI rd0 V_cn rfl<|fo4 ?_ ?_ ?_ ?_<|ldI rd1 V_cd rfl<|fxo (by go_big_quiet_step ((go_at_call 132;exact qaA (HB2.out _)));exact wqn rfl)<|fo4 ?_ ?_ ?_ ?_<|ldI rd0 V_cn rfl<|fxo ?_<|ldI rd1 V_cd rfl<|fxo (by go_big_quiet_step ((go_at_call 133;exact qaA (HG.out _)));exact wqn rfl)<|fxo (by go_big_quiet_step ((go_at_call 101;exact qaA (HO.out _)));exact wqn rfl)<|fxo (qdV (r:=true) (by rfl) rfl rfl rfl V_co.out V_co.out H1.out H1.out (by simp) (wqn (by simp only [zq])))<|fo2 ?_ ?_<|fxn;all_goals (go_big_quiet_step ((go_at_call 132;exact qaA (HB1.out _)));exact wqn rfl)
  intro β wx2 E;replace FR:=fnf FR E rfl;replace AB0:=fnh AB0 E rfl;replace AB0_n:=fnh AB0_n E rfl;replace AB0_d:=fnh AB0_d E rfl;simp only [nP,zr,zq];clear E;go_wp2
  go_ret
  exact ⟨rfl,fend HB0 FR⟩
 | false =>
  refine wT [] [(3,.pointer (some ⟨B0,0,none⟩)),(4,.pointer (some ⟨B0,0,none⟩)),(5,.bool false),(6,.bool false),(7,undef),(8,undef),(9,undef),(10,undef),(11,.bool false),(12,.bool false),(13,.pointer (some ⟨B0,33,none⟩)),(14,.agg cd.toArray),(15,.int .i64 1),(16,.bool false),(17,.bool false)] (by simp only [zr,zq];rfl) (by kernel_rfl) rfl ?_ oN oN ?_
  ·intro W' hW';have cl0:=fun p os=>qaC ((AB0_n.out.below hW').neg V_cn.out) p os
   refine fo4 ?_ ?_ ?_ ?_<|fo4 ?_ ?_ ?_ ?_<|fo3 ?_ ?_ ?_<|ldI (abl AB0_d hW') V_cd rfl<|fo3 ?_ ?_ ?_<|fxn;all_goals (go_big_quiet_step ((go_at_call 103;exact qaA (HSD.out _)));exact wqn rfl)
  intro β wx1 E;replace FR:=fnf FR E rfl;replace AB0:=fnh AB0 E rfl;replace AB0_n:=fnh AB0_n E rfl;replace AB0_d:=fnh AB0_d E rfl;simp only [nP,zr,zq];clear E;go_upto_region 3 with fail
  refine wT [] [(18,.pointer (some ⟨B0,0,none⟩)),(19,.agg cn.toArray),(20,.int .i64 (x1:Int)),(21,.bool true),(22,.bool true),(23,.pointer (some ⟨B0,33,none⟩)),(24,.agg cd.toArray),(25,.int .i64 (x2:Int)),(26,.bool true),(27,.bool true),(28,.bool true),(29,.pointer (some ⟨B0,0,none⟩)),(30,.agg cn.toArray),(31,.pointer (some ⟨B0,33,none⟩)),(32,.agg cd.toArray),(33,.agg co.toArray),(34,.agg co.toArray),(35,.bool true),(36,.bool true),(2,.bool true)] (by simp only [zr,zq];rfl) (by kernel_rfl) rfl ?_ oN oN ?_
  ·intro W' hW';have rd0:=AB0_n.out.below hW';have rd1:=AB0_d.out.below hW';refine fxo ?_<|ldI rd0 V_cn rfl<|fo4 ?_ ?_ ?_ ?_<|ldI rd1 V_cd rfl<|fxo (by go_big_quiet_step ((go_at_call 132;exact qaA (HB2.out _)));exact wqn rfl)<|fo4 ?_ ?_ ?_ ?_<|ldI rd0 V_cn rfl<|fxo ?_<|ldI rd1 V_cd rfl<|fxo (by go_big_quiet_step ((go_at_call 133;exact qaA (HG.out _)));exact wqn rfl)<|fxo (by go_big_quiet_step ((go_at_call 101;exact qaA (HO.out _)));exact wqn rfl)<|fxo (qdV (r:=true) (by rfl) rfl rfl rfl V_co.out V_co.out H1.out H1.out (by simp) (wqn (by simp only [zq])))<|fo2 ?_ ?_<|fxn;all_goals (go_big_quiet_step ((go_at_call 132;exact qaA (HB1.out _)));exact wqn rfl)
  intro β wx2 E;replace FR:=fnf FR E rfl;replace AB0:=fnh AB0 E rfl;replace AB0_n:=fnh AB0_n E rfl;replace AB0_d:=fnh AB0_d E rfl;simp only [nP,zr,zq];clear E;go_wp2
  go_ret
  exact ⟨rfl,fend HB0 FR⟩
theorem jeG {c d r:List Value} {na nb n:Bool} {a b v:Nat} (hc:c=.bool na::lv 32 a) (hd:d=.bool nb::lv 32 b) (hr:r=.bool n::lv 32 v) (hv:v=a*b) (hn:n=cs1 (na != nb) v) (ha:a<BB^32) (hb:b<BB^32) (hvb:v<BB^32) (W:World) :
  Calls Tryz.prog 136 #[.agg c.toArray,.agg d.toArray] W fun e w'=>e=.returned (.tuple #[.agg r.toArray,.int .i64 0])∧Below W.heap.size W w':=by
 subst hn hv hc hd hr;exact jcI na nb a b W ha hb hvb
theorem rmulZ {ca cb cr:List Value} {a b:Int} (h1:ca=iZ a) (h2:cb=iZ b) (hr:cr=iZ (a*b)) (ha:a.natAbs<BB^32) (hb:b.natAbs<BB^32) (hv:(a*b).natAbs<BB^32) (w:World) :
  Calls Tryz.prog 136 #[.agg ca.toArray,.agg cb.toArray] w fun e w'=>e=.returned (.tuple #[.agg cr.toArray,.int .i64 0])∧Below w.heap.size w w' :=
 jeG h1 h2 hr (qmF a b) (by rw [qhH,qmF]) ha hb hv w
theorem jaS {cr:List Value} {z:Int} (h:cr=iZ z) (h1:-9223372036854775808≤z) (h2:z≤9223372036854775807) (w:World) :
  Calls Tryz.prog 101 #[.int .i64 z] w fun e w'=>e=.returned (.agg cr.toArray)∧Below w.heap.size w w' :=
 qpK h rfl rfl h1 h2 w
theorem qjZ {c:List Value} {r:Qn} (h:c=ratZ r.1 r.2) (hv:VQ r) (w:World) :
  Calls Tryz.prog 98 #[.agg c.toArray] w fun e w'=>e=.returned (.bool true)∧Below w.heap.size w w' :=
 qxC h (qzS _).symm hv.num hv.den hv.pos hv.low w
theorem qrO {ca cb cR:List Value} {na n:Bool} {a b g p q:Nat} (h1:ca=.bool na::lv 32 a) (h2:cb=.bool false::lv 32 b) (hR:cR=rat false 0 false 0) (hg:g=Nat.gcd a b) (hp:p=a / g) (hq:q=b / g)
  (ha:a<BB^32) (hb:b<BB^32) (h0:b≠0) (hov:¬(p<B480∧q<B480)) (w:World) :
  Calls Tryz.prog 99 #[.agg ca.toArray,.agg cb.toArray] w fun e w'=>e=.returned (.tuple #[.agg cR.toArray,.int .i64 10])∧Below w.heap.size w w':=by
 have V_ca:=hid h1;have V_cb:=hid h2;have V_cR:=hid hR;have hg0:g≠0:=by rw [hg];intro h;exact h0 (Nat.eq_zero_of_gcd_eq_zero_right h)
 have hga:g∣a:=by rw [hg];exact Nat.gcd_dvd_left a b
 have hgb:g∣b:=by rw [hg];exact Nat.gcd_dvd_right a b
 have hq0:q≠0:=by rw [hq];intro h;have:=Nat.div_mul_cancel hgb;rw [h] at this;omega
 have hgB:g<BB^32:=by rw [hg];exact qjL ha hb
 have hpB:p<BB^32:=by rw [hp];exact Nat.lt_of_le_of_lt (Nat.div_le_self _ _) ha
 have hqB:q<BB^32:=by rw [hq];exact Nat.lt_of_le_of_lt (Nat.div_le_self _ _) hb
 obtain ⟨x1,hx1⟩:=qaE p;obtain ⟨x2,hx2⟩:=qaE q;have hf1:=qdT hx1;have hf2:=qdT hx2;obtain ⟨hs1,hs2,hs3,hs4⟩:=qnF na false p q hq0;obtain ⟨sn,hsn⟩:∃ s,s=cs1 na p:=⟨_,rfl⟩;obtain ⟨s,hs⟩:∃ s,s=sgnI false b:=⟨_,rfl⟩
 have hse:(s==0)=false:=by
  rw [hs];unfold sgnI;rw [if_neg h0];rfl
 obtain ⟨cg,V_cg⟩:∃ c:List Value,Hid (c=.bool false::lv 32 g):=⟨_,hid rfl⟩;obtain ⟨cN,V_cN⟩:∃ c:List Value,Hid (c=.bool sn::lv 32 p):=⟨_,hid rfl⟩;obtain ⟨cD,V_cD⟩:∃ c:List Value,Hid (c=.bool false::lv 32 q):=⟨_,hid rfl⟩;obtain ⟨ce,V_ce⟩:∃ c:List Value,Hid (c=.bool false::lv 32 0):=⟨_,hid rfl⟩;obtain ⟨cz,V_cz⟩:∃ c:List Value,Hid (c=rat false 0 false 0):=⟨_,hid rfl⟩;have HS:=hid (qcS V_cb.out hs hb);have HG:=hid (qqO V_ca.out V_cb.out V_cg.out hg ha hb);have HDN:=hid (qgE (s:=sn) V_ca.out V_cg.out V_cN.out V_ce.out (by rw [hsn];cases na<;>rfl) (by rw [hp];exact (qcQ na a g hga).1) (qcQ na a g hga).2 ha hgB hg0);have HDD:=hid (qgE (s:=false) V_cb.out V_cg.out V_cD.out V_ce.out hs1.symm (by rw [hq];exact (qcQ false b g hgb).1) (qcQ false b g hgb).2 hb hgB hg0);have HS2:=hid (qcS (s:=1) V_cD.out hs4.symm hqB);have HB1:=hid (qdO V_cN.out hpB hx1);have HB2:=hid (qdO V_cD.out hqB hx2)
 have hov2:(480:Int)<(x1:Int)∨(¬(480:Int)<(x1:Int)∧(480:Int)<(x2:Int)):=by
  by_cases h:(x1:Int)≤480
  ·refine .inr ⟨by omega,?_⟩;by_cases h':(x2:Int)≤480
   ·exact absurd ⟨hf1.1 h,hf2.1 h'⟩ hov
   ·omega
  ·exact .inl (by omega)
 clear h1 h2 hR hg hp hq ha hb h0 hg0 hga hgb hq0 hgB hx1 hx2 hs1 hs2 hs3 hs4 hsn hs hpB hqB hf1 hf2 hov;obtain ⟨B0,B1,B2,w0,hw0,hB0,hB1,hB2,AB0,AB1,AB2,FR,FR0,HB0,hZB0,l01,hZB1,l12,hZB2⟩:=en3 w 25 25 27 (bxq ca) (bxq cb) (zQR V_cz);go_enter Tryz.func99,Tryz.ntmps99
 go_upto_region 1 with fail
 rw [←hw0,←hB2,←hB1,←hB0];clear hw0 hB0 hB1 hB2;refine wT [] [(13,.agg cb.toArray),(14,.int .i64 s),(15,.bool false)] (by simp only [zr,zq];rfl) (by kernel_rfl) rfl ?_ oN oN ?_
 ·intro W' hW';refine ldI (abl AB1 hW') V_cb rfl<|fo2 ?_ ?_<|fxn;all_goals (go_big_quiet_step ((go_at_call 103;exact qaA (HS.out _)));exact wqn rfl)
 intro β wx1 E;replace FR:=fnf FR E rfl;replace AB0:=fnh AB0 E rfl;replace AB1:=fnh AB1 E rfl;replace AB2:=fnh AB2 E rfl;simp only [nP,zr,zq];replace FR0:=hid FR.out.le;clear E;clear hse;go_upto_region 3 with fail
 refine wT [⟨true,3,6,4,0,0,25,19,cg,0,cg,[]⟩] [(17,.agg ca.toArray),(18,.agg cb.toArray),(19,.agg cg.toArray)] (by simp only [zr,zq];rfl) (by kernel_rfl) rfl ?_ ?_ ?_ ?_
 ·intro W' hW';refine ldI (abl AB0 hW') V_ca rfl<|ldI (abl AB1 hW') V_cb rfl<|fxo ?_<|fxs rfl<|fxs rfl<|fxn
  go_big_quiet_step ((go_at_call 133;exact qaA (HG.out _)));exact wqn rfl
 ·exact fP1 (Tryz.alI (qI V_cg.out))
 ·exact fP1 (sI V_cg (fun _=>rfl) rfl)
 intro β wx2 E;replace FR:=fnf FR E rfl;obtain ⟨b6,hb6,eb6⟩:=nwb E mms;have lB0_b6:B0<b6:=ltb AB0 eb6.1;have lB1_b6:B1<b6:=ltb AB1 eb6.1;have lB2_b6:B2<b6:=ltb AB2 eb6.1;have hZb6:B0≤b6:=Nat.le_trans FR0.out eb6.1;replace AB0:=fnh AB0 E rfl;replace AB1:=fnh AB1 E rfl;replace AB2:=fnh AB2 E rfl;have Ab6:=hid eb6.2;simp only [nP,zr,zq];rw [←hb6];replace FR0:=hid FR.out.le;clear E eb6 hb6;go_upto_region 4 with fail
 refine wT [⟨true,7,7,9,0,0,25,24,cN,0,cN,[]⟩,⟨true,8,8,10,0,0,25,25,ce,0,ce,[]⟩] [(21,.agg ca.toArray),(22,.agg cg.toArray),(23,.tuple #[.agg cN.toArray,.agg ce.toArray,.int .i64 0]),(20,.tuple #[.agg cN.toArray,.agg ce.toArray,.int .i64 0]),(24,.agg cN.toArray),(25,.agg ce.toArray),(26,.int .i64 0),(9,.int .i64 0)] (by simp only [zr,zq];rfl) (by kernel_rfl) rfl ?_ ?_ ?_ ?_
 ·intro W' hW';refine ldI (abl AB0 hW') V_ca rfl<|ldI (abl Ab6 hW') V_cg rfl<|fo4 ?_ ?_ ?_ ?_<|fxo ?_<|fxs rfl<|fxs rfl<|fxs rfl<|fxs rfl<|fxo ?_<|fxn;all_goals (go_big_quiet_step ((go_at_call 134;exact qaA (HDN.out _)));exact wqn rfl)
 ·exact oP _ _ (Tryz.alI (qI V_cN.out)) (oP _ _ (Tryz.alI (qI V_ce.out)) (oN))
 ·exact oP _ _ (stw rfl (qI V_cN.out) (qfM V_cN.out) (fun _=>rfl)) (oP _ _ (stw rfl (qI V_ce.out) (qfM V_ce.out) (fun _=>rfl)) (oN))
 intro β wx3 E;replace FR:=fnf FR E rfl;obtain ⟨b7,hb7,eb7⟩:=nwb E mms;have lB0_b7:B0<b7:=ltb AB0 eb7.1;have lB1_b7:B1<b7:=ltb AB1 eb7.1;have lB2_b7:B2<b7:=ltb AB2 eb7.1;have lb6_b7:b6<b7:=ltb Ab6 eb7.1;have hZb7:B0≤b7:=Nat.le_trans FR0.out eb7.1;obtain ⟨b8,hb8,eb8⟩:=nwb E (List.mem_cons_of_mem _ mms);have lB0_b8:B0<b8:=ltb AB0 eb8.1;have lB1_b8:B1<b8:=ltb AB1 eb8.1;have lB2_b8:B2<b8:=ltb AB2 eb8.1;have lb6_b8:b6<b8:=ltb Ab6 eb8.1;have hZb8:B0≤b8:=Nat.le_trans FR0.out eb8.1;have nb7_b8:b7≠b8:=fun e=>absurd (E.apart _ mms _ (List.mem_cons_of_mem _ mms) rfl rfl (by rw [hb7,hb8] at e;exact e)) (show ¬(7:Nat)=8 by decide)
 clear AB0;replace AB1:=fnh AB1 E rfl;replace AB2:=fnh AB2 E rfl;replace Ab6:=fnh Ab6 E rfl;have Ab7:=hid eb7.2;have Ab8:=hid eb8.2;simp only [nP,zr,zq];rw [←hb7];rw [←hb8];replace FR0:=hid FR.out.le;clear E eb7 hb7 eb8 hb8;go_upto_region 5 with fail
 refine wT [⟨true,7,10,9,0,0,25,31,cD,0,cD,[]⟩,⟨true,8,11,10,0,0,25,32,ce,0,ce,[]⟩] [(28,.agg cb.toArray),(29,.agg cg.toArray),(30,.tuple #[.agg cD.toArray,.agg ce.toArray,.int .i64 0]),(27,.tuple #[.agg cD.toArray,.agg ce.toArray,.int .i64 0]),(31,.agg cD.toArray),(32,.agg ce.toArray),(33,.int .i64 0),(12,.int .i64 0)] (by simp only [zr,zq];rfl) (by kernel_rfl) rfl ?_ ?_ ?_ ?_
 ·intro W' hW';refine ldI (abl AB1 hW') V_cb rfl<|ldI (abl Ab6 hW') V_cg rfl<|fo4 ?_ ?_ ?_ ?_<|fxo ?_<|fxs rfl<|fxs rfl<|fxs rfl<|fxs rfl<|fxo ?_<|fxn;all_goals (go_big_quiet_step ((go_at_call 134;exact qaA (HDD.out _)));exact wqn rfl)
 ·exact oP _ _ (Tryz.alI (qI V_cD.out)) (oP _ _ (Tryz.alI (qI V_ce.out)) (oN))
 ·exact oP _ _ (stw rfl (qI V_cD.out) (qfM V_cD.out) (fun _=>rfl)) (oP _ _ (stw rfl (qI V_ce.out) (qfM V_ce.out) (fun _=>rfl)) (oN))
 intro β wx4 E;replace FR:=fnf FR E rfl;obtain ⟨b10,hb10,eb10⟩:=nwb E mms;have lB1_b10:B1<b10:=ltb AB1 eb10.1;have lB2_b10:B2<b10:=ltb AB2 eb10.1;have lb6_b10:b6<b10:=ltb Ab6 eb10.1;have lb7_b10:b7<b10:=ltb Ab7 eb10.1;have lb8_b10:b8<b10:=ltb Ab8 eb10.1;have hZb10:B0≤b10:=Nat.le_trans FR0.out eb10.1;obtain ⟨b11,hb11,eb11⟩:=nwb E (List.mem_cons_of_mem _ mms);have lB1_b11:B1<b11:=ltb AB1 eb11.1;have lB2_b11:B2<b11:=ltb AB2 eb11.1;have lb6_b11:b6<b11:=ltb Ab6 eb11.1;have lb7_b11:b7<b11:=ltb Ab7 eb11.1;have lb8_b11:b8<b11:=ltb Ab8 eb11.1;have hZb11:B0≤b11:=Nat.le_trans FR0.out eb11.1;have nb10_b11:b10≠b11:=fun e=>absurd (E.apart _ mms _ (List.mem_cons_of_mem _ mms) rfl rfl (by rw [hb10,hb11] at e;exact e)) (show ¬(7:Nat)=8 by decide)
 clear AB1;replace AB2:=fnh AB2 E rfl;clear Ab6;replace Ab7:=fnh Ab7 E rfl;clear Ab8;have Ab10:=hid eb10.2;have Ab11:=hid eb11.2;simp only [nP,zr,zq];rw [←hb10];rw [←hb11];replace FR0:=hid FR.out.le;clear E eb10 hb10 eb11 hb11;go_upto_region 6 with fail
 refine wT [] [(34,.agg cD.toArray),(35,.int .i64 1),(36,.bool false)] (by simp only [zr,zq];rfl) (by kernel_rfl) rfl ?_ oN oN ?_
 ·intro W' hW';refine ldI (abl Ab10 hW') V_cD rfl<|fo2 ?_ ?_<|fxn;all_goals (go_big_quiet_step ((go_at_call 103;exact qaA (HS2.out _)));exact wqn rfl)
 intro β wx5 E;replace FR:=fnf FR E rfl;replace AB2:=fnh AB2 E rfl;replace Ab7:=fnh Ab7 E rfl;replace Ab10:=fnh Ab10 E rfl;replace Ab11:=fnh Ab11 E rfl;simp only [nP,zr,zq];replace FR0:=hid FR.out.le;clear E;go_upto_region 8 with fail
 rcases hov2 with h1|⟨h1,h2⟩
 ·refine wT [] [(41,.agg cN.toArray),(42,.int .i64 (x1:Int)),(43,.bool true),(44,.bool true),(45,undef),(46,undef),(47,undef),(48,.bool true)] (by simp only [zr,zq];rfl) (by kernel_rfl) rfl ?_ oN oN ?_
  ·intro W' hW';refine ldI (abl Ab7 hW') V_cN rfl<|fo4 ?_ ?_ ?_ ?_<|fo3 ?_ ?_ ?_<|fxn;all_goals (go_big_quiet_step ((go_at_call 132;exact qaA (HB1.out _)));exact wqn rfl)
  intro β wx6 E;replace FR:=fnf FR E rfl;replace AB2:=fnh AB2 E rfl;replace Ab7:=fnh Ab7 E rfl;replace Ab10:=fnh Ab10 E rfl;replace Ab11:=fnh Ab11 E rfl;simp only [nP,zr,zq];replace FR0:=hid FR.out.le;clear E;go_upto_region 9 with fail
  refine wF [⟨false,0,4,1,B2,0,27,49,cR,0,cR,[]⟩] [(49,.agg cR.toArray),(5,.int .i64 10)] (by simp only [zr,zq];rfl) (by kernel_rfl) ?_ ?_ (fP1 bnC) ?_ uno ?_ ?_
  ·intro W' hW';refine fxb (qaR V_cR.out) rfl<|fxs rfl<|fxo ?_<|fxn
   go_big_quiet_step (fail);exact wqn rfl
  ·intro W' hK';refine fxb (qaR V_cR.out) rfl<|fxs (by kernel_rfl)<|fxi ?_<|fxn
   first|(refine .inr ?_;go_big_quiet_step (fail);exact wqn rfl)|exact .inl (by kernel_rfl)
  ·exact fP1 (fun _=>⟨AB2.out.lt,rfl,At.room AB2.out (qR V_cz.out) (qR V_cR.out)⟩)
  ·exact fP1 (sR V_cR (fun _=>rfl) rfl)
  intro β wx7 E;replace FR:=ffh FR E (by show B0≤B2;omega);replace AB2:=hid (show At wx7 B2 0 cR from E.atOld mms rfl AB2.out.lt);replace Ab7:=afh Ab7 E (by show B2≠b7;omega);replace Ab10:=afh Ab10 E (by show B2≠b10;omega);replace Ab11:=afh Ab11 E (by show B2≠b11;omega);simp only [nP,zr,zq];replace FR0:=hid FR.out.le;clear E;go_wp2_with fail
  have hld:=AB2.out.read (P:=Tryz.prog) Tryz.underlying27 rfl (qR V_cR.out);refine bodyPost_ret (v:=.tuple #[.agg cR.toArray,.int .i64 10]) (by simp [results,Tryz.results99,asAddr,hld]) rfl ?_;exact ⟨rfl,fend HB0 FR⟩
 ·refine wT [] [(41,.agg cN.toArray),(42,.int .i64 (x1:Int)),(43,.bool false),(44,.bool false),(45,.agg cD.toArray),(46,.int .i64 (x2:Int)),(47,.bool true),(48,.bool true)] (by simp only [zr,zq];rfl) (by kernel_rfl) rfl ?_ oN oN ?_
  ·intro W' hW';refine ldI (abl Ab7 hW') V_cN rfl<|fo3 ?_ ?_ ?_<|ldI (abl Ab10 hW') V_cD rfl<|fxo (by go_big_quiet_step ((go_at_call 132;exact qaA (HB2.out _)));exact wqn rfl)<|fo2 ?_ ?_<|fxn;all_goals (go_big_quiet_step ((go_at_call 132;exact qaA (HB1.out _)));exact wqn rfl)
  intro β wx6 E;replace FR:=fnf FR E rfl;replace AB2:=fnh AB2 E rfl;replace Ab7:=fnh Ab7 E rfl;replace Ab10:=fnh Ab10 E rfl;replace Ab11:=fnh Ab11 E rfl;simp only [nP,zr,zq];replace FR0:=hid FR.out.le;clear E;go_upto_region 9 with fail
  refine wF [⟨false,0,4,1,B2,0,27,49,cR,0,cR,[]⟩] [(49,.agg cR.toArray),(5,.int .i64 10)] (by simp only [zr,zq];rfl) (by kernel_rfl) ?_ ?_ (fP1 bnC) ?_ uno ?_ ?_
  ·intro W' hW';refine fxb (qaR V_cR.out) rfl<|fxs rfl<|fxo ?_<|fxn
   go_big_quiet_step (fail);exact wqn rfl
  ·intro W' hK';refine fxb (qaR V_cR.out) rfl<|fxs (by kernel_rfl)<|fxi ?_<|fxn
   first|(refine .inr ?_;go_big_quiet_step (fail);exact wqn rfl)|exact .inl (by kernel_rfl)
  ·exact fP1 (fun _=>⟨AB2.out.lt,rfl,At.room AB2.out (qR V_cz.out) (qR V_cR.out)⟩)
  ·exact fP1 (sR V_cR (fun _=>rfl) rfl)
  intro β wx7 E;replace FR:=ffh FR E (by show B0≤B2;omega);replace AB2:=hid (show At wx7 B2 0 cR from E.atOld mms rfl AB2.out.lt);replace Ab7:=afh Ab7 E (by show B2≠b7;omega);replace Ab10:=afh Ab10 E (by show B2≠b10;omega);replace Ab11:=afh Ab11 E (by show B2≠b11;omega);simp only [nP,zr,zq];replace FR0:=hid FR.out.le;clear E;go_wp2_with fail
  have hld:=AB2.out.read (P:=Tryz.prog) Tryz.underlying27 rfl (qR V_cR.out);refine bodyPost_ret (v:=.tuple #[.agg cR.toArray,.int .i64 10]) (by simp [results,Tryz.results99,asAddr,hld]) rfl ?_;exact ⟨rfl,fend HB0 FR⟩
theorem jaR {ca cb:List Value} {N:Int} {D:Nat} (h1:ca=iZ N) (h2:cb=iZ (D:Int)) {cR:List Value} {code:Int} (hR:cR=resR (mkQ N D)) (hc:code=resE (mkQ N D)) (ha:N.natAbs<BB^32) (hb:D<BB^32) (h0:D≠0) (w:World) :
  Calls Tryz.prog 99 #[.agg ca.toArray,.agg cb.toArray] w fun e w'=>e=.returned (.tuple #[.agg cR.toArray,.int .i64 code])∧Below w.heap.size w w':=by
 have hs:=qfR N (N.natAbs / Nat.gcd N.natAbs D) (fun h0=>by subst h0;simp);have h2':cb=.bool false::lv 32 D:=by rw [h2,qvJ]
 by_cases hbd:N.natAbs / Nat.gcd N.natAbs D<B480∧D / Nat.gcd N.natAbs D<B480
 ·obtain rfl:code=0:=by rw [hc];unfold mkQ;rw [if_pos hbd];rfl
  refine jcQ (na:=decide (N<0)) (nb:=false) (n:=cs1 (decide (N<0)) (N.natAbs / Nat.gcd N.natAbs D)) (a:=N.natAbs) (b:=D) (g:=Nat.gcd N.natAbs D) h1 h2' ?_ (by simp) rfl rfl rfl ha hb h0 hbd.1 hbd.2 w;rw [hR];unfold mkQ;rw [if_pos hbd];simp only [resR,ratZ];rw [hs.1,hs.2]
 ·obtain rfl:code=10:=by rw [hc];unfold mkQ;rw [if_neg hbd];rfl
  exact qrO (n:=false) h1 h2' (by rw [hR];unfold mkQ;rw [if_neg hbd];rfl) rfl rfl rfl ha hb h0 hbd w
theorem jaQ {ca cb cr:List Value} {a b:Int} (h1:ca=iZ a) (h2:cb=iZ b) (hr:cr=iZ (a*b)) (ha:a.natAbs<BB^32) (hb:b.natAbs<BB^32) (hv:(a*b).natAbs<BB^32) (w:World) :
  Calls Tryz.prog 100 #[.agg ca.toArray,.agg cb.toArray] w fun e w'=>e=.returned (.agg cr.toArray)∧Below w.heap.size w w':=by
 have V_ca:=hid h1;have V_cb:=hid h2;have V_cr:=hid hr;obtain ⟨cz,V_cz⟩:∃ c:List Value,Hid (c=.bool false::lv 32 0):=⟨_,hid rfl⟩;have HM:=hid (rmulZ V_ca.out V_cb.out V_cr.out ha hb hv);clear h1 h2 hr ha hb hv;obtain ⟨B0,B1,B2,w0,hw0,hB0,hB1,hB2,AB0,AB1,AB2,FR,FR0,HB0,hZB0,l01,hZB1,l12,hZB2⟩:=en3 w 25 25 25 (bxq ca) (bxq cb) (zQI V_cz);unfold zero33 at hw0;go_enter Tryz.func100,Tryz.ntmps100
 go_upto_region 1 with fail
 rw [←hw0,←hB2,←hB1,←hB0];clear hw0 hB0 hB1 hB2;refine wT [⟨true,6,5,7,0,0,25,11,cr,0,cr,[]⟩] [(8,.agg ca.toArray),(9,.agg cb.toArray),(10,.tuple #[.agg cr.toArray,.int .i64 0]),(7,.tuple #[.agg cr.toArray,.int .i64 0]),(11,.agg cr.toArray),(12,.int .i64 0),(6,.int .i64 0)] (by simp only [zr,zq];rfl) (by kernel_rfl) rfl ?_ ?_ ?_ ?_
 ·intro W' hW';refine ldI (abl AB0 hW') V_ca rfl<|ldI (abl AB1 hW') V_cb rfl<|fo4 ?_ ?_ ?_ ?_<|fxs rfl<|fxs rfl<|fxo ?_<|fxn;all_goals (go_big_quiet_step ((go_at_call 136;exact qaA (HM.out _)));exact wqn rfl)
 ·exact fP1 (Tryz.alI (qI V_cr.out))
 ·exact fP1 (sI V_cr (fun _=>rfl) rfl)
 intro β wx1 E;replace FR:=fnf FR E rfl;obtain ⟨b5,hb5,eb5⟩:=nwb E mms;have lB0_b5:B0<b5:=ltb AB0 eb5.1;have lB1_b5:B1<b5:=ltb AB1 eb5.1;have lB2_b5:B2<b5:=ltb AB2 eb5.1;have hZb5:B0≤b5:=Nat.le_trans FR0.out eb5.1;replace AB0:=fnh AB0 E rfl;replace AB1:=fnh AB1 E rfl;replace AB2:=fnh AB2 E rfl;have Ab5:=hid eb5.2;simp only [nP,zr,zq];rw [←hb5];replace FR0:=hid FR.out.le;clear E eb5 hb5;go_upto_region 2 with fail
 refine wF [⟨false,0,4,1,B2,0,25,13,cr,0,cr,[]⟩] [(13,.agg cr.toArray)] (by simp only [zr,zq];rfl) (by kernel_rfl) ?_ ?_ (fP1 bnC) ?_ uno ?_ ?_
 ·intro W' hW';exact ldI (abl Ab5 hW') V_cr rfl<|fxs rfl<|fxn
 ·intro W' hK';have rd0:=akh Ab5 hK' (by show B2≠b5;omega);exact ldI rd0 V_cr rfl<|fxs (by kernel_rfl)<|fxn
 ·exact fP1 (fun _=>⟨AB2.out.lt,rfl,At.room AB2.out (qI V_cz.out) (qI V_cr.out)⟩)
 ·exact fP1 (sI V_cr (fun _=>rfl) rfl)
 intro β wx2 E;replace FR:=ffh FR E (by show B0≤B2;omega);replace AB0:=afh AB0 E (by show B2≠B0;omega);replace AB1:=afh AB1 E (by show B2≠B1;omega);replace AB2:=hid (show At wx2 B2 0 cr from E.atOld mms rfl AB2.out.lt);replace Ab5:=afh Ab5 E (by show B2≠b5;omega);simp only [nP,zr,zq];replace FR0:=hid FR.out.le;clear E;go_wp2_with fail
 have hld:=AB2.out.read (P:=Tryz.prog) Tryz.underlying25 rfl (qI V_cr.out);refine bodyPost_ret (v:=.agg cr.toArray) (by simp [results,Tryz.results100,asAddr,hld]) rfl ?_;exact ⟨rfl,fend HB0 FR⟩
theorem rofQ {cR:List Value} {x y:Int} {d:Nat} {code:Int} (hy:y=(d:Int)) (hd:d≠0) (hR:cR=resR (mkQ x d)) (hc:code=resE (mkQ x d)) (h1:-9223372036854775808≤x) (h2:x≤9223372036854775807) (h3:y≤9223372036854775807) (w:World) :
  Calls Tryz.prog 73 #[.int .i64 x,.int .i64 y] w fun e w'=>e=.returned (.tuple #[.agg cR.toArray,.int .i64 code])∧Below w.heap.size w w':=by
 obtain ⟨rn,rp,rm,rq,hcR⟩:∃ rn rp rm rq,cR=rat rn rp rm rq:=by
  rw [hR]
  cases mkQ x d with
  | none=>exact ⟨_,_,_,_,rfl⟩
  | some r=>exact ⟨_,_,_,_,rfl⟩
 have V_cR:=hid hcR;obtain ⟨cz,V_cz⟩:∃ c:List Value,Hid (c=rat false 0 false 0):=⟨_,hid rfl⟩;obtain ⟨cx,V_cx⟩:∃ c:List Value,Hid (c=iZ x):=⟨_,hid rfl⟩;obtain ⟨cy,V_cy⟩:∃ c:List Value,Hid (c=iZ y):=⟨_,hid rfl⟩;have e1:(9223372036854775809:Nat)≤BB^2:=by unfold BB;decide
 have e2:BB^2≤BB^32:=Nat.pow_le_pow_right qaX (by omega);have HX:=hid (jaS V_cx.out h1 h2);have HY:=hid (jaS V_cy.out (by omega) h3);have HM:=hid (jaR (D:=d) (cb:=cy) V_cx.out (by rw [V_cy.out,hy]) hR hc (by omega) (by omega) hd);clear hy hd hR hc h1 h2 h3 hcR e1 e2;obtain ⟨B0,w0,hw0,hB0,AB0,FR,FR0,HB0,hZB0⟩:=en1 w 27 (zQR V_cz);go_enter Tryz.func73,Tryz.ntmps73
 go_upto_region 1 with fail
 rw [←hw0,←hB0];clear hw0 hB0;refine wF [⟨false,0,4,7,B0,0,27,11,cR,0,cR,[]⟩] [(6,.int .i64 x),(7,.agg cx.toArray),(8,.int .i64 y),(9,.agg cy.toArray),(10,.tuple #[.agg cR.toArray,.int .i64 code]),(11,.agg cR.toArray),(12,.int .i64 code),(5,.int .i64 code)] (by simp only [zr,zq];rfl) (by kernel_rfl) ?_ ?_ (fP1 bnC) ?_ uno ?_ ?_
 ·intro W' hW';refine fo3 ?_ ?_ ?_<|fxo (by go_big_quiet_step ((go_at_call 101;exact qaA (HY.out _)));exact wqn rfl)<|fxo (by go_big_quiet_step ((go_at_call 99;exact qaA (HM.out _)));exact wqn rfl)<|fo2 ?_ ?_<|fxs rfl<|fxo ?_<|fxn;all_goals (go_big_quiet_step ((go_at_call 101;exact qaA (HX.out _)));exact wqn rfl)
 ·intro W' hK';refine fxi ?_<|fxs (by kernel_rfl)<|fxi ?_<|fxs (by kernel_rfl)<|fxs (by kernel_rfl)<|fxi ?_<|fxi ?_<|fxs (by kernel_rfl)<|fxi ?_<|fxn;all_goals (first|(refine .inr ?_;go_big_quiet_step (fail);exact wqn rfl)|exact .inl (by kernel_rfl))
 ·exact fP1 (fun _=>⟨AB0.out.lt,rfl,At.room AB0.out (qR V_cz.out) (qR V_cR.out)⟩)
 ·exact fP1 (sR V_cR (fun _=>rfl) rfl)
 intro β wx1 E;replace FR:=ffh FR E (by show B0≤B0;omega);replace AB0:=hid (show At wx1 B0 0 cR from E.atOld mms rfl AB0.out.lt);simp only [nP,zr,zq];clear E;go_wp2_with fail
 have hld:=AB0.out.read (P:=Tryz.prog) Tryz.underlying27 rfl (qR V_cR.out);refine bodyPost_ret (v:=.tuple #[.agg cR.toArray,.int .i64 code]) (by simp [results,Tryz.results73,asAddr,hld]) rfl ?_;exact ⟨rfl,fend HB0 FR⟩
end Go.Proofs.YtemoddmadfoaiaaGreat
namespace Go.Proofs.YtemoddmadfoaiaaGreat
open Go.RowKit Big
theorem At.low {w:World} {b:Nat} {c:List Value} {n:Bool} {v lo:Nat} (h:At w b 0 c) (hc:c=.bool n::lv 32 v) (hl:lo=lim v 0):w.cell? ⟨b,1,none⟩=some (.int .u32 (lo:Int)):=by
 subst hc hl
 have:=h.cell (j:=1) (v:=.int .u32 (lim v 0:Nat)) (by rw [List.getElem?_cons_succ];exact lv_get v (by omega))
 simpa using this
theorem qjR (n:Bool) (m:Nat):cs1 n m=decide (zI (cs1 n m) m<0)∧m=(zI (cs1 n m) m).natAbs:=by
 unfold cs1 zI;by_cases h:m=0<;>cases n<;>simp [h]<;>omega
section
open Ap
end
section
open Ap
theorem Row.below {w w':World} {d off:Nat} {l:List Int} (h:Row w d off l) (hb:Below w.heap.size w w') (hd:d<w.heap.size):Row w' d off l :=
 ⟨fun k x hk=>qcU (h.1 k x hk) hb,fun o=>by rw [hb.frozen (by simpa using hd)];exact h.2 o⟩
def Laid2 (w wx:World) (b7 bR:Nat) (l7 lR:List Int):Prop:=Row wx b7 0 l7∧Row wx bR 0 lR∧b7≠bR∧w.heap.size≤b7∧w.heap.size≤bR∧b7<wx.heap.size∧bR<wx.heap.size∧Below w.heap.size w wx
section
variable {w wx:World} {b7 bR:Nat} {l7 lR:List Int}
theorem Laid2.below {wy:World} (h:Laid2 w wx b7 bR l7 lR) (hb:Below wx.heap.size wx wy):Laid2 w wy b7 bR l7 lR:=by
 obtain ⟨h1,h2,h3,h4,h5,h6,h7,h8⟩:=h;exact ⟨h1.below hb h6,h2.below hb h7,h3,h4,h5,Nat.lt_of_lt_of_le h6 hb.size,Nat.lt_of_lt_of_le h7 hb.size,h8.trans (hb.mono h8.size)⟩
theorem Laid2.drewN (h:Laid2 w wx b7 bR l7 lR) (q:Nat):Laid2 w (wx.drewN q) b7 bR l7 lR:=h.below (below_drewN (Below.refl _ _) q)
end
theorem take_sum {ws:List Nat} {k x:Nat} (hx:ws[k]?=some x):sumL (ws.take (k+1))=sumL (ws.take k)+x:=by
 rw [List.take_add_one,hx,qpZ];simp [sumL]
end
end Go.Proofs.YtemoddmadfoaiaaGreat
namespace Go.Proofs.YtemoddmadfoaiaaGreat
open Go.RowKit Ap
end Go.Proofs.YtemoddmadfoaiaaGreat
