import Derived.Test.YtemoddmadfoaiaaGreatApI
import Derived.Test.YtemoddmadfoaiaaGreatGaB
import Derived.Test.YtemoddmadfoaiaaGreatQrA
import Derived.Test.YtemoddmadfoaiaaGreatPcA
import Derived.Test.YtemoddmadfoaiaaGreatBiN
import Derived.Test.YtemoddmadfoaiaaGreatApH
import Derived.Test.YtemoddmadfoaiaaGreatToA
set_option linter.unusedVariables false
set_option linter.unusedSimpArgs false
set_option maxRecDepth 100000
namespace Go.Proofs.YtemoddmadfoaiaaGreat
open Go.RowKit Big Al Tok Ap
theorem At.of_own {w:World} {B n g cap:Nat} {e:TypeId} {size:Nat} {xs:List Value} (h:w.ownsRow B e size (.slice (some ⟨g,0,none⟩) n cap) n xs):At w g 0 xs:=by
 have hc:=fun g'=>World.ownsRow.cells h (g:=g')
 rcases h.2 with ⟨h2,_⟩|⟨g',cap',cur,hv,hg,hh,hrest⟩
 ·cases h2
 ·injection hv with h1 h2 h3
  injection h1 with h1
  injection h1 with h1
  subst h1
  refine ⟨fun j u hj=>?_,fun j hj=>?_,(Array.getElem?_eq_some_iff.1 hh).1⟩
  ·have:=hc g rfl j u hj
   have hadd:(⟨g,0,none⟩:Addr).add j=⟨g,0+j,none⟩:=by unfold Addr.add;split<;>simp_all
   rwa [hadd] at this
  ·obtain ⟨u,hu⟩:∃ u,xs[j]?=some u:=⟨xs[j]'hj,List.getElem?_eq_getElem hj⟩
   have:=hc g rfl j u hu
   have hadd:(⟨g,0,none⟩:Addr).add j=⟨g,0+j,none⟩:=by unfold Addr.add;split<;>simp_all
   rw [hadd] at this
   exact ⟨by rw [this];rfl,frozen_of_row _ _ _ _ _ hh⟩
theorem jdZ {a b i j:Nat} (ha:a<BB^i) (hb:b<BB^j):a*b<BB^(i+j):=by
 rw [Nat.pow_add];exact Nat.mul_lt_mul'' ha hb
theorem jcP {a i j:Nat} (ha:a<BB^i) (hij:i≤j):a<BB^j:=Nat.lt_of_lt_of_le ha (Nat.pow_le_pow_right qaY hij)
namespace Al
end Al
def cellsQ (rs:List Qn):List Value:=rs.flatMap fun r=>ratZ r.1 r.2
theorem jdS (n:Nat):iZ (n:Int)=.bool false::lv 32 n:=by unfold iZ;rw [Int.natAbs_natCast,decide_eq_false (by omega)]
theorem At.grown {w w':World} {b o:Nat} {cs:List Value} {row:Option Nat} (h:At w b o cs) (hg:w.grownBy w' row) (hq:∀ q,row=some q→q≠b):At w' b o cs:=by
 have hk:=hg.block b h.lt (fun e=>hq b e.symm rfl)
 refine ⟨fun j v hj=>?_,fun j hj=>?_,Nat.lt_of_lt_of_le h.lt hg.size⟩
 ·rw [World.cell?_of_block (w:=w) hk];exact h.range j v hj
 ·rw [World.cell?_of_block (w:=w) hk,World.frozen?_of_block (w:=w) hk];exact h.there j hj
theorem Tryz.infoI33:(Tryz.prog.info? 25).map (·.size)=some 33:=by kernel_rfl
theorem qqQ {a b:Int} {i j:Nat} (ha:a.natAbs<BB^i) (hb:b.natAbs<BB^j):(a*b).natAbs<BB^(i+j):=by rw [Int.natAbs_mul];exact jdZ ha hb
structure ExB (c:Qn) (M o:Nat) (y:Int):Prop where
 n:c.1.natAbs<BB^15
 d:((c.2:Nat):Int).natAbs<BB^15
 m:((M:Nat):Int).natAbs<BB^2
 o:((o:Nat):Int).natAbs<BB^2
 y:y.natAbs<BB^2
 pos:c.2*M≠0
theorem ExB.num {c:Qn} {M o:Nat} {y:Int} (h:ExB c M o y):(c.1*(o:Int)+y*(c.2:Int)*(M:Int)).natAbs<BB^32:=by
 have h1:=jcP (qqQ h.n h.o) (show 15+2≤30 by omega)
 have h2:=jcP (qqQ (qqQ h.y h.d) h.m) (show 2+15+2≤30 by omega)
 have h3:=qwP
 omega
theorem ExB.den {c:Qn} {M o:Nat} {y:Int} (h:ExB c M o y):c.2*M<BB^32:=by
 have:=jcP (qqQ h.d h.m) (show 15+2≤32 by omega)
 rwa [←Int.natCast_mul,Int.natAbs_natCast] at this
end Go.Proofs.YtemoddmadfoaiaaGreat
set_option maxHeartbeats 8000000
namespace Go.Proofs.YtemoddmadfoaiaaGreat
open Go.RowKit Big
open Lib (hid)
theorem jaA {cr:List Value} {z:Int} (h:cr=iZ z) (h1:-9223372036854775808≤z) (h2:z≤9223372036854775807) (w:World) :
  Calls Tryz.prog 101 #[.int .i64 z] w fun e w'=>e=.returned (.agg cr.toArray)∧Below w.heap.size w w' :=
 jcF h rfl rfl h1 h2 w
theorem qrD {ca cb cR:List Value} {na n:Bool} {a b g p q:Nat} (h1:ca=.bool na::lv 32 a) (h2:cb=.bool false::lv 32 b) (hR:cR=rat false 0 false 0) (hg:g=Nat.gcd a b) (hp:p=a / g) (hq:q=b / g)
  (ha:a<BB^32) (hb:b<BB^32) (h0:b≠0) (hov:¬(p<B480∧q<B480)) (w:World) :
  Calls Tryz.prog 99 #[.agg ca.toArray,.agg cb.toArray] w fun e w'=>e=.returned (.tuple #[.agg cR.toArray,.int .i64 10])∧Below w.heap.size w w':=by
 have V_ca:=hid h1
 have V_cb:=hid h2
 have V_cR:=hid hR
 have hg0:g≠0:=by rw [hg];intro h;exact h0 (Nat.eq_zero_of_gcd_eq_zero_right h)
 have hga:g∣a:=by rw [hg];exact Nat.gcd_dvd_left a b
 have hgb:g∣b:=by rw [hg];exact Nat.gcd_dvd_right a b
 have hq0:q≠0:=by rw [hq];intro h;have:=Nat.div_mul_cancel hgb;rw [h] at this;omega
 have hgB:g<BB^32:=by rw [hg];exact qjC ha hb
 have hpB:p<BB^32:=by rw [hp];exact Nat.lt_of_le_of_lt (Nat.div_le_self _ _) ha
 have hqB:q<BB^32:=by rw [hq];exact Nat.lt_of_le_of_lt (Nat.div_le_self _ _) hb
 obtain ⟨x1,hx1⟩:=qaN p
 obtain ⟨x2,hx2⟩:=qaN q
 have hf1:=qfY hx1
 have hf2:=qfY hx2
 obtain ⟨hs1,hs2,hs3,hs4⟩:=qnA na false p q hq0
 obtain ⟨sn,hsn⟩:∃ s,s=cs1 na p:=⟨_,rfl⟩
 obtain ⟨s,hs⟩:∃ s,s=sgnI false b:=⟨_,rfl⟩
 have hse:(s==0)=false:=by
  rw [hs];unfold sgnI;rw [if_neg h0];rfl
 obtain ⟨cg,V_cg⟩:∃ c:List Value,Hid (c=.bool false::lv 32 g):=⟨_,hid rfl⟩
 obtain ⟨cN,V_cN⟩:∃ c:List Value,Hid (c=.bool sn::lv 32 p):=⟨_,hid rfl⟩
 obtain ⟨cD,V_cD⟩:∃ c:List Value,Hid (c=.bool false::lv 32 q):=⟨_,hid rfl⟩
 obtain ⟨ce,V_ce⟩:∃ c:List Value,Hid (c=.bool false::lv 32 0):=⟨_,hid rfl⟩
 obtain ⟨cz,V_cz⟩:∃ c:List Value,Hid (c=rat false 0 false 0):=⟨_,hid rfl⟩
 have HS:=hid (qjQ V_cb.out hs hb)
 have HG:=hid (jaH V_ca.out V_cb.out V_cg.out hg ha hb)
 have HDN:=hid (qgB (s:=sn) V_ca.out V_cg.out V_cN.out V_ce.out (by rw [hsn];cases na<;>rfl) (by rw [hp];exact (qcO na a g hga).1) (qcO na a g hga).2 ha hgB hg0)
 have HDD:=hid (qgB (s:=false) V_cb.out V_cg.out V_cD.out V_ce.out hs1.symm (by rw [hq];exact (qcO false b g hgb).1) (qcO false b g hgb).2 hb hgB hg0)
 have HS2:=hid (qjQ (s:=1) V_cD.out hs4.symm hqB)
 have HB1:=hid (qgP V_cN.out hpB hx1)
 have HB2:=hid (qgP V_cD.out hqB hx2)
 have hov2:(480:Int)<(x1:Int)∨(¬(480:Int)<(x1:Int)∧(480:Int)<(x2:Int)):=by
  by_cases h:(x1:Int)≤480
  ·refine .inr ⟨by omega,?_⟩
   by_cases h':(x2:Int)≤480
   ·exact absurd ⟨hf1.1 h,hf2.1 h'⟩ hov
   ·omega
  ·exact .inl (by omega)
 clear h1 h2 hR hg hp hq ha hb h0 hg0 hga hgb hq0 hgB hx1 hx2 hs1 hs2 hs3 hs4 hsn hs hpB hqB hf1 hf2 hov
 obtain ⟨B0,hB0⟩:∃ B,B=w.heap.size:=⟨_,rfl⟩
 obtain ⟨B1,hB1⟩:∃ B,B=w.heap.size+1:=⟨_,rfl⟩
 obtain ⟨B2,hB2⟩:∃ B,B=w.heap.size+1+1:=⟨_,rfl⟩
 obtain ⟨w0,hw0⟩:∃ w0,w0=(((w.alloc (.cells ca.toArray 25)).alloc (.cells cb.toArray 25)).alloc (.cells Tryz.zeroCells27 27)):=⟨_,rfl⟩
 have AB0:=hid (show At w0 B0 0 ca by rw [hw0];exact (((show At (w.alloc (.cells ca.toArray 25)) B0 0 ca from At.fresh _ ca _ (by simp [hB0])).alloc _).alloc _))
 have AB1:=hid (show At w0 B1 0 cb by rw [hw0];exact ((show At ((w.alloc (.cells ca.toArray 25)).alloc (.cells cb.toArray 25)) B1 0 cb from At.fresh _ cb _ (by simp [hB1])).alloc _))
 have AB2:=hid (show At w0 B2 0 cz by rw [hw0];exact (show At (((w.alloc (.cells ca.toArray 25)).alloc (.cells cb.toArray 25)).alloc (.cells Tryz.zeroCells27 27)) B2 0 cz from (by rw [Tryz.zeroR,V_cz.out];exact At.fresh _ (rat false 0 false 0) _ (by simp [hB2]))))
 have FR:=hid (show Fr B0 w w0 by rw [hw0,hB0];exact (((Fr.start w).alloc _).alloc _).alloc _)
 have FR0:=hid FR.out.le
 have l01:B0<B1:=by omega
 have hZB1:B0≤B1:=by omega
 have l12:B1<B2:=by omega
 have hZB2:B0≤B2:=by omega
 have hZB0:B0≤B0:=Nat.le_refl _
 have HB0:=hid hB0
 go_enter Tryz.func99,Tryz.ntmps99
 go_upto_region 1 with fail
 rw [←hw0,←hB2,←hB1,←hB0]
 clear hw0 hB0 hB1 hB2
 refine wfn [] [(13,.agg cb.toArray),(14,.int .i64 s),(15,.bool false)] _ (by simp only [zz4,zz5,zq];rfl) (by kernel_rfl) (by kernel_rfl) rfl ?_ ?_ ?_ ?_
 ·intro W' hW'
  have rd0:=AB1.out.below hW'
  refine fxo (wlg (by rfl) rfl rfl rd0 Tryz.underlying25 rfl (qI V_cb.out) (wqn (by simp only [zq]))) ?_
  refine fxo ?_ ?_;(go_big_quiet_step ((go_at_call 103;exact qaA (HS.out _)));(try simp only [zq]);exact wqn rfl)
  refine fxo ?_ ?_;(go_big_quiet_step (fail);(try simp only [zq]);exact wqn rfl)
  exact fxn
 ·exact oN
 ·exact oN
 intro β wx1 E
 replace FR:=hid (FR.out.fnw E rfl)
 replace AB0:=hid (AB0.out.fnw E rfl)
 replace AB1:=hid (AB1.out.fnw E rfl)
 replace AB2:=hid (AB2.out.fnw E rfl)
 have hE:=E.below rfl
 simp only [nP,zr,zq]
 replace FR0:=hid FR.out.le
 clear E
 clear hse
 go_upto_region 3 with fail
 refine wfn [⟨true,3,6,4,0,0,25,19,cg,0,cg,[]⟩] [(17,.agg ca.toArray),(18,.agg cb.toArray),(19,.agg cg.toArray)] _ (by simp only [zz4,zz5,zq];rfl) (by kernel_rfl) (by kernel_rfl) rfl ?_ ?_ ?_ ?_
 ·intro W' hW'
  have rd0:=AB0.out.below hW'
  have rd1:=AB1.out.below hW'
  refine fxo (wlg (by rfl) rfl rfl rd0 Tryz.underlying25 rfl (qI V_ca.out) (wqn (by simp only [zq]))) ?_
  refine fxo (wlg (by rfl) rfl rfl rd1 Tryz.underlying25 rfl (qI V_cb.out) (wqn (by simp only [zq]))) ?_
  refine fxo ?_ ?_;(go_big_quiet_step ((go_at_call 133;exact qaA (HG.out _)));(try simp only [zq]);exact wqn rfl)
  iterate 2 (refine fxs (by rfl) ?_)
  exact fxn
 ·exact oP _ _ (Tryz.alI (qI V_cg.out)) (oN)
 ·exact oP _ _ (stw rfl (qI V_cg.out) (qbZ V_cg.out) (fun _=>rfl)) (oN)
 intro β wx2 E
 replace FR:=hid (FR.out.fnw E rfl)
 obtain ⟨b6,hb6⟩:∃ b,b=β 3:=⟨_,rfl⟩
 have eb6:=E.atNew mms rfl
 simp only at eb6
 rw [←hb6] at eb6
 have lB0_b6:B0<b6:=by have h1:=eb6.1;have h2:=AB0.out.lt;omega
 have lB1_b6:B1<b6:=by have h1:=eb6.1;have h2:=AB1.out.lt;omega
 have lB2_b6:B2<b6:=by have h1:=eb6.1;have h2:=AB2.out.lt;omega
 have hZb6:B0≤b6:=by have h1:=eb6.1;have h2:=FR0.out;omega
 replace AB0:=hid (AB0.out.fnw E rfl)
 replace AB1:=hid (AB1.out.fnw E rfl)
 replace AB2:=hid (AB2.out.fnw E rfl)
 have Ab6:=hid eb6.2
 simp only [nP,zr,zq]
 rw [←hb6]
 replace FR0:=hid FR.out.le
 clear E eb6 hb6
 go_upto_region 4 with fail
 refine wfn [⟨true,7,7,9,0,0,25,24,cN,0,cN,[]⟩,⟨true,8,8,10,0,0,25,25,ce,0,ce,[]⟩] [(21,.agg ca.toArray),(22,.agg cg.toArray),(23,.tuple #[.agg cN.toArray,.agg ce.toArray,.int .i64 0]),(20,.tuple #[.agg cN.toArray,.agg ce.toArray,.int .i64 0]),(24,.agg cN.toArray),(25,.agg ce.toArray),(26,.int .i64 0),(9,.int .i64 0)] _ (by simp only [zz4,zz5,zq];rfl) (by kernel_rfl) (by kernel_rfl) rfl ?_ ?_ ?_ ?_
 ·intro W' hW'
  have rd0:=AB0.out.below hW'
  have rd1:=Ab6.out.below hW'
  refine fxo (wlg (by rfl) rfl rfl rd0 Tryz.underlying25 rfl (qI V_ca.out) (wqn (by simp only [zq]))) ?_
  refine fxo (wlg (by rfl) rfl rfl rd1 Tryz.underlying25 rfl (qI V_cg.out) (wqn (by simp only [zq]))) ?_
  refine fxo ?_ ?_;(go_big_quiet_step ((go_at_call 134;exact qaA (HDN.out _)));(try simp only [zq]);exact wqn rfl)
  iterate 4 (refine fxo ?_ ?_;(go_big_quiet_step (fail);(try simp only [zq]);exact wqn rfl))
  iterate 4 (refine fxs (by rfl) ?_)
  refine fxo ?_ ?_;(go_big_quiet_step (fail);(try simp only [zq]);exact wqn rfl)
  exact fxn
 ·exact oP _ _ (Tryz.alI (qI V_cN.out)) (oP _ _ (Tryz.alI (qI V_ce.out)) (oN))
 ·exact oP _ _ (stw rfl (qI V_cN.out) (qbZ V_cN.out) (fun _=>rfl)) (oP _ _ (stw rfl (qI V_ce.out) (qbZ V_ce.out) (fun _=>rfl)) (oN))
 intro β wx3 E
 replace FR:=hid (FR.out.fnw E rfl)
 obtain ⟨b7,hb7⟩:∃ b,b=β 7:=⟨_,rfl⟩
 have eb7:=E.atNew mms rfl
 simp only at eb7
 rw [←hb7] at eb7
 have lB0_b7:B0<b7:=by have h1:=eb7.1;have h2:=AB0.out.lt;omega
 have lB1_b7:B1<b7:=by have h1:=eb7.1;have h2:=AB1.out.lt;omega
 have lB2_b7:B2<b7:=by have h1:=eb7.1;have h2:=AB2.out.lt;omega
 have lb6_b7:b6<b7:=by have h1:=eb7.1;have h2:=Ab6.out.lt;omega
 have hZb7:B0≤b7:=by have h1:=eb7.1;have h2:=FR0.out;omega
 obtain ⟨b8,hb8⟩:∃ b,b=β 8:=⟨_,rfl⟩
 have eb8:=E.atNew (List.mem_cons_of_mem _ mms) rfl
 simp only at eb8
 rw [←hb8] at eb8
 have lB0_b8:B0<b8:=by have h1:=eb8.1;have h2:=AB0.out.lt;omega
 have lB1_b8:B1<b8:=by have h1:=eb8.1;have h2:=AB1.out.lt;omega
 have lB2_b8:B2<b8:=by have h1:=eb8.1;have h2:=AB2.out.lt;omega
 have lb6_b8:b6<b8:=by have h1:=eb8.1;have h2:=Ab6.out.lt;omega
 have hZb8:B0≤b8:=by have h1:=eb8.1;have h2:=FR0.out;omega
 have nb7_b8:b7≠b8:=fun e=>absurd (E.apart _ mms _ (List.mem_cons_of_mem _ mms) rfl rfl (by rw [hb7,hb8] at e;exact e)) (show ¬(7:Nat)=8 by decide)
 clear AB0
 replace AB1:=hid (AB1.out.fnw E rfl)
 replace AB2:=hid (AB2.out.fnw E rfl)
 replace Ab6:=hid (Ab6.out.fnw E rfl)
 have Ab7:=hid eb7.2
 have Ab8:=hid eb8.2
 simp only [nP,zr,zq]
 rw [←hb7]
 rw [←hb8]
 replace FR0:=hid FR.out.le
 clear E eb7 hb7 eb8 hb8
 go_upto_region 5 with fail
 refine wfn [⟨true,7,10,9,0,0,25,31,cD,0,cD,[]⟩,⟨true,8,11,10,0,0,25,32,ce,0,ce,[]⟩] [(28,.agg cb.toArray),(29,.agg cg.toArray),(30,.tuple #[.agg cD.toArray,.agg ce.toArray,.int .i64 0]),(27,.tuple #[.agg cD.toArray,.agg ce.toArray,.int .i64 0]),(31,.agg cD.toArray),(32,.agg ce.toArray),(33,.int .i64 0),(12,.int .i64 0)] _ (by simp only [zz4,zz5,zq];rfl) (by kernel_rfl) (by kernel_rfl) rfl ?_ ?_ ?_ ?_
 ·intro W' hW'
  have rd0:=AB1.out.below hW'
  have rd1:=Ab6.out.below hW'
  refine fxo (wlg (by rfl) rfl rfl rd0 Tryz.underlying25 rfl (qI V_cb.out) (wqn (by simp only [zq]))) ?_
  refine fxo (wlg (by rfl) rfl rfl rd1 Tryz.underlying25 rfl (qI V_cg.out) (wqn (by simp only [zq]))) ?_
  refine fxo ?_ ?_;(go_big_quiet_step ((go_at_call 134;exact qaA (HDD.out _)));(try simp only [zq]);exact wqn rfl)
  iterate 4 (refine fxo ?_ ?_;(go_big_quiet_step (fail);(try simp only [zq]);exact wqn rfl))
  iterate 4 (refine fxs (by rfl) ?_)
  refine fxo ?_ ?_;(go_big_quiet_step (fail);(try simp only [zq]);exact wqn rfl)
  exact fxn
 ·exact oP _ _ (Tryz.alI (qI V_cD.out)) (oP _ _ (Tryz.alI (qI V_ce.out)) (oN))
 ·exact oP _ _ (stw rfl (qI V_cD.out) (qbZ V_cD.out) (fun _=>rfl)) (oP _ _ (stw rfl (qI V_ce.out) (qbZ V_ce.out) (fun _=>rfl)) (oN))
 intro β wx4 E
 replace FR:=hid (FR.out.fnw E rfl)
 obtain ⟨b10,hb10⟩:∃ b,b=β 7:=⟨_,rfl⟩
 have eb10:=E.atNew mms rfl
 simp only at eb10
 rw [←hb10] at eb10
 have lB1_b10:B1<b10:=by have h1:=eb10.1;have h2:=AB1.out.lt;omega
 have lB2_b10:B2<b10:=by have h1:=eb10.1;have h2:=AB2.out.lt;omega
 have lb6_b10:b6<b10:=by have h1:=eb10.1;have h2:=Ab6.out.lt;omega
 have lb7_b10:b7<b10:=by have h1:=eb10.1;have h2:=Ab7.out.lt;omega
 have lb8_b10:b8<b10:=by have h1:=eb10.1;have h2:=Ab8.out.lt;omega
 have hZb10:B0≤b10:=by have h1:=eb10.1;have h2:=FR0.out;omega
 obtain ⟨b11,hb11⟩:∃ b,b=β 8:=⟨_,rfl⟩
 have eb11:=E.atNew (List.mem_cons_of_mem _ mms) rfl
 simp only at eb11
 rw [←hb11] at eb11
 have lB1_b11:B1<b11:=by have h1:=eb11.1;have h2:=AB1.out.lt;omega
 have lB2_b11:B2<b11:=by have h1:=eb11.1;have h2:=AB2.out.lt;omega
 have lb6_b11:b6<b11:=by have h1:=eb11.1;have h2:=Ab6.out.lt;omega
 have lb7_b11:b7<b11:=by have h1:=eb11.1;have h2:=Ab7.out.lt;omega
 have lb8_b11:b8<b11:=by have h1:=eb11.1;have h2:=Ab8.out.lt;omega
 have hZb11:B0≤b11:=by have h1:=eb11.1;have h2:=FR0.out;omega
 have nb10_b11:b10≠b11:=fun e=>absurd (E.apart _ mms _ (List.mem_cons_of_mem _ mms) rfl rfl (by rw [hb10,hb11] at e;exact e)) (show ¬(7:Nat)=8 by decide)
 clear AB1
 replace AB2:=hid (AB2.out.fnw E rfl)
 clear Ab6
 replace Ab7:=hid (Ab7.out.fnw E rfl)
 clear Ab8
 have Ab10:=hid eb10.2
 have Ab11:=hid eb11.2
 simp only [nP,zr,zq]
 rw [←hb10]
 rw [←hb11]
 replace FR0:=hid FR.out.le
 clear E eb10 hb10 eb11 hb11
 go_upto_region 6 with fail
 refine wfn [] [(34,.agg cD.toArray),(35,.int .i64 1),(36,.bool false)] _ (by simp only [zz4,zz5,zq];rfl) (by kernel_rfl) (by kernel_rfl) rfl ?_ ?_ ?_ ?_
 ·intro W' hW'
  have rd0:=Ab10.out.below hW'
  refine fxo (wlg (by rfl) rfl rfl rd0 Tryz.underlying25 rfl (qI V_cD.out) (wqn (by simp only [zq]))) ?_
  refine fxo ?_ ?_;(go_big_quiet_step ((go_at_call 103;exact qaA (HS2.out _)));(try simp only [zq]);exact wqn rfl)
  refine fxo ?_ ?_;(go_big_quiet_step (fail);(try simp only [zq]);exact wqn rfl)
  exact fxn
 ·exact oN
 ·exact oN
 intro β wx5 E
 replace FR:=hid (FR.out.fnw E rfl)
 replace AB2:=hid (AB2.out.fnw E rfl)
 replace Ab7:=hid (Ab7.out.fnw E rfl)
 replace Ab10:=hid (Ab10.out.fnw E rfl)
 replace Ab11:=hid (Ab11.out.fnw E rfl)
 have hE:=E.below rfl
 simp only [nP,zr,zq]
 replace FR0:=hid FR.out.le
 clear E
 go_upto_region 8 with fail
 rcases hov2 with h1|⟨h1,h2⟩
 ·refine wfn [] [(41,.agg cN.toArray),(42,.int .i64 (x1:Int)),(43,.bool true),(44,.bool true),(45,undef),(46,undef),(47,undef),(48,.bool true)] _ (by simp only [zz4,zz5,zq];rfl) (by kernel_rfl) (by kernel_rfl) rfl ?_ ?_ ?_ ?_
  ·intro W' hW'
   have rd0:=Ab7.out.below hW'
   refine fxo (wlg (by rfl) rfl rfl rd0 Tryz.underlying25 rfl (qI V_cN.out) (wqn (by simp only [zq]))) ?_
   refine fxo ?_ ?_;(go_big_quiet_step ((go_at_call 132;exact qaA (HB1.out _)));(try simp only [zq]);exact wqn rfl)
   iterate 6 (refine fxo ?_ ?_;(go_big_quiet_step (fail);(try simp only [zq]);exact wqn rfl))
   exact fxn
  ·exact oN
  ·exact oN
  intro β wx6 E
  replace FR:=hid (FR.out.fnw E rfl)
  replace AB2:=hid (AB2.out.fnw E rfl)
  replace Ab7:=hid (Ab7.out.fnw E rfl)
  replace Ab10:=hid (Ab10.out.fnw E rfl)
  replace Ab11:=hid (Ab11.out.fnw E rfl)
  have hE:=E.below rfl
  simp only [nP,zr,zq]
  replace FR0:=hid FR.out.le
  clear E
  go_upto_region 9 with fail
  refine qwf [⟨false,0,4,1,B2,0,27,49,cR,0,cR,[]⟩] [(49,.agg cR.toArray),(5,.int .i64 10)] _ (by simp only [zz4,zz5,zq];rfl) (by kernel_rfl) (by kernel_rfl) ?_ ?_ ?_ ?_ ?_ ?_ ?_
  ·intro W' hW'
   refine fxo (wqB rfl _ _ rfl _ rfl _ (qbJ V_cR.out) (wqn (by simp only [zq]))) ?_
   refine fxs (by rfl) ?_
   refine fxo ?_ ?_;(go_big_quiet_step (fail);(try simp only [zq]);exact wqn rfl)
   exact fxn
  ·intro W' hK'
   refine fxo (wqB rfl _ _ rfl _ rfl _ (qbJ V_cR.out) (wqn (by simp only [zq]))) ?_
   refine fxs (by kernel_rfl) ?_
   first|(refine fxo ?_ ?_;(go_big_quiet_step (fail);(try simp only [zq]);exact wqn rfl))|(refine fxs (by kernel_rfl) ?_)
   exact fxn
  ·exact oP _ _ (bnc) (oN)
  ·exact oP _ _ (fun _=>⟨AB2.out.lt,rfl,At.room AB2.out (qR V_cz.out) (qR V_cR.out)⟩) (oN)
  ·exact uno
  ·exact oP _ _ (stw rfl (qR V_cR.out) (qfI V_cR.out) (fun _=>rfl)) (oN)
  intro β wx7 E
  replace FR:=hid (FR.out.flow E (oP _ _ (fun _=>(by show B0≤B2;omega)) (oN)))
  replace AB2:=hid (show At wx7 B2 0 cR from E.atOld mms rfl AB2.out.lt)
  replace Ab7:=hid (At.flow E Ab7.out (oP _ _ (fun _=>(by show B2≠b7;omega)) (oN)))
  replace Ab10:=hid (At.flow E Ab10.out (oP _ _ (fun _=>(by show B2≠b10;omega)) (oN)))
  replace Ab11:=hid (At.flow E Ab11.out (oP _ _ (fun _=>(by show B2≠b11;omega)) (oN)))
  simp only [nP,zr,zq]
  replace FR0:=hid FR.out.le
  clear E
  go_wp2_with fail
  have hld:=AB2.out.read (P:=Tryz.prog) Tryz.underlying27 rfl (qR V_cR.out)
  refine bodyPost_ret (v:=.tuple #[.agg cR.toArray,.int .i64 10]) (by simp [results,Tryz.results99,asAddr,hld]) rfl ?_
  exact ⟨rfl,fend HB0 FR⟩
 ·refine wfn [] [(41,.agg cN.toArray),(42,.int .i64 (x1:Int)),(43,.bool false),(44,.bool false),(45,.agg cD.toArray),(46,.int .i64 (x2:Int)),(47,.bool true),(48,.bool true)] _ (by simp only [zz4,zz5,zq];rfl) (by kernel_rfl) (by kernel_rfl) rfl ?_ ?_ ?_ ?_
  ·intro W' hW'
   have rd0:=Ab7.out.below hW'
   have rd1:=Ab10.out.below hW'
   refine fxo (wlg (by rfl) rfl rfl rd0 Tryz.underlying25 rfl (qI V_cN.out) (wqn (by simp only [zq]))) ?_
   refine fxo ?_ ?_;(go_big_quiet_step ((go_at_call 132;exact qaA (HB1.out _)));(try simp only [zq]);exact wqn rfl)
   iterate 2 (refine fxo ?_ ?_;(go_big_quiet_step (fail);(try simp only [zq]);exact wqn rfl))
   refine fxo (wlg (by rfl) rfl rfl rd1 Tryz.underlying25 rfl (qI V_cD.out) (wqn (by simp only [zq]))) ?_
   refine fxo ?_ ?_;(go_big_quiet_step ((go_at_call 132;exact qaA (HB2.out _)));(try simp only [zq]);exact wqn rfl)
   iterate 2 (refine fxo ?_ ?_;(go_big_quiet_step (fail);(try simp only [zq]);exact wqn rfl))
   exact fxn
  ·exact oN
  ·exact oN
  intro β wx6 E
  replace FR:=hid (FR.out.fnw E rfl)
  replace AB2:=hid (AB2.out.fnw E rfl)
  replace Ab7:=hid (Ab7.out.fnw E rfl)
  replace Ab10:=hid (Ab10.out.fnw E rfl)
  replace Ab11:=hid (Ab11.out.fnw E rfl)
  have hE:=E.below rfl
  simp only [nP,zr,zq]
  replace FR0:=hid FR.out.le
  clear E
  go_upto_region 9 with fail
  refine qwf [⟨false,0,4,1,B2,0,27,49,cR,0,cR,[]⟩] [(49,.agg cR.toArray),(5,.int .i64 10)] _ (by simp only [zz4,zz5,zq];rfl) (by kernel_rfl) (by kernel_rfl) ?_ ?_ ?_ ?_ ?_ ?_ ?_
  ·intro W' hW'
   refine fxo (wqB rfl _ _ rfl _ rfl _ (qbJ V_cR.out) (wqn (by simp only [zq]))) ?_
   refine fxs (by rfl) ?_
   refine fxo ?_ ?_;(go_big_quiet_step (fail);(try simp only [zq]);exact wqn rfl)
   exact fxn
  ·intro W' hK'
   refine fxo (wqB rfl _ _ rfl _ rfl _ (qbJ V_cR.out) (wqn (by simp only [zq]))) ?_
   refine fxs (by kernel_rfl) ?_
   first|(refine fxo ?_ ?_;(go_big_quiet_step (fail);(try simp only [zq]);exact wqn rfl))|(refine fxs (by kernel_rfl) ?_)
   exact fxn
  ·exact oP _ _ (bnc) (oN)
  ·exact oP _ _ (fun _=>⟨AB2.out.lt,rfl,At.room AB2.out (qR V_cz.out) (qR V_cR.out)⟩) (oN)
  ·exact uno
  ·exact oP _ _ (stw rfl (qR V_cR.out) (qfI V_cR.out) (fun _=>rfl)) (oN)
  intro β wx7 E
  replace FR:=hid (FR.out.flow E (oP _ _ (fun _=>(by show B0≤B2;omega)) (oN)))
  replace AB2:=hid (show At wx7 B2 0 cR from E.atOld mms rfl AB2.out.lt)
  replace Ab7:=hid (At.flow E Ab7.out (oP _ _ (fun _=>(by show B2≠b7;omega)) (oN)))
  replace Ab10:=hid (At.flow E Ab10.out (oP _ _ (fun _=>(by show B2≠b10;omega)) (oN)))
  replace Ab11:=hid (At.flow E Ab11.out (oP _ _ (fun _=>(by show B2≠b11;omega)) (oN)))
  simp only [nP,zr,zq]
  replace FR0:=hid FR.out.le
  clear E
  go_wp2_with fail
  have hld:=AB2.out.read (P:=Tryz.prog) Tryz.underlying27 rfl (qR V_cR.out)
  refine bodyPost_ret (v:=.tuple #[.agg cR.toArray,.int .i64 10]) (by simp [results,Tryz.results99,asAddr,hld]) rfl ?_
  exact ⟨rfl,fend HB0 FR⟩
theorem jdE {ca cb:List Value} {N:Int} {D:Nat} (h1:ca=iZ N) (h2:cb=iZ (D:Int)) {cR:List Value} {code:Int} (hR:cR=resR (mkQ N D)) (hc:code=resE (mkQ N D)) (ha:N.natAbs<BB^32) (hb:D<BB^32) (h0:D≠0) (w:World) :
  Calls Tryz.prog 99 #[.agg ca.toArray,.agg cb.toArray] w fun e w'=>e=.returned (.tuple #[.agg cR.toArray,.int .i64 code])∧Below w.heap.size w w':=by
 have hs:=qfN N (N.natAbs / Nat.gcd N.natAbs D) (fun h0=>by subst h0;simp)
 have h2':cb=.bool false::lv 32 D:=by rw [h2,jdS]
 by_cases hbd:N.natAbs / Nat.gcd N.natAbs D<B480∧D / Nat.gcd N.natAbs D<B480
 ·obtain rfl:code=0:=by rw [hc];unfold mkQ;rw [if_pos hbd];rfl
  refine jbZ (na:=decide (N<0)) (nb:=false) (n:=cs1 (decide (N<0)) (N.natAbs / Nat.gcd N.natAbs D)) (a:=N.natAbs) (b:=D) (g:=Nat.gcd N.natAbs D) h1 h2' ?_ (by simp) rfl rfl rfl ha hb h0 hbd.1 hbd.2 w
  rw [hR];unfold mkQ;rw [if_pos hbd]
  simp only [resR,ratZ]
  rw [hs.1,hs.2]
 ·obtain rfl:code=10:=by rw [hc];unfold mkQ;rw [if_neg hbd];rfl
  exact qrD (n:=false) h1 h2' (by rw [hR];unfold mkQ;rw [if_neg hbd];rfl) rfl rfl rfl ha hb h0 hbd w
theorem rofQ {cR:List Value} {x y:Int} {d:Nat} {code:Int} (hy:y=(d:Int)) (hd:d≠0) (hR:cR=resR (mkQ x d)) (hc:code=resE (mkQ x d)) (h1:-9223372036854775808≤x) (h2:x≤9223372036854775807) (h3:y≤9223372036854775807) (w:World) :
  Calls Tryz.prog 73 #[.int .i64 x,.int .i64 y] w fun e w'=>e=.returned (.tuple #[.agg cR.toArray,.int .i64 code])∧Below w.heap.size w w':=by
 obtain ⟨rn,rp,rm,rq,hcR⟩:∃ rn rp rm rq,cR=rat rn rp rm rq:=by
  rw [hR]
  cases mkQ x d with
  | none=>exact ⟨_,_,_,_,rfl⟩
  | some r=>exact ⟨_,_,_,_,rfl⟩
 have V_cR:=hid hcR
 obtain ⟨cz,V_cz⟩:∃ c:List Value,Hid (c=rat false 0 false 0):=⟨_,hid rfl⟩
 obtain ⟨cx,V_cx⟩:∃ c:List Value,Hid (c=iZ x):=⟨_,hid rfl⟩
 obtain ⟨cy,V_cy⟩:∃ c:List Value,Hid (c=iZ y):=⟨_,hid rfl⟩
 have e1:(9223372036854775809:Nat)≤BB^2:=by unfold BB;decide
 have e2:BB^2≤BB^32:=Nat.pow_le_pow_right qaY (by omega)
 have HX:=hid (jaA V_cx.out h1 h2)
 have HY:=hid (jaA V_cy.out (by omega) h3)
 have HM:=hid (jdE (D:=d) (cb:=cy) V_cx.out (by rw [V_cy.out,hy]) hR hc (by omega) (by omega) hd)
 clear hy hd hR hc h1 h2 h3 hcR e1 e2
 obtain ⟨B0,hB0⟩:∃ B,B=w.heap.size:=⟨_,rfl⟩
 obtain ⟨w0,hw0⟩:∃ w0,w0=(w.alloc (.cells Tryz.zeroCells27 27)):=⟨_,rfl⟩
 have AB0:=hid (show At w0 B0 0 cz by rw [hw0];exact (show At (w.alloc (.cells Tryz.zeroCells27 27)) B0 0 cz from (by rw [Tryz.zeroR,V_cz.out];exact At.fresh _ (rat false 0 false 0) _ (by simp [hB0]))))
 have FR:=hid (show Fr B0 w w0 by rw [hw0,hB0];exact (Fr.start w).alloc _)
 have FR0:=hid FR.out.le
 have hZB0:B0≤B0:=Nat.le_refl _
 have HB0:=hid hB0
 go_enter Tryz.func73,Tryz.ntmps73
 go_upto_region 1 with fail
 rw [←hw0,←hB0]
 clear hw0 hB0
 refine qwf [⟨false,0,4,7,B0,0,27,11,cR,0,cR,[]⟩] [(6,.int .i64 x),(7,.agg cx.toArray),(8,.int .i64 y),(9,.agg cy.toArray),(10,.tuple #[.agg cR.toArray,.int .i64 code]),(11,.agg cR.toArray),(12,.int .i64 code),(5,.int .i64 code)] _ (by simp only [zz4,zz5,zq];rfl) (by kernel_rfl) (by kernel_rfl) ?_ ?_ ?_ ?_ ?_ ?_ ?_
 ·intro W' hW'
  refine fxo ?_ ?_;(go_big_quiet_step (fail);(try simp only [zq]);exact wqn rfl)
  refine fxo ?_ ?_;(go_big_quiet_step ((go_at_call 101;exact qaA (HX.out _)));(try simp only [zq]);exact wqn rfl)
  refine fxo ?_ ?_;(go_big_quiet_step (fail);(try simp only [zq]);exact wqn rfl)
  refine fxo ?_ ?_;(go_big_quiet_step ((go_at_call 101;exact qaA (HY.out _)));(try simp only [zq]);exact wqn rfl)
  refine fxo ?_ ?_;(go_big_quiet_step ((go_at_call 99;exact qaA (HM.out _)));(try simp only [zq]);exact wqn rfl)
  iterate 2 (refine fxo ?_ ?_;(go_big_quiet_step (fail);(try simp only [zq]);exact wqn rfl))
  refine fxs (by rfl) ?_
  refine fxo ?_ ?_;(go_big_quiet_step (fail);(try simp only [zq]);exact wqn rfl)
  exact fxn
 ·intro W' hK'
  first|(refine fxo ?_ ?_;(go_big_quiet_step (fail);(try simp only [zq]);exact wqn rfl))|(refine fxs (by kernel_rfl) ?_)
  refine fxs (by kernel_rfl) ?_
  first|(refine fxo ?_ ?_;(go_big_quiet_step (fail);(try simp only [zq]);exact wqn rfl))|(refine fxs (by kernel_rfl) ?_)
  iterate 2 (refine fxs (by kernel_rfl) ?_)
  iterate 2 (first|(refine fxo ?_ ?_;(go_big_quiet_step (fail);(try simp only [zq]);exact wqn rfl))|(refine fxs (by kernel_rfl) ?_))
  refine fxs (by kernel_rfl) ?_
  first|(refine fxo ?_ ?_;(go_big_quiet_step (fail);(try simp only [zq]);exact wqn rfl))|(refine fxs (by kernel_rfl) ?_)
  exact fxn
 ·exact oP _ _ (bnc) (oN)
 ·exact oP _ _ (fun _=>⟨AB0.out.lt,rfl,At.room AB0.out (qR V_cz.out) (qR V_cR.out)⟩) (oN)
 ·exact uno
 ·exact oP _ _ (stw rfl (qR V_cR.out) (qfI V_cR.out) (fun _=>rfl)) (oN)
 intro β wx1 E
 replace FR:=hid (FR.out.flow E (oP _ _ (fun _=>(by show B0≤B0;omega)) (oN)))
 replace AB0:=hid (show At wx1 B0 0 cR from E.atOld mms rfl AB0.out.lt)
 simp only [nP,zr,zq]
 replace FR0:=hid FR.out.le
 clear E
 go_wp2_with fail
 have hld:=AB0.out.read (P:=Tryz.prog) Tryz.underlying27 rfl (qR V_cR.out)
 refine bodyPost_ret (v:=.tuple #[.agg cR.toArray,.int .i64 code]) (by simp [results,Tryz.results73,asAddr,hld]) rfl ?_
 exact ⟨rfl,fend HB0 FR⟩
end Go.Proofs.YtemoddmadfoaiaaGreat
namespace Go.Proofs.YtemoddmadfoaiaaGreat
open Go.RowKit Big
theorem At.low {w:World} {b:Nat} {c:List Value} {n:Bool} {v lo:Nat} (h:At w b 0 c) (hc:c=.bool n::lv 32 v) (hl:lo=lim v 0):w.cell? ⟨b,1,none⟩=some (.int .u32 (lo:Int)):=by
 subst hc hl
 have:=h.cell (j:=1) (v:=.int .u32 (lim v 0:Nat)) (by rw [List.getElem?_cons_succ];exact qpU v (by omega))
 simpa using this
section
open Ap
end
section
open Ap
theorem Row.below {w w':World} {d off:Nat} {l:List Int} (h:Row w d off l) (hb:Below w.heap.size w w') (hd:d<w.heap.size):Row w' d off l :=
 ⟨fun k x hk=>qcU (h.1 k x hk) hb,fun o=>by rw [hb.frozen (by simpa using hd)];exact h.2 o⟩
def Laid2 (w wx:World) (b7 bR:Nat) (l7 lR:List Int):Prop:=Row wx b7 0 l7∧Row wx bR 0 lR∧b7≠bR∧w.heap.size≤b7∧w.heap.size≤bR∧b7<wx.heap.size∧bR<wx.heap.size∧Below w.heap.size w wx
section
variable {w wx:World} {b7 bR:Nat} {l7 lR:List Int}
theorem Laid2.below {wy:World} (h:Laid2 w wx b7 bR l7 lR) (hb:Below wx.heap.size wx wy):Laid2 w wy b7 bR l7 lR:=by
 obtain ⟨h1,h2,h3,h4,h5,h6,h7,h8⟩:=h
 exact ⟨h1.below hb h6,h2.below hb h7,h3,h4,h5,Nat.lt_of_lt_of_le h6 hb.size,Nat.lt_of_lt_of_le h7 hb.size,h8.trans (hb.mono h8.size)⟩
theorem Laid2.drewN (h:Laid2 w wx b7 bR l7 lR) (q:Nat):Laid2 w (wx.drewN q) b7 bR l7 lR:=h.below (below_drewN (Below.refl _ _) q)
end
theorem take_sum {ws:List Nat} {k x:Nat} (hx:ws[k]?=some x):sumL (ws.take (k+1))=sumL (ws.take k)+x:=by
 rw [List.take_add_one,hx,qpM];simp [sumL]
end
end Go.Proofs.YtemoddmadfoaiaaGreat
namespace Go.Proofs.YtemoddmadfoaiaaGreat
open Go.RowKit Ap
end Go.Proofs.YtemoddmadfoaiaaGreat
