import Derived.Test.YtemoddmadfoaiaaGreatPcA
import Derived.Test.YtemoddmadfoaiaaGreatEvA
set_option linter.unusedVariables false
set_option linter.unusedSimpArgs false
set_option maxRecDepth 100000
set_option maxHeartbeats 8000000
namespace Go.Proofs.YtemoddmadfoaiaaGreat
open Go.RowKit Big
open Lib (hid)
theorem jaV {ca cr:List Value} {na n:Bool} {a:Nat} (h:ca=.bool na::lv 32 a) (hr:cr=.bool n::lv 32 a) (hn:n=cs1 (!na) a) (ha:a<BB^32) (w:World) :
  Calls Tryz.prog 135 #[.agg ca.toArray] w fun e w'=>e=.returned (.agg cr.toArray)∧Below w.heap.size w w':=by
 have V_ca:=hid h;have V_cr:=hid hr;obtain ⟨ma,V_ma⟩:∃ c:List Value,Hid (c=lv 32 a):=⟨_,hid rfl⟩;obtain ⟨cz,V_cz⟩:∃ c:List Value,Hid (c=.bool false::lv 32 0):=⟨_,hid rfl⟩;have HC:=hid (qqV (neg:=!na) V_ma.out V_cr.out hn ha);clear h hr hn ha;obtain ⟨B0,B1,w0,hw0,hB0,hB1,AB0,AB1,FR,FR0,HB0,hZB0,l01,hZB1⟩:=en2 w 25 25 (bxq ca) (zQI V_cz);unfold zero33 at hw0;go_enter Tryz.func135,Tryz.ntmps135
 go_upto_region 1 with fail
 rw [←hw0,←hB1,←hB0];clear hw0 hB0 hB1;have AB0_1:=hid (AB0.out.mag V_ca.out V_ma.out);refine wF [⟨false,0,2,6,B1,0,25,8,cr,0,cr,[]⟩] [(3,.pointer (some ⟨B0,0,none⟩)),(4,.bool na),(5,.bool (!na)),(6,.pointer (some ⟨B0,1,none⟩)),(7,.agg ma.toArray),(8,.agg cr.toArray)] (by simp only [zr,zq];rfl) (by kernel_rfl) ?_ ?_ (fP1 bnC) ?_ uno ?_ ?_
 ·intro W' hW';have cl0:=fun p os=>qaC ((AB0.out.below hW').neg V_ca.out) p os
  refine fo4 ?_ ?_ ?_ ?_<|fxl (abl AB0_1 hW') (qcI V_ma.out) Tryz.underlying23 rfl rfl<|fxo ?_<|fxs rfl<|fxn;all_goals (go_big_quiet_step ((go_at_call 139;exact qaA (HC.out _)));exact wqn rfl)
 ·intro W' hK';have rd0:=akh AB0_1 hK' (by show B1≠B0;omega);refine fxi ?_<|fxi ?_<|fxi ?_<|fxi ?_<|fxl rd0 (qcI V_ma.out) Tryz.underlying23 rfl rfl<|fxs (by kernel_rfl)<|fxs (by kernel_rfl)<|fxn;all_goals (first|(refine .inr ?_;go_big_quiet_step (fail);exact wqn rfl)|exact .inl (by kernel_rfl))
 ·exact fP1 (fun _=>⟨AB1.out.lt,rfl,At.room AB1.out (qI V_cz.out) (qI V_cr.out)⟩)
 ·exact fP1 (sI V_cr (fun _=>rfl) rfl)
 intro β wx1 E;replace FR:=ffh FR E (by show B0≤B1;omega);replace AB0:=afh AB0 E (by show B1≠B0;omega);replace AB1:=hid (show At wx1 B1 0 cr from E.atOld mms rfl AB1.out.lt);replace AB0_1:=afh AB0_1 E (by show B1≠B0;omega);simp only [nP,zr,zq];clear E;go_wp2_with fail
 have hld:=AB1.out.read (P:=Tryz.prog) Tryz.underlying25 rfl (qI V_cr.out);refine bodyPost_ret (v:=.agg cr.toArray) (by simp [results,Tryz.results135,asAddr,hld]) rfl ?_;exact ⟨rfl,fend HB0 FR⟩
theorem qqO {c d g:List Value} {na nb:Bool} {a b G:Nat} (hc:c=.bool na::lv 32 a) (hd:d=.bool nb::lv 32 b) (hg:g=.bool false::lv 32 G) (hG:G=Nat.gcd a b) (ha:a<BB^32) (hb:b<BB^32) (W:World) :
  Calls Tryz.prog 133 #[.agg c.toArray,.agg d.toArray] W fun e w'=>e=.returned (.agg g.toArray)∧Below W.heap.size W w':=by
 subst hG hc hd hg;exact jeK na nb a b W ha hb
theorem qgE {c d q r:List Value} {na nb s:Bool} {a b m n:Nat} (hc:c=.bool na::lv 32 a) (hd:d=.bool nb::lv 32 b) (hq:q=.bool s::lv 32 m) (hr:r=.bool false::lv 32 n) (hs:s=cs1 (na != nb) m)
  (hm:m=if na=true∧a%b≠0 then a / b+1 else a / b) (hn:n=if na=true∧a%b≠0 then b - a%b else a%b) (ha:a<BB^32) (hb:b<BB^32) (h0:b≠0) (W:World) :
  Calls Tryz.prog 134 #[.agg c.toArray,.agg d.toArray] W fun e w'=>e=.returned (.tuple #[.agg q.toArray,.agg r.toArray,.int .i64 0])∧Below W.heap.size W w':=by
 subst hs hc hd hq hr;exact qvT na nb a b m n W ha hb h0 hm hn
theorem qdO {c:List Value} {na:Bool} {a n:Nat} (hc:c=.bool na::lv 32 a) (ha:a<BB^32) (hn:IsBits a n) (W:World) :
  Calls Tryz.prog 132 #[.agg c.toArray] W fun e w'=>e=.returned (.int .i64 (n:Int))∧Below W.heap.size W w':=by
 subst hc;exact qpR na a n W ha hn
theorem qtJ {v n k:Nat} (h:IsBits v n) (hv:v<2^k):n≤k:=qwT hv h
def B480:Nat:=BB^15
theorem qmD {v:Nat} (h:v<B480):v<BB^15:=h
theorem qaO {v:Nat} (h:v<B480):v<BB^32:=Nat.lt_of_lt_of_le (qmD h) (Nat.pow_le_pow_right qaX (by omega))
theorem qeD {u v:Nat} (hu:u<B480) (hv:v<B480):u*v<BB^30:=by
 have:=Nat.mul_lt_mul'' (qmD hu) (qmD hv)
 rwa [←Nat.pow_add] at this
theorem qeN {v n:Nat} (hv:v<B480) (h:IsBits v n):n≤480:=qmA 15 (qmD hv) h
theorem qcQ (na:Bool) (a g:Nat) (hd:g∣a):a / g=(if na=true∧a%g≠0 then a / g+1 else a / g)∧0=(if na=true∧a%g≠0 then g - a%g else a%g):=by
 rw [Nat.mod_eq_zero_of_dvd hd];simp
theorem qnF (na nb:Bool) (p q:Nat) (hq:q≠0):cs1 nb q=nb∧(nb=true→cs1 (!cs1 na p) p=cs1 (na != nb) p)∧(nb=false→cs1 na p=cs1 (na != nb) p)∧sgnI nb q=if nb=true then -1 else 1:=by
 refine ⟨by simp [cs1,hq],fun h=>?_,fun h=>?_,by simp [sgnI,hq]⟩<;>subst h<;>by_cases hp:p=0<;>cases na<;>simp [cs1,hp]
theorem jcQ {ca cb cR:List Value} {na nb n:Bool} {a b g p q:Nat} (h1:ca=.bool na::lv 32 a) (h2:cb=.bool nb::lv 32 b) (hR:cR=rat n p false q) (hn:n=cs1 (na != nb) p) (hg:g=Nat.gcd a b) (hp:p=a / g) (hq:q=b / g)
  (ha:a<BB^32) (hb:b<BB^32) (h0:b≠0) (hpb:p<B480) (hqb:q<B480) (w:World) :
  Calls Tryz.prog 99 #[.agg ca.toArray,.agg cb.toArray] w fun e w'=>e=.returned (.tuple #[.agg cR.toArray,.int .i64 0])∧Below w.heap.size w w':=by
 have V_ca:=hid h1;have V_cb:=hid h2;have V_cR:=hid hR;have hg0:g≠0:=by rw [hg];intro h;exact h0 (Nat.eq_zero_of_gcd_eq_zero_right h)
 have hga:g∣a:=by rw [hg];exact Nat.gcd_dvd_left a b
 have hgb:g∣b:=by rw [hg];exact Nat.gcd_dvd_right a b
 have hq0:q≠0:=by rw [hq];intro h;have:=Nat.div_mul_cancel hgb;rw [h] at this;omega
 have hgB:g<BB^32:=by rw [hg];exact qjL ha hb
 obtain ⟨x1,hx1⟩:=qaE p;obtain ⟨x2,hx2⟩:=qaE q;have hx1b:=qeN hpb hx1;have hx2b:=qeN hqb hx2;obtain ⟨hs1,hs2,hs3,hs4⟩:=qnF na nb p q hq0;obtain ⟨sn,hsn⟩:∃ s,s=cs1 na p:=⟨_,rfl⟩;obtain ⟨s,hs⟩:∃ s,s=sgnI nb b:=⟨_,rfl⟩
 have hse:(s==0)=false:=by
  rw [hs];unfold sgnI;rw [if_neg h0];cases nb<;>rfl
 obtain ⟨cg,V_cg⟩:∃ c:List Value,Hid (c=.bool false::lv 32 g):=⟨_,hid rfl⟩;obtain ⟨cN,V_cN⟩:∃ c:List Value,Hid (c=.bool sn::lv 32 p):=⟨_,hid rfl⟩;obtain ⟨cD,V_cD⟩:∃ c:List Value,Hid (c=.bool nb::lv 32 q):=⟨_,hid rfl⟩;obtain ⟨ce,V_ce⟩:∃ c:List Value,Hid (c=.bool false::lv 32 0):=⟨_,hid rfl⟩;obtain ⟨cM,V_cM⟩:∃ c:List Value,Hid (c=.bool n::lv 32 p):=⟨_,hid rfl⟩;obtain ⟨cE,V_cE⟩:∃ c:List Value,Hid (c=.bool false::lv 32 q):=⟨_,hid rfl⟩;obtain ⟨cz,V_cz⟩:∃ c:List Value,Hid (c=rat false 0 false 0):=⟨_,hid rfl⟩;have HS:=hid (qcS V_cb.out hs hb);have HG:=hid (qqO V_ca.out V_cb.out V_cg.out hg ha hb);have HDN:=hid (qgE (s:=sn) V_ca.out V_cg.out V_cN.out V_ce.out (by rw [hsn];cases na<;>rfl) (by rw [hp];exact (qcQ na a g hga).1) (qcQ na a g hga).2 ha hgB hg0);have HDD:=hid (qgE (s:=nb) V_cb.out V_cg.out V_cD.out V_ce.out (by rw [show (nb != false)=nb by cases nb<;>rfl];exact hs1.symm) (by rw [hq];exact (qcQ nb b g hgb).1) (qcQ nb b g hgb).2 hb hgB hg0);have HS2:=hid (qcS (s:=if nb=true then -1 else 1) V_cD.out hs4.symm (qaO hqb))
 have HB1:=hid (fun c (hc:c=cN∨c=cM)=>show ∀ W,Calls Tryz.prog 132 #[.agg c.toArray] W (fun e w'=>e=.returned (.int .i64 (x1:Int))∧Below W.heap.size W w') from fun W=>by
  rcases hc with rfl|rfl
  ·exact qdO V_cN.out (qaO hpb) hx1 W
  ·exact qdO V_cM.out (qaO hpb) hx1 W)
 have HB2:=hid (fun c (hc:c=cD∨c=cE)=>show ∀ W,Calls Tryz.prog 132 #[.agg c.toArray] W (fun e w'=>e=.returned (.int .i64 (x2:Int))∧Below W.heap.size W w') from fun W=>by
  rcases hc with rfl|rfl
  ·exact qdO V_cD.out (qaO hqb) hx2 W
  ·exact qdO V_cE.out (qaO hqb) hx2 W)
 have HNN:=hid (And.intro (qaO hpb) (And.intro (qaO hqb) (And.intro hq0 (And.intro hsn (And.intro hn (And.intro hs2 (And.intro hs3 hs1)))))));have n1:¬(480:Int)<(x1:Int):=by omega
 have n2:¬(480:Int)<(x2:Int):=by omega
 clear h1 h2 hR hn hg hp hq ha hb h0 hpb hqb hg0 hga hgb hq0 hgB hx1 hx2 hx1b hx2b hs1 hs2 hs3 hs4 hsn hs;obtain ⟨B0,B1,B2,w0,hw0,hB0,hB1,hB2,AB0,AB1,AB2,FR,FR0,HB0,hZB0,l01,hZB1,l12,hZB2⟩:=en3 w 25 25 27 (bxq ca) (bxq cb) (zQR V_cz);go_enter Tryz.func99,Tryz.ntmps99
 go_upto_region 1 with fail
 rw [←hw0,←hB2,←hB1,←hB0];clear hw0 hB0 hB1 hB2;refine wT [] [(13,.agg cb.toArray),(14,.int .i64 s),(15,.bool false)] (by simp only [zr,zq];rfl) (by kernel_rfl) rfl ?_ oN oN ?_
 ·intro W' hW';refine ldI (abl AB1 hW') V_cb rfl<|fo2 ?_ ?_<|fxn;all_goals (go_big_quiet_step ((go_at_call 103;exact qaA (HS.out _)));exact wqn rfl)
 intro β wx1 E;replace FR:=fnf FR E rfl;replace AB0:=fnh AB0 E rfl;replace AB1:=fnh AB1 E rfl;replace AB2:=fnh AB2 E rfl;simp only [nP,zr,zq];replace FR0:=hid FR.out.le;clear E;clear hse;go_upto_region 3 with fail
 refine wT [⟨true,3,6,4,0,0,25,19,cg,0,cg,[]⟩] [(17,.agg ca.toArray),(18,.agg cb.toArray),(19,.agg cg.toArray)] (by simp only [zr,zq];rfl) (by kernel_rfl) rfl ?_ ?_ ?_ ?_
 ·intro W' hW';refine ldI (abl AB0 hW') V_ca rfl<|ldI (abl AB1 hW') V_cb rfl<|fxo ?_<|fxs rfl<|fxs rfl<|fxn
  go_big_quiet_step ((go_at_call 133;exact qaA (HG.out _)));exact wqn rfl
 ·exact fP1 (Tryz.alI (qI V_cg.out))
 ·exact fP1 (sI V_cg (fun _=>rfl) rfl)
 intro β wx2 E;replace FR:=fnf FR E rfl;obtain ⟨b6,hb6,eb6⟩:=nwb E mms;have lB0_b6:B0<b6:=ltb AB0 eb6.1;have lB1_b6:B1<b6:=ltb AB1 eb6.1;have lB2_b6:B2<b6:=ltb AB2 eb6.1;have hZb6:B0≤b6:=Nat.le_trans FR0.out eb6.1;replace AB0:=fnh AB0 E rfl;replace AB1:=fnh AB1 E rfl;replace AB2:=fnh AB2 E rfl;have Ab6:=hid eb6.2;simp only [nP,zr,zq];rw [←hb6];replace FR0:=hid FR.out.le;clear E eb6 hb6;go_upto_region 4 with fail
 refine wT [⟨true,7,7,9,0,0,25,24,cN,0,cN,[]⟩,⟨true,8,8,10,0,0,25,25,ce,0,ce,[]⟩] [(21,.agg ca.toArray),(22,.agg cg.toArray),(23,.tuple #[.agg cN.toArray,.agg ce.toArray,.int .i64 0]),(20,.tuple #[.agg cN.toArray,.agg ce.toArray,.int .i64 0]),(24,.agg cN.toArray),(25,.agg ce.toArray),(26,.int .i64 0),(9,.int .i64 0)] (by simp only [zr,zq];rfl) (by kernel_rfl) rfl ?_ ?_ ?_ ?_
 ·intro W' hW';refine ldI (abl AB0 hW') V_ca rfl<|ldI (abl Ab6 hW') V_cg rfl<|fo4 ?_ ?_ ?_ ?_<|fxo ?_<|fxs rfl<|fxs rfl<|fxs rfl<|fxs rfl<|fxo ?_<|fxn;all_goals (go_big_quiet_step ((go_at_call 134;exact qaA (HDN.out _)));exact wqn rfl)
 ·exact oP _ _ (Tryz.alI (qI V_cN.out)) (oP _ _ (Tryz.alI (qI V_ce.out)) (oN))
 ·exact oP _ _ (stw rfl (qI V_cN.out) (qfM V_cN.out) (fun _=>rfl)) (oP _ _ (stw rfl (qI V_ce.out) (qfM V_ce.out) (fun _=>rfl)) (oN))
 intro β wx3 E;replace FR:=fnf FR E rfl;obtain ⟨b7,hb7,eb7⟩:=nwb E mms;have lB0_b7:B0<b7:=ltb AB0 eb7.1;have lB1_b7:B1<b7:=ltb AB1 eb7.1;have lB2_b7:B2<b7:=ltb AB2 eb7.1;have lb6_b7:b6<b7:=ltb Ab6 eb7.1;have hZb7:B0≤b7:=Nat.le_trans FR0.out eb7.1;obtain ⟨b8,hb8,eb8⟩:=nwb E (List.mem_cons_of_mem _ mms);have lB0_b8:B0<b8:=ltb AB0 eb8.1;have lB1_b8:B1<b8:=ltb AB1 eb8.1;have lB2_b8:B2<b8:=ltb AB2 eb8.1;have lb6_b8:b6<b8:=ltb Ab6 eb8.1;have hZb8:B0≤b8:=Nat.le_trans FR0.out eb8.1;have nb7_b8:b7≠b8:=fun e=>absurd (E.apart _ mms _ (List.mem_cons_of_mem _ mms) rfl rfl (by rw [hb7,hb8] at e;exact e)) (show ¬(7:Nat)=8 by decide)
 clear AB0;replace AB1:=fnh AB1 E rfl;replace AB2:=fnh AB2 E rfl;replace Ab6:=fnh Ab6 E rfl;have Ab7:=hid eb7.2;have Ab8:=hid eb8.2;simp only [nP,zr,zq];rw [←hb7];rw [←hb8];replace FR0:=hid FR.out.le;clear E eb7 hb7 eb8 hb8;go_upto_region 5 with fail
 refine wT [⟨true,7,10,9,0,0,25,31,cD,0,cD,[]⟩,⟨true,8,11,10,0,0,25,32,ce,0,ce,[]⟩] [(28,.agg cb.toArray),(29,.agg cg.toArray),(30,.tuple #[.agg cD.toArray,.agg ce.toArray,.int .i64 0]),(27,.tuple #[.agg cD.toArray,.agg ce.toArray,.int .i64 0]),(31,.agg cD.toArray),(32,.agg ce.toArray),(33,.int .i64 0),(12,.int .i64 0)] (by simp only [zr,zq];rfl) (by kernel_rfl) rfl ?_ ?_ ?_ ?_
 ·intro W' hW';refine ldI (abl AB1 hW') V_cb rfl<|ldI (abl Ab6 hW') V_cg rfl<|fo4 ?_ ?_ ?_ ?_<|fxo ?_<|fxs rfl<|fxs rfl<|fxs rfl<|fxs rfl<|fxo ?_<|fxn;all_goals (go_big_quiet_step ((go_at_call 134;exact qaA (HDD.out _)));exact wqn rfl)
 ·exact oP _ _ (Tryz.alI (qI V_cD.out)) (oP _ _ (Tryz.alI (qI V_ce.out)) (oN))
 ·exact oP _ _ (stw rfl (qI V_cD.out) (qfM V_cD.out) (fun _=>rfl)) (oP _ _ (stw rfl (qI V_ce.out) (qfM V_ce.out) (fun _=>rfl)) (oN))
 intro β wx4 E;replace FR:=fnf FR E rfl;obtain ⟨b10,hb10,eb10⟩:=nwb E mms;have lB1_b10:B1<b10:=ltb AB1 eb10.1;have lB2_b10:B2<b10:=ltb AB2 eb10.1;have lb6_b10:b6<b10:=ltb Ab6 eb10.1;have lb7_b10:b7<b10:=ltb Ab7 eb10.1;have lb8_b10:b8<b10:=ltb Ab8 eb10.1;have hZb10:B0≤b10:=Nat.le_trans FR0.out eb10.1;obtain ⟨b11,hb11,eb11⟩:=nwb E (List.mem_cons_of_mem _ mms);have lB1_b11:B1<b11:=ltb AB1 eb11.1;have lB2_b11:B2<b11:=ltb AB2 eb11.1;have lb6_b11:b6<b11:=ltb Ab6 eb11.1;have lb7_b11:b7<b11:=ltb Ab7 eb11.1;have lb8_b11:b8<b11:=ltb Ab8 eb11.1;have hZb11:B0≤b11:=Nat.le_trans FR0.out eb11.1;have nb10_b11:b10≠b11:=fun e=>absurd (E.apart _ mms _ (List.mem_cons_of_mem _ mms) rfl rfl (by rw [hb10,hb11] at e;exact e)) (show ¬(7:Nat)=8 by decide)
 clear AB1;replace AB2:=fnh AB2 E rfl;clear Ab6;replace Ab7:=fnh Ab7 E rfl;clear Ab8;have Ab10:=hid eb10.2;have Ab11:=hid eb11.2;simp only [nP,zr,zq];rw [←hb10];rw [←hb11];replace FR0:=hid FR.out.le;clear E eb10 hb10 eb11 hb11;go_upto_region 6 with fail
 cases nb with
 | true =>
  have HN1:=hid (jaV V_cN.out V_cM.out (by rw [HNN.out.2.2.2.2.1,HNN.out.2.2.2.1,HNN.out.2.2.2.2.2.1 rfl]) HNN.out.1);have HN2:=hid (jaV (n:=false) V_cD.out V_cE.out rfl HNN.out.2.1);simp only [if_true] at HS2;refine wT [] [(34,.agg cD.toArray),(35,.int .i64 (-1)),(36,.bool true)] (by simp only [zr,zq];rfl) (by kernel_rfl) rfl ?_ oN oN ?_
  ·intro W' hW';refine ldI (abl Ab10 hW') V_cD rfl<|fo2 ?_ ?_<|fxn;all_goals (go_big_quiet_step ((go_at_call 103;exact qaA (HS2.out _)));exact wqn rfl)
  intro β wx5 E;replace FR:=fnf FR E rfl;replace AB2:=fnh AB2 E rfl;replace Ab7:=fnh Ab7 E rfl;replace Ab10:=fnh Ab10 E rfl;replace Ab11:=fnh Ab11 E rfl;simp only [nP,zr,zq];replace FR0:=hid FR.out.le;clear E;go_upto_region 7 with fail
  refine wF [⟨false,0,7,4,b7,0,25,38,cM,0,cM,[]⟩,⟨false,0,10,5,b10,0,25,40,cE,0,cE,[]⟩] [(37,.agg cN.toArray),(38,.agg cM.toArray),(39,.agg cD.toArray),(40,.agg cE.toArray)] (by simp only [zr,zq];rfl) (by kernel_rfl) ?_ ?_ (oP _ _ bnC (fP1 bnC)) ?_ ?_ ?_ ?_
  ·intro W' hW';refine ldI (abl Ab7 hW') V_cN rfl<|fxo ?_<|ldI (abl Ab10 hW') V_cD rfl<|fxo (by go_big_quiet_step ((go_at_call 135;exact qaA (HN2.out _)));exact wqn rfl)<|fxs rfl<|fxs rfl<|fxn
   go_big_quiet_step ((go_at_call 135;exact qaA (HN1.out _)));exact wqn rfl
  ·intro W' hK';iterate 6 (refine fxs (by kernel_rfl) ?_)
   exact fxn
  ·exact oP _ _ (fun _=>⟨Ab7.out.lt,rfl,At.room Ab7.out (qI V_cN.out) (qI V_cM.out)⟩) (oP _ _ (fun _=>⟨Ab10.out.lt,rfl,At.room Ab10.out (qI V_cD.out) (qI V_cE.out)⟩) (oN))
  ·intro q hq r hr hqn hrn e;simp only [List.mem_cons,List.not_mem_nil,or_false] at hq hr;rcases hq with rfl|rfl<;>rcases hr with rfl|rfl<;>first|rfl|(exact Bool.noConfusion hqn)|(exact Bool.noConfusion hrn)|(exfalso;simp only at e;omega)
  ·exact oP _ _ (stw rfl (qI V_cM.out) (qfM V_cM.out) (fun _=>rfl)) (oP _ _ (stw rfl (qI V_cE.out) (qfM V_cE.out) (fun _=>rfl)) (oN))
  intro β wx6 E;replace FR:=hid (FR.out.flow E (oP _ _ (fun _=>(by show B0≤b7;omega)) (oP _ _ (fun _=>(by show B0≤b10;omega)) (oN))));replace AB2:=hid (At.flow E AB2.out (oP _ _ (fun _=>(by show b7≠B2;omega)) (oP _ _ (fun _=>(by show b10≠B2;omega)) (oN))));replace Ab7:=hid (show At wx6 b7 0 cM from E.atOld mms rfl Ab7.out.lt);replace Ab10:=hid (show At wx6 b10 0 cE from E.atOld (List.mem_cons_of_mem _ mms) rfl Ab10.out.lt);clear Ab11;simp only [nP,zr,zq];replace FR0:=hid FR.out.le;clear E;go_upto_region 8 with fail
  refine wT [] [(41,.agg cM.toArray),(42,.int .i64 (x1:Int)),(43,.bool false),(44,.bool false),(45,.agg cE.toArray),(46,.int .i64 (x2:Int)),(47,.bool false),(48,.bool false)] (by simp only [zr,zq];rfl) (by kernel_rfl) rfl ?_ oN oN ?_
  ·intro W' hW';refine ldI (abl Ab7 hW') V_cM rfl<|fo3 ?_ ?_ ?_<|ldI (abl Ab10 hW') V_cE rfl<|fxo (by go_big_quiet_step ((go_at_call 132;exact qaA (HB2.out _ (.inr rfl) _)));exact wqn rfl)<|fo2 ?_ ?_<|fxn;all_goals (go_big_quiet_step ((go_at_call 132;exact qaA (HB1.out _ (.inr rfl) _)));exact wqn rfl)
  intro β wx7 E;replace FR:=fnf FR E rfl;replace AB2:=fnh AB2 E rfl;replace Ab7:=fnh Ab7 E rfl;replace Ab10:=fnh Ab10 E rfl;simp only [nP,zr,zq];replace FR0:=hid FR.out.le;clear E;clear n1 n2;go_upto_region 10 with fail
  refine wF [⟨false,0,4,3,B2,0,27,52,cR,0,cR,[]⟩] [(50,.agg cM.toArray),(51,.agg cE.toArray),(52,.agg cR.toArray),(5,.int .i64 0)] (by simp only [zr,zq];rfl) (by kernel_rfl) ?_ ?_ (fP1 bnC) ?_ uno ?_ ?_
  ·intro W' hW';refine ldI (abl Ab7 hW') V_cM rfl<|ldI (abl Ab10 hW') V_cE rfl<|fxb (qeM V_cM.out V_cE.out V_cR.out) rfl<|fxs rfl<|fxo ?_<|fxn
   go_big_quiet_step (fail);exact wqn rfl
  ·intro W' hK';have rd0:=akh Ab7 hK' (by show B2≠b7;omega);have rd1:=akh Ab10 hK' (by show B2≠b10;omega);refine ldI rd0 V_cM rfl<|ldI rd1 V_cE rfl<|fxb (qeM V_cM.out V_cE.out V_cR.out) rfl<|fxs (by kernel_rfl)<|fxi ?_<|fxn
   first|(refine .inr ?_;go_big_quiet_step (fail);exact wqn rfl)|exact .inl (by kernel_rfl)
  ·exact fP1 (fun _=>⟨AB2.out.lt,rfl,At.room AB2.out (qR V_cz.out) (qR V_cR.out)⟩)
  ·exact fP1 (sR V_cR (fun _=>rfl) rfl)
  intro β wx8 E;replace FR:=ffh FR E (by show B0≤B2;omega);replace AB2:=hid (show At wx8 B2 0 cR from E.atOld mms rfl AB2.out.lt);replace Ab7:=afh Ab7 E (by show B2≠b7;omega);replace Ab10:=afh Ab10 E (by show B2≠b10;omega);simp only [nP,zr,zq];replace FR0:=hid FR.out.le;clear E;go_wp2_with fail
  have hld:=AB2.out.read (P:=Tryz.prog) Tryz.underlying27 rfl (qR V_cR.out);refine bodyPost_ret (v:=.tuple #[.agg cR.toArray,.int .i64 0]) (by simp [results,Tryz.results99,asAddr,hld]) rfl ?_;exact ⟨rfl,fend HB0 FR⟩
 | false =>
  have V_cN2:=hid (show cN=.bool n::lv 32 p by rw [V_cN.out,HNN.out.2.2.2.1,HNN.out.2.2.2.2.1,HNN.out.2.2.2.2.2.2.1 rfl]);simp only [Bool.false_eq_true,if_false] at HS2;refine wT [] [(34,.agg cD.toArray),(35,.int .i64 1),(36,.bool false)] (by simp only [zr,zq];rfl) (by kernel_rfl) rfl ?_ oN oN ?_
  ·intro W' hW';refine ldI (abl Ab10 hW') V_cD rfl<|fo2 ?_ ?_<|fxn;all_goals (go_big_quiet_step ((go_at_call 103;exact qaA (HS2.out _)));exact wqn rfl)
  intro β wx5 E;replace FR:=fnf FR E rfl;replace AB2:=fnh AB2 E rfl;replace Ab7:=fnh Ab7 E rfl;replace Ab10:=fnh Ab10 E rfl;replace Ab11:=fnh Ab11 E rfl;simp only [nP,zr,zq];replace FR0:=hid FR.out.le;clear E;go_upto_region 8 with fail
  refine wT [] [(41,.agg cN.toArray),(42,.int .i64 (x1:Int)),(43,.bool false),(44,.bool false),(45,.agg cD.toArray),(46,.int .i64 (x2:Int)),(47,.bool false),(48,.bool false)] (by simp only [zr,zq];rfl) (by kernel_rfl) rfl ?_ oN oN ?_
  ·intro W' hW';refine ldI (abl Ab7 hW') V_cN rfl<|fo3 ?_ ?_ ?_<|ldI (abl Ab10 hW') V_cD rfl<|fxo (by go_big_quiet_step ((go_at_call 132;exact qaA (HB2.out _ (.inl rfl) _)));exact wqn rfl)<|fo2 ?_ ?_<|fxn;all_goals (go_big_quiet_step ((go_at_call 132;exact qaA (HB1.out _ (.inl rfl) _)));exact wqn rfl)
  intro β wx6 E;replace FR:=fnf FR E rfl;replace AB2:=fnh AB2 E rfl;replace Ab7:=fnh Ab7 E rfl;replace Ab10:=fnh Ab10 E rfl;replace Ab11:=fnh Ab11 E rfl;simp only [nP,zr,zq];replace FR0:=hid FR.out.le;clear E;clear n1 n2;go_upto_region 10 with fail
  clear V_cN;have V_cN:=V_cN2;refine wF [⟨false,0,4,3,B2,0,27,52,cR,0,cR,[]⟩] [(50,.agg cN.toArray),(51,.agg cD.toArray),(52,.agg cR.toArray),(5,.int .i64 0)] (by simp only [zr,zq];rfl) (by kernel_rfl) ?_ ?_ (fP1 bnC) ?_ uno ?_ ?_
  ·intro W' hW';refine ldI (abl Ab7 hW') V_cN rfl<|ldI (abl Ab10 hW') V_cD rfl<|fxb (qeM V_cN.out V_cD.out V_cR.out) rfl<|fxs rfl<|fxo ?_<|fxn
   go_big_quiet_step (fail);exact wqn rfl
  ·intro W' hK';have rd0:=akh Ab7 hK' (by show B2≠b7;omega);have rd1:=akh Ab10 hK' (by show B2≠b10;omega);refine ldI rd0 V_cN rfl<|ldI rd1 V_cD rfl<|fxb (qeM V_cN.out V_cD.out V_cR.out) rfl<|fxs (by kernel_rfl)<|fxi ?_<|fxn
   first|(refine .inr ?_;go_big_quiet_step (fail);exact wqn rfl)|exact .inl (by kernel_rfl)
  ·exact fP1 (fun _=>⟨AB2.out.lt,rfl,At.room AB2.out (qR V_cz.out) (qR V_cR.out)⟩)
  ·exact fP1 (sR V_cR (fun _=>rfl) rfl)
  intro β wx7 E;replace FR:=ffh FR E (by show B0≤B2;omega);replace AB2:=hid (show At wx7 B2 0 cR from E.atOld mms rfl AB2.out.lt);replace Ab7:=afh Ab7 E (by show B2≠b7;omega);replace Ab10:=afh Ab10 E (by show B2≠b10;omega);replace Ab11:=afh Ab11 E (by show B2≠b11;omega);simp only [nP,zr,zq];replace FR0:=hid FR.out.le;clear E;go_wp2_with fail
  have hld:=AB2.out.read (P:=Tryz.prog) Tryz.underlying27 rfl (qR V_cR.out);refine bodyPost_ret (v:=.tuple #[.agg cR.toArray,.int .i64 0]) (by simp [results,Tryz.results99,asAddr,hld]) rfl ?_;exact ⟨rfl,fend HB0 FR⟩
end Go.Proofs.YtemoddmadfoaiaaGreat
