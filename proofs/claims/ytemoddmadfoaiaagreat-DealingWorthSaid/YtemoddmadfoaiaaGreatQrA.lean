import Derived.Test.YtemoddmadfoaiaaGreatBkM
import Derived.Test.YtemoddmadfoaiaaGreatBiX
set_option linter.unusedVariables false
set_option linter.unusedSimpArgs false
set_option maxRecDepth 100000
set_option maxHeartbeats 8000000
namespace Go.Proofs.YtemoddmadfoaiaaGreat
open Go.RowKit Big
open Lib (hid)
theorem quC {cr:List Value} {z:Int} {n:Bool} {v:Nat} (h:cr=rat n v false 1) (hn:n=decide (z<0)) (hv:v=z.natAbs) (h1:-9223372036854775808≤z) (h2:z≤9223372036854775807) (w:World) :
  Calls Tryz.prog 123 #[.int .i64 z] w fun e w'=>e=.returned (.agg cr.toArray)∧Below w.heap.size w w':=by
 have V_cr:=hid h;obtain ⟨cn,V_cn⟩:∃ c:List Value,Hid (c=.bool n::lv 32 v):=⟨_,hid rfl⟩;obtain ⟨co,V_co⟩:∃ c:List Value,Hid (c=.bool false::lv 32 1):=⟨_,hid rfl⟩;obtain ⟨cz,V_cz⟩:∃ c:List Value,Hid (c=rat false 0 false 0):=⟨_,hid rfl⟩;have HZ:=hid (qhJ V_cn.out hn hv h1 h2);have HO:=hid (qhJ (z:=1) V_co.out rfl rfl (by decide) (by decide));clear h hn hv h1 h2;obtain ⟨B0,w0,hw0,hB0,AB0,FR,FR0,HB0,hZB0⟩:=en1 w 27 (zQR V_cz);go_enter Tryz.func123,Tryz.ntmps123
 go_upto_region 1 with fail
 rw [←hw0,←hB0];clear hw0 hB0;refine wF [⟨false,0,2,4,B0,0,27,6,cr,0,cr,[]⟩] [(3,.int .i64 z),(4,.agg cn.toArray),(5,.agg co.toArray),(6,.agg cr.toArray)] (by simp only [zr,zq];rfl) (by kernel_rfl) ?_ ?_ (fP1 bnC) ?_ uno ?_ ?_
 ·intro W' hW';refine fo2 ?_ ?_<|fxo (by go_big_quiet_step ((go_at_call 76;exact qaA (HO.out _)));exact wqn rfl)<|fxb (qeM V_cn.out V_co.out V_cr.out) rfl<|fxs rfl<|fxn;all_goals (go_big_quiet_step ((go_at_call 76;exact qaA (HZ.out _)));exact wqn rfl)
 ·intro W' hK';refine fxi ?_<|fxs (by kernel_rfl)<|fxs (by kernel_rfl)<|fxb (qeM V_cn.out V_co.out V_cr.out) rfl<|fxs (by kernel_rfl)<|fxn
  first|(refine .inr ?_;go_big_quiet_step (fail);exact wqn rfl)|exact .inl (by kernel_rfl)
 ·exact fP1 (fun _=>⟨AB0.out.lt,rfl,At.room AB0.out (qR V_cz.out) (qR V_cr.out)⟩)
 ·exact fP1 (sR V_cr (fun _=>rfl) rfl)
 intro β wx1 E;replace FR:=ffh FR E (by show B0≤B0;omega);replace AB0:=hid (show At wx1 B0 0 cr from E.atOld mms rfl AB0.out.lt);simp only [nP,zr,zq];clear E;go_wp2_with fail
 have hld:=AB0.out.read (P:=Tryz.prog) Tryz.underlying27 rfl (qR V_cr.out);refine bodyPost_ret (v:=.agg cr.toArray) (by simp [results,Tryz.results123,asAddr,hld]) rfl ?_;exact ⟨rfl,fend HB0 FR⟩
theorem jbJ {m:Bool} {q:Nat}:decide (0<sgnI m q)=decide (m=false∧q≠0):=by
 unfold sgnI;by_cases h:q=0<;>cases m<;>simp [h]
theorem qmZ {cr:List Value} {n m r:Bool} {p q:Nat} (h:cr=rat n p m q) (hr:r=decide (p<B480∧q<B480∧n=cs1 n p∧m=false∧q≠0∧Nat.gcd p q=1)) (hp:p<BB^32) (hq:q<BB^32) (w:World) :
  Calls Tryz.prog 106 #[.agg cr.toArray] w fun e w'=>e=.returned (.bool r)∧Below w.heap.size w w':=by
 have V_cr:=hid h;obtain ⟨c1,hc1⟩:∃ c,c=decide (p<B480∧q<B480):=⟨_,rfl⟩;obtain ⟨c2,hc2⟩:∃ c,c=decide (n=cs1 n p):=⟨_,rfl⟩;obtain ⟨c3,hc3⟩:∃ c,c=decide (m=cs1 m q):=⟨_,rfl⟩;obtain ⟨s,hs⟩:∃ s,s=sgnI m q:=⟨_,rfl⟩;obtain ⟨c4,hc4⟩:∃ c,c=decide (0<s):=⟨_,rfl⟩;obtain ⟨g,hg⟩:∃ g,g=Nat.gcd p q:=⟨_,rfl⟩;obtain ⟨c5,hc5⟩:∃ c,c=decide (false=false∧g=1):=⟨_,rfl⟩;have hgB:g<BB^32:=by rw [hg];exact qjL hp hq
 have hrr:r=(c1&&(c2&&(c3&&(c4&&c5)))):=by
  rw [hr,hc1,hc2,hc3,hc4,hc5,hs,jbJ,hg];simp only [true_and];rw [←Bool.decide_and,←Bool.decide_and,←Bool.decide_and,←Bool.decide_and];congr 1
  apply propext
  constructor
  ·rintro ⟨h1,h2,h3,h4,h5,h6⟩;exact ⟨⟨h1,h2⟩,h3,by subst h4;rfl,⟨h4,h5⟩,h6⟩
  ·rintro ⟨⟨h1,h2⟩,h3,_,⟨h4,h5⟩,h6⟩;exact ⟨h1,h2,h3,h4,h5,h6⟩
 obtain ⟨cn,V_cn⟩:∃ c:List Value,Hid (c=.bool n::lv 32 p):=⟨_,hid rfl⟩;obtain ⟨cd,V_cd⟩:∃ c:List Value,Hid (c=.bool m::lv 32 q):=⟨_,hid rfl⟩;obtain ⟨cg,V_cg⟩:∃ c:List Value,Hid (c=.bool false::lv 32 g):=⟨_,hid rfl⟩;obtain ⟨co,V_co⟩:∃ c:List Value,Hid (c=.bool false::lv 32 1):=⟨_,hid rfl⟩;have HF:=hid (qvQ V_cr.out hc1 hp hq);have HC2:=hid (qhB V_cn.out hc2 hp);have HC3:=hid (qhB V_cd.out hc3 hq);have HS:=hid (qdY V_cd.out hs hq);have HG:=hid (quL V_cn.out V_cd.out V_cg.out hg hp hq);have HO:=hid (qhJ (z:=1) V_co.out rfl rfl (by decide) (by decide));have HE:=hid hc5;have H1:=hid (And.intro hgB (show 1<BB^32 from Nat.one_lt_pow (by omega) (by unfold BB;omega)));have hc4':=hc4.symm;clear h hr hp hq hc1 hc2 hc3 hs hg hc5 hgB hc4;obtain ⟨B0,w0,hw0,hB0,AB0,FR,FR0,HB0,hZB0⟩:=en1 w 27 (bxq cr);go_enter Tryz.func106,Tryz.ntmps106
 go_upto_region 1 with fail
 rw [←hw0,←hB0];clear hw0 hB0;have AB0_n:=hid (AB0.out.num V_cr.out V_cn.out);have AB0_d:=hid (AB0.out.den V_cr.out V_cd.out)
 cases c1 with
 | false =>
  have hr3:r=false:=by rw [hrr];simp
  subst hr3;clear hrr;refine wT [] [(3,.agg cr.toArray),(4,.bool false),(5,.bool false),(6,undef),(7,undef),(8,undef),(9,.bool false),(10,.bool false),(11,undef),(12,undef),(13,undef),(14,.bool false),(15,.bool false),(16,undef),(17,undef),(18,undef),(19,undef),(20,.bool false),(21,.bool false),(22,undef),(23,undef),(24,undef),(25,undef),(26,undef),(27,undef),(28,undef),(29,.bool false),(2,.bool false)] (by simp only [zr,zq];rfl) (by kernel_rfl) rfl ?_ oN oN ?_
  ·intro W' hW';refine ldR (abl AB0 hW') V_cr rfl<|fo4 ?_ ?_ ?_ ?_<|fo4 ?_ ?_ ?_ ?_<|fo4 ?_ ?_ ?_ ?_<|fo4 ?_ ?_ ?_ ?_<|fo4 ?_ ?_ ?_ ?_<|fo4 ?_ ?_ ?_ ?_<|fo3 ?_ ?_ ?_<|fxn;all_goals (go_big_quiet_step ((go_at_call 111;exact qaA (HF.out _)));exact wqn rfl)
  intro β wx1 E;replace FR:=fnf FR E rfl;replace AB0:=fnh AB0 E rfl;replace AB0_n:=fnh AB0_n E rfl;replace AB0_d:=fnh AB0_d E rfl;simp only [nP,zr,zq];clear E;go_wp2
  go_ret
  exact ⟨rfl,fend HB0 FR⟩
 | true =>
  cases c2 with
  | false =>
   have hr3:r=false:=by rw [hrr];simp
   subst hr3;clear hrr;refine wT [] [(3,.agg cr.toArray),(4,.bool true),(5,.bool true),(6,.pointer (some ⟨B0,0,none⟩)),(7,.agg cn.toArray),(8,.bool false),(9,.bool false),(10,.bool false),(11,undef),(12,undef),(13,undef),(14,.bool false),(15,.bool false),(16,undef),(17,undef),(18,undef),(19,undef),(20,.bool false),(21,.bool false),(22,undef),(23,undef),(24,undef),(25,undef),(26,undef),(27,undef),(28,undef),(29,.bool false),(2,.bool false)] (by simp only [zr,zq];rfl) (by kernel_rfl) rfl ?_ oN oN ?_
   ·intro W' hW';refine ldR (abl AB0 hW') V_cr rfl<|fo3 ?_ ?_ ?_<|ldI (abl AB0_n hW') V_cn rfl<|fxo (by go_big_quiet_step ((go_at_call 143;exact qaA (HC2.out _)));exact wqn rfl)<|fo4 ?_ ?_ ?_ ?_<|fo4 ?_ ?_ ?_ ?_<|fo4 ?_ ?_ ?_ ?_<|fo4 ?_ ?_ ?_ ?_<|fo4 ?_ ?_ ?_ ?_<|fo2 ?_ ?_<|fxn;all_goals (go_big_quiet_step ((go_at_call 111;exact qaA (HF.out _)));exact wqn rfl)
   intro β wx1 E;replace FR:=fnf FR E rfl;replace AB0:=fnh AB0 E rfl;replace AB0_n:=fnh AB0_n E rfl;replace AB0_d:=fnh AB0_d E rfl;simp only [nP,zr,zq];clear E;go_wp2
   go_ret
   exact ⟨rfl,fend HB0 FR⟩
  | true =>
   cases c3 with
   | false =>
    have hr3:r=false:=by rw [hrr];simp
    subst hr3;clear hrr;refine wT [] [(3,.agg cr.toArray),(4,.bool true),(5,.bool true),(6,.pointer (some ⟨B0,0,none⟩)),(7,.agg cn.toArray),(8,.bool true),(9,.bool true),(10,.bool true),(11,.pointer (some ⟨B0,33,none⟩)),(12,.agg cd.toArray),(13,.bool false),(14,.bool false),(15,.bool false),(16,undef),(17,undef),(18,undef),(19,undef),(20,.bool false),(21,.bool false),(22,undef),(23,undef),(24,undef),(25,undef),(26,undef),(27,undef),(28,undef),(29,.bool false),(2,.bool false)] (by simp only [zr,zq];rfl) (by kernel_rfl) rfl ?_ oN oN ?_
    ·intro W' hW';refine ldR (abl AB0 hW') V_cr rfl<|fo3 ?_ ?_ ?_<|ldI (abl AB0_n hW') V_cn rfl<|fxo (by go_big_quiet_step ((go_at_call 143;exact qaA (HC2.out _)));exact wqn rfl)<|fo3 ?_ ?_ ?_<|ldI (abl AB0_d hW') V_cd rfl<|fxo (by go_big_quiet_step ((go_at_call 143;exact qaA (HC3.out _)));exact wqn rfl)<|fo4 ?_ ?_ ?_ ?_<|fo4 ?_ ?_ ?_ ?_<|fo4 ?_ ?_ ?_ ?_<|fo4 ?_ ?_ ?_ ?_<|fxo ?_<|fxn;all_goals (go_big_quiet_step ((go_at_call 111;exact qaA (HF.out _)));exact wqn rfl)
    intro β wx1 E;replace FR:=fnf FR E rfl;replace AB0:=fnh AB0 E rfl;replace AB0_n:=fnh AB0_n E rfl;replace AB0_d:=fnh AB0_d E rfl;simp only [nP,zr,zq];clear E;go_wp2
    go_ret
    exact ⟨rfl,fend HB0 FR⟩
   | true =>
    cases c4 with
    | false =>
     have hr3:r=false:=by rw [hrr];simp
     subst hr3;clear hrr;refine wT [] [(3,.agg cr.toArray),(4,.bool true),(5,.bool true),(6,.pointer (some ⟨B0,0,none⟩)),(7,.agg cn.toArray),(8,.bool true),(9,.bool true),(10,.bool true),(11,.pointer (some ⟨B0,33,none⟩)),(12,.agg cd.toArray),(13,.bool true),(14,.bool true),(15,.bool true),(16,.pointer (some ⟨B0,33,none⟩)),(17,.agg cd.toArray),(18,.int .i64 s),(19,.bool false),(20,.bool false),(21,.bool false),(22,undef),(23,undef),(24,undef),(25,undef),(26,undef),(27,undef),(28,undef),(29,.bool false),(2,.bool false)] (by simp only [zr,zq];rfl) (by kernel_rfl) rfl ?_ oN oN ?_
     ·intro W' hW';have rd2:=AB0_d.out.below hW';refine ldR (abl AB0 hW') V_cr rfl<|fo3 ?_ ?_ ?_<|ldI (abl AB0_n hW') V_cn rfl<|fxo (by go_big_quiet_step ((go_at_call 143;exact qaA (HC2.out _)));exact wqn rfl)<|fo3 ?_ ?_ ?_<|ldI rd2 V_cd rfl<|fxo (by go_big_quiet_step ((go_at_call 143;exact qaA (HC3.out _)));exact wqn rfl)<|fo3 ?_ ?_ ?_<|ldI rd2 V_cd rfl<|fxo (by go_big_quiet_step ((go_at_call 107;exact qaA (HS.out _)));exact wqn rfl)<|fo4 ?_ ?_ ?_ ?_<|fo4 ?_ ?_ ?_ ?_<|fo4 ?_ ?_ ?_ ?_<|fxn;all_goals (go_big_quiet_step ((go_at_call 111;exact qaA (HF.out _)));exact wqn rfl)
     intro β wx1 E;replace FR:=fnf FR E rfl;replace AB0:=fnh AB0 E rfl;replace AB0_n:=fnh AB0_n E rfl;replace AB0_d:=fnh AB0_d E rfl;simp only [nP,zr,zq];clear E;go_wp2
     go_ret
     exact ⟨rfl,fend HB0 FR⟩
    | true =>
     have hr3:r=c5:=by rw [hrr];simp
     subst hr3;clear hrr;refine wT [] [(3,.agg cr.toArray),(4,.bool true),(5,.bool true),(6,.pointer (some ⟨B0,0,none⟩)),(7,.agg cn.toArray),(8,.bool true),(9,.bool true),(10,.bool true),(11,.pointer (some ⟨B0,33,none⟩)),(12,.agg cd.toArray),(13,.bool true),(14,.bool true),(15,.bool true),(16,.pointer (some ⟨B0,33,none⟩)),(17,.agg cd.toArray),(18,.int .i64 s),(19,.bool true),(20,.bool true),(21,.bool true),(22,.pointer (some ⟨B0,0,none⟩)),(23,.agg cn.toArray),(24,.pointer (some ⟨B0,33,none⟩)),(25,.agg cd.toArray),(26,.agg cg.toArray),(27,.agg co.toArray),(28,.bool r),(29,.bool r),(2,.bool r)] (by simp only [zr,zq];rfl) (by kernel_rfl) rfl ?_ oN oN ?_
     ·intro W' hW';have rd1:=AB0_n.out.below hW';have rd2:=AB0_d.out.below hW';refine ldR (abl AB0 hW') V_cr rfl<|fo3 ?_ ?_ ?_<|ldI rd1 V_cn rfl<|fxo (by go_big_quiet_step ((go_at_call 143;exact qaA (HC2.out _)));exact wqn rfl)<|fo3 ?_ ?_ ?_<|ldI rd2 V_cd rfl<|fxo (by go_big_quiet_step ((go_at_call 143;exact qaA (HC3.out _)));exact wqn rfl)<|fo3 ?_ ?_ ?_<|ldI rd2 V_cd rfl<|fxo (by go_big_quiet_step ((go_at_call 107;exact qaA (HS.out _)));exact wqn rfl)<|fo4 ?_ ?_ ?_ ?_<|ldI rd1 V_cn rfl<|fxo ?_<|ldI rd2 V_cd rfl<|fxo (by go_big_quiet_step ((go_at_call 108;exact qaA (HG.out _)));exact wqn rfl)<|fxo (by go_big_quiet_step ((go_at_call 76;exact qaA (HO.out _)));exact wqn rfl)<|fxo (qdV (r:=r) (by rfl) rfl rfl rfl V_cg.out V_co.out H1.out.1 H1.out.2 HE.out (wqn (by simp only [zq])))<|fo2 ?_ ?_<|fxn;all_goals (go_big_quiet_step ((go_at_call 111;exact qaA (HF.out _)));exact wqn rfl)
     intro β wx1 E;replace FR:=fnf FR E rfl;replace AB0:=fnh AB0 E rfl;replace AB0_n:=fnh AB0_n E rfl;replace AB0_d:=fnh AB0_d E rfl;simp only [nP,zr,zq];clear E;go_wp2
     go_ret
     exact ⟨rfl,fend HB0 FR⟩
theorem qyF {ca cb cR:List Value} {na nb n ok:Bool} {a b g p q:Nat} {code:Int} (h1:ca=.bool na::lv 32 a) (h2:cb=.bool nb::lv 32 b) (hn:n=cs1 (na != nb) p) (hg:g=Nat.gcd a b) (hp:p=a / g) (hq:q=b / g) (hok:ok=decide (p<B480∧q<B480))
  (hR:cR=if ok=true then rat n p false q else rat false 0 false 0) (hcode:code=if ok=true then 0 else 10) (ha:a<BB^32) (hb:b<BB^32) (h0:b≠0) (w:World) :
  Calls Tryz.prog 75 #[.agg ca.toArray,.agg cb.toArray] w fun e w'=>e=.returned (.tuple #[.agg cR.toArray,.int .i64 code])∧Below w.heap.size w w':=by
 have V_ca:=hid h1;have V_cb:=hid h2;have hg0:g≠0:=by rw [hg];intro h;exact h0 (Nat.eq_zero_of_gcd_eq_zero_right h)
 have hga:g∣a:=by rw [hg];exact Nat.gcd_dvd_left a b
 have hgb:g∣b:=by rw [hg];exact Nat.gcd_dvd_right a b
 have hq0:q≠0:=by rw [hq];intro h;have:=Nat.div_mul_cancel hgb;rw [h] at this;omega
 have hgB:g<BB^32:=by rw [hg];exact qjL ha hb
 have hpB:p<BB^32:=by rw [hp];exact Nat.lt_of_le_of_lt (Nat.div_le_self _ _) ha
 have hqB:q<BB^32:=by rw [hq];exact Nat.lt_of_le_of_lt (Nat.div_le_self _ _) hb
 obtain ⟨s,hs⟩:∃ s,s=sgnI nb b:=⟨_,rfl⟩
 have hse:(s==0)=false:=by
  rw [hs];unfold sgnI;rw [if_neg h0];cases nb<;>rfl
 have hsl:decide (s<0)=nb:=by
  rw [hs];unfold sgnI;rw [if_neg h0];cases nb<;>rfl
 obtain ⟨cg,V_cg⟩:∃ c:List Value,Hid (c=.bool false::lv 32 g):=⟨_,hid rfl⟩;obtain ⟨ch,V_ch⟩:∃ c:List Value,Hid (c=.bool nb::lv 32 g):=⟨_,hid rfl⟩;obtain ⟨cN,V_cN⟩:∃ c:List Value,Hid (c=.bool n::lv 32 p):=⟨_,hid rfl⟩;obtain ⟨cD,V_cD⟩:∃ c:List Value,Hid (c=.bool false::lv 32 q):=⟨_,hid rfl⟩;obtain ⟨cz,V_cz⟩:∃ c:List Value,Hid (c=rat false 0 false 0):=⟨_,hid rfl⟩;obtain ⟨cM,V_cM⟩:∃ c:List Value,Hid (c=rat n p false q):=⟨_,hid rfl⟩;have HS:=hid (qdY V_cb.out hs hb);have HG:=hid (quL V_ca.out V_cb.out V_cg.out hg ha hb);have HNG:=hid (fun (h:nb=true)=>jbY (n:=nb) V_cg.out V_ch.out (by rw [h];simp [cs1,hg0]) hgB);have HW1:=hid (qpU (s:=n) (cq:=cN) V_ca.out V_ch.out (by rw [←hp];exact V_cN.out) (by rw [hn,hp]) (.inr (Nat.mod_eq_zero_of_dvd hga)) ha hgB hg0);have HW2:=hid (qpU (s:=false) (cq:=cD) V_cb.out V_ch.out (by rw [←hq];exact V_cD.out) (by cases nb<;>rfl) (.inr (Nat.mod_eq_zero_of_dvd hgb)) hb hgB hg0);have HF:=hid (qvQ V_cM.out hok hpB hqB);have HCG:=hid (show nb=false→cg=ch by intro h;rw [V_cg.out,V_ch.out,h]);have HRR:=hid (And.intro hR hcode);clear h1 h2 hn hg hp hq ha hb h0 hg0 hga hgb hq0 hgB hpB hqB hs hR hcode hok;obtain ⟨B0,B1,B2,w0,hw0,hB0,hB1,hB2,AB0,AB1,AB2,FR,FR0,HB0,hZB0,l01,hZB1,l12,hZB2⟩:=en3 w 25 25 27 (bxq ca) (bxq cb) (zQR V_cz);go_enter Tryz.func75,Tryz.ntmps75
 go_upto_region 1 with fail
 rw [←hw0,←hB2,←hB1,←hB0];clear hw0 hB0 hB1 hB2;refine wT [] [(8,.agg cb.toArray),(9,.int .i64 s),(10,.bool false)] (by simp only [zr,zq];rfl) (by kernel_rfl) rfl ?_ oN oN ?_
 ·intro W' hW';refine ldI (abl AB1 hW') V_cb rfl<|fo2 ?_ ?_<|fxn;all_goals (go_big_quiet_step ((go_at_call 107;exact qaA (HS.out _)));exact wqn rfl)
 intro β wx1 E;replace FR:=fnf FR E rfl;replace AB0:=fnh AB0 E rfl;replace AB1:=fnh AB1 E rfl;replace AB2:=fnh AB2 E rfl;simp only [nP,zr,zq];replace FR0:=hid FR.out.le;clear E;clear hse;go_upto_region 3 with fail
 refine wT [⟨true,3,6,4,0,0,25,14,cg,0,cg,[]⟩] [(12,.agg ca.toArray),(13,.agg cb.toArray),(14,.agg cg.toArray)] (by simp only [zr,zq];rfl) (by kernel_rfl) rfl ?_ ?_ ?_ ?_
 ·intro W' hW';refine ldI (abl AB0 hW') V_ca rfl<|ldI (abl AB1 hW') V_cb rfl<|fxo ?_<|fxs rfl<|fxs rfl<|fxn
  go_big_quiet_step ((go_at_call 108;exact qaA (HG.out _)));exact wqn rfl
 ·exact fP1 (Tryz.alI (qI V_cg.out))
 ·exact fP1 (sI V_cg (fun _=>rfl) rfl)
 intro β wx2 E;replace FR:=fnf FR E rfl;obtain ⟨b6,hb6,eb6⟩:=nwb E mms;have lB0_b6:B0<b6:=ltb AB0 eb6.1;have lB1_b6:B1<b6:=ltb AB1 eb6.1;have lB2_b6:B2<b6:=ltb AB2 eb6.1;have hZb6:B0≤b6:=Nat.le_trans FR0.out eb6.1;replace AB0:=fnh AB0 E rfl;replace AB1:=fnh AB1 E rfl;replace AB2:=fnh AB2 E rfl;have Ab6:=hid eb6.2;simp only [nP,zr,zq];rw [←hb6];replace FR0:=hid FR.out.le;clear E eb6 hb6;go_upto_region 4 with fail
 cases nb with
 | true =>
  refine wT [] [(15,.agg cb.toArray),(16,.int .i64 s),(17,.bool true)] (by simp only [zr,zq];rfl) (by kernel_rfl) rfl ?_ oN oN ?_
  ·intro W' hW';refine ldI (abl AB1 hW') V_cb rfl<|fo2 ?_ ?_<|fxn;all_goals (go_big_quiet_step ((go_at_call 107;exact qaA (HS.out _)));exact wqn rfl)
  intro β wx3 E;replace FR:=fnf FR E rfl;replace AB0:=fnh AB0 E rfl;replace AB1:=fnh AB1 E rfl;replace AB2:=fnh AB2 E rfl;replace Ab6:=fnh Ab6 E rfl;simp only [nP,zr,zq];replace FR0:=hid FR.out.le;clear E;clear hsl;go_upto_region 5 with fail
  refine wF [⟨false,0,6,2,b6,0,25,19,ch,0,ch,[]⟩] [(18,.agg cg.toArray),(19,.agg ch.toArray)] (by simp only [zr,zq];rfl) (by kernel_rfl) ?_ ?_ (fP1 bnC) ?_ uno ?_ ?_
  ·intro W' hW';refine ldI (abl Ab6 hW') V_cg rfl<|fxo ?_<|fxs rfl<|fxn
   go_big_quiet_step ((go_at_call 109;exact qaA (HNG.out rfl _)));exact wqn rfl
  ·intro W' hK';iterate 3 (refine fxs (by kernel_rfl) ?_)
   exact fxn
  ·exact fP1 (fun _=>⟨Ab6.out.lt,rfl,At.room Ab6.out (qI V_cg.out) (qI V_ch.out)⟩)
  ·exact fP1 (sI V_ch (fun _=>rfl) rfl)
  intro β wx4 E;replace FR:=ffh FR E (by show B0≤b6;omega);replace AB0:=afh AB0 E (by show b6≠B0;omega);replace AB1:=afh AB1 E (by show b6≠B1;omega);replace AB2:=afh AB2 E (by show b6≠B2;omega);replace Ab6:=hid (show At wx4 b6 0 ch from E.atOld mms rfl Ab6.out.lt);simp only [nP,zr,zq];replace FR0:=hid FR.out.le;clear E;go_upto_region 6 with fail
  refine wT [⟨true,7,7,8,0,0,27,26,cM,0,cM,[]⟩] [(20,.agg ca.toArray),(21,.agg ch.toArray),(22,.agg cN.toArray),(23,.agg cb.toArray),(24,.agg ch.toArray),(25,.agg cD.toArray),(26,.agg cM.toArray)] (by simp only [zr,zq];rfl) (by kernel_rfl) rfl ?_ ?_ ?_ ?_
  ·intro W' hW';have rd1:=Ab6.out.below hW';refine ldI (abl AB0 hW') V_ca rfl<|ldI rd1 V_ch rfl<|fxo ?_<|ldI (abl AB1 hW') V_cb rfl<|ldI rd1 V_ch rfl<|fxo (by go_big_quiet_step ((go_at_call 110;exact qaA (HW2.out _)));exact wqn rfl)<|fxb (qeM V_cN.out V_cD.out V_cM.out) rfl<|fxs rfl<|fxs rfl<|fxn
   go_big_quiet_step ((go_at_call 110;exact qaA (HW1.out _)));exact wqn rfl
  ·exact fP1 (Tryz.alR (qR V_cM.out))
  ·exact fP1 (sR V_cM (fun _=>rfl) rfl)
  intro β wx5 E;replace FR:=fnf FR E rfl;obtain ⟨b7,hb7,eb7⟩:=nwb E mms;have lB0_b7:B0<b7:=ltb AB0 eb7.1;have lB1_b7:B1<b7:=ltb AB1 eb7.1;have lB2_b7:B2<b7:=ltb AB2 eb7.1;have lb6_b7:b6<b7:=ltb Ab6 eb7.1;have hZb7:B0≤b7:=Nat.le_trans FR0.out eb7.1;replace AB0:=fnh AB0 E rfl;replace AB1:=fnh AB1 E rfl;replace AB2:=fnh AB2 E rfl;replace Ab6:=fnh Ab6 E rfl;have Ab7:=hid eb7.2;simp only [nP,zr,zq];rw [←hb7];replace FR0:=hid FR.out.le;clear E eb7 hb7;go_upto_region 7 with fail
  cases ok with
  | true =>
   refine wT [] [(27,.agg cM.toArray),(28,.bool true),(29,.bool false)] (by simp only [zr,zq];rfl) (by kernel_rfl) rfl ?_ oN oN ?_
   ·intro W' hW';refine ldR (abl Ab7 hW') V_cM rfl<|fo2 ?_ ?_<|fxn;all_goals (go_big_quiet_step ((go_at_call 111;exact qaA (HF.out _)));exact wqn rfl)
   intro β wx6 E;replace FR:=fnf FR E rfl;replace AB0:=fnh AB0 E rfl;replace AB1:=fnh AB1 E rfl;replace AB2:=fnh AB2 E rfl;replace Ab6:=fnh Ab6 E rfl;replace Ab7:=fnh Ab7 E rfl;simp only [nP,zr,zq];replace FR0:=hid FR.out.le;clear E;go_upto_region 9 with fail
   refine wF [⟨false,0,4,1,B2,0,27,31,cM,0,cM,[]⟩] [(31,.agg cM.toArray),(5,.int .i64 0)] (by simp only [zr,zq];rfl) (by kernel_rfl) ?_ ?_ (fP1 bnC) ?_ uno ?_ ?_
   ·intro W' hW';refine ldR (abl Ab7 hW') V_cM rfl<|fxs rfl<|fxo ?_<|fxn
    go_big_quiet_step (fail);exact wqn rfl
   ·intro W' hK';have rd0:=akh Ab7 hK' (by show B2≠b7;omega);refine ldR rd0 V_cM rfl<|fxs (by kernel_rfl)<|fxi ?_<|fxn
    first|(refine .inr ?_;go_big_quiet_step (fail);exact wqn rfl)|exact .inl (by kernel_rfl)
   ·exact fP1 (fun _=>⟨AB2.out.lt,rfl,At.room AB2.out (qR V_cz.out) (qR V_cM.out)⟩)
   ·exact fP1 (sR V_cM (fun _=>rfl) rfl)
   intro β wx7 E;replace FR:=ffh FR E (by show B0≤B2;omega);replace AB0:=afh AB0 E (by show B2≠B0;omega);replace AB1:=afh AB1 E (by show B2≠B1;omega);replace AB2:=hid (show At wx7 B2 0 cM from E.atOld mms rfl AB2.out.lt);replace Ab6:=afh Ab6 E (by show B2≠b6;omega);replace Ab7:=afh Ab7 E (by show B2≠b7;omega);simp only [nP,zr,zq];replace FR0:=hid FR.out.le;clear E
   have hres:cM=cR∧code=0:=by
    obtain ⟨h1,h2⟩:=HRR.out;simp only [if_true] at h1 h2;exact ⟨by rw [V_cM.out,h1],h2⟩
   obtain ⟨rfl,rfl⟩:=hres;go_wp2_with fail
   have hld:=AB2.out.read (P:=Tryz.prog) Tryz.underlying27 rfl (qR V_cM.out);refine bodyPost_ret (v:=.tuple #[.agg cM.toArray,.int .i64 0]) (by simp [results,Tryz.results75,asAddr,hld]) rfl ?_;exact ⟨rfl,fend HB0 FR⟩
  | false =>
   refine wT [] [(27,.agg cM.toArray),(28,.bool false),(29,.bool true)] (by simp only [zr,zq];rfl) (by kernel_rfl) rfl ?_ oN oN ?_
   ·intro W' hW';refine ldR (abl Ab7 hW') V_cM rfl<|fo2 ?_ ?_<|fxn;all_goals (go_big_quiet_step ((go_at_call 111;exact qaA (HF.out _)));exact wqn rfl)
   intro β wx6 E;replace FR:=fnf FR E rfl;replace AB0:=fnh AB0 E rfl;replace AB1:=fnh AB1 E rfl;replace AB2:=fnh AB2 E rfl;replace Ab6:=fnh Ab6 E rfl;replace Ab7:=fnh Ab7 E rfl;simp only [nP,zr,zq];replace FR0:=hid FR.out.le;clear E;go_upto_region 8 with fail
   refine wF [⟨false,0,4,1,B2,0,27,30,cz,0,cz,[]⟩] [(30,.agg cz.toArray),(5,.int .i64 10)] (by simp only [zr,zq];rfl) (by kernel_rfl) ?_ ?_ (fP1 bnC) ?_ uno ?_ ?_
   ·intro W' hW';refine fxb (qaR V_cz.out) rfl<|fxs rfl<|fxo ?_<|fxn
    go_big_quiet_step (fail);exact wqn rfl
   ·intro W' hK';refine fxb (qaR V_cz.out) rfl<|fxs (by kernel_rfl)<|fxi ?_<|fxn
    first|(refine .inr ?_;go_big_quiet_step (fail);exact wqn rfl)|exact .inl (by kernel_rfl)
   ·exact fP1 (fun _=>⟨AB2.out.lt,rfl,At.room AB2.out (qR V_cz.out) (qR V_cz.out)⟩)
   ·exact fP1 (sR V_cz (fun _=>rfl) rfl)
   intro β wx7 E;replace FR:=ffh FR E (by show B0≤B2;omega);replace AB0:=afh AB0 E (by show B2≠B0;omega);replace AB1:=afh AB1 E (by show B2≠B1;omega);replace AB2:=hid (show At wx7 B2 0 cz from E.atOld mms rfl AB2.out.lt);replace Ab6:=afh Ab6 E (by show B2≠b6;omega);replace Ab7:=afh Ab7 E (by show B2≠b7;omega);simp only [nP,zr,zq];replace FR0:=hid FR.out.le;clear E
   have hres:cz=cR∧code=10:=by
    obtain ⟨h1,h2⟩:=HRR.out;simp only [Bool.false_eq_true,if_false] at h1 h2;exact ⟨by rw [V_cz.out,h1],h2⟩
   obtain ⟨rfl,rfl⟩:=hres;go_wp2_with fail
   have hld:=AB2.out.read (P:=Tryz.prog) Tryz.underlying27 rfl (qR V_cz.out);refine bodyPost_ret (v:=.tuple #[.agg cz.toArray,.int .i64 10]) (by simp [results,Tryz.results75,asAddr,hld]) rfl ?_;exact ⟨rfl,fend HB0 FR⟩
 | false =>
  refine wT [] [(15,.agg cb.toArray),(16,.int .i64 s),(17,.bool false)] (by simp only [zr,zq];rfl) (by kernel_rfl) rfl ?_ oN oN ?_
  ·intro W' hW';refine ldI (abl AB1 hW') V_cb rfl<|fo2 ?_ ?_<|fxn;all_goals (go_big_quiet_step ((go_at_call 107;exact qaA (HS.out _)));exact wqn rfl)
  intro β wx3 E;replace FR:=fnf FR E rfl;replace AB0:=fnh AB0 E rfl;replace AB1:=fnh AB1 E rfl;replace AB2:=fnh AB2 E rfl;replace Ab6:=fnh Ab6 E rfl;simp only [nP,zr,zq];replace FR0:=hid FR.out.le;clear E;clear hsl;rw [HCG.out rfl] at Ab6;go_upto_region 6 with fail
  refine wT [⟨true,7,7,8,0,0,27,26,cM,0,cM,[]⟩] [(20,.agg ca.toArray),(21,.agg ch.toArray),(22,.agg cN.toArray),(23,.agg cb.toArray),(24,.agg ch.toArray),(25,.agg cD.toArray),(26,.agg cM.toArray)] (by simp only [zr,zq];rfl) (by kernel_rfl) rfl ?_ ?_ ?_ ?_
  ·intro W' hW';have rd1:=Ab6.out.below hW';refine ldI (abl AB0 hW') V_ca rfl<|ldI rd1 V_ch rfl<|fxo ?_<|ldI (abl AB1 hW') V_cb rfl<|ldI rd1 V_ch rfl<|fxo (by go_big_quiet_step ((go_at_call 110;exact qaA (HW2.out _)));exact wqn rfl)<|fxb (qeM V_cN.out V_cD.out V_cM.out) rfl<|fxs rfl<|fxs rfl<|fxn
   go_big_quiet_step ((go_at_call 110;exact qaA (HW1.out _)));exact wqn rfl
  ·exact fP1 (Tryz.alR (qR V_cM.out))
  ·exact fP1 (sR V_cM (fun _=>rfl) rfl)
  intro β wx4 E;replace FR:=fnf FR E rfl;obtain ⟨b7,hb7,eb7⟩:=nwb E mms;have lB0_b7:B0<b7:=ltb AB0 eb7.1;have lB1_b7:B1<b7:=ltb AB1 eb7.1;have lB2_b7:B2<b7:=ltb AB2 eb7.1;have lb6_b7:b6<b7:=ltb Ab6 eb7.1;have hZb7:B0≤b7:=Nat.le_trans FR0.out eb7.1;replace AB0:=fnh AB0 E rfl;replace AB1:=fnh AB1 E rfl;replace AB2:=fnh AB2 E rfl;replace Ab6:=fnh Ab6 E rfl;have Ab7:=hid eb7.2;simp only [nP,zr,zq];rw [←hb7];replace FR0:=hid FR.out.le;clear E eb7 hb7;go_upto_region 7 with fail
  cases ok with
  | true =>
   refine wT [] [(27,.agg cM.toArray),(28,.bool true),(29,.bool false)] (by simp only [zr,zq];rfl) (by kernel_rfl) rfl ?_ oN oN ?_
   ·intro W' hW';refine ldR (abl Ab7 hW') V_cM rfl<|fo2 ?_ ?_<|fxn;all_goals (go_big_quiet_step ((go_at_call 111;exact qaA (HF.out _)));exact wqn rfl)
   intro β wx5 E;replace FR:=fnf FR E rfl;replace AB0:=fnh AB0 E rfl;replace AB1:=fnh AB1 E rfl;replace AB2:=fnh AB2 E rfl;replace Ab6:=fnh Ab6 E rfl;replace Ab7:=fnh Ab7 E rfl;simp only [nP,zr,zq];replace FR0:=hid FR.out.le;clear E;go_upto_region 9 with fail
   refine wF [⟨false,0,4,1,B2,0,27,31,cM,0,cM,[]⟩] [(31,.agg cM.toArray),(5,.int .i64 0)] (by simp only [zr,zq];rfl) (by kernel_rfl) ?_ ?_ (fP1 bnC) ?_ uno ?_ ?_
   ·intro W' hW';refine ldR (abl Ab7 hW') V_cM rfl<|fxs rfl<|fxo ?_<|fxn
    go_big_quiet_step (fail);exact wqn rfl
   ·intro W' hK';have rd0:=akh Ab7 hK' (by show B2≠b7;omega);refine ldR rd0 V_cM rfl<|fxs (by kernel_rfl)<|fxi ?_<|fxn
    first|(refine .inr ?_;go_big_quiet_step (fail);exact wqn rfl)|exact .inl (by kernel_rfl)
   ·exact fP1 (fun _=>⟨AB2.out.lt,rfl,At.room AB2.out (qR V_cz.out) (qR V_cM.out)⟩)
   ·exact fP1 (sR V_cM (fun _=>rfl) rfl)
   intro β wx6 E;replace FR:=ffh FR E (by show B0≤B2;omega);replace AB0:=afh AB0 E (by show B2≠B0;omega);replace AB1:=afh AB1 E (by show B2≠B1;omega);replace AB2:=hid (show At wx6 B2 0 cM from E.atOld mms rfl AB2.out.lt);replace Ab6:=afh Ab6 E (by show B2≠b6;omega);replace Ab7:=afh Ab7 E (by show B2≠b7;omega);simp only [nP,zr,zq];replace FR0:=hid FR.out.le;clear E
   have hres:cM=cR∧code=0:=by
    obtain ⟨h1,h2⟩:=HRR.out;simp only [if_true] at h1 h2;exact ⟨by rw [V_cM.out,h1],h2⟩
   obtain ⟨rfl,rfl⟩:=hres;go_wp2_with fail
   have hld:=AB2.out.read (P:=Tryz.prog) Tryz.underlying27 rfl (qR V_cM.out);refine bodyPost_ret (v:=.tuple #[.agg cM.toArray,.int .i64 0]) (by simp [results,Tryz.results75,asAddr,hld]) rfl ?_;exact ⟨rfl,fend HB0 FR⟩
  | false =>
   refine wT [] [(27,.agg cM.toArray),(28,.bool false),(29,.bool true)] (by simp only [zr,zq];rfl) (by kernel_rfl) rfl ?_ oN oN ?_
   ·intro W' hW';refine ldR (abl Ab7 hW') V_cM rfl<|fo2 ?_ ?_<|fxn;all_goals (go_big_quiet_step ((go_at_call 111;exact qaA (HF.out _)));exact wqn rfl)
   intro β wx5 E;replace FR:=fnf FR E rfl;replace AB0:=fnh AB0 E rfl;replace AB1:=fnh AB1 E rfl;replace AB2:=fnh AB2 E rfl;replace Ab6:=fnh Ab6 E rfl;replace Ab7:=fnh Ab7 E rfl;simp only [nP,zr,zq];replace FR0:=hid FR.out.le;clear E;go_upto_region 8 with fail
   refine wF [⟨false,0,4,1,B2,0,27,30,cz,0,cz,[]⟩] [(30,.agg cz.toArray),(5,.int .i64 10)] (by simp only [zr,zq];rfl) (by kernel_rfl) ?_ ?_ (fP1 bnC) ?_ uno ?_ ?_
   ·intro W' hW';refine fxb (qaR V_cz.out) rfl<|fxs rfl<|fxo ?_<|fxn
    go_big_quiet_step (fail);exact wqn rfl
   ·intro W' hK';refine fxb (qaR V_cz.out) rfl<|fxs (by kernel_rfl)<|fxi ?_<|fxn
    first|(refine .inr ?_;go_big_quiet_step (fail);exact wqn rfl)|exact .inl (by kernel_rfl)
   ·exact fP1 (fun _=>⟨AB2.out.lt,rfl,At.room AB2.out (qR V_cz.out) (qR V_cz.out)⟩)
   ·exact fP1 (sR V_cz (fun _=>rfl) rfl)
   intro β wx6 E;replace FR:=ffh FR E (by show B0≤B2;omega);replace AB0:=afh AB0 E (by show B2≠B0;omega);replace AB1:=afh AB1 E (by show B2≠B1;omega);replace AB2:=hid (show At wx6 B2 0 cz from E.atOld mms rfl AB2.out.lt);replace Ab6:=afh Ab6 E (by show B2≠b6;omega);replace Ab7:=afh Ab7 E (by show B2≠b7;omega);simp only [nP,zr,zq];replace FR0:=hid FR.out.le;clear E
   have hres:cz=cR∧code=10:=by
    obtain ⟨h1,h2⟩:=HRR.out;simp only [Bool.false_eq_true,if_false] at h1 h2;exact ⟨by rw [V_cz.out,h1],h2⟩
   obtain ⟨rfl,rfl⟩:=hres;go_wp2_with fail
   have hld:=AB2.out.read (P:=Tryz.prog) Tryz.underlying27 rfl (qR V_cz.out);refine bodyPost_ret (v:=.tuple #[.agg cz.toArray,.int .i64 10]) (by simp [results,Tryz.results75,asAddr,hld]) rfl ?_;exact ⟨rfl,fend HB0 FR⟩
end Go.Proofs.YtemoddmadfoaiaaGreat
namespace Go.Proofs.YtemoddmadfoaiaaGreat
open Go.RowKit Big
def iZ (z:Int):List Value:=.bool (decide (z<0))::lv 32 z.natAbs
def ratZ (z:Int) (q:Nat):List Value:=rat (decide (z<0)) z.natAbs false q
theorem qoJ (z:Int):zI (decide (z<0)) z.natAbs=z:=by
 unfold zI;by_cases h:z<0
 ·simp [h];omega
 ·simp [h];omega
theorem qxA (n:Bool) (v:Nat):zI (cs1 n v) v=zI n v:=by
 unfold zI cs1
 cases n
 ·simp
 ·by_cases h:v=0<;>simp [h]
theorem qzS (z:Int):cs1 (decide (z<0)) z.natAbs=decide (z<0):=by
 unfold cs1;by_cases h:z<0
 ·have:z.natAbs≠0:=by omega
  simp [h,this]
 ·simp [h]
theorem qmF (a b:Int):(a*b).natAbs=a.natAbs*b.natAbs:=Int.natAbs_mul a b
theorem qhH (a b:Int):decide (a*b<0)=cs1 (decide (a<0) != decide (b<0)) (a.natAbs*b.natAbs):=by
 unfold cs1;rcases Int.lt_trichotomy a 0 with ha|ha|ha<;>rcases Int.lt_trichotomy b 0 with hb|hb|hb
 ·have:=Int.mul_pos_of_neg_of_neg ha hb
  have h1:¬a*b<0:=by omega
  simp [ha,hb,h1]
 ·subst hb;simp
 ·have:=Int.mul_neg_of_neg_of_pos ha hb
  have h2:¬b<0:=by omega
  have h3:a.natAbs*b.natAbs≠0:=Nat.mul_ne_zero (by omega) (by omega);simp only [this,ha,h2,decide_true,decide_false];simp [h3]
 ·subst ha;simp
 ·subst ha;simp
 ·subst ha;simp
 ·have:=Int.mul_neg_of_pos_of_neg ha hb
  have h2:¬a<0:=by omega
  have h3:a.natAbs*b.natAbs≠0:=Nat.mul_ne_zero (by omega) (by omega);simp only [this,hb,h2,decide_true,decide_false];simp [h3]
 ·subst hb;simp
 ·have:=Int.mul_pos ha hb
  have h1:¬a*b<0:=by omega
  have h2:¬a<0:=by omega
  have h3:¬b<0:=by omega
  simp [h1,h2,h3]
theorem pmulZ {ca cb cr:List Value} {a b:Int} (h1:ca=iZ a) (h2:cb=iZ b) (hr:cr=iZ (a*b)) (ha:a.natAbs<BB^32) (hb:b.natAbs<BB^32) (hv:(a*b).natAbs<BB^32) (w:World) :
  Calls Tryz.prog 113 #[.agg ca.toArray,.agg cb.toArray] w fun e w'=>e=.returned (.tuple #[.agg cr.toArray,.int .i64 0])∧Below w.heap.size w w' :=
 quH h1 h2 hr (qmF a b) (by rw [qhH,qmF]) ha hb hv w
theorem jcA {ca cb cr:List Value} {a b:Int} (h1:ca=iZ a) (h2:cb=iZ b) (hr:cr=iZ (a+b)) (ha:a.natAbs<BB^32) (hb:b.natAbs<BB^32) (hv:(a+b).natAbs<BB^32) (w:World) :
  Calls Tryz.prog 177 #[.agg ca.toArray,.agg cb.toArray] w fun e w'=>e=.returned (.tuple #[.agg cr.toArray,.int .i64 0])∧Below w.heap.size w w' :=
 jbZ h1 h2 hr (by rw [qoJ,qoJ]) (by rw [qoJ,qoJ]) ha hb hv w
theorem qqE {cr:List Value} {z:Int} (h:cr=iZ z) (h1:-9223372036854775808≤z) (h2:z≤9223372036854775807) (w:World) :
  Calls Tryz.prog 76 #[.int .i64 z] w fun e w'=>e=.returned (.agg cr.toArray)∧Below w.heap.size w w' :=
 qhJ h rfl rfl h1 h2 w
theorem jaP (z:Int):sgnI (decide (z<0)) z.natAbs=z.sign:=by
 unfold sgnI;rcases Int.lt_trichotomy z 0 with h|h|h
 ·have:z.natAbs≠0:=by omega
  simp [h,this,Int.sign_eq_neg_one_of_neg h]
 ·subst h;rfl
 ·have h1:z.natAbs≠0:=by omega
  have h2:¬z<0:=by omega
  simp [h1,h2,Int.sign_eq_one_of_pos h]
theorem qqD {cx:List Value} {z:Int} (h:cx=iZ z) (hz:z.natAbs<BB^32) (w:World) :
  Calls Tryz.prog 107 #[.agg cx.toArray] w fun e w'=>e=.returned (.int .i64 z.sign)∧Below w.heap.size w w' :=
 qdY h (jaP z).symm hz w
theorem qoY {cr:List Value} {z:Int} (h:cr=ratZ z 1) (h1:-9223372036854775808≤z) (h2:z≤9223372036854775807) (w:World) :
  Calls Tryz.prog 123 #[.int .i64 z] w fun e w'=>e=.returned (.agg cr.toArray)∧Below w.heap.size w w' :=
 quC h rfl rfl h1 h2 w
abbrev Qn:=Int × Nat
structure VQ (r:Qn):Prop where
 num:r.1.natAbs<B480
 den:r.2<B480
 pos:r.2≠0
 low:Nat.gcd r.1.natAbs r.2=1
def mkQ (N:Int) (D:Nat):Option Qn :=
 if N.natAbs / Nat.gcd N.natAbs D<B480∧D / Nat.gcd N.natAbs D<B480 then some (N.sign*(N.natAbs / Nat.gcd N.natAbs D:Nat),D / Nat.gcd N.natAbs D) else none
def resR (o:Option Qn):List Value:=match o with|some r=>ratZ r.1 r.2|none=>rat false 0 false 0
def resE (o:Option Qn):Int:=if o.isSome=true then 0 else 10
theorem qfR (N:Int) (k:Nat) (hk:N=0→k=0):(N.sign*(k:Int)).natAbs=k∧decide (N.sign*(k:Int)<0)=cs1 (decide (N<0)) k:=by
 rcases Int.lt_trichotomy N 0 with h|h|h
 ·rw [Int.sign_eq_neg_one_of_neg h];refine ⟨by omega,?_⟩;unfold cs1;by_cases hk0:k=0
  ·subst hk0;simp
  ·have:-1*(k:Int)<0:=by omega
   simp [h,this,hk0];omega
 ·have:=hk h;subst this;simp [cs1]
 ·rw [Int.sign_eq_one_of_pos h];have h2:¬N<0:=by omega
  have h3:¬(1*(k:Int)<0):=by omega
  exact ⟨by omega,by unfold cs1;simp [h2,h3]⟩
theorem qgS {N:Int} {D:Nat} (h:D≠0):0<Nat.gcd N.natAbs D:=Nat.gcd_pos_of_pos_right _ (by omega)
theorem qiI {N:Int} {D:Nat} (h:D≠0) {r:Qn} (hr:mkQ N D=some r):VQ r:=by
 unfold mkQ at hr;split at hr
 ·rename_i hb
  injection hr with hr
  subst hr;have hg:=qgS (N:=N) h;have hs:=(qfR N (N.natAbs / Nat.gcd N.natAbs D) (fun h0=>by subst h0;simp)).1;refine ⟨by simp only;rw [hs];exact hb.1,hb.2,?_,?_⟩
  ·have:=Nat.div_pos (Nat.le_of_dvd (by omega) (Nat.gcd_dvd_right N.natAbs D)) hg
   simp only;omega
  ·simp only
   rw [hs];rw [Nat.gcd_div (Nat.gcd_dvd_left _ _) (Nat.gcd_dvd_right _ _),Nat.div_self hg]
 ·cases hr
theorem quI {ca cb:List Value} {N:Int} {D:Nat} (h1:ca=iZ N) (h2:cb=iZ (D:Int)) {cR:List Value} {code:Int} (hR:cR=resR (mkQ N D)) (hc:code=resE (mkQ N D)) (ha:N.natAbs<BB^32) (hb:D<BB^32) (h0:D≠0) (w:World) :
  Calls Tryz.prog 75 #[.agg ca.toArray,.agg cb.toArray] w fun e w'=>e=.returned (.tuple #[.agg cR.toArray,.int .i64 code])∧Below w.heap.size w w':=by
 have hg:=qgS (N:=N) h0;have hs:=qfR N (N.natAbs / Nat.gcd N.natAbs D) (fun h0=>by subst h0;simp);refine qyF (na:=decide (N<0)) (nb:=false) (n:=cs1 (decide (N<0)) (N.natAbs / Nat.gcd N.natAbs D)) (a:=N.natAbs) (b:=D) (g:=Nat.gcd N.natAbs D) h1 (by rw [h2];unfold iZ;simp) (by simp) rfl rfl rfl rfl ?_ ?_ ha hb h0 w
 ·rw [hR];unfold mkQ;by_cases hb:N.natAbs / Nat.gcd N.natAbs D<B480∧D / Nat.gcd N.natAbs D<B480
  ·rw [if_pos hb,decide_eq_true hb,if_pos rfl];simp only [resR,ratZ];rw [hs.1,hs.2]
  ·rw [if_neg hb,decide_eq_false hb];rfl
 ·rw [hc];unfold mkQ;by_cases hb:N.natAbs / Nat.gcd N.natAbs D<B480∧D / Nat.gcd N.natAbs D<B480
  ·rw [if_pos hb,decide_eq_true hb];rfl
  ·rw [if_neg hb,decide_eq_false hb];rfl
theorem qfL {c:List Value} {r:Qn} (h:c=ratZ r.1 r.2) (hv:VQ r) (w:World) :
  Calls Tryz.prog 106 #[.agg c.toArray] w fun e w'=>e=.returned (.bool true)∧Below w.heap.size w w':=by
 refine qmZ (r:=true) h ?_ (qaO hv.num) (qaO hv.den) w;have h1:=hv.num;have h2:=hv.den;have h3:=hv.pos;have h4:=hv.low;rw [qzS];simp [h1,h2,h3,h4]
theorem qxD:2*BB^30≤BB^32:=by
 have h1:BB^32=BB^30*BB^2:=by rw [←Nat.pow_add]
 have h2:2≤BB^2:=by unfold BB;decide
 rw [h1,Nat.mul_comm 2];exact Nat.mul_le_mul_left _ h2
theorem quV {a b:Nat} (ha:a<B480) (hb:b<B480):a*b<BB^30:=qeD ha hb
theorem b30 {a:Nat} (h:a<BB^30):a<BB^32:=by have:=qxD;omega
theorem qjN {a b:Qn} (mn:Bool):zI (cs1 (decide (a.1<0)) (a.1.natAbs*b.2)) (a.1.natAbs*b.2)=a.1*b.2 ∧
  zI (if mn=true then cs1 (!cs1 (decide (b.1<0)) (b.1.natAbs*a.2)) (b.1.natAbs*a.2) else cs1 (decide (b.1<0)) (b.1.natAbs*a.2)) (b.1.natAbs*a.2)=if mn=true then -(b.1*a.2) else b.1*a.2:=by
 have key:∀ (z:Int) (q:Nat),zI (decide (z<0)) (z.natAbs*q)=z*q:=by
  intro z q;unfold zI;by_cases h:z<0
  ·simp only [h,decide_true,if_true];rw [Int.natCast_mul,Int.ofNat_natAbs_of_nonpos (by omega)];rw [Int.neg_mul,Int.neg_neg]
  ·simp only [h,decide_false,if_false,Bool.false_eq_true];rw [Int.natCast_mul,Int.natAbs_of_nonneg (by omega)]
 refine ⟨by rw [qxA,key],?_⟩
 cases mn
 ·simp only [Bool.false_eq_true,if_false];rw [qxA,key]
 ·simp only [if_true];rw [qxA];have h:=key b.1 a.2;rw [←qxA] at h;rw [←h];unfold zI
  cases cs1 (decide (b.1<0)) (b.1.natAbs*a.2)<;>simp
end Go.Proofs.YtemoddmadfoaiaaGreat
