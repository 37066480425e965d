import Derived.Test.YtemoddmadfoaiaaGreatCpA
set_option linter.unusedVariables false
set_option linter.unusedSimpArgs false
set_option maxRecDepth 100000
set_option maxHeartbeats 8000000
namespace Go.Proofs.YtemoddmadfoaiaaGreat
open Go.RowKit Big
open Lib (hid)
theorem qxT {q:Nat} (h:q≠0):1=sgnI false q:=by unfold sgnI;rw [if_neg h];rfl
theorem jbL {m:Bool} {q:Nat} (h:m=true∨q=0):sgnI m q≤0:=by
 unfold sgnI;rcases h with rfl|rfl
 ·split<;>simp
 ·simp
theorem qqB {p:Nat} (h:p≠0):-1=sgnI true p:=by unfold sgnI;rw [if_neg h];rfl
theorem qtR {cr:List Value} {n m:Bool} {p q:Nat} (hr:cr=rat n p m q) (hp:p<BB^32) (hq:q<BB^32) (hbad:¬(p<B480∧q<B480∧n=cs1 n p∧m=false∧q≠0∧Nat.gcd p q=1)) (w:World) :
  Calls Tryz.prog 98 #[.agg cr.toArray] w fun e w'=>e=.returned (.bool false)∧Below w.heap.size w w':=by
 have V_cr:=hid hr;have HBAD:=hid hbad;have HPQ:=hid (And.intro hp hq);obtain ⟨bd,hbd⟩:∃ b:Bool,b=decide ((n=true∧p=0)∨m=true∨q=0):=⟨_,rfl⟩;have HBD:=hid hbd;obtain ⟨cn,V_cn⟩:∃ c:List Value,Hid (c=.bool n::lv 32 p):=⟨_,hid rfl⟩;obtain ⟨cd,V_cd⟩:∃ c:List Value,Hid (c=.bool m::lv 32 q):=⟨_,hid rfl⟩;clear hr hbad hp hq hbd;obtain ⟨B0,w0,hw0,hB0,AB0,FR,FR0,HB0,hZB0⟩:=en1 w 27 (bxq cr);go_enter Tryz.func98,Tryz.ntmps98
 go_upto_region 1 with fail
 rw [←hw0,←hB0];clear hw0 hB0;have AB0_n:=hid (AB0.out.num V_cr.out V_cn.out);have AB0_d:=hid (AB0.out.den V_cr.out V_cd.out)
 go_cut [17] from 3 to 17 (fun t wx=>t=.bool bd∧At wx B0 0 cr∧Fr B0 w wx)
 case first =>
  by_cases hA:n=true∧p=0
  ·obtain ⟨rfl,rfl⟩:=hA;have HE:=hid (show bd=true by rw [HBD.out];simp);have HSN:=hid (qcS (s:=0) V_cn.out (by unfold sgnI;simp) HPQ.out.1);refine wT [] [(3,.pointer (some ⟨B0,0,none⟩)),(4,.pointer (some ⟨B0,0,none⟩)),(5,.bool true),(6,.bool true),(7,.pointer (some ⟨B0,0,none⟩)),(8,.agg cn.toArray),(9,.int .i64 0),(10,.bool true),(11,.bool true),(12,.bool true),(13,undef),(14,undef),(15,undef),(16,undef),(17,.bool true)] (by simp only [zr,zq];rfl) (by kernel_rfl) rfl ?_ oN oN ?_
   ·intro W' hW';have cl0:=fun p os=>qaC ((AB0_n.out.below hW').neg V_cn.out) p os
    refine fo4 ?_ ?_ ?_ ?_<|fxo ?_<|ldI (abl AB0_n hW') V_cn rfl<|fo4 ?_ ?_ ?_ ?_<|fo4 ?_ ?_ ?_ ?_<|fxo ?_<|fxn;all_goals (go_big_quiet_step ((go_at_call 103;exact qaA (HSN.out _)));exact wqn rfl)
   intro β wx1 E;replace FR:=fnf FR E rfl;replace AB0:=fnh AB0 E rfl;replace AB0_n:=fnh AB0_n E rfl;replace AB0_d:=fnh AB0_d E rfl;simp only [nP,zr,zq];replace FR0:=hid FR.out.le;clear E;go_wp2_with fail
   go_meet
   exact ⟨by rw [HE.out],AB0.out,FR.out⟩
  ·by_cases hB:m=true∨q=0
   ·have HE:=hid (show bd=true by rw [HBD.out];exact decide_eq_true (.inr hB));obtain ⟨s,hs⟩:∃ s,s=sgnI m q:=⟨_,rfl⟩;have HSD:=hid (qcS V_cd.out hs HPQ.out.2);have hsl:s≤0:=by rw [hs];exact jbL hB
    clear hs hB
    cases n with
    | true =>
     have HSN:=hid (qcS (s:=-1) V_cn.out (qqB (fun h=>hA ⟨rfl,h⟩)) HPQ.out.1);clear hA;refine wT [] [(3,.pointer (some ⟨B0,0,none⟩)),(4,.pointer (some ⟨B0,0,none⟩)),(5,.bool true),(6,.bool true),(7,.pointer (some ⟨B0,0,none⟩)),(8,.agg cn.toArray),(9,.int .i64 (-1)),(10,.bool false),(11,.bool false),(12,.bool false),(13,.pointer (some ⟨B0,33,none⟩)),(14,.agg cd.toArray),(15,.int .i64 s),(16,.bool true),(17,.bool true)] (by simp only [zr,zq];rfl) (by kernel_rfl) rfl ?_ oN oN ?_
     ·intro W' hW';have cl0:=fun p os=>qaC ((AB0_n.out.below hW').neg V_cn.out) p os
      refine fo4 ?_ ?_ ?_ ?_<|fxo ?_<|ldI (abl AB0_n hW') V_cn rfl<|fo4 ?_ ?_ ?_ ?_<|fxo ?_<|ldI (abl AB0_d hW') V_cd rfl<|fxo (by go_big_quiet_step ((go_at_call 103;exact qaA (HSD.out _)));exact wqn rfl)<|fo2 ?_ ?_<|fxn;all_goals (go_big_quiet_step ((go_at_call 103;exact qaA (HSN.out _)));exact wqn rfl)
     intro β wx1 E;replace FR:=fnf FR E rfl;replace AB0:=fnh AB0 E rfl;replace AB0_n:=fnh AB0_n E rfl;replace AB0_d:=fnh AB0_d E rfl;simp only [nP,zr,zq];replace FR0:=hid FR.out.le;clear E;go_wp2_with fail
     go_meet
     exact ⟨by rw [HE.out],AB0.out,FR.out⟩
    | false =>
     clear hA;refine wT [] [(3,.pointer (some ⟨B0,0,none⟩)),(4,.pointer (some ⟨B0,0,none⟩)),(5,.bool false),(6,.bool false),(7,undef),(8,undef),(9,undef),(10,undef),(11,.bool false),(12,.bool false),(13,.pointer (some ⟨B0,33,none⟩)),(14,.agg cd.toArray),(15,.int .i64 s),(16,.bool true),(17,.bool true)] (by simp only [zr,zq];rfl) (by kernel_rfl) rfl ?_ oN oN ?_
     ·intro W' hW';have cl0:=fun p os=>qaC ((AB0_n.out.below hW').neg V_cn.out) p os
      refine fo4 ?_ ?_ ?_ ?_<|fo4 ?_ ?_ ?_ ?_<|fo3 ?_ ?_ ?_<|ldI (abl AB0_d hW') V_cd rfl<|fo3 ?_ ?_ ?_<|fxn;all_goals (go_big_quiet_step ((go_at_call 103;exact qaA (HSD.out _)));exact wqn rfl)
     intro β wx1 E;replace FR:=fnf FR E rfl;replace AB0:=fnh AB0 E rfl;replace AB0_n:=fnh AB0_n E rfl;replace AB0_d:=fnh AB0_d E rfl;simp only [nP,zr,zq];replace FR0:=hid FR.out.le;clear E;go_wp2_with fail
     go_meet
     exact ⟨by rw [HE.out],AB0.out,FR.out⟩
   ·have HE:=hid (show bd=false by rw [HBD.out];exact decide_eq_false (fun h=>h.elim hA hB))
    have hm:m=false:=by cases m with
     | true=>exact absurd (.inl rfl) hB
     | false=>rfl
    subst hm;have HSD:=hid (qcS (s:=1) V_cd.out (qxT (fun h=>hB (.inr h))) HPQ.out.2);clear hB
    cases n with
    | true =>
     have HSN:=hid (qcS (s:=-1) V_cn.out (qqB (fun h=>hA ⟨rfl,h⟩)) HPQ.out.1);clear hA;refine wT [] [(3,.pointer (some ⟨B0,0,none⟩)),(4,.pointer (some ⟨B0,0,none⟩)),(5,.bool true),(6,.bool true),(7,.pointer (some ⟨B0,0,none⟩)),(8,.agg cn.toArray),(9,.int .i64 (-1)),(10,.bool false),(11,.bool false),(12,.bool false),(13,.pointer (some ⟨B0,33,none⟩)),(14,.agg cd.toArray),(15,.int .i64 1),(16,.bool false),(17,.bool false)] (by simp only [zr,zq];rfl) (by kernel_rfl) rfl ?_ oN oN ?_
     ·intro W' hW';have cl0:=fun p os=>qaC ((AB0_n.out.below hW').neg V_cn.out) p os
      refine fo4 ?_ ?_ ?_ ?_<|fxo ?_<|ldI (abl AB0_n hW') V_cn rfl<|fo4 ?_ ?_ ?_ ?_<|fxo ?_<|ldI (abl AB0_d hW') V_cd rfl<|fxo (by go_big_quiet_step ((go_at_call 103;exact qaA (HSD.out _)));exact wqn rfl)<|fo2 ?_ ?_<|fxn;all_goals (go_big_quiet_step ((go_at_call 103;exact qaA (HSN.out _)));exact wqn rfl)
     intro β wx1 E;replace FR:=fnf FR E rfl;replace AB0:=fnh AB0 E rfl;replace AB0_n:=fnh AB0_n E rfl;replace AB0_d:=fnh AB0_d E rfl;simp only [nP,zr,zq];replace FR0:=hid FR.out.le;clear E;go_wp2_with fail
     go_meet
     exact ⟨by rw [HE.out],AB0.out,FR.out⟩
    | false =>
     clear hA;refine wT [] [(3,.pointer (some ⟨B0,0,none⟩)),(4,.pointer (some ⟨B0,0,none⟩)),(5,.bool false),(6,.bool false),(7,undef),(8,undef),(9,undef),(10,undef),(11,.bool false),(12,.bool false),(13,.pointer (some ⟨B0,33,none⟩)),(14,.agg cd.toArray),(15,.int .i64 1),(16,.bool false),(17,.bool false)] (by simp only [zr,zq];rfl) (by kernel_rfl) rfl ?_ oN oN ?_
     ·intro W' hW';have cl0:=fun p os=>qaC ((AB0_n.out.below hW').neg V_cn.out) p os
      refine fo4 ?_ ?_ ?_ ?_<|fo4 ?_ ?_ ?_ ?_<|fo3 ?_ ?_ ?_<|ldI (abl AB0_d hW') V_cd rfl<|fo3 ?_ ?_ ?_<|fxn;all_goals (go_big_quiet_step ((go_at_call 103;exact qaA (HSD.out _)));exact wqn rfl)
     intro β wx1 E;replace FR:=fnf FR E rfl;replace AB0:=fnh AB0 E rfl;replace AB0_n:=fnh AB0_n E rfl;replace AB0_d:=fnh AB0_d E rfl;simp only [nP,zr,zq];replace FR0:=hid FR.out.le;clear E;go_wp2_with fail
     go_meet
     exact ⟨by rw [HE.out],AB0.out,FR.out⟩
 case rest =>
  clear AB0_n AB0_d AB0 FR FR0;obtain ⟨rfl,h0,hF⟩:=hcut;have FR:=hid hF;have FR0:=hid hF.le;have AB0:=hid h0;have AB0_n:=hid (AB0.out.num V_cr.out V_cn.out);have AB0_d:=hid (AB0.out.den V_cr.out V_cd.out);clear h0 hF
  cases bd with
  | true =>
   go_wp2_with fail
   go_ret
   exact ⟨rfl,fend HB0 FR⟩
  | false =>
   have hno:=HBD.out;have hno2:=of_decide_eq_false hno.symm;have hA:¬(n=true∧p=0):=fun h=>hno2 (.inl h)
   have hm:m=false:=by cases m with
    | true=>exact absurd (.inr (.inl rfl)) hno2
    | false=>rfl
   have hq0:q≠0:=fun h=>hno2 (.inr (.inr h))
   have hn:n=cs1 n p:=by
    unfold cs1
    cases n with
    | false=>rfl
    | true=>simp;exact fun h=>hA ⟨rfl,h⟩
   have HCS:=hid (show ¬(p<B480∧q<B480∧Nat.gcd p q=1) from fun h=>HBAD.out ⟨h.1,h.2.1,hn,hm,hq0,h.2.2⟩);obtain ⟨x1,hx1⟩:=qaE p;obtain ⟨x2,hx2⟩:=qaE q;have hf1:=qdT hx1;have hf2:=qdT hx2;have HB1:=hid (qdO V_cn.out HPQ.out.1 hx1);have HB2:=hid (qdO V_cd.out HPQ.out.2 hx2);clear hno hno2 hA hm hn hx1 hx2;go_upto_region 3 with fail
   by_cases h1:(x1:Int)≤480
   ·by_cases h2:(x2:Int)≤480
    ·obtain ⟨gg,hgg⟩:∃ x,x=Nat.gcd p q:=⟨_,rfl⟩;have hg1:gg≠1:=fun h=>HCS.out ⟨hf1.1 h1,hf2.1 h2,by rw [←hgg,h]⟩
     obtain ⟨cg,V_cg⟩:∃ c:List Value,Hid (c=.bool false::lv 32 gg):=⟨_,hid rfl⟩;obtain ⟨co,V_co⟩:∃ c:List Value,Hid (c=.bool false::lv 32 1):=⟨_,hid rfl⟩;have HG:=hid (qqO V_cn.out V_cd.out V_cg.out hgg HPQ.out.1 HPQ.out.2);have HO:=hid (qpK (z:=1) V_co.out rfl rfl (by decide) (by decide));have H1:=hid (show 1<BB^32 from Nat.one_lt_pow (by omega) (by unfold BB;omega));have HGL:=hid (show gg<BB^32 by rw [hgg];exact Nat.lt_of_le_of_lt (Nat.le_of_dvd (by omega) (Nat.gcd_dvd_right p q)) HPQ.out.2);clear hgg hf1 hf2 hq0;refine wT [] [(18,.pointer (some ⟨B0,0,none⟩)),(19,.agg cn.toArray),(20,.int .i64 (x1:Int)),(21,.bool true),(22,.bool true),(23,.pointer (some ⟨B0,33,none⟩)),(24,.agg cd.toArray),(25,.int .i64 (x2:Int)),(26,.bool true),(27,.bool true),(28,.bool true),(29,.pointer (some ⟨B0,0,none⟩)),(30,.agg cn.toArray),(31,.pointer (some ⟨B0,33,none⟩)),(32,.agg cd.toArray),(33,.agg cg.toArray),(34,.agg co.toArray),(35,.bool false),(36,.bool false),(2,.bool false)] (by simp only [zr,zq];rfl) (by kernel_rfl) rfl ?_ oN oN ?_
     ·intro W' hW';have rd0:=AB0_n.out.below hW';have rd1:=AB0_d.out.below hW';refine fxo ?_<|ldI rd0 V_cn rfl<|fo4 ?_ ?_ ?_ ?_<|ldI rd1 V_cd rfl<|fxo (by go_big_quiet_step ((go_at_call 132;exact qaA (HB2.out _)));exact wqn rfl)<|fo4 ?_ ?_ ?_ ?_<|ldI rd0 V_cn rfl<|fxo ?_<|ldI rd1 V_cd rfl<|fxo (by go_big_quiet_step ((go_at_call 133;exact qaA (HG.out _)));exact wqn rfl)<|fxo (by go_big_quiet_step ((go_at_call 101;exact qaA (HO.out _)));exact wqn rfl)<|fxo (qdV (r:=false) (by rfl) rfl rfl rfl V_cg.out V_co.out HGL.out H1.out (by simp [hg1]) (wqn (by simp only [zq])))<|fo2 ?_ ?_<|fxn;all_goals (go_big_quiet_step ((go_at_call 132;exact qaA (HB1.out _)));exact wqn rfl)
     intro β wx51 E;replace FR:=fnf FR E rfl;replace AB0:=fnh AB0 E rfl;replace AB0_n:=fnh AB0_n E rfl;replace AB0_d:=fnh AB0_d E rfl;simp only [nP,zr,zq];replace FR0:=hid FR.out.le;clear E;go_wp2_with fail
     go_ret
     exact ⟨rfl,fend HB0 FR⟩
    ·clear hf1 hf2 hq0;refine wT [] [(18,.pointer (some ⟨B0,0,none⟩)),(19,.agg cn.toArray),(20,.int .i64 (x1:Int)),(21,.bool true),(22,.bool true),(23,.pointer (some ⟨B0,33,none⟩)),(24,.agg cd.toArray),(25,.int .i64 (x2:Int)),(26,.bool false),(27,.bool false),(28,.bool false),(29,undef),(30,undef),(31,undef),(32,undef),(33,undef),(34,undef),(35,undef),(36,.bool false),(2,.bool false)] (by simp only [zr,zq];rfl) (by kernel_rfl) rfl ?_ oN oN ?_
     ·intro W' hW';refine fxo ?_<|ldI (abl AB0_n hW') V_cn rfl<|fo4 ?_ ?_ ?_ ?_<|ldI (abl AB0_d hW') V_cd rfl<|fxo (by go_big_quiet_step ((go_at_call 132;exact qaA (HB2.out _)));exact wqn rfl)<|fo4 ?_ ?_ ?_ ?_<|fo4 ?_ ?_ ?_ ?_<|fo4 ?_ ?_ ?_ ?_<|fxn;all_goals (go_big_quiet_step ((go_at_call 132;exact qaA (HB1.out _)));exact wqn rfl)
     intro β wx51 E;replace FR:=fnf FR E rfl;replace AB0:=fnh AB0 E rfl;replace AB0_n:=fnh AB0_n E rfl;replace AB0_d:=fnh AB0_d E rfl;simp only [nP,zr,zq];replace FR0:=hid FR.out.le;clear E;go_wp2_with fail
     go_ret
     exact ⟨rfl,fend HB0 FR⟩
   ·clear hf1 hf2 hq0;refine wT [] [(18,.pointer (some ⟨B0,0,none⟩)),(19,.agg cn.toArray),(20,.int .i64 (x1:Int)),(21,.bool false),(22,.bool false),(23,undef),(24,undef),(25,undef),(26,undef),(27,.bool false),(28,.bool false),(29,undef),(30,undef),(31,undef),(32,undef),(33,undef),(34,undef),(35,undef),(36,.bool false),(2,.bool false)] (by simp only [zr,zq];rfl) (by kernel_rfl) rfl ?_ oN oN ?_
    ·intro W' hW';refine fxo ?_<|ldI (abl AB0_n hW') V_cn rfl<|fo4 ?_ ?_ ?_ ?_<|fo4 ?_ ?_ ?_ ?_<|fo4 ?_ ?_ ?_ ?_<|fo4 ?_ ?_ ?_ ?_<|fo2 ?_ ?_<|fxn;all_goals (go_big_quiet_step ((go_at_call 132;exact qaA (HB1.out _)));exact wqn rfl)
    intro β wx51 E;replace FR:=fnf FR E rfl;replace AB0:=fnh AB0 E rfl;replace AB0_n:=fnh AB0_n E rfl;replace AB0_d:=fnh AB0_d E rfl;simp only [nP,zr,zq];replace FR0:=hid FR.out.le;clear E;go_wp2_with fail
    go_ret
    exact ⟨rfl,fend HB0 FR⟩
end Go.Proofs.YtemoddmadfoaiaaGreat
