import Derived.Test.YtemoddmadfoaiaaGreatGkC
import Derived.Test.YtemoddmadfoaiaaGreatRegG
set_option linter.unusedVariables false
set_option linter.unusedSimpArgs false
set_option maxRecDepth 100000
set_option maxHeartbeats 8000000
namespace Go.Proofs.YtemoddmadfoaiaaGreat
open Go.RowKit Big
open Lib (hid)
open Dl
theorem qtE {a b x:Int} (h:x=cmpZ a b):(0<x↔b<a)∧(0≤x↔b≤a):=by
 unfold cmpZ at h;split at h
 ·omega
 ·split at h<;>omega
theorem jaH {p w:Qn} {pl:Nat} {n:Int} (hp:Pc p) (h1:0≤n) (h2:n≤1000000000000000) (h3:pl≤6) (h:worthQ p pl n=some w):VQ w∧0≤dnQ w∧0≤ceilQ w:=by
 have hv:=(qeB hp h1 h2 h3 h).1;have hn:=qtP (by have:=qjE hp pl;omega) (qvL hp h1 h2 h3 h) (Int.mul_nonneg h1 (by have:=qkR hp;omega));have hd:0≤w.1 / (w.2:Int):=Int.ediv_nonneg hn (Int.natCast_nonneg _);refine ⟨hv,hd,?_⟩;unfold ceilQ;split<;>omega
theorem qpD {cp:List Value} {p:Qn} {pl g:Nat} {z am mode most r code:Int} (h:cp=ratZ p.1 p.2) (hp:Pc p) (hz:z=(pl:Int)) (h6:pl≤6) (a0:0≤am) (a1:am≤1000000000000000) (m0:0≤most) (m1:most≤1000000000000000)
  (hr:(manyQ p pl am=none∧r=0∧code=10)∨∃ q,manyQ p pl am=some q∧code=0∧(mode=3∧r=reachF q most∨mode=4∧r=reachC q most)) (w:World) (hg:g<w.heap.size) (hc:w.cell? ⟨g,133,none⟩=some (.int .i64 z)) :
  CB 88 #[.pointer (some ⟨g,0,none⟩),.agg cp.toArray,.int .i64 am,.int .i64 mode,.int .i64 most] (.tuple #[.int .i64 r,.int .i64 code]) w:=by
 have V_cp:=hid (show cp=rat (decide (p.1<0)) p.1.natAbs false p.2 from h);have HG:=hid hg;have HC:=hid hc;obtain ⟨co,hco0⟩:=nqx (resR (worthQ p pl 1));obtain ⟨e1,he1⟩:=nqx (resE (worthQ p pl 1))
 obtain ⟨on,op,om,oq,hco⟩:∃ rn rp rm rq,co=rat rn rp rm rq:=by
  rw [hco0]
  cases worthQ p pl 1 with
  | none=>exact ⟨_,_,_,_,rfl⟩
  | some r=>exact ⟨_,_,_,_,rfl⟩
 have V_co:=hid hco;obtain ⟨ca,V_ca⟩:=nvx (rat (decide (am<0)) am.natAbs false 1);have HW:=hid (qrU (cp:=cp) (cR:=co) (code:=e1) (k:=1) (z:=z) h hp hz h6 (by omega) (by omega) hco0 he1);have HAM:=hid (qrB (cr:=ca) (z:=am) V_ca.out (by omega) (by omega))
 -- what comes behind the worth of one unit
 have HN:=hid (show (e1=10∧r=0∧code=10)∨(e1=0∧∃ cq e2,(∃ n p m q,cq=rat n p m q)∧(∀ W,CB 122 #[.agg ca.toArray,.agg co.toArray] (.tuple #[.agg cq.toArray,.int .i64 e2]) W) ∧
   ((e2=10∧r=0∧code=10)∨(e2=0∧code=0∧∃ q:Qn,cq=ratZ q.1 q.2∧VQ q∧0≤dnQ q∧0≤ceilQ q∧(mode=3∧r=reachF q most∨mode=4∧r=reachC q most)))) by
  rw [he1]
  cases hw:worthQ p pl 1 with
  | none =>
   have hM:manyQ p pl am=none:=by unfold manyQ;rw [hw]
   rcases hr with ⟨_,h1,h2⟩|⟨q,h1,_⟩
   ·exact .inl ⟨rfl,h1,h2⟩
   ·rw [hM] at h1;cases h1
  | some one =>
   have hPo:=qoJ hp (by omega) (by omega) h6 hw;have hMq:manyQ p pl am=quo2 (am,1) one:=by unfold manyQ;rw [hw];exact jbK am one
   rw [hw] at hco0;refine .inr ⟨rfl,resR (quo2 (am,1) one),resE (quo2 (am,1) one),?_,fun W=>pquoQ (a:=(am,1)) V_ca.out hco0 (qvK (by omega)) hPo.vq hPo.pos rfl rfl W,?_⟩
   ·cases quo2 (am,1) one with
    | none=>exact ⟨_,_,_,_,rfl⟩
    | some r=>exact ⟨_,_,_,_,rfl⟩
   ·rcases hr with ⟨h0,h1,h2⟩|⟨q,h1,h2,h3⟩
    ·rw [hMq] at h0;rw [h0];exact .inl ⟨rfl,h1,h2⟩
    ·obtain ⟨qv,_⟩:=qiV hp h6 h1;obtain ⟨_,q1,q2⟩:=qnH hp h6 a0 h1;rw [hMq] at h1;rw [h1];exact .inr ⟨rfl,h2,q,rfl,qv,q1,q2,h3⟩)
 have HMM:=hid (And.intro m0 m1);clear h hp hz h6 a0 a1 m0 m1 hr hg hc he1 hco0 hco;obtain ⟨B0,w0,hw0,hB0,AB0,FR,FR0,HB0,hZB0⟩:=en1 w 27 (bxq cp);go_enter Tryz.func88,Tryz.ntmps88
 go_upto_region 1 with fail
 rw [←hw0,←hB0];clear hw0 hB0;have HCB:=hid (show g<B0 by rw [HB0.out];exact HG.out);refine wT [⟨true,9,12,10,0,0,27,28,co,0,co,[]⟩] [(22,aT cp),(23,pT g 0),(24,pT g 0),(25,pT g 133),(26,iT z),(27,.tuple #[aT co,iT e1]),(21,.tuple #[aT co,iT e1]),(28,aT co),(29,iT e1),(13,iT e1)] (by simp only [zu];rfl) (by kernel_rfl) rfl ?_ ?_ ?_ ?_
 ·intro W' hW';have zc:=qcU (qaX HC.out FR.out.below HCB.out) hW';refine lhR AB0 hW' V_cp rfl<|fo3 ?_ ?_ ?_<|fxc zc (fun W h=>by simp [loadVar,h,go_sem]) rfl<|fo4 ?_ ?_ ?_ ?_<|fxs rfl<|fxs rfl<|fxo ?_<|fxn;all_goals (go_big_quiet_step (exact qaA (HW.out _));exact wqn rfl)
 ·exact fP1 (Tryz.alR (qR V_co.out))
 ·exact fP1 (sR V_co (fun _=>rfl) rfl)
 intro β wx1 E;replace FR:=fnf FR E rfl;obtain ⟨b12,hb12,eb12⟩:=nwb E mms;have lB0_b12:B0<b12:=ltb AB0 eb12.1;have hZb12:B0≤b12:=Nat.le_trans FR0.out eb12.1;replace AB0:=fnh AB0 E rfl;have Ab12:=hid eb12.2;simp only [nP,zu];rw [←hb12];replace FR0:=hid FR.out.le;clear E eb12 hb12;rcases HN.out with ⟨rfl,rfl,rfl⟩|⟨rfl,cq,e2,⟨qn,qp,qm,qq,hcq⟩,hQ,hR⟩
 ·clear HN;go_wp2
  go_ret2
  exact ⟨rfl,qbH HB0 FR⟩
 ·have V_cq:=hid hcq;have HQ:=hid hQ;have HR:=hid hR;clear HN hcq hQ hR;go_upto_region 4 with fail
  refine wT [⟨true,7,14,8,0,0,27,38,cq,0,cq,[]⟩] [(34,iT am),(35,aT ca),(36,aT co),(37,.tuple #[aT cq,iT e2]),(33,.tuple #[aT cq,iT e2]),(38,aT cq),(39,iT e2),(13,iT e2)] (by simp only [zu];rfl) (by kernel_rfl) rfl ?_ ?_ ?_ ?_
  ·intro W' hW';refine fo2 ?_ ?_<|lhR Ab12 hW' V_co rfl<|fxo (by go_big_quiet_step (exact qaA (HQ.out _));exact wqn rfl)<|fo3 ?_ ?_ ?_<|fxs rfl<|fxs rfl<|fxo ?_<|fxn;all_goals (go_big_quiet_step (exact qaA (HAM.out _));exact wqn rfl)
  ·exact fP1 (Tryz.alR (qR V_cq.out))
  ·exact fP1 (sR V_cq (fun _=>rfl) rfl)
  intro β wx2 E;replace FR:=fnf FR E rfl;obtain ⟨b14,hb14,eb14⟩:=nwb E mms;have lB0_b14:B0<b14:=ltb AB0 eb14.1;have lb12_b14:b12<b14:=ltb Ab12 eb14.1;have hZb14:B0≤b14:=Nat.le_trans FR0.out eb14.1;have Ab14:=hid eb14.2;simp only [nP,zu];rw [←hb14];clear E eb14 hb14;rcases HR.out with ⟨rfl,rfl,rfl⟩|⟨rfl,rfl,q,hq,qv,q1,q2,hm⟩
  ·clear HR;go_wp2
   go_ret2
   exact ⟨rfl,qbH HB0 FR⟩
  ·obtain ⟨m0,m1⟩:=HMM.out;obtain ⟨m2,hm2⟩:=nqx (most+1);have HMD:=hid hm;obtain ⟨cm,V_cm⟩:=nvx (rat (decide (most<0)) most.natAbs false 1);obtain ⟨cn,V_cn⟩:=nvx (rat (decide (m2<0)) m2.natAbs false 1);have HM1:=hid (qrB (cr:=cm) (z:=most) V_cm.out (by omega) (by omega));have HM2:=hid (qrB (cr:=cn) (z:=m2) V_cn.out (by omega) (by omega));obtain ⟨x1,hx1⟩:=nqx (cmpZ (q.1*((1:Nat):Int)) (most*(q.2:Int)));obtain ⟨x2,hx2⟩:=nqx (cmpZ (q.1*((1:Nat):Int)) (m2*(q.2:Int)));have HC1:=hid (jhW (a:=q) (b:=(most,1)) hq V_cm.out qv (qvK (by omega)) hx1);have HC2:=hid (jhW (a:=q) (b:=(m2,1)) hq V_cn.out qv (qvK (by omega)) hx2);have y1:=(qtE hx1).1;have y2:=(qtE hx2).2;rw [Int.natCast_one,Int.mul_one] at y1 y2;have s4:=jbI qv.pos most;have s3:=jbJ qv.pos most;rw [←hm2,←y2] at s3 s4;rw [←y1] at s4;have HS:=hid (And.intro s3 s4);have wm:IntKind.i64.wrap (most+1)=m2:=by rw [hm2];exact IntWalk.i64_in _ (by omega)
   have HQQ:=hid (And.intro hq (And.intro qv (And.intro q1 q2)));clear HR hm hx1 hx2 y1 y2 s3 s4 hm2 hq qv q1 q2 m0 m1;go_upto_region 7 with fail
   refine wE [(44,aT cq),(45,iT most),(46,aT cm),(47,.tuple #[iT x1,iT 0]),(43,.tuple #[iT x1,iT 0]),(48,iT x1),(49,iT 0),(15,iT x1),(16,iT 0)] (by simp only [zu];rfl) (by kernel_rfl) ?_ ?_
   ·intro W' hW';refine lhR Ab14 hW' V_cq rfl<|fo2 ?_ ?_<|fxo (by go_big_quiet_step (exact qaA (HC1.out _));exact wqn rfl)<|fo4 ?_ ?_ ?_ ?_<|fxo ?_<|fxn;all_goals (go_big_quiet_step (exact qaA (HM1.out _));exact wqn rfl)
   intro β wx3 E;replace FR:=fnf FR E rfl;replace Ab14:=fnh Ab14 E rfl;simp only [nP,zu];rcases HMD.out with ⟨rfl,hr⟩|⟨rfl,hr⟩
   ·have HS3:=hid HS.out.1;have HRR:=hid hr;clear HMD HS hr;by_cases c1:0<x1
    ·skip
     go_upto_region 10 with fail
     refine wE [(59,aT cq),(60,iT most),(61,iT m2),(62,aT cn),(63,.tuple #[iT x2,iT 0]),(58,.tuple #[iT x2,iT 0]),(64,iT x2),(65,iT 0),(17,iT x2),(18,iT 0)] (by simp only [zu];rfl) (by kernel_rfl) ?_ ?_
     ·intro W' hW';refine lhR Ab14 hW' V_cq rfl<|fo3 ?_ ?_ ?_<|fxo (by go_big_quiet_step (exact qaA (HC2.out _));exact wqn rfl)<|fo4 ?_ ?_ ?_ ?_<|fxo ?_<|fxn;all_goals (go_big_quiet_step (exact qaA (HM2.out _));exact wqn rfl)
     intro β wx4 E;replace FR:=fnf FR E rfl;replace Ab14:=fnh Ab14 E rfl;simp only [nP,zu];by_cases c2:0≤x2
     ·have HE:=hid (HRR.out.trans (HS3.out.1 c2));go_wp2
      go_ret2
      exact ⟨qfN HE.out.symm rfl,qbH HB0 FR⟩
     ·skip
      obtain ⟨e1,e2⟩:=HS3.out.2 c2;obtain ⟨hq,qv,q1,q2⟩:=HQQ.out;have m1:=HMM.out.2;obtain ⟨n,hn⟩:=nqx (q.1 / (q.2:Int));have hd:dnQ q=n:=hn.symm;rw [hd] at e1 e2 q1;have HNN:=hid (qhS (cr:=cq) (n:=n) hq qv hn (by omega) (by omega));have HE:=hid (HRR.out.trans e1);clear e1 e2 hq qv q1 q2 m1 hn hd;go_upto_region 13 with fail
      refine wE [(71,aT cq),(72,iT 3),(73,.tuple #[iT n,iT 0]),(70,.tuple #[iT n,iT 0]),(74,iT n),(75,iT 0),(19,iT n),(20,iT 0)] (by simp only [zu];rfl) (by kernel_rfl) ?_ ?_
      ·intro W' hW';refine lhR Ab14 hW' V_cq rfl<|fo4 ?_ ?_ ?_ ?_<|fo3 ?_ ?_ ?_<|fxn;all_goals (go_big_quiet_step (exact qaA (HNN.out _));exact wqn rfl)
      intro β wx5 E;replace FR:=fnf FR E rfl;simp only [nP,zu];go_wp2
      go_ret2
      exact ⟨qfN HE.out.symm rfl,qbH HB0 FR⟩
    ·skip
     go_upto_region 10 with fail
     refine wE [(59,aT cq),(60,iT most),(61,iT m2),(62,aT cn),(63,.tuple #[iT x2,iT 0]),(58,.tuple #[iT x2,iT 0]),(64,iT x2),(65,iT 0),(17,iT x2),(18,iT 0)] (by simp only [zu];rfl) (by kernel_rfl) ?_ ?_
     ·intro W' hW';refine lhR Ab14 hW' V_cq rfl<|fo3 ?_ ?_ ?_<|fxo (by go_big_quiet_step (exact qaA (HC2.out _));exact wqn rfl)<|fo4 ?_ ?_ ?_ ?_<|fxo ?_<|fxn;all_goals (go_big_quiet_step (exact qaA (HM2.out _));exact wqn rfl)
     intro β wx4 E;replace FR:=fnf FR E rfl;replace Ab14:=fnh Ab14 E rfl;simp only [nP,zu];by_cases c2:0≤x2
     ·have HE:=hid (HRR.out.trans (HS3.out.1 c2));go_wp2
      go_ret2
      exact ⟨qfN HE.out.symm rfl,qbH HB0 FR⟩
     ·skip
      obtain ⟨e1,e2⟩:=HS3.out.2 c2;obtain ⟨hq,qv,q1,q2⟩:=HQQ.out;have m1:=HMM.out.2;obtain ⟨n,hn⟩:=nqx (q.1 / (q.2:Int));have hd:dnQ q=n:=hn.symm;rw [hd] at e1 e2 q1;have HNN:=hid (qhS (cr:=cq) (n:=n) hq qv hn (by omega) (by omega));have HE:=hid (HRR.out.trans e1);clear e1 e2 hq qv q1 q2 m1 hn hd;go_upto_region 13 with fail
      refine wE [(71,aT cq),(72,iT 3),(73,.tuple #[iT n,iT 0]),(70,.tuple #[iT n,iT 0]),(74,iT n),(75,iT 0),(19,iT n),(20,iT 0)] (by simp only [zu];rfl) (by kernel_rfl) ?_ ?_
      ·intro W' hW';refine lhR Ab14 hW' V_cq rfl<|fo4 ?_ ?_ ?_ ?_<|fo3 ?_ ?_ ?_<|fxn;all_goals (go_big_quiet_step (exact qaA (HNN.out _));exact wqn rfl)
      intro β wx5 E;replace FR:=fnf FR E rfl;simp only [nP,zu];go_wp2
      go_ret2
      exact ⟨qfN HE.out.symm rfl,qbH HB0 FR⟩
   ·have HS4:=hid HS.out.2;have HRR:=hid hr;clear HMD HS hr;by_cases c1:0<x1
    ·have HE:=hid (HRR.out.trans (HS4.out.1 c1));go_wp2
     go_ret2
     exact ⟨qfN HE.out.symm rfl,qbH HB0 FR⟩
    ·obtain ⟨c2,e12⟩:=HS4.out.2 c1;go_upto_region 10 with fail
     refine wE [(59,aT cq),(60,iT most),(61,iT m2),(62,aT cn),(63,.tuple #[iT x2,iT 0]),(58,.tuple #[iT x2,iT 0]),(64,iT x2),(65,iT 0),(17,iT x2),(18,iT 0)] (by simp only [zu];rfl) (by kernel_rfl) ?_ ?_
     ·intro W' hW';refine lhR Ab14 hW' V_cq rfl<|fo3 ?_ ?_ ?_<|fxo (by go_big_quiet_step (exact qaA (HC2.out _));exact wqn rfl)<|fo4 ?_ ?_ ?_ ?_<|fxo ?_<|fxn;all_goals (go_big_quiet_step (exact qaA (HM2.out _));exact wqn rfl)
     intro β wx4 E;replace FR:=fnf FR E rfl;replace Ab14:=fnh Ab14 E rfl;simp only [nP,zu];obtain ⟨e1,e2⟩:=e12;obtain ⟨hq,qv,q1,q2⟩:=HQQ.out;have m1:=HMM.out.2;obtain ⟨n,hn⟩:=nqx (ceilQ q);rw [←hn] at e1 e2 q2;have HNN:=hid (qpF (cr:=cq) (n:=n) hq qv hn (by omega) (by omega));have HE:=hid (HRR.out.trans e1);clear e1 e2 hq qv q1 q2 m1 hn;go_upto_region 13 with fail
     refine wE [(71,aT cq),(72,iT 4),(73,.tuple #[iT n,iT 0]),(70,.tuple #[iT n,iT 0]),(74,iT n),(75,iT 0),(19,iT n),(20,iT 0)] (by simp only [zu];rfl) (by kernel_rfl) ?_ ?_
     ·intro W' hW';refine lhR Ab14 hW' V_cq rfl<|fo4 ?_ ?_ ?_ ?_<|fo3 ?_ ?_ ?_<|fxn;all_goals (go_big_quiet_step (exact qaA (HNN.out _));exact wqn rfl)
     intro β wx5 E;replace FR:=fnf FR E rfl;simp only [nP,zu];go_wp2
     go_ret2
     exact ⟨qfN HE.out.symm rfl,qbH HB0 FR⟩
def rndM (mode:Int) (q:Qn):Int:=if mode=3 then dnQ q else ceilQ q
theorem qpJ {cp:List Value} {p:Qn} {pl g:Nat} {z k mode r code:Int} (h:cp=ratZ p.1 p.2) (hp:Pc p) (hz:z=(pl:Int)) (h6:pl≤6) (k0:0≤k) (k1:k≤1000000000000000) (hm:mode=3∨mode=4)
  (hr:(moneyZ (worthQ p pl k) (rndM mode)=.ok r∧code=0)∨(moneyZ (worthQ p pl k) (rndM mode)=.error code∧r=0)) (w:World) (hg:g<w.heap.size) (hc:w.cell? ⟨g,133,none⟩=some (.int .i64 z)) :
  CB 89 #[.pointer (some ⟨g,0,none⟩),.agg cp.toArray,.int .i64 k,.int .i64 mode] (.tuple #[.int .i64 r,.int .i64 code]) w:=by
 have V_cp:=hid (show cp=rat (decide (p.1<0)) p.1.natAbs false p.2 from h);have HG:=hid hg;have HC:=hid hc;obtain ⟨co,hco0⟩:=nqx (resR (worthQ p pl k));obtain ⟨e1,he1⟩:=nqx (resE (worthQ p pl k))
 obtain ⟨on,op,om,oq,hco⟩:∃ rn rp rm rq,co=rat rn rp rm rq:=by
  rw [hco0]
  cases worthQ p pl k with
  | none=>exact ⟨_,_,_,_,rfl⟩
  | some r=>exact ⟨_,_,_,_,rfl⟩
 have V_co:=hid hco;have HW:=hid (qrU (cp:=cp) (cR:=co) (code:=e1) (k:=k) (z:=z) h hp hz h6 k0 k1 hco0 he1)
 have HN:=hid (show (e1=10∧r=0∧code=10)∨(e1=0∧∀ W,CB 125 #[.agg co.toArray,.int .i64 0,.int .i64 mode] (.tuple #[.int .i64 r,.int .i64 code]) W) by
  rw [he1]
  cases hw:worthQ p pl k with
  | none =>
   rw [hw] at hr;rcases hr with ⟨h1,_⟩|⟨h1,h2⟩
   ·simp [moneyZ] at h1
   ·simp [moneyZ] at h1;exact .inl ⟨rfl,h2,h1.symm⟩
  | some one =>
   obtain ⟨vo,nd,nc⟩:=jaH hp k0 k1 h6 hw;refine .inr ⟨rfl,fun W=>?_⟩;rw [hw] at hr hco0
   have hrc:(rndM mode one≤1000000000000000∧r=rndM mode one∧code=0)∨(1000000000000000<rndM mode one∧r=0∧code=33):=by
    unfold moneyZ mostZ at hr;by_cases hf:rndM mode one≤1000000000000000
    ·simp only [if_pos hf] at hr;rcases hr with ⟨h1,h2⟩|⟨h1,_⟩
     ·injection h1 with h1;exact .inl ⟨hf,h1.symm,h2⟩
     ·cases h1
    ·simp only [if_neg hf] at hr;rcases hr with ⟨h1,_⟩|⟨h1,h2⟩
     ·cases h1
     ·injection h1 with h1;exact .inr ⟨by omega,h2,h1.symm⟩
   rcases hm with rfl|rfl
   ·have e3:rndM 3 one=dnQ one:=rfl;rw [e3] at hrc;rcases hrc with ⟨h1,rfl,rfl⟩|⟨h1,rfl,rfl⟩
    ·exact qhS hco0 vo rfl (by show _≤dnQ one;omega) h1 W
    ·exact qrD hco0 vo rfl h1 W
   ·have e3:rndM 4 one=ceilQ one:=rfl;rw [e3] at hrc;rcases hrc with ⟨h1,rfl,rfl⟩|⟨h1,rfl,rfl⟩
    ·exact qpF hco0 vo rfl (by omega) h1 W
    ·exact quD hco0 vo rfl h1 W)
 clear h hp hz h6 k0 k1 hr hg hc he1 hco0 hco hm;obtain ⟨B0,w0,hw0,hB0,AB0,FR,FR0,HB0,hZB0⟩:=en1 w 27 (bxq cp);go_enter Tryz.func89,Tryz.ntmps89
 go_upto_region 1 with fail
 rw [←hw0,←hB0];clear hw0 hB0;have HCB:=hid (show g<B0 by rw [HB0.out];exact HG.out);refine wT [⟨true,10,10,11,0,0,27,20,co,0,co,[]⟩] [(13,aT cp),(14,pT g 0),(15,pT g 0),(16,pT g 133),(17,iT z),(18,iT k),(19,.tuple #[aT co,iT e1]),(12,.tuple #[aT co,iT e1]),(20,aT co),(21,iT e1),(11,iT e1)] (by simp only [zu];rfl) (by kernel_rfl) rfl ?_ ?_ ?_ ?_
 ·intro W' hW';have zc:=qcU (qaX HC.out FR.out.below HCB.out) hW';refine lhR AB0 hW' V_cp rfl<|fo3 ?_ ?_ ?_<|fxc zc (fun W h=>by simp [loadVar,h,go_sem]) rfl<|fo4 ?_ ?_ ?_ ?_<|fxo ?_<|fxs rfl<|fxs rfl<|fxo ?_<|fxn;all_goals (go_big_quiet_step (exact qaA (HW.out _));exact wqn rfl)
 ·exact fP1 (Tryz.alR (qR V_co.out))
 ·exact fP1 (sR V_co (fun _=>rfl) rfl)
 intro β wx1 E;replace FR:=fnf FR E rfl;obtain ⟨b10,hb10,eb10⟩:=nwb E mms;have lB0_b10:B0<b10:=ltb AB0 eb10.1;have hZb10:B0≤b10:=Nat.le_trans FR0.out eb10.1;have Ab10:=hid eb10.2;simp only [nP,zu];rw [←hb10];clear E eb10 hb10;rcases HN.out with ⟨rfl,rfl,rfl⟩|⟨rfl,hN⟩
 ·clear HN;go_wp2
  go_ret2
  exact ⟨rfl,qbH HB0 FR⟩
 ·have HR:=hid hN;clear HN hN;go_upto_region 4 with fail
  refine wE [(25,aT co),(26,iT mode),(27,.tuple #[iT r,iT code]),(28,iT r),(29,iT code),(8,iT r),(9,iT code)] (by simp only [zu];rfl) (by kernel_rfl) ?_ ?_
  ·intro W' hW';refine lhR Ab10 hW' V_co rfl<|fo4 ?_ ?_ ?_ ?_<|fo2 ?_ ?_<|fxn;all_goals (go_big_quiet_step (exact qaA (HR.out _));exact wqn rfl)
  intro β wx2 E;replace FR:=fnf FR E rfl;simp only [nP,zu];go_wp2
  go_ret2
  exact ⟨rfl,qbH HB0 FR⟩
end Go.Proofs.YtemoddmadfoaiaaGreat
set_option maxHeartbeats 8000000
namespace Go.Proofs.YtemoddmadfoaiaaGreat
open Go.RowKit Big Reg Ga Dl
open Lib (hid)
theorem jfJ {a b:Qn} (ha:VQ a) (hb:VQ b) (hp:0<b.1):(a.1*(b.2:Int)).natAbs<BB^32∧a.2*b.1.natAbs<BB^32∧a.2*b.1.natAbs≠0:=by
 refine ⟨b30 (by rw [Int.natAbs_mul,Int.natAbs_natCast];exact qnE ha.num hb.den),b30 (qnE ha.den hb.num),Nat.mul_ne_zero ha.pos (by omega)⟩
theorem rquoQ {ca cb cR:List Value} {a b:Qn} {code:Int} (h1:ca=ratZ a.1 a.2) (h2:cb=ratZ b.1 b.2) (ha:VQ a) (hb:VQ b) (hp:0<b.1) (hR:cR=resR (quo2 a b)) (hc:code=resE (quo2 a b)) (w:World) :
  CB 72 #[.agg ca.toArray,.agg cb.toArray] (.tuple #[.agg cR.toArray,.int .i64 code]) w:=by
 have V_ca:=hid h1;have V_cb:=hid h2;obtain ⟨B1,B2,B3⟩:=jfJ ha hb hp;have hbn:b.1=(b.1.natAbs:Int):=by omega
 have hd:((a.2:Int)*b.1).natAbs<BB^32:=by rw [Int.natAbs_mul,Int.natAbs_natCast];exact B2
 obtain ⟨rn,rp,rm,rq,hcR⟩:∃ rn rp rm rq,cR=rat rn rp rm rq:=by
  rw [hR]
  cases quo2 a b with
  | none=>exact ⟨_,_,_,_,rfl⟩
  | some r=>exact ⟨_,_,_,_,rfl⟩
 have V_cR:=hid hcR;obtain ⟨cz,V_cz⟩:=nvx (rat false 0 false 0);obtain ⟨cna,V_cna⟩:=nvx (iZ a.1);obtain ⟨cnb,V_cnb⟩:=nvx (iZ b.1);obtain ⟨cx,V_cx⟩:=nvx (iZ (a.1*(b.2:Int)));obtain ⟨ce,V_ce⟩:=nvx (iZ ((a.2:Int)*b.1));obtain ⟨cda,V_cda⟩:=nvx (.bool false::lv 32 a.2);obtain ⟨cdb,V_cdb⟩:=nvx (.bool false::lv 32 b.2);have hda:cda=iZ (a.2:Int):=by rw [V_cda.out,qjZ]
 have hdb:cdb=iZ (b.2:Int):=by rw [V_cdb.out,qjZ]
 have HVA:=hid (qhP V_ca.out ha);have HVB:=hid (qhP V_cb.out hb);have HX:=hid (qkW V_cna.out hdb V_cx.out (qaL ha.num) (qaL (by simpa using hb.den)) B1);have HD:=hid (qkW hda V_cnb.out V_ce.out (qaL (by simpa using ha.den)) (qaL hb.num) hd);have HM:=hid (qwK V_cx.out (show ce=iZ ((a.2*b.1.natAbs:Nat):Int) by rw [V_ce.out,Int.natCast_mul,←hbn]) hR hc B1 B2 B3);clear h1 h2 ha hb hR hc hd hcR hda hdb B1 B2 B3 hbn hp;obtain ⟨B0,B1,B2,w0,hw0,hB0,hB1,hB2,AB0,AB1,AB2,FR,FR0,HB0,hZB0,l01,hZB1,l12,hZB2⟩:=en3 w 27 27 27 (bxq ca) (bxq cb) (zQR V_cz);go_enter Tryz.func72,Tryz.ntmps72
 go_upto_region 1 with fail
 rw [←hw0,←hB2,←hB1,←hB0];clear hw0 hB0 hB1 hB2;refine wE [(6,aT ca),(7,bT),(8,bF),(9,bF),(10,aT cb),(11,bT),(12,bF),(13,bF)] (by simp only [zu];rfl) (by kernel_rfl) ?_ ?_
 ·intro W' hW';refine lhR AB0 hW' V_ca rfl<|fo3 ?_ ?_ ?_<|lhR AB1 hW' V_cb rfl<|fxo (by go_big_quiet_step (exact qaA (HVB.out _));exact wqn rfl)<|fo2 ?_ ?_<|fxn;all_goals (go_big_quiet_step (exact qaA (HVA.out _));exact wqn rfl)
 intro β wx1 E;replace FR:=fnf FR E rfl;replace AB0:=fnh AB0 E rfl;replace AB1:=fnh AB1 E rfl;replace AB2:=fnh AB2 E rfl;simp only [nP,zu];go_upto_region 3 with fail
 have AB0_n:=hid (AB0.out.num V_ca.out V_cna.out);have AB0_d:=hid (AB0.out.den V_ca.out V_cda.out);have AB1_n:=hid (AB1.out.num V_cb.out V_cnb.out);have AB1_d:=hid (AB1.out.den V_cb.out V_cdb.out);refine wF [⟨false,0,4,13,B2,0,27,26,cR,0,cR,[]⟩] [(15,pT B0 0),(16,aT cna),(17,pT B1 33),(18,aT cdb),(19,aT cx),(20,pT B0 33),(21,aT cda),(22,pT B1 0),(23,aT cnb),(24,aT ce),(25,.tuple #[aT cR,iT code]),(26,aT cR),(27,iT code),(5,iT code)] (by simp only [zu];rfl) (by kernel_rfl) ?_ ?_ (fP1 bnC) ?_ uno ?_ ?_
 ·intro W' hW';refine fxo ?_<|lhI AB0_n hW' V_cna rfl<|fxo ?_<|lhI AB1_d hW' V_cdb rfl<|fo2 ?_ ?_<|lhI AB0_d hW' V_cda rfl<|fxo ?_<|lhI AB1_n hW' V_cnb rfl<|fxo (by go_big_quiet_step (exact qaA (HD.out _));exact wqn rfl)<|fxo (by go_big_quiet_step (exact qaA (HM.out _));exact wqn rfl)<|fo2 ?_ ?_<|fxs rfl<|fxo ?_<|fxn;all_goals (go_big_quiet_step (exact qaA (HX.out _));exact wqn rfl)
 ·intro W' hK';have rd0:=akh AB0_n hK' (by omega);have rd1:=akh AB1_d hK' (by omega);have rd2:=akh AB0_d hK' (by omega);have rd3:=akh AB1_n hK' (by omega);refine fxi ?_<|ldI rd0 V_cna rfl<|fxi ?_<|ldI rd1 V_cdb rfl<|fxs (by kernel_rfl)<|fxi ?_<|ldI rd2 V_cda rfl<|fxi ?_<|ldI rd3 V_cnb rfl<|fxs (by kernel_rfl)<|fxs (by kernel_rfl)<|fxi ?_<|fxi ?_<|fxs (by kernel_rfl)<|fxi ?_<|fxn;all_goals (first|(refine .inr ?_;go_big_quiet_step (fail);exact wqn rfl)|exact .inl (by kernel_rfl))
 ·exact fP1 (fun _=>rmh AB2 (qR V_cz.out) (qR V_cR.out) rfl)
 ·exact fP1 (sR V_cR (fun _=>rfl) rfl)
 intro β wx2 E;replace FR:=ffh FR E (by omega);replace AB2:=aoh E AB2 mms;simp only [nP,zu];go_wp2_with fail
 have hld:=rdR AB2 V_cR;refine bodyPost_ret (v:=.tuple #[.agg cR.toArray,.int .i64 code]) (by simp [results,Tryz.results72,asAddr,hld]) rfl ?_;exact ⟨rfl,qbH HB0 FR⟩
theorem eQuo {ca cb cN:List Value} {a b:Option Qn} (h1:ca=resN a) (h2:cb=resN b) (ha:okN a) (hb:okN b) (hp:∀ y,b=some y→0<y.1) (hN:cN=resN (opt2 quo2 a b)) (w:World) :
  CB 38 #[.agg ca.toArray,.agg cb.toArray] (.agg cN.toArray) w:=by
 obtain ⟨n1,p1,m1,q1,e1,hca⟩:∃ n p m q e,ca=nm n p m q e:=by rw [h1];exact qmX a
 obtain ⟨n2,p2,m2,q2,e2,hcb⟩:∃ n p m q e,cb=nm n p m q e:=by rw [h2];exact qmX b
 have V_ca:=hid hca;have V_cb:=hid hcb;obtain ⟨cz,V_cz⟩:=nvx (nm false 0 false 0 0);obtain ⟨r,hr⟩:=nqx (if e1=0 then e2 else e1:Int);have HF:=hid (jeP V_ca.out V_cb.out hr)
 have ee:∀ (o:Option Qn) (n:Bool) (p:Nat) (m:Bool) (q:Nat) (e:Int),resN o=nm n p m q e→e=resE o:=by
  intro o n p m q e h
  have:=congrArg (fun l=>l[66]?) h
  unfold resN nm at this;have hl:(resR o).length=66:=by cases o<;>exact qbZ _ _ _ _
  try simp only at this
  rw [List.getElem?_append_right (by rw [hl];omega),hl,List.getElem?_append_right (by rw [qbZ];omega),qbZ] at this;simp at this
  exact this.symm
 have he1:=ee a _ _ _ _ _ (by rw [←h1];exact hca);have he2:=ee b _ _ _ _ _ (by rw [←h2];exact hcb);clear ee
 have hbad:∀ (hn:opt2 quo2 a b=none∧r=10),CB 38 #[.agg ca.toArray,.agg cb.toArray] (.agg cN.toArray) w:=by
  rintro ⟨hn,hr10⟩;have V_cN:=hid (show cN=nm false 0 false 0 10 by rw [hN,hn];rfl);subst hr10;clear hn hN h1 h2 ha hb hca hcb he1 he2 hr;obtain ⟨B0,B1,B2,w0,hw0,hB0,hB1,hB2,AB0,AB1,AB2,FR,FR0,HB0,hZB0,l01,hZB1,l12,hZB2⟩:=en3 w 70 70 70 (bxq ca) (bxq cb) (zQN V_cz);go_enter Tryz.func38,Tryz.ntmps38
  go_upto_region 1 with fail
  rw [←hw0,←hB2,←hB1,←hB0];clear hw0 hB0 hB1 hB2;refine wE [(8,aT ca),(9,aT cb),(10,iT 10),(5,iT 10)] (by simp only [zu];rfl) (by kernel_rfl) ?_ ?_
  ·intro W' hW';refine fxl (abl AB0 hW') (qbU V_ca.out) Tryz.underlying70 rfl rfl<|fxl (abl AB1 hW') (qbU V_cb.out) Tryz.underlying70 rfl rfl<|fo2 ?_ ?_<|fxn;all_goals (go_big_quiet_step (exact qaA (HF.out _));exact wqn rfl)
  intro β wx1 E;replace FR:=fnf FR E rfl;replace AB2:=fnh AB2 E rfl;simp only [nP,zu];go_upto_region 3 with fail
  refine wF [⟨false,0,4,2,B2,0,70,14,cN,0,cN,[]⟩] [(13,iT 10),(14,aT cN)] (by simp only [zu];rfl) (by kernel_rfl) ?_ ?_ (fP1 bnC) ?_ uno ?_ ?_
  ·intro W' hW';refine fxo ?_<|fxb (qhM V_cN.out) rfl<|fxs rfl<|fxn
   go_big_quiet_step (fail);exact wqn rfl
  ·intro W' hK';refine fxi ?_<|fxb (qhM V_cN.out) rfl<|fxs (by kernel_rfl)<|fxn
   first|(refine .inr ?_;go_big_quiet_step (fail);exact wqn rfl)|exact .inl (by kernel_rfl)
  ·exact fP1 (fun _=>rmh AB2 (qbU V_cz.out) (qbU V_cN.out) rfl)
  ·exact fP1 (stw rfl (qbU V_cN.out) (qxI V_cN.out) (fun _=>rfl))
  intro β wx2 E;replace FR:=ffh FR E (by omega);replace AB2:=aoh E AB2 mms;simp only [nP,zu];go_wp2_with fail
  have hld:=AB2.out.read (P:=Tryz.prog) Tryz.underlying70 rfl (qbU V_cN.out);refine bodyPost_ret (v:=.agg cN.toArray) (by simp [results,Tryz.results38,asAddr,hld]) rfl ?_;exact ⟨rfl,qbH HB0 FR⟩
 cases a with
 | none=>exact hbad ⟨rfl,by rw [hr,he1];rfl⟩
 | some x =>
  cases b with
  | none=>exact hbad ⟨rfl,by rw [hr,he1,he2];rfl⟩
  | some y =>
   have hr0:r=0:=by rw [hr,he1,he2];rfl
   subst hr0;have e1z:e1=0:=he1;have e2z:e2=0:=he2;clear hbad hr hca hcb he1 he2;obtain ⟨cR,hR⟩:=nqx (resR (quo2 x y));obtain ⟨code,hc⟩:=nqx (resE (quo2 x y))
   obtain ⟨rn,rp,rm,rq,hcR⟩:∃ rn rp rm rq,cR=rat rn rp rm rq:=by
    rw [hR]
    cases quo2 x y with
    | none=>exact ⟨_,_,_,_,rfl⟩
    | some r=>exact ⟨_,_,_,_,rfl⟩
   have V_cR:=hid hcR;have V_cN:=hid (show cN=nm rn rp rm rq code by rw [hN];unfold resN nm;rw [show opt2 quo2 (some x) (some y)=quo2 x y from rfl,←hR,←hc,hcR]);have V_cx:=hid h1;have V_cy:=hid h2;obtain ⟨va,V_va⟩:=nvx (rat (decide (x.1<0)) x.1.natAbs false x.2);obtain ⟨vb,V_vb⟩:=nvx (rat (decide (y.1<0)) y.1.natAbs false y.2);have HM:=hid (rquoQ (ca:=va) (cb:=vb) (cR:=cR) (code:=code) V_va.out V_vb.out (ha x rfl) (hb y rfl) (hp y rfl) hR hc);clear hN h1 h2 ha hb hR hc hcR e1z e2z;obtain ⟨B0,B1,B2,w0,hw0,hB0,hB1,hB2,AB0,AB1,AB2,FR,FR0,HB0,hZB0,l01,hZB1,l12,hZB2⟩:=en3 w 70 70 70 (bxq ca) (bxq cb) (zQN V_cz);go_enter Tryz.func38,Tryz.ntmps38
   go_upto_region 1 with fail
   rw [←hw0,←hB2,←hB1,←hB0];clear hw0 hB0 hB1 hB2;refine wE [(8,aT ca),(9,aT cb),(10,iT 0),(5,iT 0)] (by simp only [zu];rfl) (by kernel_rfl) ?_ ?_
   ·intro W' hW';refine fxl (abl AB0 hW') (qbU V_ca.out) Tryz.underlying70 rfl rfl<|fxl (abl AB1 hW') (qbU V_cb.out) Tryz.underlying70 rfl rfl<|fo2 ?_ ?_<|fxn;all_goals (go_big_quiet_step (exact qaA (HF.out _));exact wqn rfl)
   intro β wx1 E;replace FR:=fnf FR E rfl;replace AB0:=fnh AB0 E rfl;replace AB1:=fnh AB1 E rfl;replace AB2:=fnh AB2 E rfl;simp only [nP,zu];replace FR0:=hid FR.out.le;go_upto_region 4 with fail
   have AB0_v:=hid (AB0.out.val (e:=0) V_cx.out V_va.out);have AB1_v:=hid (AB1.out.val (e:=0) V_cy.out V_vb.out);refine wT [⟨true,8,6,9,0,0,27,21,cR,0,cR,[]⟩] [(16,pT B0 0),(17,aT va),(18,pT B1 0),(19,aT vb),(20,.tuple #[aT cR,iT code]),(15,.tuple #[aT cR,iT code]),(21,aT cR),(22,iT code),(7,iT code)] (by simp only [zu];rfl) (by kernel_rfl) rfl ?_ ?_ ?_ ?_
   ·intro W' hW';refine fxo ?_<|lhR AB0_v hW' V_va rfl<|fxo ?_<|lhR AB1_v hW' V_vb rfl<|fo4 ?_ ?_ ?_ ?_<|fxs rfl<|fxs rfl<|fxo ?_<|fxn;all_goals (go_big_quiet_step (exact qaA (HM.out _));exact wqn rfl)
   ·exact fP1 (Tryz.alR (qR V_cR.out))
   ·exact fP1 (sR V_cR (fun _=>rfl) rfl)
   intro β wx2 E;replace FR:=fnf FR E rfl;obtain ⟨b6,hb6,eb6⟩:=nwb E mms;have lB0_b6:B0<b6:=ltb AB0 eb6.1;have lB1_b6:B1<b6:=ltb AB1 eb6.1;have lB2_b6:B2<b6:=ltb AB2 eb6.1;have hZb6:B0≤b6:=Nat.le_trans FR0.out eb6.1;replace AB2:=fnh AB2 E rfl;have Ab6:=hid eb6.2;simp only [nP,zu];rw [←hb6];clear E eb6 hb6;go_upto_region 5 with fail
   refine wF [⟨false,0,4,3,B2,0,70,25,cN,0,cN,[]⟩] [(23,aT cR),(24,iT code),(25,aT cN)] (by simp only [zu];rfl) (by kernel_rfl) ?_ ?_ (fP1 bnC) ?_ uno ?_ ?_
   ·intro W' hW';refine lhR Ab6 hW' V_cR rfl<|fxo ?_<|fxb (qfV V_cR.out V_cN.out) rfl<|fxs rfl<|fxn
    go_big_quiet_step (fail);exact wqn rfl
   ·intro W' hK';have rd0:=akh Ab6 hK' (by omega);refine ldR rd0 V_cR rfl<|fxi ?_<|fxb (qfV V_cR.out V_cN.out) rfl<|fxs (by kernel_rfl)<|fxn
    first|(refine .inr ?_;go_big_quiet_step (fail);exact wqn rfl)|exact .inl (by kernel_rfl)
   ·exact fP1 (fun _=>rmh AB2 (qbU V_cz.out) (qbU V_cN.out) rfl)
   ·exact fP1 (stw rfl (qbU V_cN.out) (qxI V_cN.out) (fun _=>rfl))
   intro β wx3 E;replace FR:=ffh FR E (by omega);replace AB2:=aoh E AB2 mms;simp only [nP,zu];go_wp2_with fail
   have hld:=AB2.out.read (P:=Tryz.prog) Tryz.underlying70 rfl (qbU V_cN.out);refine bodyPost_ret (v:=.agg cN.toArray) (by simp [results,Tryz.results38,asAddr,hld]) rfl ?_;exact ⟨rfl,qbH HB0 FR⟩
end Go.Proofs.YtemoddmadfoaiaaGreat
