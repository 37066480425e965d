import Derived.Test.YtemoddmadfoaiaaGreatGkC
import Derived.Test.YtemoddmadfoaiaaGreatRegG
set_option linter.unusedVariables false
set_option linter.unusedSimpArgs false
set_option maxRecDepth 100000
set_option maxHeartbeats 8000000
namespace Go.Proofs.YtemoddmadfoaiaaGreat
open Go.RowKit Big
open Lib (hid)
open Dl
theorem pofQ {cR:List Value} {x y:Int} {d:Nat} {code:Int} (hy:y=(d:Int)) (hd:d≠0) (hR:cR=resR (mkQ x d)) (hc:code=resE (mkQ x d)) (h1:-9223372036854775808≤x) (h2:x≤9223372036854775807) (h3:y≤9223372036854775807) (w:World) :
  CB 43 #[.int .i64 x,.int .i64 y] (.tuple #[.agg cR.toArray,.int .i64 code]) w:=by
 obtain ⟨rn,rp,rm,rq,hcR⟩:∃ rn rp rm rq,cR=rat rn rp rm rq:=by
  rw [hR]
  cases mkQ x d with
  | none=>exact ⟨_,_,_,_,rfl⟩
  | some r=>exact ⟨_,_,_,_,rfl⟩
 have V_cR:=hid hcR;obtain ⟨cz,V_cz⟩:=nvx (rat false 0 false 0);obtain ⟨cx,V_cx⟩:=nvx (iZ x);obtain ⟨cy,V_cy⟩:=nvx (iZ y);have e1:(9223372036854775809:Nat)≤BB^2:=by unfold BB;decide
 have e2:BB^2≤BB^32:=Nat.pow_le_pow_right qbH (by omega);have HX:=hid (qrK V_cx.out h1 h2);have HY:=hid (qrK V_cy.out (by omega) h3);have HM:=hid (qwF (D:=d) (cb:=cy) V_cx.out (by rw [V_cy.out,hy]) hR hc (by omega) (by omega) hd);clear hy hd hR hc h1 h2 h3 hcR e1 e2;obtain ⟨B0,w0,hw0,hB0,AB0,FR,FR0,HB0,hZB0⟩:=en1 w 27 (zQR V_cz);go_enter Tryz.func43,Tryz.ntmps43
 go_upto_region 1 with fail
 rw [←hw0,←hB0];clear hw0 hB0;refine wF [⟨false,0,4,7,B0,0,27,11,cR,0,cR,[]⟩] [(6,iT x),(7,aT cx),(8,iT y),(9,aT cy),(10,.tuple #[aT cR,iT code]),(11,aT cR),(12,iT code),(5,iT code)] (by simp only [zu];rfl) (by kernel_rfl) ?_ ?_ (fP1 bnC) ?_ uno ?_ ?_
 ·intro W' hW';refine fo3 ?_ ?_ ?_<|fxo (by go_big_quiet_step (exact qaA (HY.out _));exact wqn rfl)<|fxo (by go_big_quiet_step (exact qaA (HM.out _));exact wqn rfl)<|fo2 ?_ ?_<|fxs rfl<|fxo ?_<|fxn;all_goals (go_big_quiet_step (exact qaA (HX.out _));exact wqn rfl)
 ·intro W' hK';refine fxi ?_<|fxs (by kernel_rfl)<|fxi ?_<|fxs (by kernel_rfl)<|fxs (by kernel_rfl)<|fxi ?_<|fxi ?_<|fxs (by kernel_rfl)<|fxi ?_<|fxn;all_goals (first|(refine .inr ?_;go_big_quiet_step (fail);exact wqn rfl)|exact .inl (by kernel_rfl))
 ·exact fP1 (fun _=>rmh AB0 (qR V_cz.out) (qR V_cR.out) rfl)
 ·exact fP1 (sR V_cR (fun _=>rfl) rfl)
 intro β wx1 E;replace FR:=ffh FR E (by omega);replace AB0:=aoh E AB0 mms;simp only [nP,zu];go_wp2_with fail
 have hld:=rdR AB0 V_cR;refine bodyPost_ret (v:=.tuple #[.agg cR.toArray,.int .i64 code]) (by simp [results,Tryz.results43,asAddr,hld]) rfl ?_;exact ⟨rfl,qbL HB0 FR⟩
theorem qzW (k:Nat) (h:k<7):IntKind.i64.wrap (((10^k:Nat):Int)*10)=((10^(k+1):Nat):Int):=by
 have:k=0∨k=1∨k=2∨k=3∨k=4∨k=5∨k=6:=by omega
 rcases this with rfl|rfl|rfl|rfl|rfl|rfl|rfl<;>rfl
theorem qtV (k:Nat) (hk:k≤7) (w:World) :
  CB 44 #[.int .i64 (k:Int)] (.int .i64 ((10^k:Nat):Int)) w:=by
 go_enter Tryz.func44,Tryz.ntmps44
 go_wp2
 go_loopg [3,5] k (fun m n i wr=>∃ (j:Nat),j≤k∧k - j≤m∧i=.int .i64 j∧n=.int .i64 ((10^j:Nat):Int)∧wr=w)
 case atStart=>exact ⟨0,by omega,by omega,rfl,rfl,rfl⟩
 case round =>
  obtain ⟨j,hj,hm,rfl,rfl,rfl⟩:=hrel;by_cases hlt:j<k
  ·have hst:=qzW j (by omega);obtain ⟨P,hP⟩:=nqx (((10^j:Nat):Int):Int);obtain ⟨P2,hP2⟩:=nqx (((10^(j+1):Nat):Int):Int);rw [←hP,←hP2] at hst;rw [←hP];have HP2:=hid hP2;clear hP hP2;go_wp2
   go_roundg (gk - 1)
   case measure=>omega
   case rel=>exact ⟨j+1,by omega,by omega,by go_num,by rw [←HP2.out],rfl⟩
  ·obtain rfl:j=k:=by omega
   obtain ⟨P,hP⟩:=nqx (((10^j:Nat):Int):Int);rw [←hP];have HP:=hid hP;clear hP;go_wp2
   go_ret
   exact ⟨by rw [←HP.out];rfl,Below.refl _ _⟩
def okPc (n m:Bool) (p q:Nat):Bool:=decide (p<B480∧q<B480∧n=cs1 n p∧m=false∧q≠0∧Nat.gcd p q=1)&&decide (0<zI n p)
theorem qjD {cr:List Value} {n m:Bool} {p q:Nat} (h:cr=rat n p m q) (hp:p<BB^32) (hq:q<BB^32) (w:World) :
  CB 42 #[.agg cr.toArray] (.bool (okPc n m p q)) w:=by
 have V_cr:=hid h;obtain ⟨ok,hok⟩:=nqx (decide (p<B480∧q<B480∧n=cs1 n p∧m=false∧q≠0∧Nat.gcd p q=1));obtain ⟨s,hs⟩:=nqx (if ok=true then sgnI n p else 0);obtain ⟨code,hc⟩:=nqx (if ok=true then 0 else 20:Int);have HS:=hid (jaG h hok hs hc hp hq)
 have HR:=hid (show okPc n m p q=(decide (code=0)&&decide (0<s)) by
  unfold okPc;rw [←hok,hs,hc]
  cases ok with
  | false=>simp
  | true =>
   have:(0<sgnI n p)↔0<zI n p:=by
    unfold sgnI zI
    cases n<;>by_cases h0:p=0<;>simp [h0]<;>omega
   simp [this])
 have hcc:code=0∨code=20:=by rw [hc];cases ok<;>simp
 clear h hok hs hc hp hq;rw [HR.out];obtain ⟨B0,w0,hw0,hB0,AB0,FR,FR0,HB0,hZB0⟩:=en1 w 27 (bxq cr);go_enter Tryz.func42,Tryz.ntmps42
 go_upto_region 1 with fail
 rw [←hw0,←hB0];clear hw0 hB0;refine wE [(6,aT cr),(7,.tuple #[iT s,iT code]),(5,.tuple #[iT s,iT code]),(8,iT s),(9,iT code),(3,iT s),(4,iT code)] (by simp only [zu];rfl) (by kernel_rfl) ?_ ?_
 ·intro W' hW';refine lhR AB0 hW' V_cr rfl<|fo4 ?_ ?_ ?_ ?_<|fo2 ?_ ?_<|fxn;all_goals (go_big_quiet_step (exact qaA (HS.out _));exact wqn rfl)
 intro β wx1 E;replace FR:=fnf FR E rfl;simp only [nP,zu];rcases hcc with rfl|rfl
 ·by_cases h0:0<s
  ·go_wp2
   go_ret
   exact ⟨qaI (by simp [h0]),qbL HB0 FR⟩
  ·go_wp2
   go_ret
   exact ⟨qaI (by simp;omega),qbL HB0 FR⟩
 ·go_wp2
  go_ret
  exact ⟨qaI (by simp),qbL HB0 FR⟩
theorem quL {cr cR cz:List Value} {n m b:Bool} {p q:Nat} {z k T kc code:Int} {part:Qn} {rn rm:Bool} {rp rq:Nat} (h:cr=rat n p m q) (hb:b=okPc n m p q) (hp:p<BB^32) (hq:q<BB^32) (hcR:cR=rat rn rp rm rq) (hz:cz=rat false 0 false 0)
  (hcase:(b=false∧cR=cz∧code=261)∨(b=true∧(z<0∨6<z)∧cR=cz∧code=30)∨(b=true∧¬z<0∧¬6<z∧(k<0∨1000000000000000<k)∧cR=cz∧code=253) ∨
   (b=true∧¬z<0∧¬6<z∧¬k<0∧¬1000000000000000<k∧IntKind.i64.wrap (k*100)=kc∧(∀ W,CB 44 #[.int .i64 z] (.int .i64 T) W) ∧
    (∀ cq W,cq=ratZ part.1 part.2→CB 43 #[.int .i64 kc,.int .i64 T] (.tuple #[.agg cq.toArray,.int .i64 0]) W) ∧
    ∀ cq W,cq=ratZ part.1 part.2→CB 45 #[.agg cr.toArray,.agg cq.toArray] (.tuple #[.agg cR.toArray,.int .i64 code]) W)) (w:World) :
  CB 11 #[.agg cr.toArray,.int .i64 z,.int .i64 k] (.tuple #[.agg cR.toArray,.int .i64 code]) w:=by
 have V_cr:=hid h;have V_cR:=hid hcR;have V_cz:=hid hz;obtain ⟨cq,V_cq⟩:=nvx (rat (decide (part.1<0)) part.1.natAbs false part.2);have HPR:=hid (fun W=>(hb ▸ qjD h hp hq W));have HCASE:=hid hcase;clear h hb hp hq hcR hz hcase;obtain ⟨B0,B1,w0,hw0,hB0,hB1,AB0,AB1,FR,FR0,HB0,hZB0,l01,hZB1⟩:=en2 w 27 27 (bxq cr) (zQR V_cz);go_enter Tryz.func11,Tryz.ntmps11
 go_upto_region 1 with fail
 rw [←hw0,←hB1,←hB0];clear hw0 hB0 hB1;refine wE [(11,aT cr),(12,.bool b),(13,.bool (!b)),(10,.bool (!b))] (by simp only [zu];rfl) (by kernel_rfl) ?_ ?_
 ·intro W' hW';refine lhR AB0 hW' V_cr rfl<|fo3 ?_ ?_ ?_<|fxn;all_goals (go_big_quiet_step (exact qaA (HPR.out _));exact wqn rfl)
 intro β wx1 E;replace FR:=fnf FR E rfl;replace AB0:=fnh AB0 E rfl;replace AB1:=fnh AB1 E rfl;simp only [nP,zu];replace FR0:=hid FR.out.le;rcases HCASE.out with ⟨rfl,rfl,rfl⟩|⟨rfl,h2,rfl,rfl⟩|⟨rfl,h2,h3,h4,rfl,rfl⟩|⟨rfl,h2,h3,h4,h5,wk,g1,g2,g3⟩
 ·replace V_cR:=V_cz;clear HCASE;go_upto_region 2 with fail
  refine wF [⟨false,0,6,1,B1,0,27,14,cR,0,cR,[]⟩] [(14,aT cR),(7,iT 261)] (by simp only [zu];rfl) (by kernel_rfl) ?_ ?_ (fP1 bnC) ?_ uno ?_ ?_
  ·intro W' hW';refine fxb (qbP V_cR.out) rfl<|fxs rfl<|fxo ?_<|fxn
   go_big_quiet_step (fail);exact wqn rfl
  ·intro W' hK';refine fxb (qbP V_cR.out) rfl<|fxs (by kernel_rfl)<|fxi ?_<|fxn
   first|(refine .inr ?_;go_big_quiet_step (fail);exact wqn rfl)|exact .inl (by kernel_rfl)
  ·exact fP1 (fun _=>rmh AB1 (qR V_cz.out) (qR V_cR.out) rfl)
  ·exact fP1 (sR V_cR (fun _=>rfl) rfl)
  intro β wx2 E;replace FR:=ffh FR E (by omega);replace AB1:=aoh E AB1 mms;simp only [nP,zu];go_wp2_with fail
  have hld:=rdR AB1 V_cR;refine bodyPost_ret (v:=.tuple #[.agg cR.toArray,.int .i64 261]) (by simp [results,Tryz.results11,asAddr,hld]) rfl ?_;exact ⟨rfl,qbL HB0 FR⟩
 ·replace V_cR:=V_cz;clear HCASE;by_cases h3:z<0
  ·clear h2;go_upto_region 4 with fail
   refine wF [⟨false,0,6,1,B1,0,27,22,cR,0,cR,[]⟩] [(22,aT cR),(7,iT 30)] (by simp only [zu];rfl) (by kernel_rfl) ?_ ?_ (fP1 bnC) ?_ uno ?_ ?_
   ·intro W' hW';refine fxb (qbP V_cR.out) rfl<|fxs rfl<|fxo ?_<|fxn
    go_big_quiet_step (fail);exact wqn rfl
   ·intro W' hK';refine fxb (qbP V_cR.out) rfl<|fxs (by kernel_rfl)<|fxi ?_<|fxn
    first|(refine .inr ?_;go_big_quiet_step (fail);exact wqn rfl)|exact .inl (by kernel_rfl)
   ·exact fP1 (fun _=>rmh AB1 (qR V_cz.out) (qR V_cR.out) rfl)
   ·exact fP1 (sR V_cR (fun _=>rfl) rfl)
   intro β wx2 E;replace FR:=ffh FR E (by omega);replace AB1:=aoh E AB1 mms;simp only [nP,zu];go_wp2_with fail
   have hld:=rdR AB1 V_cR;refine bodyPost_ret (v:=.tuple #[.agg cR.toArray,.int .i64 30]) (by simp [results,Tryz.results11,asAddr,hld]) rfl ?_;exact ⟨rfl,qbL HB0 FR⟩
  ·have h2:6<z:=by omega
   go_upto_region 4 with fail
   refine wF [⟨false,0,6,1,B1,0,27,22,cR,0,cR,[]⟩] [(22,aT cR),(7,iT 30)] (by simp only [zu];rfl) (by kernel_rfl) ?_ ?_ (fP1 bnC) ?_ uno ?_ ?_
   ·intro W' hW';refine fxb (qbP V_cR.out) rfl<|fxs rfl<|fxo ?_<|fxn
    go_big_quiet_step (fail);exact wqn rfl
   ·intro W' hK';refine fxb (qbP V_cR.out) rfl<|fxs (by kernel_rfl)<|fxi ?_<|fxn
    first|(refine .inr ?_;go_big_quiet_step (fail);exact wqn rfl)|exact .inl (by kernel_rfl)
   ·exact fP1 (fun _=>rmh AB1 (qR V_cz.out) (qR V_cR.out) rfl)
   ·exact fP1 (sR V_cR (fun _=>rfl) rfl)
   intro β wx2 E;replace FR:=ffh FR E (by omega);replace AB1:=aoh E AB1 mms;simp only [nP,zu];go_wp2_with fail
   have hld:=rdR AB1 V_cR;refine bodyPost_ret (v:=.tuple #[.agg cR.toArray,.int .i64 30]) (by simp [results,Tryz.results11,asAddr,hld]) rfl ?_;exact ⟨rfl,qbL HB0 FR⟩
 ·replace V_cR:=V_cz;clear HCASE;by_cases h5:k<0
  ·clear h4;go_upto_region 6 with fail
   refine wF [⟨false,0,6,1,B1,0,27,30,cR,0,cR,[]⟩] [(30,aT cR),(7,iT 253)] (by simp only [zu];rfl) (by kernel_rfl) ?_ ?_ (fP1 bnC) ?_ uno ?_ ?_
   ·intro W' hW';refine fxb (qbP V_cR.out) rfl<|fxs rfl<|fxo ?_<|fxn
    go_big_quiet_step (fail);exact wqn rfl
   ·intro W' hK';refine fxb (qbP V_cR.out) rfl<|fxs (by kernel_rfl)<|fxi ?_<|fxn
    first|(refine .inr ?_;go_big_quiet_step (fail);exact wqn rfl)|exact .inl (by kernel_rfl)
   ·exact fP1 (fun _=>rmh AB1 (qR V_cz.out) (qR V_cR.out) rfl)
   ·exact fP1 (sR V_cR (fun _=>rfl) rfl)
   intro β wx2 E;replace FR:=ffh FR E (by omega);replace AB1:=aoh E AB1 mms;simp only [nP,zu];go_wp2_with fail
   have hld:=rdR AB1 V_cR;refine bodyPost_ret (v:=.tuple #[.agg cR.toArray,.int .i64 253]) (by simp [results,Tryz.results11,asAddr,hld]) rfl ?_;exact ⟨rfl,qbL HB0 FR⟩
  ·have h4:1000000000000000<k:=by omega
   go_upto_region 6 with fail
   refine wF [⟨false,0,6,1,B1,0,27,30,cR,0,cR,[]⟩] [(30,aT cR),(7,iT 253)] (by simp only [zu];rfl) (by kernel_rfl) ?_ ?_ (fP1 bnC) ?_ uno ?_ ?_
   ·intro W' hW';refine fxb (qbP V_cR.out) rfl<|fxs rfl<|fxo ?_<|fxn
    go_big_quiet_step (fail);exact wqn rfl
   ·intro W' hK';refine fxb (qbP V_cR.out) rfl<|fxs (by kernel_rfl)<|fxi ?_<|fxn
    first|(refine .inr ?_;go_big_quiet_step (fail);exact wqn rfl)|exact .inl (by kernel_rfl)
   ·exact fP1 (fun _=>rmh AB1 (qR V_cz.out) (qR V_cR.out) rfl)
   ·exact fP1 (sR V_cR (fun _=>rfl) rfl)
   intro β wx2 E;replace FR:=ffh FR E (by omega);replace AB1:=aoh E AB1 mms;simp only [nP,zu];go_wp2_with fail
   have hld:=rdR AB1 V_cR;refine bodyPost_ret (v:=.tuple #[.agg cR.toArray,.int .i64 253]) (by simp [results,Tryz.results11,asAddr,hld]) rfl ?_;exact ⟨rfl,qbL HB0 FR⟩
 ·have HPW:=hid g1;have HOF:=hid (fun W=>g2 cq W V_cq.out);have HMU:=hid (fun W=>g3 cq W V_cq.out);clear g1 g2 g3 HCASE;go_upto_region 7 with fail
  refine wT [⟨true,8,8,9,0,0,27,37,cq,0,cq,[]⟩] [(32,iT k),(33,iT kc),(34,iT z),(35,iT T),(36,.tuple #[aT cq,iT 0]),(31,.tuple #[aT cq,iT 0]),(37,aT cq),(38,iT 0),(9,iT 0)] (by simp only [zu];rfl) (by kernel_rfl) rfl ?_ ?_ ?_ ?_
  ·intro W' hW';refine fo4 ?_ ?_ ?_ ?_<|fxo (by go_big_quiet_step (exact qaA (HOF.out _));exact wqn rfl)<|fo3 ?_ ?_ ?_<|fxs rfl<|fxs rfl<|fxo ?_<|fxn;all_goals (go_big_quiet_step (exact qaA (HPW.out _));exact wqn rfl)
  ·exact fP1 (Tryz.alR (qR V_cq.out))
  ·exact fP1 (sR V_cq (fun _=>rfl) rfl)
  intro β wx2 E;replace FR:=fnf FR E rfl;obtain ⟨b8,hb8,eb8⟩:=nwb E mms;have lB0_b8:B0<b8:=ltb AB0 eb8.1;have lB1_b8:B1<b8:=ltb AB1 eb8.1;have hZb8:B0≤b8:=Nat.le_trans FR0.out eb8.1;replace AB0:=fnh AB0 E rfl;replace AB1:=fnh AB1 E rfl;have Ab8:=hid eb8.2;simp only [nP,zu];rw [←hb8];clear E eb8 hb8;go_upto_region 8 with fail
  refine wF [⟨false,0,6,5,B1,0,27,42,cR,0,cR,[]⟩] [(39,aT cr),(40,aT cq),(41,.tuple #[aT cR,iT code]),(42,aT cR),(43,iT code),(7,iT code)] (by simp only [zu];rfl) (by kernel_rfl) ?_ ?_ (fP1 bnC) ?_ uno ?_ ?_
  ·intro W' hW';refine lhR AB0 hW' V_cr rfl<|lhR Ab8 hW' V_cq rfl<|fo3 ?_ ?_ ?_<|fxs rfl<|fxo ?_<|fxn;all_goals (go_big_quiet_step (exact qaA (HMU.out _));exact wqn rfl)
  ·intro W' hK';have rd0:=akh AB0 hK' (by omega);have rd1:=akh Ab8 hK' (by omega);refine ldR rd0 V_cr rfl<|ldR rd1 V_cq rfl<|fxs (by kernel_rfl)<|fxi ?_<|fxi ?_<|fxs (by kernel_rfl)<|fxi ?_<|fxn;all_goals (first|(refine .inr ?_;go_big_quiet_step (fail);exact wqn rfl)|exact .inl (by kernel_rfl))
  ·exact fP1 (fun _=>rmh AB1 (qR V_cz.out) (qR V_cR.out) rfl)
  ·exact fP1 (sR V_cR (fun _=>rfl) rfl)
  intro β wx3 E;replace FR:=ffh FR E (by omega);replace AB1:=aoh E AB1 mms;simp only [nP,zu];go_wp2_with fail
  have hld:=rdR AB1 V_cR;refine bodyPost_ret (v:=.tuple #[.agg cR.toArray,.int .i64 code]) (by simp [results,Tryz.results11,asAddr,hld]) rfl ?_;exact ⟨rfl,qbL HB0 FR⟩
theorem qmI {p:Qn} (hp:Pc p):okPc (decide (p.1<0)) false p.1.natAbs p.2=true:=by
 unfold okPc;rw [qpP,decide_eq_true hp.pos,Bool.and_true];exact decide_eq_true ⟨hp.vq.num,hp.vq.den,(jcI p.1).symm,rfl,hp.vq.pos,hp.vq.low⟩
theorem qqY {cp cR:List Value} {p:Qn} {pl:Nat} {z k code:Int} (h:cp=ratZ p.1 p.2) (hp:Pc p) (hz:z=(pl:Int)) (h6:pl≤6) (k0:0≤k) (k1:k≤1000000000000000) (hR:cR=resR (worthQ p pl k)) (hc:code=resE (worthQ p pl k)) (w:World) :
  CB 11 #[.agg cp.toArray,.int .i64 z,.int .i64 k] (.tuple #[.agg cR.toArray,.int .i64 code]) w:=by
 obtain ⟨pv,pe⟩:=qkH k0 k1 h6;have hps:=qoI k0 k1 h6
 obtain ⟨rn,rp,rm,rq,hcR⟩:∃ rn rp rm rq,cR=rat rn rp rm rq:=by
  rw [hR]
  cases worthQ p pl k with
  | none=>exact ⟨_,_,_,_,rfl⟩
  | some r=>exact ⟨_,_,_,_,rfl⟩
 have h10:10^pl≤10^6:=Nat.pow_le_pow_right (by omega) h6
 refine quL (cz:=rat false 0 false 0) (b:=true) (part:=partQ k pl) (T:=((10^pl:Nat):Int)) (kc:=k*100) (n:=decide (p.1<0)) (m:=false) (p:=p.1.natAbs) (q:=p.2) h (qmI hp).symm (qaT hp.vq.num) (qaT hp.vq.den) hcR rfl
  (.inr (.inr (.inr ⟨rfl,by omega,by omega,by omega,by omega,IntWalk.i64_in _ (by omega),fun W=>by rw [hz];exact qtV pl (by omega) W,
   fun cq W e=>pofQ (d:=10^pl) rfl (Nat.ne_of_gt (Nat.pow_pos (by decide))) (by rw [hps];exact e) (by rw [hps];rfl) (by omega) (by omega) (by omega) W,fun cq W e=>pmulQ h e hp.vq pv hR hc W⟩))) w
set_option maxHeartbeats 8000000
theorem qsH {a b x:Int} (h:x=cmpZ a b):(0<x↔b<a)∧(0≤x↔b≤a):=by
 unfold cmpZ at h;split at h
 ·omega
 ·split at h<;>omega
theorem qzQ {p w:Qn} {pl:Nat} {n:Int} (hp:Pc p) (h1:0≤n) (h2:n≤1000000000000000) (h3:pl≤6) (h:worthQ p pl n=some w):VQ w∧0≤dnQ w∧0≤ceilQ w:=by
 have hv:=(qdU hp h1 h2 h3 h).1;have hn:=qsT (by have:=qhX hp pl;omega) (quN hp h1 h2 h3 h) (Int.mul_nonneg h1 (by have:=qgJ hp;omega));have hd:0≤w.1 / (w.2:Int):=Int.ediv_nonneg hn (Int.natCast_nonneg _);refine ⟨hv,hd,?_⟩;unfold ceilQ;split<;>omega
theorem qoE {cp:List Value} {p:Qn} {pl g:Nat} {z am mode most r code:Int} (h:cp=ratZ p.1 p.2) (hp:Pc p) (hz:z=(pl:Int)) (h6:pl≤6) (a0:0≤am) (a1:am≤1000000000000000) (m0:0≤most) (m1:most≤1000000000000000)
  (hr:(manyQ p pl am=none∧r=0∧code=10)∨∃ q,manyQ p pl am=some q∧code=0∧(mode=3∧r=reachF q most∨mode=4∧r=reachC q most)) (w:World) (hg:g<w.heap.size) (hc:w.cell? ⟨g,133,none⟩=some (.int .i64 z)) :
  CB 88 #[.pointer (some ⟨g,0,none⟩),.agg cp.toArray,.int .i64 am,.int .i64 mode,.int .i64 most] (.tuple #[.int .i64 r,.int .i64 code]) w:=by
 have V_cp:=hid (show cp=rat (decide (p.1<0)) p.1.natAbs false p.2 from h);have HG:=hid hg;have HC:=hid hc;obtain ⟨co,hco0⟩:=nqx (resR (worthQ p pl 1));obtain ⟨e1,he1⟩:=nqx (resE (worthQ p pl 1))
 obtain ⟨on,op,om,oq,hco⟩:∃ rn rp rm rq,co=rat rn rp rm rq:=by
  rw [hco0]
  cases worthQ p pl 1 with
  | none=>exact ⟨_,_,_,_,rfl⟩
  | some r=>exact ⟨_,_,_,_,rfl⟩
 have V_co:=hid hco;obtain ⟨ca,V_ca⟩:=nvx (rat (decide (am<0)) am.natAbs false 1);have HW:=hid (qqY (cp:=cp) (cR:=co) (code:=e1) (k:=1) (z:=z) h hp hz h6 (by omega) (by omega) hco0 he1);have HAM:=hid (qqE (cr:=ca) (z:=am) V_ca.out (by omega) (by omega))
 -- what comes behind the worth of one unit
 have HN:=hid (show (e1=10∧r=0∧code=10)∨(e1=0∧∃ cq e2,(∃ n p m q,cq=rat n p m q)∧(∀ W,CB 122 #[.agg ca.toArray,.agg co.toArray] (.tuple #[.agg cq.toArray,.int .i64 e2]) W) ∧
   ((e2=10∧r=0∧code=10)∨(e2=0∧code=0∧∃ q:Qn,cq=ratZ q.1 q.2∧VQ q∧0≤dnQ q∧0≤ceilQ q∧(mode=3∧r=reachF q most∨mode=4∧r=reachC q most)))) by
  rw [he1]
  cases hw:worthQ p pl 1 with
  | none =>
   have hM:manyQ p pl am=none:=by unfold manyQ;rw [hw]
   rcases hr with ⟨_,h1,h2⟩|⟨q,h1,_⟩
   ·exact .inl ⟨rfl,h1,h2⟩
   ·rw [hM] at h1;cases h1
  | some one =>
   have hPo:=qnN hp (by omega) (by omega) h6 hw;have hMq:manyQ p pl am=quo2 (am,1) one:=by unfold manyQ;rw [hw];exact jaS am one
   rw [hw] at hco0;refine .inr ⟨rfl,resR (quo2 (am,1) one),resE (quo2 (am,1) one),?_,fun W=>pquoQ (a:=(am,1)) V_ca.out hco0 (quM (by omega)) hPo.vq hPo.pos rfl rfl W,?_⟩
   ·cases quo2 (am,1) one with
    | none=>exact ⟨_,_,_,_,rfl⟩
    | some r=>exact ⟨_,_,_,_,rfl⟩
   ·rcases hr with ⟨h0,h1,h2⟩|⟨q,h1,h2,h3⟩
    ·rw [hMq] at h0;rw [h0];exact .inl ⟨rfl,h1,h2⟩
    ·obtain ⟨qv,_⟩:=qgX hp h6 h1;obtain ⟨_,q1,q2⟩:=qmO hp h6 a0 h1;rw [hMq] at h1;rw [h1];exact .inr ⟨rfl,h2,q,rfl,qv,q1,q2,h3⟩)
 have HMM:=hid (And.intro m0 m1);clear h hp hz h6 a0 a1 m0 m1 hr hg hc he1 hco0 hco;obtain ⟨B0,w0,hw0,hB0,AB0,FR,FR0,HB0,hZB0⟩:=en1 w 27 (bxq cp);go_enter Tryz.func88,Tryz.ntmps88
 go_upto_region 1 with fail
 rw [←hw0,←hB0];clear hw0 hB0;have HCB:=hid (show g<B0 by rw [HB0.out];exact HG.out);refine wT [⟨true,9,12,10,0,0,27,28,co,0,co,[]⟩] [(22,aT cp),(23,pT g 0),(24,pT g 0),(25,pT g 133),(26,iT z),(27,.tuple #[aT co,iT e1]),(21,.tuple #[aT co,iT e1]),(28,aT co),(29,iT e1),(13,iT e1)] (by simp only [zu];rfl) (by kernel_rfl) rfl ?_ ?_ ?_ ?_
 ·intro W' hW';have zc:=qcU (qbC HC.out FR.out.below HCB.out) hW';refine lhR AB0 hW' V_cp rfl<|fo3 ?_ ?_ ?_<|fxc zc (fun W h=>by simp [loadVar,h,go_sem]) rfl<|fo4 ?_ ?_ ?_ ?_<|fxs rfl<|fxs rfl<|fxo ?_<|fxn;all_goals (go_big_quiet_step (exact qaA (HW.out _));exact wqn rfl)
 ·exact fP1 (Tryz.alR (qR V_co.out))
 ·exact fP1 (sR V_co (fun _=>rfl) rfl)
 intro β wx1 E;replace FR:=fnf FR E rfl;obtain ⟨b12,hb12,eb12⟩:=nwb E mms;have lB0_b12:B0<b12:=ltb AB0 eb12.1;have hZb12:B0≤b12:=Nat.le_trans FR0.out eb12.1;replace AB0:=fnh AB0 E rfl;have Ab12:=hid eb12.2;simp only [nP,zu];rw [←hb12];replace FR0:=hid FR.out.le;clear E eb12 hb12;rcases HN.out with ⟨rfl,rfl,rfl⟩|⟨rfl,cq,e2,⟨qn,qp,qm,qq,hcq⟩,hQ,hR⟩
 ·clear HN;go_wp2
  go_ret2
  exact ⟨rfl,qbL HB0 FR⟩
 ·have V_cq:=hid hcq;have HQ:=hid hQ;have HR:=hid hR;clear HN hcq hQ hR;go_upto_region 4 with fail
  refine wT [⟨true,7,14,8,0,0,27,38,cq,0,cq,[]⟩] [(34,iT am),(35,aT ca),(36,aT co),(37,.tuple #[aT cq,iT e2]),(33,.tuple #[aT cq,iT e2]),(38,aT cq),(39,iT e2),(13,iT e2)] (by simp only [zu];rfl) (by kernel_rfl) rfl ?_ ?_ ?_ ?_
  ·intro W' hW';refine fo2 ?_ ?_<|lhR Ab12 hW' V_co rfl<|fxo (by go_big_quiet_step (exact qaA (HQ.out _));exact wqn rfl)<|fo3 ?_ ?_ ?_<|fxs rfl<|fxs rfl<|fxo ?_<|fxn;all_goals (go_big_quiet_step (exact qaA (HAM.out _));exact wqn rfl)
  ·exact fP1 (Tryz.alR (qR V_cq.out))
  ·exact fP1 (sR V_cq (fun _=>rfl) rfl)
  intro β wx2 E;replace FR:=fnf FR E rfl;obtain ⟨b14,hb14,eb14⟩:=nwb E mms;have lB0_b14:B0<b14:=ltb AB0 eb14.1;have lb12_b14:b12<b14:=ltb Ab12 eb14.1;have hZb14:B0≤b14:=Nat.le_trans FR0.out eb14.1;have Ab14:=hid eb14.2;simp only [nP,zu];rw [←hb14];clear E eb14 hb14;rcases HR.out with ⟨rfl,rfl,rfl⟩|⟨rfl,rfl,q,hq,qv,q1,q2,hm⟩
  ·clear HR;go_wp2
   go_ret2
   exact ⟨rfl,qbL HB0 FR⟩
  ·obtain ⟨m0,m1⟩:=HMM.out;obtain ⟨m2,hm2⟩:=nqx (most+1);have HMD:=hid hm;obtain ⟨cm,V_cm⟩:=nvx (rat (decide (most<0)) most.natAbs false 1);obtain ⟨cn,V_cn⟩:=nvx (rat (decide (m2<0)) m2.natAbs false 1);have HM1:=hid (qqE (cr:=cm) (z:=most) V_cm.out (by omega) (by omega));have HM2:=hid (qqE (cr:=cn) (z:=m2) V_cn.out (by omega) (by omega));obtain ⟨x1,hx1⟩:=nqx (cmpZ (q.1*((1:Nat):Int)) (most*(q.2:Int)));obtain ⟨x2,hx2⟩:=nqx (cmpZ (q.1*((1:Nat):Int)) (m2*(q.2:Int)));have HC1:=hid (jgT (a:=q) (b:=(most,1)) hq V_cm.out qv (quM (by omega)) hx1);have HC2:=hid (jgT (a:=q) (b:=(m2,1)) hq V_cn.out qv (quM (by omega)) hx2);have y1:=(qsH hx1).1;have y2:=(qsH hx2).2;rw [Int.natCast_one,Int.mul_one] at y1 y2;have s4:=jaQ qv.pos most;have s3:=jaR qv.pos most;rw [←hm2,←y2] at s3 s4;rw [←y1] at s4;have HS:=hid (And.intro s3 s4);have wm:IntKind.i64.wrap (most+1)=m2:=by rw [hm2];exact IntWalk.i64_in _ (by omega)
   have HQQ:=hid (And.intro hq (And.intro qv (And.intro q1 q2)));clear HR hm hx1 hx2 y1 y2 s3 s4 hm2 hq qv q1 q2 m0 m1;go_upto_region 7 with fail
   refine wE [(44,aT cq),(45,iT most),(46,aT cm),(47,.tuple #[iT x1,iT 0]),(43,.tuple #[iT x1,iT 0]),(48,iT x1),(49,iT 0),(15,iT x1),(16,iT 0)] (by simp only [zu];rfl) (by kernel_rfl) ?_ ?_
   ·intro W' hW';refine lhR Ab14 hW' V_cq rfl<|fo2 ?_ ?_<|fxo (by go_big_quiet_step (exact qaA (HC1.out _));exact wqn rfl)<|fo4 ?_ ?_ ?_ ?_<|fxo ?_<|fxn;all_goals (go_big_quiet_step (exact qaA (HM1.out _));exact wqn rfl)
   intro β wx3 E;replace FR:=fnf FR E rfl;replace Ab14:=fnh Ab14 E rfl;simp only [nP,zu];rcases HMD.out with ⟨rfl,hr⟩|⟨rfl,hr⟩
   ·have HS3:=hid HS.out.1;have HRR:=hid hr;clear HMD HS hr;by_cases c1:0<x1
    ·skip
     go_upto_region 10 with fail
     refine wE [(59,aT cq),(60,iT most),(61,iT m2),(62,aT cn),(63,.tuple #[iT x2,iT 0]),(58,.tuple #[iT x2,iT 0]),(64,iT x2),(65,iT 0),(17,iT x2),(18,iT 0)] (by simp only [zu];rfl) (by kernel_rfl) ?_ ?_
     ·intro W' hW';refine lhR Ab14 hW' V_cq rfl<|fo3 ?_ ?_ ?_<|fxo (by go_big_quiet_step (exact qaA (HC2.out _));exact wqn rfl)<|fo4 ?_ ?_ ?_ ?_<|fxo ?_<|fxn;all_goals (go_big_quiet_step (exact qaA (HM2.out _));exact wqn rfl)
     intro β wx4 E;replace FR:=fnf FR E rfl;replace Ab14:=fnh Ab14 E rfl;simp only [nP,zu];by_cases c2:0≤x2
     ·have HE:=hid (HRR.out.trans (HS3.out.1 c2));go_wp2
      go_ret2
      exact ⟨qfJ HE.out.symm rfl,qbL HB0 FR⟩
     ·skip
      obtain ⟨e1,e2⟩:=HS3.out.2 c2;obtain ⟨hq,qv,q1,q2⟩:=HQQ.out;have m1:=HMM.out.2;obtain ⟨n,hn⟩:=nqx (q.1 / (q.2:Int));have hd:dnQ q=n:=hn.symm;rw [hd] at e1 e2 q1;have HNN:=hid (qhL (cr:=cq) (n:=n) hq qv hn (by omega) (by omega));have HE:=hid (HRR.out.trans e1);clear e1 e2 hq qv q1 q2 m1 hn hd;go_upto_region 13 with fail
      refine wE [(71,aT cq),(72,iT 3),(73,.tuple #[iT n,iT 0]),(70,.tuple #[iT n,iT 0]),(74,iT n),(75,iT 0),(19,iT n),(20,iT 0)] (by simp only [zu];rfl) (by kernel_rfl) ?_ ?_
      ·intro W' hW';refine lhR Ab14 hW' V_cq rfl<|fo4 ?_ ?_ ?_ ?_<|fo3 ?_ ?_ ?_<|fxn;all_goals (go_big_quiet_step (exact qaA (HNN.out _));exact wqn rfl)
      intro β wx5 E;replace FR:=fnf FR E rfl;simp only [nP,zu];go_wp2
      go_ret2
      exact ⟨qfJ HE.out.symm rfl,qbL HB0 FR⟩
    ·skip
     go_upto_region 10 with fail
     refine wE [(59,aT cq),(60,iT most),(61,iT m2),(62,aT cn),(63,.tuple #[iT x2,iT 0]),(58,.tuple #[iT x2,iT 0]),(64,iT x2),(65,iT 0),(17,iT x2),(18,iT 0)] (by simp only [zu];rfl) (by kernel_rfl) ?_ ?_
     ·intro W' hW';refine lhR Ab14 hW' V_cq rfl<|fo3 ?_ ?_ ?_<|fxo (by go_big_quiet_step (exact qaA (HC2.out _));exact wqn rfl)<|fo4 ?_ ?_ ?_ ?_<|fxo ?_<|fxn;all_goals (go_big_quiet_step (exact qaA (HM2.out _));exact wqn rfl)
     intro β wx4 E;replace FR:=fnf FR E rfl;replace Ab14:=fnh Ab14 E rfl;simp only [nP,zu];by_cases c2:0≤x2
     ·have HE:=hid (HRR.out.trans (HS3.out.1 c2));go_wp2
      go_ret2
      exact ⟨qfJ HE.out.symm rfl,qbL HB0 FR⟩
     ·skip
      obtain ⟨e1,e2⟩:=HS3.out.2 c2;obtain ⟨hq,qv,q1,q2⟩:=HQQ.out;have m1:=HMM.out.2;obtain ⟨n,hn⟩:=nqx (q.1 / (q.2:Int));have hd:dnQ q=n:=hn.symm;rw [hd] at e1 e2 q1;have HNN:=hid (qhL (cr:=cq) (n:=n) hq qv hn (by omega) (by omega));have HE:=hid (HRR.out.trans e1);clear e1 e2 hq qv q1 q2 m1 hn hd;go_upto_region 13 with fail
      refine wE [(71,aT cq),(72,iT 3),(73,.tuple #[iT n,iT 0]),(70,.tuple #[iT n,iT 0]),(74,iT n),(75,iT 0),(19,iT n),(20,iT 0)] (by simp only [zu];rfl) (by kernel_rfl) ?_ ?_
      ·intro W' hW';refine lhR Ab14 hW' V_cq rfl<|fo4 ?_ ?_ ?_ ?_<|fo3 ?_ ?_ ?_<|fxn;all_goals (go_big_quiet_step (exact qaA (HNN.out _));exact wqn rfl)
      intro β wx5 E;replace FR:=fnf FR E rfl;simp only [nP,zu];go_wp2
      go_ret2
      exact ⟨qfJ HE.out.symm rfl,qbL HB0 FR⟩
   ·have HS4:=hid HS.out.2;have HRR:=hid hr;clear HMD HS hr;by_cases c1:0<x1
    ·have HE:=hid (HRR.out.trans (HS4.out.1 c1));go_wp2
     go_ret2
     exact ⟨qfJ HE.out.symm rfl,qbL HB0 FR⟩
    ·obtain ⟨c2,e12⟩:=HS4.out.2 c1;go_upto_region 10 with fail
     refine wE [(59,aT cq),(60,iT most),(61,iT m2),(62,aT cn),(63,.tuple #[iT x2,iT 0]),(58,.tuple #[iT x2,iT 0]),(64,iT x2),(65,iT 0),(17,iT x2),(18,iT 0)] (by simp only [zu];rfl) (by kernel_rfl) ?_ ?_
     ·intro W' hW';refine lhR Ab14 hW' V_cq rfl<|fo3 ?_ ?_ ?_<|fxo (by go_big_quiet_step (exact qaA (HC2.out _));exact wqn rfl)<|fo4 ?_ ?_ ?_ ?_<|fxo ?_<|fxn;all_goals (go_big_quiet_step (exact qaA (HM2.out _));exact wqn rfl)
     intro β wx4 E;replace FR:=fnf FR E rfl;replace Ab14:=fnh Ab14 E rfl;simp only [nP,zu];obtain ⟨e1,e2⟩:=e12;obtain ⟨hq,qv,q1,q2⟩:=HQQ.out;have m1:=HMM.out.2;obtain ⟨n,hn⟩:=nqx (ceilQ q);rw [←hn] at e1 e2 q2;have HNN:=hid (qoG (cr:=cq) (n:=n) hq qv hn (by omega) (by omega));have HE:=hid (HRR.out.trans e1);clear e1 e2 hq qv q1 q2 m1 hn;go_upto_region 13 with fail
     refine wE [(71,aT cq),(72,iT 4),(73,.tuple #[iT n,iT 0]),(70,.tuple #[iT n,iT 0]),(74,iT n),(75,iT 0),(19,iT n),(20,iT 0)] (by simp only [zu];rfl) (by kernel_rfl) ?_ ?_
     ·intro W' hW';refine lhR Ab14 hW' V_cq rfl<|fo4 ?_ ?_ ?_ ?_<|fo3 ?_ ?_ ?_<|fxn;all_goals (go_big_quiet_step (exact qaA (HNN.out _));exact wqn rfl)
     intro β wx5 E;replace FR:=fnf FR E rfl;simp only [nP,zu];go_wp2
     go_ret2
     exact ⟨qfJ HE.out.symm rfl,qbL HB0 FR⟩
def rndM (mode:Int) (q:Qn):Int:=if mode=3 then dnQ q else ceilQ q
theorem qoL {cp:List Value} {p:Qn} {pl g:Nat} {z k mode r code:Int} (h:cp=ratZ p.1 p.2) (hp:Pc p) (hz:z=(pl:Int)) (h6:pl≤6) (k0:0≤k) (k1:k≤1000000000000000) (hm:mode=3∨mode=4)
  (hr:(moneyZ (worthQ p pl k) (rndM mode)=.ok r∧code=0)∨(moneyZ (worthQ p pl k) (rndM mode)=.error code∧r=0)) (w:World) (hg:g<w.heap.size) (hc:w.cell? ⟨g,133,none⟩=some (.int .i64 z)) :
  CB 89 #[.pointer (some ⟨g,0,none⟩),.agg cp.toArray,.int .i64 k,.int .i64 mode] (.tuple #[.int .i64 r,.int .i64 code]) w:=by
 have V_cp:=hid (show cp=rat (decide (p.1<0)) p.1.natAbs false p.2 from h);have HG:=hid hg;have HC:=hid hc;obtain ⟨co,hco0⟩:=nqx (resR (worthQ p pl k));obtain ⟨e1,he1⟩:=nqx (resE (worthQ p pl k))
 obtain ⟨on,op,om,oq,hco⟩:∃ rn rp rm rq,co=rat rn rp rm rq:=by
  rw [hco0]
  cases worthQ p pl k with
  | none=>exact ⟨_,_,_,_,rfl⟩
  | some r=>exact ⟨_,_,_,_,rfl⟩
 have V_co:=hid hco;have HW:=hid (qqY (cp:=cp) (cR:=co) (code:=e1) (k:=k) (z:=z) h hp hz h6 k0 k1 hco0 he1)
 have HN:=hid (show (e1=10∧r=0∧code=10)∨(e1=0∧∀ W,CB 125 #[.agg co.toArray,.int .i64 0,.int .i64 mode] (.tuple #[.int .i64 r,.int .i64 code]) W) by
  rw [he1]
  cases hw:worthQ p pl k with
  | none =>
   rw [hw] at hr;rcases hr with ⟨h1,_⟩|⟨h1,h2⟩
   ·simp [moneyZ] at h1
   ·simp [moneyZ] at h1;exact .inl ⟨rfl,h2,h1.symm⟩
  | some one =>
   obtain ⟨vo,nd,nc⟩:=qzQ hp k0 k1 h6 hw;refine .inr ⟨rfl,fun W=>?_⟩;rw [hw] at hr hco0
   have hrc:(rndM mode one≤1000000000000000∧r=rndM mode one∧code=0)∨(1000000000000000<rndM mode one∧r=0∧code=33):=by
    unfold moneyZ mostZ at hr;by_cases hf:rndM mode one≤1000000000000000
    ·simp only [if_pos hf] at hr;rcases hr with ⟨h1,h2⟩|⟨h1,_⟩
     ·injection h1 with h1;exact .inl ⟨hf,h1.symm,h2⟩
     ·cases h1
    ·simp only [if_neg hf] at hr;rcases hr with ⟨h1,_⟩|⟨h1,h2⟩
     ·cases h1
     ·injection h1 with h1;exact .inr ⟨by omega,h2,h1.symm⟩
   rcases hm with rfl|rfl
   ·have e3:rndM 3 one=dnQ one:=rfl;rw [e3] at hrc;rcases hrc with ⟨h1,rfl,rfl⟩|⟨h1,rfl,rfl⟩
    ·exact qhL hco0 vo rfl (by show _≤dnQ one;omega) h1 W
    ·exact qqG hco0 vo rfl h1 W
   ·have e3:rndM 4 one=ceilQ one:=rfl;rw [e3] at hrc;rcases hrc with ⟨h1,rfl,rfl⟩|⟨h1,rfl,rfl⟩
    ·exact qoG hco0 vo rfl (by omega) h1 W
    ·exact qtI hco0 vo rfl h1 W)
 clear h hp hz h6 k0 k1 hr hg hc he1 hco0 hco hm;obtain ⟨B0,w0,hw0,hB0,AB0,FR,FR0,HB0,hZB0⟩:=en1 w 27 (bxq cp);go_enter Tryz.func89,Tryz.ntmps89
 go_upto_region 1 with fail
 rw [←hw0,←hB0];clear hw0 hB0;have HCB:=hid (show g<B0 by rw [HB0.out];exact HG.out);refine wT [⟨true,10,10,11,0,0,27,20,co,0,co,[]⟩] [(13,aT cp),(14,pT g 0),(15,pT g 0),(16,pT g 133),(17,iT z),(18,iT k),(19,.tuple #[aT co,iT e1]),(12,.tuple #[aT co,iT e1]),(20,aT co),(21,iT e1),(11,iT e1)] (by simp only [zu];rfl) (by kernel_rfl) rfl ?_ ?_ ?_ ?_
 ·intro W' hW';have zc:=qcU (qbC HC.out FR.out.below HCB.out) hW';refine lhR AB0 hW' V_cp rfl<|fo3 ?_ ?_ ?_<|fxc zc (fun W h=>by simp [loadVar,h,go_sem]) rfl<|fo4 ?_ ?_ ?_ ?_<|fxo ?_<|fxs rfl<|fxs rfl<|fxo ?_<|fxn;all_goals (go_big_quiet_step (exact qaA (HW.out _));exact wqn rfl)
 ·exact fP1 (Tryz.alR (qR V_co.out))
 ·exact fP1 (sR V_co (fun _=>rfl) rfl)
 intro β wx1 E;replace FR:=fnf FR E rfl;obtain ⟨b10,hb10,eb10⟩:=nwb E mms;have lB0_b10:B0<b10:=ltb AB0 eb10.1;have hZb10:B0≤b10:=Nat.le_trans FR0.out eb10.1;have Ab10:=hid eb10.2;simp only [nP,zu];rw [←hb10];clear E eb10 hb10;rcases HN.out with ⟨rfl,rfl,rfl⟩|⟨rfl,hN⟩
 ·clear HN;go_wp2
  go_ret2
  exact ⟨rfl,qbL HB0 FR⟩
 ·have HR:=hid hN;clear HN hN;go_upto_region 4 with fail
  refine wE [(25,aT co),(26,iT mode),(27,.tuple #[iT r,iT code]),(28,iT r),(29,iT code),(8,iT r),(9,iT code)] (by simp only [zu];rfl) (by kernel_rfl) ?_ ?_
  ·intro W' hW';refine lhR Ab10 hW' V_co rfl<|fo4 ?_ ?_ ?_ ?_<|fo2 ?_ ?_<|fxn;all_goals (go_big_quiet_step (exact qaA (HR.out _));exact wqn rfl)
  intro β wx2 E;replace FR:=fnf FR E rfl;simp only [nP,zu];go_wp2
  go_ret2
  exact ⟨rfl,qbL HB0 FR⟩
end Go.Proofs.YtemoddmadfoaiaaGreat
