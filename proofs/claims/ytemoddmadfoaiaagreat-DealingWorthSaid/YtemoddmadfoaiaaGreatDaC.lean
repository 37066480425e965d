import Derived.Test.YtemoddmadfoaiaaGreatGkC
import Derived.Test.YtemoddmadfoaiaaGreatDaB
import Derived.Test.YtemoddmadfoaiaaGreatRegG
set_option linter.unusedVariables false
set_option linter.unusedSimpArgs false
set_option maxRecDepth 100000
set_option maxHeartbeats 8000000
namespace Go.Proofs.YtemoddmadfoaiaaGreat
open Go.RowKit Big
open Lib (hid)
open Dl
theorem pofQ {cR:List Value} {x y:Int} {d:Nat} {code:Int} (hy:y=(d:Int)) (hd:d≠0) (hR:cR=resR (mkQ x d)) (hc:code=resE (mkQ x d)) (h1:-9223372036854775808≤x) (h2:x≤9223372036854775807) (h3:y≤9223372036854775807) (w:World) :
  Calls Tryz.prog 43 #[.int .i64 x,.int .i64 y] w fun e w'=>e=.returned (.tuple #[.agg cR.toArray,.int .i64 code])∧Below w.heap.size w w':=by
 obtain ⟨rn,rp,rm,rq,hcR⟩:∃ rn rp rm rq,cR=rat rn rp rm rq:=by
  rw [hR]
  cases mkQ x d with
  | none=>exact ⟨_,_,_,_,rfl⟩
  | some r=>exact ⟨_,_,_,_,rfl⟩
 have V_cR:=hid hcR;obtain ⟨cz,V_cz⟩:∃ c:List Value,Hid (c=rat false 0 false 0):=⟨_,hid rfl⟩;obtain ⟨cx,V_cx⟩:∃ c:List Value,Hid (c=iZ x):=⟨_,hid rfl⟩;obtain ⟨cy,V_cy⟩:∃ c:List Value,Hid (c=iZ y):=⟨_,hid rfl⟩;have e1:(9223372036854775809:Nat)≤BB^2:=by unfold BB;decide
 have e2:BB^2≤BB^32:=Nat.pow_le_pow_right qaX (by omega);have HX:=hid (qqE V_cx.out h1 h2);have HY:=hid (qqE V_cy.out (by omega) h3);have HM:=hid (quI (D:=d) (cb:=cy) V_cx.out (by rw [V_cy.out,hy]) hR hc (by omega) (by omega) hd);clear hy hd hR hc h1 h2 h3 hcR e1 e2;obtain ⟨B0,w0,hw0,hB0,AB0,FR,FR0,HB0,hZB0⟩:=en1 w 27 (zQR V_cz);go_enter Tryz.func43,Tryz.ntmps43
 go_upto_region 1 with fail
 rw [←hw0,←hB0];clear hw0 hB0;refine wF [⟨false,0,4,7,B0,0,27,11,cR,0,cR,[]⟩] [(6,.int .i64 x),(7,.agg cx.toArray),(8,.int .i64 y),(9,.agg cy.toArray),(10,.tuple #[.agg cR.toArray,.int .i64 code]),(11,.agg cR.toArray),(12,.int .i64 code),(5,.int .i64 code)] (by simp only [zr,zq];rfl) (by kernel_rfl) ?_ ?_ (fP1 bnC) ?_ uno ?_ ?_
 ·intro W' hW';refine fo3 ?_ ?_ ?_<|fxo (by go_big_quiet_step ((go_at_call 76;exact qaA (HY.out _)));exact wqn rfl)<|fxo (by go_big_quiet_step ((go_at_call 75;exact qaA (HM.out _)));exact wqn rfl)<|fo2 ?_ ?_<|fxs rfl<|fxo ?_<|fxn;all_goals (go_big_quiet_step ((go_at_call 76;exact qaA (HX.out _)));exact wqn rfl)
 ·intro W' hK';refine fxi ?_<|fxs (by kernel_rfl)<|fxi ?_<|fxs (by kernel_rfl)<|fxs (by kernel_rfl)<|fxi ?_<|fxi ?_<|fxs (by kernel_rfl)<|fxi ?_<|fxn;all_goals (first|(refine .inr ?_;go_big_quiet_step (fail);exact wqn rfl)|exact .inl (by kernel_rfl))
 ·exact fP1 (fun _=>⟨AB0.out.lt,rfl,At.room AB0.out (qR V_cz.out) (qR V_cR.out)⟩)
 ·exact fP1 (sR V_cR (fun _=>rfl) rfl)
 intro β wx1 E;replace FR:=ffh FR E (by show B0≤B0;omega);replace AB0:=hid (show At wx1 B0 0 cR from E.atOld mms rfl AB0.out.lt);simp only [nP,zr,zq];clear E;go_wp2_with fail
 have hld:=AB0.out.read (P:=Tryz.prog) Tryz.underlying27 rfl (qR V_cR.out);refine bodyPost_ret (v:=.tuple #[.agg cR.toArray,.int .i64 code]) (by simp [results,Tryz.results43,asAddr,hld]) rfl ?_;exact ⟨rfl,fend HB0 FR⟩
theorem qpX (k:Nat) (h:k<7):IntKind.i64.wrap (((10^k:Nat):Int)*10)=((10^(k+1):Nat):Int):=by
 have:k=0∨k=1∨k=2∨k=3∨k=4∨k=5∨k=6:=by omega
 rcases this with rfl|rfl|rfl|rfl|rfl|rfl|rfl<;>rfl
theorem qsC (k:Nat) (hk:k≤7) (w:World) :
  Calls Tryz.prog 44 #[.int .i64 (k:Int)] w fun e w'=>e=.returned (.int .i64 ((10^k:Nat):Int))∧Below w.heap.size w w':=by
 go_enter Tryz.func44,Tryz.ntmps44
 go_wp2
 go_loopg [3,5] k (fun m n i wr=>∃ (j:Nat),j≤k∧k - j≤m∧i=.int .i64 j∧n=.int .i64 ((10^j:Nat):Int)∧wr=w)
 case atStart=>exact ⟨0,by omega,by omega,rfl,rfl,rfl⟩
 case round =>
  obtain ⟨j,hj,hm,rfl,rfl,rfl⟩:=hrel;by_cases hlt:j<k
  ·have hst:=qpX j (by omega);obtain ⟨P,hP⟩:∃ P:Int,P=((10^j:Nat):Int):=⟨_,rfl⟩;obtain ⟨P2,hP2⟩:∃ P:Int,P=((10^(j+1):Nat):Int):=⟨_,rfl⟩;rw [←hP,←hP2] at hst;rw [←hP];have HP2:=hid hP2;clear hP hP2;go_wp2
   go_roundg (gk - 1)
   case measure=>omega
   case rel=>exact ⟨j+1,by omega,by omega,by go_num,by rw [←HP2.out],rfl⟩
  ·obtain rfl:j=k:=by omega
   obtain ⟨P,hP⟩:∃ P:Int,P=((10^j:Nat):Int):=⟨_,rfl⟩;rw [←hP];have HP:=hid hP;clear hP;go_wp2
   go_ret
   exact ⟨by rw [←HP.out];rfl,Below.refl _ _⟩
def okPc (n m:Bool) (p q:Nat):Bool:=decide (p<B480∧q<B480∧n=cs1 n p∧m=false∧q≠0∧Nat.gcd p q=1)&&decide (0<zI n p)
theorem qiB {cr:List Value} {n m:Bool} {p q:Nat} (h:cr=rat n p m q) (hp:p<BB^32) (hq:q<BB^32) (w:World) :
  Calls Tryz.prog 42 #[.agg cr.toArray] w fun e w'=>e=.returned (.bool (okPc n m p q))∧Below w.heap.size w w':=by
 have V_cr:=hid h;obtain ⟨ok,hok⟩:∃ ok,ok=decide (p<B480∧q<B480∧n=cs1 n p∧m=false∧q≠0∧Nat.gcd p q=1):=⟨_,rfl⟩;obtain ⟨s,hs⟩:∃ s,s=if ok=true then sgnI n p else 0:=⟨_,rfl⟩
 obtain ⟨code,hc⟩:∃ c:Int,c=if ok=true then 0 else 20:=⟨_,rfl⟩
 have HS:=hid (qxR h hok hs hc hp hq)
 have HR:=hid (show okPc n m p q=(decide (code=0)&&decide (0<s)) by
  unfold okPc;rw [←hok,hs,hc]
  cases ok with
  | false=>simp
  | true =>
   have:(0<sgnI n p)↔0<zI n p:=by
    unfold sgnI zI
    cases n<;>by_cases h0:p=0<;>simp [h0]<;>omega
   simp [this])
 have hcc:code=0∨code=20:=by rw [hc];cases ok<;>simp
 clear h hok hs hc hp hq;rw [HR.out];obtain ⟨B0,w0,hw0,hB0,AB0,FR,FR0,HB0,hZB0⟩:=en1 w 27 (bxq cr);go_enter Tryz.func42,Tryz.ntmps42
 go_upto_region 1 with fail
 rw [←hw0,←hB0];clear hw0 hB0;refine wT [] [(6,.agg cr.toArray),(7,.tuple #[.int .i64 s,.int .i64 code]),(5,.tuple #[.int .i64 s,.int .i64 code]),(8,.int .i64 s),(9,.int .i64 code),(3,.int .i64 s),(4,.int .i64 code)] (by simp only [zr,zq];rfl) (by kernel_rfl) rfl ?_ oN oN ?_
 ·intro W' hW';refine ldR (abl AB0 hW') V_cr rfl<|fo4 ?_ ?_ ?_ ?_<|fo2 ?_ ?_<|fxn;all_goals (go_big_quiet_step ((go_at_call 74;exact qaA (HS.out _)));exact wqn rfl)
 intro β wx1 E;replace FR:=fnf FR E rfl;replace AB0:=fnh AB0 E rfl;simp only [nP,zr,zq];clear E;rcases hcc with rfl|rfl
 ·by_cases h0:0<s
  ·go_wp2
   go_ret
   exact ⟨qaH (by simp [h0]),by rw [HB0.out] at FR;exact FR.out.below⟩
  ·go_wp2
   go_ret
   exact ⟨qaH (by simp;omega),by rw [HB0.out] at FR;exact FR.out.below⟩
 ·go_wp2
  go_ret
  exact ⟨qaH (by simp),by rw [HB0.out] at FR;exact FR.out.below⟩
theorem qmI {cr cR cz:List Value} {n m b:Bool} {p q:Nat} {z k T kc code:Int} {part:Qn} {rn rm:Bool} {rp rq:Nat} (h:cr=rat n p m q) (hb:b=okPc n m p q) (hp:p<BB^32) (hq:q<BB^32) (hcR:cR=rat rn rp rm rq) (hz:cz=rat false 0 false 0)
  (hcase:(b=false∧cR=cz∧code=261)∨(b=true∧(z<0∨6<z)∧cR=cz∧code=30)∨(b=true∧¬z<0∧¬6<z∧(k<0∨1000000000000000<k)∧cR=cz∧code=253) ∨
   (b=true∧¬z<0∧¬6<z∧¬k<0∧¬1000000000000000<k∧IntKind.i64.wrap (k*100)=kc∧(∀ W,Calls Tryz.prog 44 #[.int .i64 z] W fun e w'=>e=.returned (.int .i64 T)∧Below W.heap.size W w') ∧
    (∀ cq W,cq=ratZ part.1 part.2→Calls Tryz.prog 43 #[.int .i64 kc,.int .i64 T] W fun e w'=>e=.returned (.tuple #[.agg cq.toArray,.int .i64 0])∧Below W.heap.size W w') ∧
    ∀ cq W,cq=ratZ part.1 part.2→Calls Tryz.prog 45 #[.agg cr.toArray,.agg cq.toArray] W fun e w'=>e=.returned (.tuple #[.agg cR.toArray,.int .i64 code])∧Below W.heap.size W w')) (w:World) :
  Calls Tryz.prog 11 #[.agg cr.toArray,.int .i64 z,.int .i64 k] w fun e w'=>e=.returned (.tuple #[.agg cR.toArray,.int .i64 code])∧Below w.heap.size w w':=by
 have V_cr:=hid h;have V_cR:=hid hcR;have V_cz:=hid hz;obtain ⟨cq,V_cq⟩:∃ c:List Value,Hid (c=rat (decide (part.1<0)) part.1.natAbs false part.2):=⟨_,hid rfl⟩;have HPR:=hid (fun W=>(hb ▸ qiB h hp hq W));have HCASE:=hid hcase;clear h hb hp hq hcR hz hcase;obtain ⟨B0,B1,w0,hw0,hB0,hB1,AB0,AB1,FR,FR0,HB0,hZB0,l01,hZB1⟩:=en2 w 27 27 (bxq cr) (zQR V_cz);go_enter Tryz.func11,Tryz.ntmps11
 go_upto_region 1 with fail
 rw [←hw0,←hB1,←hB0];clear hw0 hB0 hB1;refine wT [] [(11,.agg cr.toArray),(12,.bool b),(13,.bool (!b)),(10,.bool (!b))] (by simp only [zr,zq];rfl) (by kernel_rfl) rfl ?_ oN oN ?_
 ·intro W' hW';refine ldR (abl AB0 hW') V_cr rfl<|fo3 ?_ ?_ ?_<|fxn;all_goals (go_big_quiet_step ((go_at_call 42;exact qaA (HPR.out _)));exact wqn rfl)
 intro β wx1 E;replace FR:=fnf FR E rfl;replace AB0:=fnh AB0 E rfl;replace AB1:=fnh AB1 E rfl;simp only [nP,zr,zq];replace FR0:=hid FR.out.le;clear E;rcases HCASE.out with ⟨rfl,rfl,rfl⟩|⟨rfl,h2,rfl,rfl⟩|⟨rfl,h2,h3,h4,rfl,rfl⟩|⟨rfl,h2,h3,h4,h5,wk,g1,g2,g3⟩
 ·replace V_cR:=V_cz;clear HCASE;go_upto_region 2 with fail
  refine wF [⟨false,0,6,1,B1,0,27,14,cR,0,cR,[]⟩] [(14,.agg cR.toArray),(7,.int .i64 261)] (by simp only [zr,zq];rfl) (by kernel_rfl) ?_ ?_ (fP1 bnC) ?_ uno ?_ ?_
  ·intro W' hW';refine fxb (qaR V_cR.out) rfl<|fxs rfl<|fxo ?_<|fxn
   go_big_quiet_step (fail);exact wqn rfl
  ·intro W' hK';refine fxb (qaR V_cR.out) rfl<|fxs (by kernel_rfl)<|fxi ?_<|fxn
   first|(refine .inr ?_;go_big_quiet_step (fail);exact wqn rfl)|exact .inl (by kernel_rfl)
  ·exact fP1 (fun _=>⟨AB1.out.lt,rfl,At.room AB1.out (qR V_cz.out) (qR V_cR.out)⟩)
  ·exact fP1 (sR V_cR (fun _=>rfl) rfl)
  intro β wx2 E;replace FR:=ffh FR E (by show B0≤B1;omega);replace AB0:=afh AB0 E (by show B1≠B0;omega);replace AB1:=hid (show At wx2 B1 0 cR from E.atOld mms rfl AB1.out.lt);simp only [nP,zr,zq];replace FR0:=hid FR.out.le;clear E;go_wp2_with fail
  have hld:=AB1.out.read (P:=Tryz.prog) Tryz.underlying27 rfl (qR V_cR.out);refine bodyPost_ret (v:=.tuple #[.agg cR.toArray,.int .i64 261]) (by simp [results,Tryz.results11,asAddr,hld]) rfl ?_;exact ⟨rfl,fend HB0 FR⟩
 ·replace V_cR:=V_cz;clear HCASE;by_cases h3:z<0
  ·clear h2;go_upto_region 4 with fail
   refine wF [⟨false,0,6,1,B1,0,27,22,cR,0,cR,[]⟩] [(22,.agg cR.toArray),(7,.int .i64 30)] (by simp only [zr,zq];rfl) (by kernel_rfl) ?_ ?_ (fP1 bnC) ?_ uno ?_ ?_
   ·intro W' hW';refine fxb (qaR V_cR.out) rfl<|fxs rfl<|fxo ?_<|fxn
    go_big_quiet_step (fail);exact wqn rfl
   ·intro W' hK';refine fxb (qaR V_cR.out) rfl<|fxs (by kernel_rfl)<|fxi ?_<|fxn
    first|(refine .inr ?_;go_big_quiet_step (fail);exact wqn rfl)|exact .inl (by kernel_rfl)
   ·exact fP1 (fun _=>⟨AB1.out.lt,rfl,At.room AB1.out (qR V_cz.out) (qR V_cR.out)⟩)
   ·exact fP1 (sR V_cR (fun _=>rfl) rfl)
   intro β wx2 E;replace FR:=ffh FR E (by show B0≤B1;omega);replace AB0:=afh AB0 E (by show B1≠B0;omega);replace AB1:=hid (show At wx2 B1 0 cR from E.atOld mms rfl AB1.out.lt);simp only [nP,zr,zq];replace FR0:=hid FR.out.le;clear E;go_wp2_with fail
   have hld:=AB1.out.read (P:=Tryz.prog) Tryz.underlying27 rfl (qR V_cR.out);refine bodyPost_ret (v:=.tuple #[.agg cR.toArray,.int .i64 30]) (by simp [results,Tryz.results11,asAddr,hld]) rfl ?_;exact ⟨rfl,fend HB0 FR⟩
  ·have h2:6<z:=by omega
   go_upto_region 4 with fail
   refine wF [⟨false,0,6,1,B1,0,27,22,cR,0,cR,[]⟩] [(22,.agg cR.toArray),(7,.int .i64 30)] (by simp only [zr,zq];rfl) (by kernel_rfl) ?_ ?_ (fP1 bnC) ?_ uno ?_ ?_
   ·intro W' hW';refine fxb (qaR V_cR.out) rfl<|fxs rfl<|fxo ?_<|fxn
    go_big_quiet_step (fail);exact wqn rfl
   ·intro W' hK';refine fxb (qaR V_cR.out) rfl<|fxs (by kernel_rfl)<|fxi ?_<|fxn
    first|(refine .inr ?_;go_big_quiet_step (fail);exact wqn rfl)|exact .inl (by kernel_rfl)
   ·exact fP1 (fun _=>⟨AB1.out.lt,rfl,At.room AB1.out (qR V_cz.out) (qR V_cR.out)⟩)
   ·exact fP1 (sR V_cR (fun _=>rfl) rfl)
   intro β wx2 E;replace FR:=ffh FR E (by show B0≤B1;omega);replace AB0:=afh AB0 E (by show B1≠B0;omega);replace AB1:=hid (show At wx2 B1 0 cR from E.atOld mms rfl AB1.out.lt);simp only [nP,zr,zq];replace FR0:=hid FR.out.le;clear E;go_wp2_with fail
   have hld:=AB1.out.read (P:=Tryz.prog) Tryz.underlying27 rfl (qR V_cR.out);refine bodyPost_ret (v:=.tuple #[.agg cR.toArray,.int .i64 30]) (by simp [results,Tryz.results11,asAddr,hld]) rfl ?_;exact ⟨rfl,fend HB0 FR⟩
 ·replace V_cR:=V_cz;clear HCASE;by_cases h5:k<0
  ·clear h4;go_upto_region 6 with fail
   refine wF [⟨false,0,6,1,B1,0,27,30,cR,0,cR,[]⟩] [(30,.agg cR.toArray),(7,.int .i64 253)] (by simp only [zr,zq];rfl) (by kernel_rfl) ?_ ?_ (fP1 bnC) ?_ uno ?_ ?_
   ·intro W' hW';refine fxb (qaR V_cR.out) rfl<|fxs rfl<|fxo ?_<|fxn
    go_big_quiet_step (fail);exact wqn rfl
   ·intro W' hK';refine fxb (qaR V_cR.out) rfl<|fxs (by kernel_rfl)<|fxi ?_<|fxn
    first|(refine .inr ?_;go_big_quiet_step (fail);exact wqn rfl)|exact .inl (by kernel_rfl)
   ·exact fP1 (fun _=>⟨AB1.out.lt,rfl,At.room AB1.out (qR V_cz.out) (qR V_cR.out)⟩)
   ·exact fP1 (sR V_cR (fun _=>rfl) rfl)
   intro β wx2 E;replace FR:=ffh FR E (by show B0≤B1;omega);replace AB0:=afh AB0 E (by show B1≠B0;omega);replace AB1:=hid (show At wx2 B1 0 cR from E.atOld mms rfl AB1.out.lt);simp only [nP,zr,zq];replace FR0:=hid FR.out.le;clear E;go_wp2_with fail
   have hld:=AB1.out.read (P:=Tryz.prog) Tryz.underlying27 rfl (qR V_cR.out);refine bodyPost_ret (v:=.tuple #[.agg cR.toArray,.int .i64 253]) (by simp [results,Tryz.results11,asAddr,hld]) rfl ?_;exact ⟨rfl,fend HB0 FR⟩
  ·have h4:1000000000000000<k:=by omega
   go_upto_region 6 with fail
   refine wF [⟨false,0,6,1,B1,0,27,30,cR,0,cR,[]⟩] [(30,.agg cR.toArray),(7,.int .i64 253)] (by simp only [zr,zq];rfl) (by kernel_rfl) ?_ ?_ (fP1 bnC) ?_ uno ?_ ?_
   ·intro W' hW';refine fxb (qaR V_cR.out) rfl<|fxs rfl<|fxo ?_<|fxn
    go_big_quiet_step (fail);exact wqn rfl
   ·intro W' hK';refine fxb (qaR V_cR.out) rfl<|fxs (by kernel_rfl)<|fxi ?_<|fxn
    first|(refine .inr ?_;go_big_quiet_step (fail);exact wqn rfl)|exact .inl (by kernel_rfl)
   ·exact fP1 (fun _=>⟨AB1.out.lt,rfl,At.room AB1.out (qR V_cz.out) (qR V_cR.out)⟩)
   ·exact fP1 (sR V_cR (fun _=>rfl) rfl)
   intro β wx2 E;replace FR:=ffh FR E (by show B0≤B1;omega);replace AB0:=afh AB0 E (by show B1≠B0;omega);replace AB1:=hid (show At wx2 B1 0 cR from E.atOld mms rfl AB1.out.lt);simp only [nP,zr,zq];replace FR0:=hid FR.out.le;clear E;go_wp2_with fail
   have hld:=AB1.out.read (P:=Tryz.prog) Tryz.underlying27 rfl (qR V_cR.out);refine bodyPost_ret (v:=.tuple #[.agg cR.toArray,.int .i64 253]) (by simp [results,Tryz.results11,asAddr,hld]) rfl ?_;exact ⟨rfl,fend HB0 FR⟩
 ·have HPW:=hid g1;have HOF:=hid (fun W=>g2 cq W V_cq.out);have HMU:=hid (fun W=>g3 cq W V_cq.out);clear g1 g2 g3 HCASE;go_upto_region 7 with fail
  refine wT [⟨true,8,8,9,0,0,27,37,cq,0,cq,[]⟩] [(32,.int .i64 k),(33,.int .i64 kc),(34,.int .i64 z),(35,.int .i64 T),(36,.tuple #[.agg cq.toArray,.int .i64 0]),(31,.tuple #[.agg cq.toArray,.int .i64 0]),(37,.agg cq.toArray),(38,.int .i64 0),(9,.int .i64 0)] (by simp only [zr,zq];rfl) (by kernel_rfl) rfl ?_ ?_ ?_ ?_
  ·intro W' hW';refine fo4 ?_ ?_ ?_ ?_<|fxo (by go_big_quiet_step ((go_at_call 43;exact qaA (HOF.out _)));exact wqn rfl)<|fo3 ?_ ?_ ?_<|fxs rfl<|fxs rfl<|fxo ?_<|fxn;all_goals (go_big_quiet_step ((go_at_call 44;exact qaA (HPW.out _)));exact wqn rfl)
  ·exact fP1 (Tryz.alR (qR V_cq.out))
  ·exact fP1 (sR V_cq (fun _=>rfl) rfl)
  intro β wx2 E;replace FR:=fnf FR E rfl;obtain ⟨b8,hb8,eb8⟩:=nwb E mms;have lB0_b8:B0<b8:=ltb AB0 eb8.1;have lB1_b8:B1<b8:=ltb AB1 eb8.1;have hZb8:B0≤b8:=Nat.le_trans FR0.out eb8.1;replace AB0:=fnh AB0 E rfl;replace AB1:=fnh AB1 E rfl;have Ab8:=hid eb8.2;simp only [nP,zr,zq];rw [←hb8];replace FR0:=hid FR.out.le;clear E eb8 hb8;go_upto_region 8 with fail
  refine wF [⟨false,0,6,5,B1,0,27,42,cR,0,cR,[]⟩] [(39,.agg cr.toArray),(40,.agg cq.toArray),(41,.tuple #[.agg cR.toArray,.int .i64 code]),(42,.agg cR.toArray),(43,.int .i64 code),(7,.int .i64 code)] (by simp only [zr,zq];rfl) (by kernel_rfl) ?_ ?_ (fP1 bnC) ?_ uno ?_ ?_
  ·intro W' hW';refine ldR (abl AB0 hW') V_cr rfl<|ldR (abl Ab8 hW') V_cq rfl<|fo3 ?_ ?_ ?_<|fxs rfl<|fxo ?_<|fxn;all_goals (go_big_quiet_step ((go_at_call 45;exact qaA (HMU.out _)));exact wqn rfl)
  ·intro W' hK';have rd0:=akh AB0 hK' (by show B1≠B0;omega);have rd1:=akh Ab8 hK' (by show B1≠b8;omega);refine ldR rd0 V_cr rfl<|ldR rd1 V_cq rfl<|fxs (by kernel_rfl)<|fxi ?_<|fxi ?_<|fxs (by kernel_rfl)<|fxi ?_<|fxn;all_goals (first|(refine .inr ?_;go_big_quiet_step (fail);exact wqn rfl)|exact .inl (by kernel_rfl))
  ·exact fP1 (fun _=>⟨AB1.out.lt,rfl,At.room AB1.out (qR V_cz.out) (qR V_cR.out)⟩)
  ·exact fP1 (sR V_cR (fun _=>rfl) rfl)
  intro β wx3 E;replace FR:=ffh FR E (by show B0≤B1;omega);replace AB0:=afh AB0 E (by show B1≠B0;omega);replace AB1:=hid (show At wx3 B1 0 cR from E.atOld mms rfl AB1.out.lt);replace Ab8:=afh Ab8 E (by show B1≠b8;omega);simp only [nP,zr,zq];replace FR0:=hid FR.out.le;clear E;go_wp2_with fail
  have hld:=AB1.out.read (P:=Tryz.prog) Tryz.underlying27 rfl (qR V_cR.out);refine bodyPost_ret (v:=.tuple #[.agg cR.toArray,.int .i64 code]) (by simp [results,Tryz.results11,asAddr,hld]) rfl ?_;exact ⟨rfl,fend HB0 FR⟩
theorem qsR {cr cz:List Value} {n m:Bool} {p q:Nat} {z k code:Int} (h:cr=rat n p m q) (hz:cz=rat false 0 false 0) (hp:p<BB^32) (hq:q<BB^32)
  (hb:okPc n m p q=false∧code=261∨okPc n m p q=true∧(z<0∨6<z)∧code=30∨okPc n m p q=true∧¬z<0∧¬6<z∧(k<0∨1000000000000000<k)∧code=253) (w:World) :
  Calls Tryz.prog 11 #[.agg cr.toArray,.int .i64 z,.int .i64 k] w fun e w'=>e=.returned (.tuple #[.agg cz.toArray,.int .i64 code])∧Below w.heap.size w w':=by
 refine qmI (part:=(0,0)) (T:=0) (kc:=0) h rfl hp hq hz hz ?_ w;rcases hb with ⟨h1,h2⟩|⟨h1,h2,h3⟩|⟨h1,h2,h3,h4,h5⟩
 ·exact .inl ⟨h1,rfl,h2⟩
 ·exact .inr (.inl ⟨h1,h2,rfl,h3⟩)
 ·exact .inr (.inr (.inl ⟨h1,h2,h3,h4,rfl,h5⟩))
theorem qkG {p:Qn} (hp:Pc p):okPc (decide (p.1<0)) false p.1.natAbs p.2=true:=by
 unfold okPc;rw [qoJ,decide_eq_true hp.pos,Bool.and_true];exact decide_eq_true ⟨hp.vq.num,hp.vq.den,(qzS p.1).symm,rfl,hp.vq.pos,hp.vq.low⟩
theorem qjU {cp cR:List Value} {p:Qn} {pl:Nat} {z k code:Int} (h:cp=ratZ p.1 p.2) (hp:Pc p) (hz:z=(pl:Int)) (h6:pl≤6) (k0:0≤k) (k1:k≤1000000000000000) (hR:cR=resR (worthQ p pl k)) (hc:code=resE (worthQ p pl k)) (w:World) :
  Calls Tryz.prog 11 #[.agg cp.toArray,.int .i64 z,.int .i64 k] w fun e w'=>e=.returned (.tuple #[.agg cR.toArray,.int .i64 code])∧Below w.heap.size w w':=by
 obtain ⟨pv,pe⟩:=qgO k0 k1 h6;have hps:=qiC k0 k1 h6
 obtain ⟨rn,rp,rm,rq,hcR⟩:∃ rn rp rm rq,cR=rat rn rp rm rq:=by
  rw [hR]
  cases worthQ p pl k with
  | none=>exact ⟨_,_,_,_,rfl⟩
  | some r=>exact ⟨_,_,_,_,rfl⟩
 have h10:10^pl≤10^6:=Nat.pow_le_pow_right (by omega) h6
 refine qmI (cz:=rat false 0 false 0) (b:=true) (part:=partQ k pl) (T:=((10^pl:Nat):Int)) (kc:=k*100) (n:=decide (p.1<0)) (m:=false) (p:=p.1.natAbs) (q:=p.2) h (qkG hp).symm (qaO hp.vq.num) (qaO hp.vq.den) hcR rfl
  (.inr (.inr (.inr ⟨rfl,by omega,by omega,by omega,by omega,IntWalk.i64_in _ (by omega),fun W=>by rw [hz];exact qsC pl (by omega) W,
   fun cq W e=>pofQ (d:=10^pl) rfl (Nat.ne_of_gt (Nat.pow_pos (by decide))) (by rw [hps];exact e) (by rw [hps];rfl) (by omega) (by omega) (by omega) W,fun cq W e=>pmulQ h e hp.vq pv hR hc W⟩))) w
set_option maxHeartbeats 8000000
theorem qqS {a b x:Int} (h:x=cmpZ a b):(0<x↔b<a)∧(0≤x↔b≤a):=by
 unfold cmpZ at h;split at h
 ·omega
 ·split at h<;>omega
theorem qxB {p w:Qn} {pl:Nat} {n:Int} (hp:Pc p) (h1:0≤n) (h2:n≤1000000000000000) (h3:pl≤6) (h:worthQ p pl n=some w):VQ w∧0≤dnQ w∧0≤ceilQ w:=by
 have hv:=(qdH hp h1 h2 h3 h).1;have hn:=qrE (by have:=qmJ hp pl;omega) (qsT hp h1 h2 h3 h) (Int.mul_nonneg h1 (by have:=qiY hp;omega));have hd:0≤w.1 / (w.2:Int):=Int.ediv_nonneg hn (Int.natCast_nonneg _);refine ⟨hv,hd,?_⟩;unfold ceilQ;split<;>omega
theorem qmY {cp:List Value} {p:Qn} {pl g:Nat} {z am mode most r code:Int} (h:cp=ratZ p.1 p.2) (hp:Pc p) (hz:z=(pl:Int)) (h6:pl≤6) (a0:0≤am) (a1:am≤1000000000000000) (m0:0≤most) (m1:most≤1000000000000000)
  (hr:(manyQ p pl am=none∧r=0∧code=10)∨∃ q,manyQ p pl am=some q∧code=0∧(mode=3∧r=reachF q most∨mode=4∧r=reachC q most)) (w:World) (hg:g<w.heap.size) (hc:w.cell? ⟨g,133,none⟩=some (.int .i64 z)) :
  Calls Tryz.prog 88 #[.pointer (some ⟨g,0,none⟩),.agg cp.toArray,.int .i64 am,.int .i64 mode,.int .i64 most] w fun e w'=>e=.returned (.tuple #[.int .i64 r,.int .i64 code])∧Below w.heap.size w w':=by
 have V_cp:=hid (show cp=rat (decide (p.1<0)) p.1.natAbs false p.2 from h);have HG:=hid hg;have HC:=hid hc;obtain ⟨co,hco0⟩:∃ c,c=resR (worthQ p pl 1):=⟨_,rfl⟩;obtain ⟨e1,he1⟩:∃ e,e=resE (worthQ p pl 1):=⟨_,rfl⟩
 obtain ⟨on,op,om,oq,hco⟩:∃ rn rp rm rq,co=rat rn rp rm rq:=by
  rw [hco0]
  cases worthQ p pl 1 with
  | none=>exact ⟨_,_,_,_,rfl⟩
  | some r=>exact ⟨_,_,_,_,rfl⟩
 have V_co:=hid hco;obtain ⟨ca,V_ca⟩:∃ c:List Value,Hid (c=rat (decide (am<0)) am.natAbs false 1):=⟨_,hid rfl⟩;have HW:=hid (qjU (cp:=cp) (cR:=co) (code:=e1) (k:=1) (z:=z) h hp hz h6 (by omega) (by omega) hco0 he1);have HAM:=hid (qoY (cr:=ca) (z:=am) V_ca.out (by omega) (by omega))
 -- what comes behind the worth of one unit
 have HN:=hid (show (e1=10∧r=0∧code=10)∨(e1=0∧∃ cq e2,(∃ n p m q,cq=rat n p m q)∧(∀ W,Calls Tryz.prog 122 #[.agg ca.toArray,.agg co.toArray] W fun e w'=>e=.returned (.tuple #[.agg cq.toArray,.int .i64 e2])∧Below W.heap.size W w') ∧
   ((e2=10∧r=0∧code=10)∨(e2=0∧code=0∧∃ q:Qn,cq=ratZ q.1 q.2∧VQ q∧0≤dnQ q∧0≤ceilQ q∧(mode=3∧r=reachF q most∨mode=4∧r=reachC q most)))) by
  rw [he1]
  cases hw:worthQ p pl 1 with
  | none =>
   have hM:manyQ p pl am=none:=by unfold manyQ;rw [hw]
   rcases hr with ⟨_,h1,h2⟩|⟨q,h1,_⟩
   ·exact .inl ⟨rfl,h1,h2⟩
   ·rw [hM] at h1;cases h1
  | some one =>
   have hPo:=qmH hp (by omega) (by omega) h6 hw;have hMq:manyQ p pl am=quo2 (am,1) one:=by unfold manyQ;rw [hw];exact qyD am one
   rw [hw] at hco0;refine .inr ⟨rfl,resR (quo2 (am,1) one),resE (quo2 (am,1) one),?_,fun W=>pquoQ (a:=(am,1)) V_ca.out hco0 (qsS (by omega)) hPo.vq hPo.pos rfl rfl W,?_⟩
   ·cases quo2 (am,1) one with
    | none=>exact ⟨_,_,_,_,rfl⟩
    | some r=>exact ⟨_,_,_,_,rfl⟩
   ·rcases hr with ⟨h0,h1,h2⟩|⟨q,h1,h2,h3⟩
    ·rw [hMq] at h0;rw [h0];exact .inl ⟨rfl,h1,h2⟩
    ·obtain ⟨qv,_⟩:=qhK hp h6 h1;obtain ⟨_,q1,q2⟩:=qkK hp h6 a0 h1;rw [hMq] at h1;rw [h1];exact .inr ⟨rfl,h2,q,rfl,qv,q1,q2,h3⟩)
 have HMM:=hid (And.intro m0 m1);clear h hp hz h6 a0 a1 m0 m1 hr hg hc he1 hco0 hco;obtain ⟨B0,w0,hw0,hB0,AB0,FR,FR0,HB0,hZB0⟩:=en1 w 27 (bxq cp);go_enter Tryz.func88,Tryz.ntmps88
 go_upto_region 1 with fail
 rw [←hw0,←hB0];clear hw0 hB0;have HCB:=hid (show g<B0 by rw [HB0.out];exact HG.out);refine wT [⟨true,9,12,10,0,0,27,28,co,0,co,[]⟩] [(22,.agg cp.toArray),(23,.pointer (some ⟨g,0,none⟩)),(24,.pointer (some ⟨g,0,none⟩)),(25,.pointer (some ⟨g,133,none⟩)),(26,.int .i64 z),(27,.tuple #[.agg co.toArray,.int .i64 e1]),(21,.tuple #[.agg co.toArray,.int .i64 e1]),(28,.agg co.toArray),(29,.int .i64 e1),(13,.int .i64 e1)] (by simp only [zr,zq];rfl) (by kernel_rfl) rfl ?_ ?_ ?_ ?_
 ·intro W' hW';have zc:=qcU (qbN HC.out FR.out.below HCB.out) hW';refine ldR (abl AB0 hW') V_cp rfl<|fo3 ?_ ?_ ?_<|fxo (wcg (by rfl) rfl rfl (fun W h=>by simp [loadVar,h,go_sem]) zc (wqn (by simp only [zq])))<|fo4 ?_ ?_ ?_ ?_<|fxs rfl<|fxs rfl<|fxo ?_<|fxn;all_goals (go_big_quiet_step ((go_at_call 11;exact qaA (HW.out _)));exact wqn rfl)
 ·exact fP1 (Tryz.alR (qR V_co.out))
 ·exact fP1 (sR V_co (fun _=>rfl) rfl)
 intro β wx1 E;replace FR:=fnf FR E rfl;obtain ⟨b12,hb12,eb12⟩:=nwb E mms;have lB0_b12:B0<b12:=ltb AB0 eb12.1;have hZb12:B0≤b12:=Nat.le_trans FR0.out eb12.1;replace AB0:=fnh AB0 E rfl;have Ab12:=hid eb12.2;simp only [nP,zr,zq];rw [←hb12];replace FR0:=hid FR.out.le;clear E eb12 hb12;rcases HN.out with ⟨rfl,rfl,rfl⟩|⟨rfl,cq,e2,⟨qn,qp,qm,qq,hcq⟩,hQ,hR⟩
 ·clear HN;go_wp2
  go_ret2
  exact ⟨rfl,fend HB0 FR⟩
 ·have V_cq:=hid hcq;have HQ:=hid hQ;have HR:=hid hR;clear HN hcq hQ hR;go_upto_region 4 with fail
  refine wT [⟨true,7,14,8,0,0,27,38,cq,0,cq,[]⟩] [(34,.int .i64 am),(35,.agg ca.toArray),(36,.agg co.toArray),(37,.tuple #[.agg cq.toArray,.int .i64 e2]),(33,.tuple #[.agg cq.toArray,.int .i64 e2]),(38,.agg cq.toArray),(39,.int .i64 e2),(13,.int .i64 e2)] (by simp only [zr,zq];rfl) (by kernel_rfl) rfl ?_ ?_ ?_ ?_
  ·intro W' hW';refine fo2 ?_ ?_<|ldR (abl Ab12 hW') V_co rfl<|fxo (by go_big_quiet_step ((go_at_call 122;exact qaA (HQ.out _)));exact wqn rfl)<|fo3 ?_ ?_ ?_<|fxs rfl<|fxs rfl<|fxo ?_<|fxn;all_goals (go_big_quiet_step ((go_at_call 123;exact qaA (HAM.out _)));exact wqn rfl)
  ·exact fP1 (Tryz.alR (qR V_cq.out))
  ·exact fP1 (sR V_cq (fun _=>rfl) rfl)
  intro β wx2 E;replace FR:=fnf FR E rfl;obtain ⟨b14,hb14,eb14⟩:=nwb E mms;have lB0_b14:B0<b14:=ltb AB0 eb14.1;have lb12_b14:b12<b14:=ltb Ab12 eb14.1;have hZb14:B0≤b14:=Nat.le_trans FR0.out eb14.1;replace AB0:=fnh AB0 E rfl;replace Ab12:=fnh Ab12 E rfl;have Ab14:=hid eb14.2;simp only [nP,zr,zq];rw [←hb14];replace FR0:=hid FR.out.le;clear E eb14 hb14;rcases HR.out with ⟨rfl,rfl,rfl⟩|⟨rfl,rfl,q,hq,qv,q1,q2,hm⟩
  ·clear HR;go_wp2
   go_ret2
   exact ⟨rfl,fend HB0 FR⟩
  ·obtain ⟨m0,m1⟩:=HMM.out;obtain ⟨m2,hm2⟩:∃ x,x=most+1:=⟨_,rfl⟩;have HMD:=hid hm;obtain ⟨cm,V_cm⟩:∃ c:List Value,Hid (c=rat (decide (most<0)) most.natAbs false 1):=⟨_,hid rfl⟩;obtain ⟨cn,V_cn⟩:∃ c:List Value,Hid (c=rat (decide (m2<0)) m2.natAbs false 1):=⟨_,hid rfl⟩;have HM1:=hid (qoY (cr:=cm) (z:=most) V_cm.out (by omega) (by omega));have HM2:=hid (qoY (cr:=cn) (z:=m2) V_cn.out (by omega) (by omega));obtain ⟨x1,hx1⟩:∃ x,x=cmpZ (q.1*((1:Nat):Int)) (most*(q.2:Int)):=⟨_,rfl⟩;obtain ⟨x2,hx2⟩:∃ x,x=cmpZ (q.1*((1:Nat):Int)) (m2*(q.2:Int)):=⟨_,rfl⟩;have HC1:=hid (jdZ (a:=q) (b:=(most,1)) hq V_cm.out qv (qsS (by omega)) hx1);have HC2:=hid (jdZ (a:=q) (b:=(m2,1)) hq V_cn.out qv (qsS (by omega)) hx2);have y1:=(qqS hx1).1;have y2:=(qqS hx2).2;rw [Int.natCast_one,Int.mul_one] at y1 y2;have s4:=qyB qv.pos most;have s3:=qyC qv.pos most;rw [←hm2,←y2] at s3 s4;rw [←y1] at s4;have HS:=hid (And.intro s3 s4);have wm:IntKind.i64.wrap (most+1)=m2:=by rw [hm2];exact IntWalk.i64_in _ (by omega)
   have HQQ:=hid (And.intro hq (And.intro qv (And.intro q1 q2)));clear HR hm hx1 hx2 y1 y2 s3 s4 hm2 hq qv q1 q2 m0 m1;go_upto_region 7 with fail
   refine wT [] [(44,.agg cq.toArray),(45,.int .i64 most),(46,.agg cm.toArray),(47,.tuple #[.int .i64 x1,.int .i64 0]),(43,.tuple #[.int .i64 x1,.int .i64 0]),(48,.int .i64 x1),(49,.int .i64 0),(15,.int .i64 x1),(16,.int .i64 0)] (by simp only [zr,zq];rfl) (by kernel_rfl) rfl ?_ oN oN ?_
   ·intro W' hW';refine ldR (abl Ab14 hW') V_cq rfl<|fo2 ?_ ?_<|fxo (by go_big_quiet_step ((go_at_call 124;exact qaA (HC1.out _)));exact wqn rfl)<|fo4 ?_ ?_ ?_ ?_<|fxo ?_<|fxn;all_goals (go_big_quiet_step ((go_at_call 123;exact qaA (HM1.out _)));exact wqn rfl)
   intro β wx3 E;replace FR:=fnf FR E rfl;replace AB0:=fnh AB0 E rfl;replace Ab12:=fnh Ab12 E rfl;replace Ab14:=fnh Ab14 E rfl;simp only [nP,zr,zq];replace FR0:=hid FR.out.le;clear E;rcases HMD.out with ⟨rfl,hr⟩|⟨rfl,hr⟩
   ·have HS3:=hid HS.out.1;have HRR:=hid hr;clear HMD HS hr;by_cases c1:0<x1
    ·skip
     go_upto_region 10 with fail
     refine wT [] [(59,.agg cq.toArray),(60,.int .i64 most),(61,.int .i64 m2),(62,.agg cn.toArray),(63,.tuple #[.int .i64 x2,.int .i64 0]),(58,.tuple #[.int .i64 x2,.int .i64 0]),(64,.int .i64 x2),(65,.int .i64 0),(17,.int .i64 x2),(18,.int .i64 0)] (by simp only [zr,zq];rfl) (by kernel_rfl) rfl ?_ oN oN ?_
     ·intro W' hW';refine ldR (abl Ab14 hW') V_cq rfl<|fo3 ?_ ?_ ?_<|fxo (by go_big_quiet_step ((go_at_call 124;exact qaA (HC2.out _)));exact wqn rfl)<|fo4 ?_ ?_ ?_ ?_<|fxo ?_<|fxn;all_goals (go_big_quiet_step ((go_at_call 123;exact qaA (HM2.out _)));exact wqn rfl)
     intro β wx4 E;replace FR:=fnf FR E rfl;replace AB0:=fnh AB0 E rfl;replace Ab12:=fnh Ab12 E rfl;replace Ab14:=fnh Ab14 E rfl;simp only [nP,zr,zq];replace FR0:=hid FR.out.le;clear E;by_cases c2:0≤x2
     ·have HE:=hid (HRR.out.trans (HS3.out.1 c2));go_wp2
      go_ret2
      exact ⟨qeQ HE.out.symm rfl,by rw [HB0.out] at FR;exact FR.out.below⟩
     ·skip
      obtain ⟨e1,e2⟩:=HS3.out.2 c2;obtain ⟨hq,qv,q1,q2⟩:=HQQ.out;have m1:=HMM.out.2;obtain ⟨n,hn⟩:∃ n,n=q.1 / (q.2:Int):=⟨_,rfl⟩;have hd:dnQ q=n:=hn.symm;rw [hd] at e1 e2 q1;have HNN:=hid (qgM (cr:=cq) (n:=n) hq qv hn (by omega) (by omega));have HE:=hid (HRR.out.trans e1);clear e1 e2 hq qv q1 q2 m1 hn hd;go_upto_region 13 with fail
      refine wT [] [(71,.agg cq.toArray),(72,.int .i64 3),(73,.tuple #[.int .i64 n,.int .i64 0]),(70,.tuple #[.int .i64 n,.int .i64 0]),(74,.int .i64 n),(75,.int .i64 0),(19,.int .i64 n),(20,.int .i64 0)] (by simp only [zr,zq];rfl) (by kernel_rfl) rfl ?_ oN oN ?_
      ·intro W' hW';refine ldR (abl Ab14 hW') V_cq rfl<|fo4 ?_ ?_ ?_ ?_<|fo3 ?_ ?_ ?_<|fxn;all_goals (go_big_quiet_step ((go_at_call 125;exact qaA (HNN.out _)));exact wqn rfl)
      intro β wx5 E;replace FR:=fnf FR E rfl;replace AB0:=fnh AB0 E rfl;replace Ab12:=fnh Ab12 E rfl;replace Ab14:=fnh Ab14 E rfl;simp only [nP,zr,zq];replace FR0:=hid FR.out.le;clear E;go_wp2
      go_ret2
      exact ⟨qeQ HE.out.symm rfl,by rw [HB0.out] at FR;exact FR.out.below⟩
    ·skip
     go_upto_region 10 with fail
     refine wT [] [(59,.agg cq.toArray),(60,.int .i64 most),(61,.int .i64 m2),(62,.agg cn.toArray),(63,.tuple #[.int .i64 x2,.int .i64 0]),(58,.tuple #[.int .i64 x2,.int .i64 0]),(64,.int .i64 x2),(65,.int .i64 0),(17,.int .i64 x2),(18,.int .i64 0)] (by simp only [zr,zq];rfl) (by kernel_rfl) rfl ?_ oN oN ?_
     ·intro W' hW';refine ldR (abl Ab14 hW') V_cq rfl<|fo3 ?_ ?_ ?_<|fxo (by go_big_quiet_step ((go_at_call 124;exact qaA (HC2.out _)));exact wqn rfl)<|fo4 ?_ ?_ ?_ ?_<|fxo ?_<|fxn;all_goals (go_big_quiet_step ((go_at_call 123;exact qaA (HM2.out _)));exact wqn rfl)
     intro β wx4 E;replace FR:=fnf FR E rfl;replace AB0:=fnh AB0 E rfl;replace Ab12:=fnh Ab12 E rfl;replace Ab14:=fnh Ab14 E rfl;simp only [nP,zr,zq];replace FR0:=hid FR.out.le;clear E;by_cases c2:0≤x2
     ·have HE:=hid (HRR.out.trans (HS3.out.1 c2));go_wp2
      go_ret2
      exact ⟨qeQ HE.out.symm rfl,by rw [HB0.out] at FR;exact FR.out.below⟩
     ·skip
      obtain ⟨e1,e2⟩:=HS3.out.2 c2;obtain ⟨hq,qv,q1,q2⟩:=HQQ.out;have m1:=HMM.out.2;obtain ⟨n,hn⟩:∃ n,n=q.1 / (q.2:Int):=⟨_,rfl⟩;have hd:dnQ q=n:=hn.symm;rw [hd] at e1 e2 q1;have HNN:=hid (qgM (cr:=cq) (n:=n) hq qv hn (by omega) (by omega));have HE:=hid (HRR.out.trans e1);clear e1 e2 hq qv q1 q2 m1 hn hd;go_upto_region 13 with fail
      refine wT [] [(71,.agg cq.toArray),(72,.int .i64 3),(73,.tuple #[.int .i64 n,.int .i64 0]),(70,.tuple #[.int .i64 n,.int .i64 0]),(74,.int .i64 n),(75,.int .i64 0),(19,.int .i64 n),(20,.int .i64 0)] (by simp only [zr,zq];rfl) (by kernel_rfl) rfl ?_ oN oN ?_
      ·intro W' hW';refine ldR (abl Ab14 hW') V_cq rfl<|fo4 ?_ ?_ ?_ ?_<|fo3 ?_ ?_ ?_<|fxn;all_goals (go_big_quiet_step ((go_at_call 125;exact qaA (HNN.out _)));exact wqn rfl)
      intro β wx5 E;replace FR:=fnf FR E rfl;replace AB0:=fnh AB0 E rfl;replace Ab12:=fnh Ab12 E rfl;replace Ab14:=fnh Ab14 E rfl;simp only [nP,zr,zq];replace FR0:=hid FR.out.le;clear E;go_wp2
      go_ret2
      exact ⟨qeQ HE.out.symm rfl,by rw [HB0.out] at FR;exact FR.out.below⟩
   ·have HS4:=hid HS.out.2;have HRR:=hid hr;clear HMD HS hr;by_cases c1:0<x1
    ·have HE:=hid (HRR.out.trans (HS4.out.1 c1));go_wp2
     go_ret2
     exact ⟨qeQ HE.out.symm rfl,by rw [HB0.out] at FR;exact FR.out.below⟩
    ·obtain ⟨c2,e12⟩:=HS4.out.2 c1;go_upto_region 10 with fail
     refine wT [] [(59,.agg cq.toArray),(60,.int .i64 most),(61,.int .i64 m2),(62,.agg cn.toArray),(63,.tuple #[.int .i64 x2,.int .i64 0]),(58,.tuple #[.int .i64 x2,.int .i64 0]),(64,.int .i64 x2),(65,.int .i64 0),(17,.int .i64 x2),(18,.int .i64 0)] (by simp only [zr,zq];rfl) (by kernel_rfl) rfl ?_ oN oN ?_
     ·intro W' hW';refine ldR (abl Ab14 hW') V_cq rfl<|fo3 ?_ ?_ ?_<|fxo (by go_big_quiet_step ((go_at_call 124;exact qaA (HC2.out _)));exact wqn rfl)<|fo4 ?_ ?_ ?_ ?_<|fxo ?_<|fxn;all_goals (go_big_quiet_step ((go_at_call 123;exact qaA (HM2.out _)));exact wqn rfl)
     intro β wx4 E;replace FR:=fnf FR E rfl;replace AB0:=fnh AB0 E rfl;replace Ab12:=fnh Ab12 E rfl;replace Ab14:=fnh Ab14 E rfl;simp only [nP,zr,zq];replace FR0:=hid FR.out.le;clear E;obtain ⟨e1,e2⟩:=e12;obtain ⟨hq,qv,q1,q2⟩:=HQQ.out;have m1:=HMM.out.2;obtain ⟨n,hn⟩:∃ n,n=ceilQ q:=⟨_,rfl⟩;rw [←hn] at e1 e2 q2;have HNN:=hid (qnA (cr:=cq) (n:=n) hq qv hn (by omega) (by omega));have HE:=hid (HRR.out.trans e1);clear e1 e2 hq qv q1 q2 m1 hn;go_upto_region 13 with fail
     refine wT [] [(71,.agg cq.toArray),(72,.int .i64 4),(73,.tuple #[.int .i64 n,.int .i64 0]),(70,.tuple #[.int .i64 n,.int .i64 0]),(74,.int .i64 n),(75,.int .i64 0),(19,.int .i64 n),(20,.int .i64 0)] (by simp only [zr,zq];rfl) (by kernel_rfl) rfl ?_ oN oN ?_
     ·intro W' hW';refine ldR (abl Ab14 hW') V_cq rfl<|fo4 ?_ ?_ ?_ ?_<|fo3 ?_ ?_ ?_<|fxn;all_goals (go_big_quiet_step ((go_at_call 125;exact qaA (HNN.out _)));exact wqn rfl)
     intro β wx5 E;replace FR:=fnf FR E rfl;replace AB0:=fnh AB0 E rfl;replace Ab12:=fnh Ab12 E rfl;replace Ab14:=fnh Ab14 E rfl;simp only [nP,zr,zq];replace FR0:=hid FR.out.le;clear E;go_wp2
     go_ret2
     exact ⟨qeQ HE.out.symm rfl,by rw [HB0.out] at FR;exact FR.out.below⟩
def rndM (mode:Int) (q:Qn):Int:=if mode=3 then dnQ q else ceilQ q
theorem qnE {cp:List Value} {p:Qn} {pl g:Nat} {z k mode r code:Int} (h:cp=ratZ p.1 p.2) (hp:Pc p) (hz:z=(pl:Int)) (h6:pl≤6) (k0:0≤k) (k1:k≤1000000000000000) (hm:mode=3∨mode=4)
  (hr:(moneyZ (worthQ p pl k) (rndM mode)=.ok r∧code=0)∨(moneyZ (worthQ p pl k) (rndM mode)=.error code∧r=0)) (w:World) (hg:g<w.heap.size) (hc:w.cell? ⟨g,133,none⟩=some (.int .i64 z)) :
  Calls Tryz.prog 89 #[.pointer (some ⟨g,0,none⟩),.agg cp.toArray,.int .i64 k,.int .i64 mode] w fun e w'=>e=.returned (.tuple #[.int .i64 r,.int .i64 code])∧Below w.heap.size w w':=by
 have V_cp:=hid (show cp=rat (decide (p.1<0)) p.1.natAbs false p.2 from h);have HG:=hid hg;have HC:=hid hc;obtain ⟨co,hco0⟩:∃ c,c=resR (worthQ p pl k):=⟨_,rfl⟩;obtain ⟨e1,he1⟩:∃ e,e=resE (worthQ p pl k):=⟨_,rfl⟩
 obtain ⟨on,op,om,oq,hco⟩:∃ rn rp rm rq,co=rat rn rp rm rq:=by
  rw [hco0]
  cases worthQ p pl k with
  | none=>exact ⟨_,_,_,_,rfl⟩
  | some r=>exact ⟨_,_,_,_,rfl⟩
 have V_co:=hid hco;have HW:=hid (qjU (cp:=cp) (cR:=co) (code:=e1) (k:=k) (z:=z) h hp hz h6 k0 k1 hco0 he1)
 have HN:=hid (show (e1=10∧r=0∧code=10)∨(e1=0∧∀ W,Calls Tryz.prog 125 #[.agg co.toArray,.int .i64 0,.int .i64 mode] W (fun e w'=>e=.returned (.tuple #[.int .i64 r,.int .i64 code])∧Below W.heap.size W w')) by
  rw [he1]
  cases hw:worthQ p pl k with
  | none =>
   rw [hw] at hr;rcases hr with ⟨h1,_⟩|⟨h1,h2⟩
   ·simp [moneyZ] at h1
   ·simp [moneyZ] at h1;exact .inl ⟨rfl,h2,h1.symm⟩
  | some one =>
   obtain ⟨vo,nd,nc⟩:=qxB hp k0 k1 h6 hw;refine .inr ⟨rfl,fun W=>?_⟩;rw [hw] at hr hco0
   have hrc:(rndM mode one≤1000000000000000∧r=rndM mode one∧code=0)∨(1000000000000000<rndM mode one∧r=0∧code=33):=by
    unfold moneyZ mostZ at hr;by_cases hf:rndM mode one≤1000000000000000
    ·simp only [if_pos hf] at hr;rcases hr with ⟨h1,h2⟩|⟨h1,_⟩
     ·injection h1 with h1;exact .inl ⟨hf,h1.symm,h2⟩
     ·cases h1
    ·simp only [if_neg hf] at hr;rcases hr with ⟨h1,_⟩|⟨h1,h2⟩
     ·cases h1
     ·injection h1 with h1;exact .inr ⟨by omega,h2,h1.symm⟩
   rcases hm with rfl|rfl
   ·have e3:rndM 3 one=dnQ one:=rfl;rw [e3] at hrc;rcases hrc with ⟨h1,rfl,rfl⟩|⟨h1,rfl,rfl⟩
    ·exact qgM hco0 vo rfl (by show _≤dnQ one;omega) h1 W
    ·exact qpB hco0 vo rfl h1 W
   ·have e3:rndM 4 one=ceilQ one:=rfl;rw [e3] at hrc;rcases hrc with ⟨h1,rfl,rfl⟩|⟨h1,rfl,rfl⟩
    ·exact qnA hco0 vo rfl (by omega) h1 W
    ·exact qrS hco0 vo rfl h1 W)
 clear h hp hz h6 k0 k1 hr hg hc he1 hco0 hco hm;obtain ⟨B0,w0,hw0,hB0,AB0,FR,FR0,HB0,hZB0⟩:=en1 w 27 (bxq cp);go_enter Tryz.func89,Tryz.ntmps89
 go_upto_region 1 with fail
 rw [←hw0,←hB0];clear hw0 hB0;have HCB:=hid (show g<B0 by rw [HB0.out];exact HG.out);refine wT [⟨true,10,10,11,0,0,27,20,co,0,co,[]⟩] [(13,.agg cp.toArray),(14,.pointer (some ⟨g,0,none⟩)),(15,.pointer (some ⟨g,0,none⟩)),(16,.pointer (some ⟨g,133,none⟩)),(17,.int .i64 z),(18,.int .i64 k),(19,.tuple #[.agg co.toArray,.int .i64 e1]),(12,.tuple #[.agg co.toArray,.int .i64 e1]),(20,.agg co.toArray),(21,.int .i64 e1),(11,.int .i64 e1)] (by simp only [zr,zq];rfl) (by kernel_rfl) rfl ?_ ?_ ?_ ?_
 ·intro W' hW';have zc:=qcU (qbN HC.out FR.out.below HCB.out) hW';refine ldR (abl AB0 hW') V_cp rfl<|fo3 ?_ ?_ ?_<|fxo (wcg (by rfl) rfl rfl (fun W h=>by simp [loadVar,h,go_sem]) zc (wqn (by simp only [zq])))<|fo4 ?_ ?_ ?_ ?_<|fxo ?_<|fxs rfl<|fxs rfl<|fxo ?_<|fxn;all_goals (go_big_quiet_step ((go_at_call 11;exact qaA (HW.out _)));exact wqn rfl)
 ·exact fP1 (Tryz.alR (qR V_co.out))
 ·exact fP1 (sR V_co (fun _=>rfl) rfl)
 intro β wx1 E;replace FR:=fnf FR E rfl;obtain ⟨b10,hb10,eb10⟩:=nwb E mms;have lB0_b10:B0<b10:=ltb AB0 eb10.1;have hZb10:B0≤b10:=Nat.le_trans FR0.out eb10.1;replace AB0:=fnh AB0 E rfl;have Ab10:=hid eb10.2;simp only [nP,zr,zq];rw [←hb10];replace FR0:=hid FR.out.le;clear E eb10 hb10;rcases HN.out with ⟨rfl,rfl,rfl⟩|⟨rfl,hN⟩
 ·clear HN;go_wp2
  go_ret2
  exact ⟨rfl,fend HB0 FR⟩
 ·have HR:=hid hN;clear HN hN;go_upto_region 4 with fail
  refine wT [] [(25,.agg co.toArray),(26,.int .i64 mode),(27,.tuple #[.int .i64 r,.int .i64 code]),(28,.int .i64 r),(29,.int .i64 code),(8,.int .i64 r),(9,.int .i64 code)] (by simp only [zr,zq];rfl) (by kernel_rfl) rfl ?_ oN oN ?_
  ·intro W' hW';refine ldR (abl Ab10 hW') V_co rfl<|fo4 ?_ ?_ ?_ ?_<|fo2 ?_ ?_<|fxn;all_goals (go_big_quiet_step ((go_at_call 125;exact qaA (HR.out _)));exact wqn rfl)
  intro β wx2 E;replace FR:=fnf FR E rfl;replace AB0:=fnh AB0 E rfl;replace Ab10:=fnh Ab10 E rfl;simp only [nP,zr,zq];replace FR0:=hid FR.out.le;clear E;go_wp2
  go_ret2
  exact ⟨rfl,fend HB0 FR⟩
end Go.Proofs.YtemoddmadfoaiaaGreat
