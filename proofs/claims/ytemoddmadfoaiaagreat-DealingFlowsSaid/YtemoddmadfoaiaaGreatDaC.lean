import Derived.Test.YtemoddmadfoaiaaGreatGkC
import Derived.Test.YtemoddmadfoaiaaGreatDaB
import Derived.Test.YtemoddmadfoaiaaGreatRegG
set_option linter.unusedVariables false
set_option linter.unusedSimpArgs false
set_option maxRecDepth 100000
set_option maxHeartbeats 8000000
namespace Go.Proofs.YtemoddmadfoaiaaGreat
open Go.RowKit Big
open Lib (hid)
open Dl
theorem pofQ {cR:List Value} {x y:Int} {d:Nat} {code:Int} (hy:y=(d:Int)) (hd:d≠0) (hR:cR=resR (mkQ x d)) (hc:code=resE (mkQ x d)) (h1:-9223372036854775808≤x) (h2:x≤9223372036854775807) (h3:y≤9223372036854775807) (w:World) :
  Calls Tryz.prog 43 #[.int .i64 x,.int .i64 y] w fun e w'=>e=.returned (.tuple #[.agg cR.toArray,.int .i64 code])∧Below w.heap.size w w':=by
 obtain ⟨rn,rp,rm,rq,hcR⟩:∃ rn rp rm rq,cR=rat rn rp rm rq:=by
  rw [hR]
  cases mkQ x d with
  | none=>exact ⟨_,_,_,_,rfl⟩
  | some r=>exact ⟨_,_,_,_,rfl⟩
 have V_cR:=hid hcR
 obtain ⟨cz,V_cz⟩:∃ c:List Value,Hid (c=rat false 0 false 0):=⟨_,hid rfl⟩
 obtain ⟨cx,V_cx⟩:∃ c:List Value,Hid (c=iZ x):=⟨_,hid rfl⟩
 obtain ⟨cy,V_cy⟩:∃ c:List Value,Hid (c=iZ y):=⟨_,hid rfl⟩
 have e1:(9223372036854775809:Nat)≤BB^2:=by unfold BB;decide
 have e2:BB^2≤BB^32:=Nat.pow_le_pow_right qaY (by omega)
 have HX:=hid (qpQ V_cx.out h1 h2)
 have HY:=hid (qpQ V_cy.out (by omega) h3)
 have HM:=hid (qtY (D:=d) (cb:=cy) V_cx.out (by rw [V_cy.out,hy]) hR hc (by omega) (by omega) hd)
 clear hy hd hR hc h1 h2 h3 hcR e1 e2
 obtain ⟨B0,hB0⟩:∃ B,B=w.heap.size:=⟨_,rfl⟩
 obtain ⟨w0,hw0⟩:∃ w0,w0=(w.alloc (.cells Tryz.zeroCells27 27)):=⟨_,rfl⟩
 have AB0:=hid (show At w0 B0 0 cz by rw [hw0];exact (show At (w.alloc (.cells Tryz.zeroCells27 27)) B0 0 cz from (by rw [Tryz.zeroR,V_cz.out];exact At.fresh _ (rat false 0 false 0) _ (by simp [hB0]))))
 have FR:=hid (show Fr B0 w w0 by rw [hw0,hB0];exact (Fr.start w).alloc _)
 have FR0:=hid FR.out.le
 have hZB0:B0≤B0:=Nat.le_refl _
 have HB0:=hid hB0
 go_enter Tryz.func43,Tryz.ntmps43
 go_upto_region 1 with fail
 rw [←hw0,←hB0]
 clear hw0 hB0
 refine qwf [⟨false,0,4,7,B0,0,27,11,cR,0,cR,[]⟩] [(6,.int .i64 x),(7,.agg cx.toArray),(8,.int .i64 y),(9,.agg cy.toArray),(10,.tuple #[.agg cR.toArray,.int .i64 code]),(11,.agg cR.toArray),(12,.int .i64 code),(5,.int .i64 code)] _ (by simp only [zz4,zz5,zq];rfl) (by kernel_rfl) (by kernel_rfl) ?_ ?_ ?_ ?_ ?_ ?_ ?_
 ·intro W' hW'
  refine fxo ?_ ?_;(go_big_quiet_step (fail);(try simp only [zq]);exact wqn rfl)
  refine fxo ?_ ?_;(go_big_quiet_step ((go_at_call 76;exact qaA (HX.out _)));(try simp only [zq]);exact wqn rfl)
  refine fxo ?_ ?_;(go_big_quiet_step (fail);(try simp only [zq]);exact wqn rfl)
  refine fxo ?_ ?_;(go_big_quiet_step ((go_at_call 76;exact qaA (HY.out _)));(try simp only [zq]);exact wqn rfl)
  refine fxo ?_ ?_;(go_big_quiet_step ((go_at_call 75;exact qaA (HM.out _)));(try simp only [zq]);exact wqn rfl)
  iterate 2 (refine fxo ?_ ?_;(go_big_quiet_step (fail);(try simp only [zq]);exact wqn rfl))
  refine fxs (by rfl) ?_
  refine fxo ?_ ?_;(go_big_quiet_step (fail);(try simp only [zq]);exact wqn rfl)
  exact fxn
 ·intro W' hK'
  first|(refine fxo ?_ ?_;(go_big_quiet_step (fail);(try simp only [zq]);exact wqn rfl))|(refine fxs (by kernel_rfl) ?_)
  refine fxs (by kernel_rfl) ?_
  first|(refine fxo ?_ ?_;(go_big_quiet_step (fail);(try simp only [zq]);exact wqn rfl))|(refine fxs (by kernel_rfl) ?_)
  iterate 2 (refine fxs (by kernel_rfl) ?_)
  iterate 2 (first|(refine fxo ?_ ?_;(go_big_quiet_step (fail);(try simp only [zq]);exact wqn rfl))|(refine fxs (by kernel_rfl) ?_))
  refine fxs (by kernel_rfl) ?_
  first|(refine fxo ?_ ?_;(go_big_quiet_step (fail);(try simp only [zq]);exact wqn rfl))|(refine fxs (by kernel_rfl) ?_)
  exact fxn
 ·exact oP _ _ (bnc) (oN)
 ·exact oP _ _ (fun _=>⟨AB0.out.lt,rfl,At.room AB0.out (qR V_cz.out) (qR V_cR.out)⟩) (oN)
 ·exact uno
 ·exact oP _ _ (stw rfl (qR V_cR.out) (qfI V_cR.out) (fun _=>rfl)) (oN)
 intro β wx1 E
 replace FR:=hid (FR.out.flow E (oP _ _ (fun _=>(by show B0≤B0;omega)) (oN)))
 replace AB0:=hid (show At wx1 B0 0 cR from E.atOld mms rfl AB0.out.lt)
 simp only [nP,zr,zq]
 replace FR0:=hid FR.out.le
 clear E
 go_wp2_with fail
 have hld:=AB0.out.read (P:=Tryz.prog) Tryz.underlying27 rfl (qR V_cR.out)
 refine bodyPost_ret (v:=.tuple #[.agg cR.toArray,.int .i64 code]) (by simp [results,Tryz.results43,asAddr,hld]) rfl ?_
 exact ⟨rfl,fend HB0 FR⟩
theorem qwT (k:Nat) (h:k<7):IntKind.i64.wrap (((10^k:Nat):Int)*10)=((10^(k+1):Nat):Int):=by
 have:k=0∨k=1∨k=2∨k=3∨k=4∨k=5∨k=6:=by omega
 rcases this with rfl|rfl|rfl|rfl|rfl|rfl|rfl<;>rfl
theorem qrS (k:Nat) (hk:k≤7) (w:World) :
  Calls Tryz.prog 44 #[.int .i64 (k:Int)] w fun e w'=>e=.returned (.int .i64 ((10^k:Nat):Int))∧Below w.heap.size w w':=by
 go_enter Tryz.func44,Tryz.ntmps44
 go_wp2
 go_loopg [3,5] k (fun m n i wr=>∃ (j:Nat),j≤k∧k - j≤m∧i=.int .i64 j∧n=.int .i64 ((10^j:Nat):Int)∧wr=w)
 case atStart=>exact ⟨0,by omega,by omega,rfl,rfl,rfl⟩
 case round =>
  obtain ⟨j,hj,hm,rfl,rfl,rfl⟩:=hrel
  by_cases hlt:j<k
  ·have hst:=qwT j (by omega)
   obtain ⟨P,hP⟩:∃ P:Int,P=((10^j:Nat):Int):=⟨_,rfl⟩
   obtain ⟨P2,hP2⟩:∃ P:Int,P=((10^(j+1):Nat):Int):=⟨_,rfl⟩
   rw [←hP,←hP2] at hst
   rw [←hP]
   have HP2:=hid hP2
   clear hP hP2
   go_wp2
   go_roundg (gk - 1)
   case measure=>omega
   case rel=>exact ⟨j+1,by omega,by omega,by go_num,by rw [←HP2.out],rfl⟩
  ·obtain rfl:j=k:=by omega
   obtain ⟨P,hP⟩:∃ P:Int,P=((10^j:Nat):Int):=⟨_,rfl⟩
   rw [←hP]
   have HP:=hid hP
   clear hP
   go_wp2
   go_ret
   exact ⟨by rw [←HP.out];rfl,Below.refl _ _⟩
def okPc (n m:Bool) (p q:Nat):Bool:=decide (p<B480∧q<B480∧n=cs1 n p∧m=false∧q≠0∧Nat.gcd p q=1)&&decide (0<zI n p)
theorem qhU {cr:List Value} {n m:Bool} {p q:Nat} (h:cr=rat n p m q) (hp:p<BB^32) (hq:q<BB^32) (w:World) :
  Calls Tryz.prog 42 #[.agg cr.toArray] w fun e w'=>e=.returned (.bool (okPc n m p q))∧Below w.heap.size w w':=by
 have V_cr:=hid h
 obtain ⟨ok,hok⟩:∃ ok,ok=decide (p<B480∧q<B480∧n=cs1 n p∧m=false∧q≠0∧Nat.gcd p q=1):=⟨_,rfl⟩
 obtain ⟨s,hs⟩:∃ s,s=if ok=true then sgnI n p else 0:=⟨_,rfl⟩
 obtain ⟨code,hc⟩:∃ c:Int,c=if ok=true then 0 else 20:=⟨_,rfl⟩
 have HS:=hid (qxF h hok hs hc hp hq)
 have HR:=hid (show okPc n m p q=(decide (code=0)&&decide (0<s)) by
  unfold okPc
  rw [←hok,hs,hc]
  cases ok with
  | false=>simp
  | true =>
   have:(0<sgnI n p)↔0<zI n p:=by
    unfold sgnI zI
    cases n<;>by_cases h0:p=0<;>simp [h0]<;>omega
   simp [this])
 have hcc:code=0∨code=20:=by rw [hc];cases ok<;>simp
 clear h hok hs hc hp hq
 rw [HR.out]
 obtain ⟨B0,hB0⟩:∃ B,B=w.heap.size:=⟨_,rfl⟩
 obtain ⟨w0,hw0⟩:∃ w0,w0=(w.alloc (.cells cr.toArray 27)):=⟨_,rfl⟩
 have AB0:=hid (show At w0 B0 0 cr by rw [hw0];exact (show At (w.alloc (.cells cr.toArray 27)) B0 0 cr from At.fresh _ cr _ (by simp [hB0])))
 have FR:=hid (show Fr B0 w w0 by rw [hw0,hB0];exact (Fr.start w).alloc _)
 have FR0:=hid FR.out.le
 have hZB0:B0≤B0:=Nat.le_refl _
 have HB0:=hid hB0
 go_enter Tryz.func42,Tryz.ntmps42
 go_upto_region 1 with fail
 rw [←hw0,←hB0]
 clear hw0 hB0
 refine wfn [] [(6,.agg cr.toArray),(7,.tuple #[.int .i64 s,.int .i64 code]),(5,.tuple #[.int .i64 s,.int .i64 code]),(8,.int .i64 s),(9,.int .i64 code),(3,.int .i64 s),(4,.int .i64 code)] _ (by simp only [zz4,zz5,zq];rfl) (by kernel_rfl) (by kernel_rfl) rfl ?_ ?_ ?_ ?_
 ·intro W' hW'
  have rd0:=AB0.out.below hW'
  refine fxo (wlg (by rfl) rfl rfl rd0 Tryz.underlying27 rfl (qR V_cr.out) (wqn (by simp only [zq]))) ?_
  refine fxo ?_ ?_;(go_big_quiet_step ((go_at_call 74;exact qaA (HS.out _)));(try simp only [zq]);exact wqn rfl)
  iterate 5 (refine fxo ?_ ?_;(go_big_quiet_step (fail);(try simp only [zq]);exact wqn rfl))
  exact fxn
 ·exact oN
 ·exact oN
 intro β wx1 E
 replace FR:=hid (FR.out.fnw E rfl)
 replace AB0:=hid (AB0.out.fnw E rfl)
 have hE:=E.below rfl
 simp only [nP,zr,zq]
 replace FR0:=hid FR.out.le
 clear E
 rcases hcc with rfl|rfl
 ·by_cases h0:0<s
  ·go_wp2
   go_ret
   exact ⟨qaF (by simp [h0]),by rw [HB0.out] at FR;exact FR.out.below⟩
  ·go_wp2
   go_ret
   exact ⟨qaF (by simp;omega),by rw [HB0.out] at FR;exact FR.out.below⟩
 ·go_wp2
  go_ret
  exact ⟨qaF (by simp),by rw [HB0.out] at FR;exact FR.out.below⟩
theorem qsI {cr cR cz:List Value} {n m b:Bool} {p q:Nat} {z k T kc code:Int} {part:Qn} {rn rm:Bool} {rp rq:Nat} (h:cr=rat n p m q) (hb:b=okPc n m p q) (hp:p<BB^32) (hq:q<BB^32) (hcR:cR=rat rn rp rm rq) (hz:cz=rat false 0 false 0)
  (hcase:(b=false∧cR=cz∧code=261)∨(b=true∧(z<0∨6<z)∧cR=cz∧code=30)∨(b=true∧¬z<0∧¬6<z∧(k<0∨1000000000000000<k)∧cR=cz∧code=253) ∨
   (b=true∧¬z<0∧¬6<z∧¬k<0∧¬1000000000000000<k∧IntKind.i64.wrap (k*100)=kc∧(∀ W,Calls Tryz.prog 44 #[.int .i64 z] W fun e w'=>e=.returned (.int .i64 T)∧Below W.heap.size W w') ∧
    (∀ cq W,cq=ratZ part.1 part.2→Calls Tryz.prog 43 #[.int .i64 kc,.int .i64 T] W fun e w'=>e=.returned (.tuple #[.agg cq.toArray,.int .i64 0])∧Below W.heap.size W w') ∧
    ∀ cq W,cq=ratZ part.1 part.2→Calls Tryz.prog 45 #[.agg cr.toArray,.agg cq.toArray] W fun e w'=>e=.returned (.tuple #[.agg cR.toArray,.int .i64 code])∧Below W.heap.size W w')) (w:World) :
  Calls Tryz.prog 11 #[.agg cr.toArray,.int .i64 z,.int .i64 k] w fun e w'=>e=.returned (.tuple #[.agg cR.toArray,.int .i64 code])∧Below w.heap.size w w':=by
 have V_cr:=hid h
 have V_cR:=hid hcR
 have V_cz:=hid hz
 obtain ⟨cq,V_cq⟩:∃ c:List Value,Hid (c=rat (decide (part.1<0)) part.1.natAbs false part.2):=⟨_,hid rfl⟩
 have HPR:=hid (fun W=>(hb ▸ qhU h hp hq W))
 have HCASE:=hid hcase
 clear h hb hp hq hcR hz hcase
 obtain ⟨B0,hB0⟩:∃ B,B=w.heap.size:=⟨_,rfl⟩
 obtain ⟨B1,hB1⟩:∃ B,B=w.heap.size+1:=⟨_,rfl⟩
 obtain ⟨w0,hw0⟩:∃ w0,w0=((w.alloc (.cells cr.toArray 27)).alloc (.cells Tryz.zeroCells27 27)):=⟨_,rfl⟩
 have AB0:=hid (show At w0 B0 0 cr by rw [hw0];exact ((show At (w.alloc (.cells cr.toArray 27)) B0 0 cr from At.fresh _ cr _ (by simp [hB0])).alloc _))
 have AB1:=hid (show At w0 B1 0 cz by rw [hw0];exact (show At ((w.alloc (.cells cr.toArray 27)).alloc (.cells Tryz.zeroCells27 27)) B1 0 cz from (by rw [Tryz.zeroR,V_cz.out];exact At.fresh _ (rat false 0 false 0) _ (by simp [hB1]))))
 have FR:=hid (show Fr B0 w w0 by rw [hw0,hB0];exact ((Fr.start w).alloc _).alloc _)
 have FR0:=hid FR.out.le
 have l01:B0<B1:=by omega
 have hZB1:B0≤B1:=by omega
 have hZB0:B0≤B0:=Nat.le_refl _
 have HB0:=hid hB0
 go_enter Tryz.func11,Tryz.ntmps11
 go_upto_region 1 with fail
 rw [←hw0,←hB1,←hB0]
 clear hw0 hB0 hB1
 refine wfn [] [(11,.agg cr.toArray),(12,.bool b),(13,.bool (!b)),(10,.bool (!b))] _ (by simp only [zz4,zz5,zq];rfl) (by kernel_rfl) (by kernel_rfl) rfl ?_ ?_ ?_ ?_
 ·intro W' hW'
  have rd0:=AB0.out.below hW'
  refine fxo (wlg (by rfl) rfl rfl rd0 Tryz.underlying27 rfl (qR V_cr.out) (wqn (by simp only [zq]))) ?_
  refine fxo ?_ ?_;(go_big_quiet_step ((go_at_call 42;exact qaA (HPR.out _)));(try simp only [zq]);exact wqn rfl)
  iterate 2 (refine fxo ?_ ?_;(go_big_quiet_step (fail);(try simp only [zq]);exact wqn rfl))
  exact fxn
 ·exact oN
 ·exact oN
 intro β wx1 E
 replace FR:=hid (FR.out.fnw E rfl)
 replace AB0:=hid (AB0.out.fnw E rfl)
 replace AB1:=hid (AB1.out.fnw E rfl)
 have hE:=E.below rfl
 simp only [nP,zr,zq]
 replace FR0:=hid FR.out.le
 clear E
 rcases HCASE.out with ⟨rfl,rfl,rfl⟩|⟨rfl,h2,rfl,rfl⟩|⟨rfl,h2,h3,h4,rfl,rfl⟩|⟨rfl,h2,h3,h4,h5,wk,g1,g2,g3⟩
 ·replace V_cR:=V_cz
  clear HCASE
  go_upto_region 2 with fail
  refine qwf [⟨false,0,6,1,B1,0,27,14,cR,0,cR,[]⟩] [(14,.agg cR.toArray),(7,.int .i64 261)] _ (by simp only [zz4,zz5,zq];rfl) (by kernel_rfl) (by kernel_rfl) ?_ ?_ ?_ ?_ ?_ ?_ ?_
  ·intro W' hW'
   refine fxo (wqB rfl _ _ rfl _ rfl _ (qbJ V_cR.out) (wqn (by simp only [zq]))) ?_
   refine fxs (by rfl) ?_
   refine fxo ?_ ?_;(go_big_quiet_step (fail);(try simp only [zq]);exact wqn rfl)
   exact fxn
  ·intro W' hK'
   refine fxo (wqB rfl _ _ rfl _ rfl _ (qbJ V_cR.out) (wqn (by simp only [zq]))) ?_
   refine fxs (by kernel_rfl) ?_
   first|(refine fxo ?_ ?_;(go_big_quiet_step (fail);(try simp only [zq]);exact wqn rfl))|(refine fxs (by kernel_rfl) ?_)
   exact fxn
  ·exact oP _ _ (bnc) (oN)
  ·exact oP _ _ (fun _=>⟨AB1.out.lt,rfl,At.room AB1.out (qR V_cz.out) (qR V_cR.out)⟩) (oN)
  ·exact uno
  ·exact oP _ _ (stw rfl (qR V_cR.out) (qfI V_cR.out) (fun _=>rfl)) (oN)
  intro β wx2 E
  replace FR:=hid (FR.out.flow E (oP _ _ (fun _=>(by show B0≤B1;omega)) (oN)))
  replace AB0:=hid (At.flow E AB0.out (oP _ _ (fun _=>(by show B1≠B0;omega)) (oN)))
  replace AB1:=hid (show At wx2 B1 0 cR from E.atOld mms rfl AB1.out.lt)
  simp only [nP,zr,zq]
  replace FR0:=hid FR.out.le
  clear E
  go_wp2_with fail
  have hld:=AB1.out.read (P:=Tryz.prog) Tryz.underlying27 rfl (qR V_cR.out)
  refine bodyPost_ret (v:=.tuple #[.agg cR.toArray,.int .i64 261]) (by simp [results,Tryz.results11,asAddr,hld]) rfl ?_
  exact ⟨rfl,fend HB0 FR⟩
 ·replace V_cR:=V_cz
  clear HCASE
  by_cases h3:z<0
  ·clear h2
   go_upto_region 4 with fail
   refine qwf [⟨false,0,6,1,B1,0,27,22,cR,0,cR,[]⟩] [(22,.agg cR.toArray),(7,.int .i64 30)] _ (by simp only [zz4,zz5,zq];rfl) (by kernel_rfl) (by kernel_rfl) ?_ ?_ ?_ ?_ ?_ ?_ ?_
   ·intro W' hW'
    refine fxo (wqB rfl _ _ rfl _ rfl _ (qbJ V_cR.out) (wqn (by simp only [zq]))) ?_
    refine fxs (by rfl) ?_
    refine fxo ?_ ?_;(go_big_quiet_step (fail);(try simp only [zq]);exact wqn rfl)
    exact fxn
   ·intro W' hK'
    refine fxo (wqB rfl _ _ rfl _ rfl _ (qbJ V_cR.out) (wqn (by simp only [zq]))) ?_
    refine fxs (by kernel_rfl) ?_
    first|(refine fxo ?_ ?_;(go_big_quiet_step (fail);(try simp only [zq]);exact wqn rfl))|(refine fxs (by kernel_rfl) ?_)
    exact fxn
   ·exact oP _ _ (bnc) (oN)
   ·exact oP _ _ (fun _=>⟨AB1.out.lt,rfl,At.room AB1.out (qR V_cz.out) (qR V_cR.out)⟩) (oN)
   ·exact uno
   ·exact oP _ _ (stw rfl (qR V_cR.out) (qfI V_cR.out) (fun _=>rfl)) (oN)
   intro β wx2 E
   replace FR:=hid (FR.out.flow E (oP _ _ (fun _=>(by show B0≤B1;omega)) (oN)))
   replace AB0:=hid (At.flow E AB0.out (oP _ _ (fun _=>(by show B1≠B0;omega)) (oN)))
   replace AB1:=hid (show At wx2 B1 0 cR from E.atOld mms rfl AB1.out.lt)
   simp only [nP,zr,zq]
   replace FR0:=hid FR.out.le
   clear E
   go_wp2_with fail
   have hld:=AB1.out.read (P:=Tryz.prog) Tryz.underlying27 rfl (qR V_cR.out)
   refine bodyPost_ret (v:=.tuple #[.agg cR.toArray,.int .i64 30]) (by simp [results,Tryz.results11,asAddr,hld]) rfl ?_
   exact ⟨rfl,fend HB0 FR⟩
  ·have h2:6<z:=by omega
   go_upto_region 4 with fail
   refine qwf [⟨false,0,6,1,B1,0,27,22,cR,0,cR,[]⟩] [(22,.agg cR.toArray),(7,.int .i64 30)] _ (by simp only [zz4,zz5,zq];rfl) (by kernel_rfl) (by kernel_rfl) ?_ ?_ ?_ ?_ ?_ ?_ ?_
   ·intro W' hW'
    refine fxo (wqB rfl _ _ rfl _ rfl _ (qbJ V_cR.out) (wqn (by simp only [zq]))) ?_
    refine fxs (by rfl) ?_
    refine fxo ?_ ?_;(go_big_quiet_step (fail);(try simp only [zq]);exact wqn rfl)
    exact fxn
   ·intro W' hK'
    refine fxo (wqB rfl _ _ rfl _ rfl _ (qbJ V_cR.out) (wqn (by simp only [zq]))) ?_
    refine fxs (by kernel_rfl) ?_
    first|(refine fxo ?_ ?_;(go_big_quiet_step (fail);(try simp only [zq]);exact wqn rfl))|(refine fxs (by kernel_rfl) ?_)
    exact fxn
   ·exact oP _ _ (bnc) (oN)
   ·exact oP _ _ (fun _=>⟨AB1.out.lt,rfl,At.room AB1.out (qR V_cz.out) (qR V_cR.out)⟩) (oN)
   ·exact uno
   ·exact oP _ _ (stw rfl (qR V_cR.out) (qfI V_cR.out) (fun _=>rfl)) (oN)
   intro β wx2 E
   replace FR:=hid (FR.out.flow E (oP _ _ (fun _=>(by show B0≤B1;omega)) (oN)))
   replace AB0:=hid (At.flow E AB0.out (oP _ _ (fun _=>(by show B1≠B0;omega)) (oN)))
   replace AB1:=hid (show At wx2 B1 0 cR from E.atOld mms rfl AB1.out.lt)
   simp only [nP,zr,zq]
   replace FR0:=hid FR.out.le
   clear E
   go_wp2_with fail
   have hld:=AB1.out.read (P:=Tryz.prog) Tryz.underlying27 rfl (qR V_cR.out)
   refine bodyPost_ret (v:=.tuple #[.agg cR.toArray,.int .i64 30]) (by simp [results,Tryz.results11,asAddr,hld]) rfl ?_
   exact ⟨rfl,fend HB0 FR⟩
 ·replace V_cR:=V_cz
  clear HCASE
  by_cases h5:k<0
  ·clear h4
   go_upto_region 6 with fail
   refine qwf [⟨false,0,6,1,B1,0,27,30,cR,0,cR,[]⟩] [(30,.agg cR.toArray),(7,.int .i64 253)] _ (by simp only [zz4,zz5,zq];rfl) (by kernel_rfl) (by kernel_rfl) ?_ ?_ ?_ ?_ ?_ ?_ ?_
   ·intro W' hW'
    refine fxo (wqB rfl _ _ rfl _ rfl _ (qbJ V_cR.out) (wqn (by simp only [zq]))) ?_
    refine fxs (by rfl) ?_
    refine fxo ?_ ?_;(go_big_quiet_step (fail);(try simp only [zq]);exact wqn rfl)
    exact fxn
   ·intro W' hK'
    refine fxo (wqB rfl _ _ rfl _ rfl _ (qbJ V_cR.out) (wqn (by simp only [zq]))) ?_
    refine fxs (by kernel_rfl) ?_
    first|(refine fxo ?_ ?_;(go_big_quiet_step (fail);(try simp only [zq]);exact wqn rfl))|(refine fxs (by kernel_rfl) ?_)
    exact fxn
   ·exact oP _ _ (bnc) (oN)
   ·exact oP _ _ (fun _=>⟨AB1.out.lt,rfl,At.room AB1.out (qR V_cz.out) (qR V_cR.out)⟩) (oN)
   ·exact uno
   ·exact oP _ _ (stw rfl (qR V_cR.out) (qfI V_cR.out) (fun _=>rfl)) (oN)
   intro β wx2 E
   replace FR:=hid (FR.out.flow E (oP _ _ (fun _=>(by show B0≤B1;omega)) (oN)))
   replace AB0:=hid (At.flow E AB0.out (oP _ _ (fun _=>(by show B1≠B0;omega)) (oN)))
   replace AB1:=hid (show At wx2 B1 0 cR from E.atOld mms rfl AB1.out.lt)
   simp only [nP,zr,zq]
   replace FR0:=hid FR.out.le
   clear E
   go_wp2_with fail
   have hld:=AB1.out.read (P:=Tryz.prog) Tryz.underlying27 rfl (qR V_cR.out)
   refine bodyPost_ret (v:=.tuple #[.agg cR.toArray,.int .i64 253]) (by simp [results,Tryz.results11,asAddr,hld]) rfl ?_
   exact ⟨rfl,fend HB0 FR⟩
  ·have h4:1000000000000000<k:=by omega
   go_upto_region 6 with fail
   refine qwf [⟨false,0,6,1,B1,0,27,30,cR,0,cR,[]⟩] [(30,.agg cR.toArray),(7,.int .i64 253)] _ (by simp only [zz4,zz5,zq];rfl) (by kernel_rfl) (by kernel_rfl) ?_ ?_ ?_ ?_ ?_ ?_ ?_
   ·intro W' hW'
    refine fxo (wqB rfl _ _ rfl _ rfl _ (qbJ V_cR.out) (wqn (by simp only [zq]))) ?_
    refine fxs (by rfl) ?_
    refine fxo ?_ ?_;(go_big_quiet_step (fail);(try simp only [zq]);exact wqn rfl)
    exact fxn
   ·intro W' hK'
    refine fxo (wqB rfl _ _ rfl _ rfl _ (qbJ V_cR.out) (wqn (by simp only [zq]))) ?_
    refine fxs (by kernel_rfl) ?_
    first|(refine fxo ?_ ?_;(go_big_quiet_step (fail);(try simp only [zq]);exact wqn rfl))|(refine fxs (by kernel_rfl) ?_)
    exact fxn
   ·exact oP _ _ (bnc) (oN)
   ·exact oP _ _ (fun _=>⟨AB1.out.lt,rfl,At.room AB1.out (qR V_cz.out) (qR V_cR.out)⟩) (oN)
   ·exact uno
   ·exact oP _ _ (stw rfl (qR V_cR.out) (qfI V_cR.out) (fun _=>rfl)) (oN)
   intro β wx2 E
   replace FR:=hid (FR.out.flow E (oP _ _ (fun _=>(by show B0≤B1;omega)) (oN)))
   replace AB0:=hid (At.flow E AB0.out (oP _ _ (fun _=>(by show B1≠B0;omega)) (oN)))
   replace AB1:=hid (show At wx2 B1 0 cR from E.atOld mms rfl AB1.out.lt)
   simp only [nP,zr,zq]
   replace FR0:=hid FR.out.le
   clear E
   go_wp2_with fail
   have hld:=AB1.out.read (P:=Tryz.prog) Tryz.underlying27 rfl (qR V_cR.out)
   refine bodyPost_ret (v:=.tuple #[.agg cR.toArray,.int .i64 253]) (by simp [results,Tryz.results11,asAddr,hld]) rfl ?_
   exact ⟨rfl,fend HB0 FR⟩
 ·have HPW:=hid g1
  have HOF:=hid (fun W=>g2 cq W V_cq.out)
  have HMU:=hid (fun W=>g3 cq W V_cq.out)
  clear g1 g2 g3 HCASE
  go_upto_region 7 with fail
  refine wfn [⟨true,8,8,9,0,0,27,37,cq,0,cq,[]⟩] [(32,.int .i64 k),(33,.int .i64 kc),(34,.int .i64 z),(35,.int .i64 T),(36,.tuple #[.agg cq.toArray,.int .i64 0]),(31,.tuple #[.agg cq.toArray,.int .i64 0]),(37,.agg cq.toArray),(38,.int .i64 0),(9,.int .i64 0)] _ (by simp only [zz4,zz5,zq];rfl) (by kernel_rfl) (by kernel_rfl) rfl ?_ ?_ ?_ ?_
  ·intro W' hW'
   iterate 3 (refine fxo ?_ ?_;(go_big_quiet_step (fail);(try simp only [zq]);exact wqn rfl))
   refine fxo ?_ ?_;(go_big_quiet_step ((go_at_call 44;exact qaA (HPW.out _)));(try simp only [zq]);exact wqn rfl)
   refine fxo ?_ ?_;(go_big_quiet_step ((go_at_call 43;exact qaA (HOF.out _)));(try simp only [zq]);exact wqn rfl)
   iterate 3 (refine fxo ?_ ?_;(go_big_quiet_step (fail);(try simp only [zq]);exact wqn rfl))
   iterate 2 (refine fxs (by rfl) ?_)
   refine fxo ?_ ?_;(go_big_quiet_step (fail);(try simp only [zq]);exact wqn rfl)
   exact fxn
  ·exact oP _ _ (Tryz.alR (qR V_cq.out)) (oN)
  ·exact oP _ _ (stw rfl (qR V_cq.out) (qfI V_cq.out) (fun _=>rfl)) (oN)
  intro β wx2 E
  replace FR:=hid (FR.out.fnw E rfl)
  obtain ⟨b8,hb8⟩:∃ b,b=β 8:=⟨_,rfl⟩
  have eb8:=E.atNew mms rfl
  simp only at eb8
  rw [←hb8] at eb8
  have lB0_b8:B0<b8:=by have h1:=eb8.1;have h2:=AB0.out.lt;omega
  have lB1_b8:B1<b8:=by have h1:=eb8.1;have h2:=AB1.out.lt;omega
  have hZb8:B0≤b8:=by have h1:=eb8.1;have h2:=FR0.out;omega
  replace AB0:=hid (AB0.out.fnw E rfl)
  replace AB1:=hid (AB1.out.fnw E rfl)
  have Ab8:=hid eb8.2
  simp only [nP,zr,zq]
  rw [←hb8]
  replace FR0:=hid FR.out.le
  clear E eb8 hb8
  go_upto_region 8 with fail
  refine qwf [⟨false,0,6,5,B1,0,27,42,cR,0,cR,[]⟩] [(39,.agg cr.toArray),(40,.agg cq.toArray),(41,.tuple #[.agg cR.toArray,.int .i64 code]),(42,.agg cR.toArray),(43,.int .i64 code),(7,.int .i64 code)] _ (by simp only [zz4,zz5,zq];rfl) (by kernel_rfl) (by kernel_rfl) ?_ ?_ ?_ ?_ ?_ ?_ ?_
  ·intro W' hW'
   have rd0:=AB0.out.below hW'
   have rd1:=Ab8.out.below hW'
   refine fxo (wlg (by rfl) rfl rfl rd0 Tryz.underlying27 rfl (qR V_cr.out) (wqn (by simp only [zq]))) ?_
   refine fxo (wlg (by rfl) rfl rfl rd1 Tryz.underlying27 rfl (qR V_cq.out) (wqn (by simp only [zq]))) ?_
   refine fxo ?_ ?_;(go_big_quiet_step ((go_at_call 45;exact qaA (HMU.out _)));(try simp only [zq]);exact wqn rfl)
   iterate 2 (refine fxo ?_ ?_;(go_big_quiet_step (fail);(try simp only [zq]);exact wqn rfl))
   refine fxs (by rfl) ?_
   refine fxo ?_ ?_;(go_big_quiet_step (fail);(try simp only [zq]);exact wqn rfl)
   exact fxn
  ·intro W' hK'
   have rd0:=At.keep hK' AB0.out (oP _ _ (fun _=>(by show B1≠B0;omega)) (oN))
   have rd1:=At.keep hK' Ab8.out (oP _ _ (fun _=>(by show B1≠b8;omega)) (oN))
   refine fxo (wlg (by rfl) rfl rfl rd0 Tryz.underlying27 rfl (qR V_cr.out) (wqn (by simp only [zq]))) ?_
   refine fxo (wlg (by rfl) rfl rfl rd1 Tryz.underlying27 rfl (qR V_cq.out) (wqn (by simp only [zq]))) ?_
   refine fxs (by kernel_rfl) ?_
   iterate 2 (first|(refine fxo ?_ ?_;(go_big_quiet_step (fail);(try simp only [zq]);exact wqn rfl))|(refine fxs (by kernel_rfl) ?_))
   refine fxs (by kernel_rfl) ?_
   first|(refine fxo ?_ ?_;(go_big_quiet_step (fail);(try simp only [zq]);exact wqn rfl))|(refine fxs (by kernel_rfl) ?_)
   exact fxn
  ·exact oP _ _ (bnc) (oN)
  ·exact oP _ _ (fun _=>⟨AB1.out.lt,rfl,At.room AB1.out (qR V_cz.out) (qR V_cR.out)⟩) (oN)
  ·exact uno
  ·exact oP _ _ (stw rfl (qR V_cR.out) (qfI V_cR.out) (fun _=>rfl)) (oN)
  intro β wx3 E
  replace FR:=hid (FR.out.flow E (oP _ _ (fun _=>(by show B0≤B1;omega)) (oN)))
  replace AB0:=hid (At.flow E AB0.out (oP _ _ (fun _=>(by show B1≠B0;omega)) (oN)))
  replace AB1:=hid (show At wx3 B1 0 cR from E.atOld mms rfl AB1.out.lt)
  replace Ab8:=hid (At.flow E Ab8.out (oP _ _ (fun _=>(by show B1≠b8;omega)) (oN)))
  simp only [nP,zr,zq]
  replace FR0:=hid FR.out.le
  clear E
  go_wp2_with fail
  have hld:=AB1.out.read (P:=Tryz.prog) Tryz.underlying27 rfl (qR V_cR.out)
  refine bodyPost_ret (v:=.tuple #[.agg cR.toArray,.int .i64 code]) (by simp [results,Tryz.results11,asAddr,hld]) rfl ?_
  exact ⟨rfl,fend HB0 FR⟩
theorem qjY {p:Qn} (hp:Pc p):okPc (decide (p.1<0)) false p.1.natAbs p.2=true:=by
 unfold okPc
 rw [qnY,decide_eq_true hp.pos,Bool.and_true]
 exact decide_eq_true ⟨hp.vq.num,hp.vq.den,(jcM p.1).symm,rfl,hp.vq.pos,hp.vq.low⟩
theorem qpH {cp cR:List Value} {p:Qn} {pl:Nat} {z k code:Int} (h:cp=ratZ p.1 p.2) (hp:Pc p) (hz:z=(pl:Int)) (h6:pl≤6) (k0:0≤k) (k1:k≤1000000000000000) (hR:cR=resR (worthQ p pl k)) (hc:code=resE (worthQ p pl k)) (w:World) :
  Calls Tryz.prog 11 #[.agg cp.toArray,.int .i64 z,.int .i64 k] w fun e w'=>e=.returned (.tuple #[.agg cR.toArray,.int .i64 code])∧Below w.heap.size w w':=by
 obtain ⟨pv,pe⟩:=qiW k0 k1 h6
 have hps:=qmV k0 k1 h6
 obtain ⟨rn,rp,rm,rq,hcR⟩:∃ rn rp rm rq,cR=rat rn rp rm rq:=by
  rw [hR]
  cases worthQ p pl k with
  | none=>exact ⟨_,_,_,_,rfl⟩
  | some r=>exact ⟨_,_,_,_,rfl⟩
 have h10:10^pl≤10^6:=Nat.pow_le_pow_right (by omega) h6
 refine qsI (cz:=rat false 0 false 0) (b:=true) (part:=partQ k pl) (T:=((10^pl:Nat):Int)) (kc:=k*100) (n:=decide (p.1<0)) (m:=false) (p:=p.1.natAbs) (q:=p.2) h (qjY hp).symm (qaX hp.vq.num) (qaX hp.vq.den) hcR rfl
  (.inr (.inr (.inr ⟨rfl,by omega,by omega,by omega,by omega,IntWalk.i64_in _ (by omega),fun W=>by rw [hz];exact qrS pl (by omega) W,
   fun cq W e=>pofQ (d:=10^pl) rfl (Nat.ne_of_gt (Nat.pow_pos (by decide))) (by rw [hps];exact e) (by rw [hps];rfl) (by omega) (by omega) (by omega) W,fun cq W e=>pmulQ h e hp.vq pv hR hc W⟩))) w
set_option maxHeartbeats 8000000
theorem qqG {a b x:Int} (h:x=cmpZ a b):(0<x↔b<a)∧(0≤x↔b≤a):=by
 unfold cmpZ at h
 split at h
 ·omega
 ·split at h<;>omega
theorem qwO {p w:Qn} {pl:Nat} {n:Int} (hp:Pc p) (h1:0≤n) (h2:n≤1000000000000000) (h3:pl≤6) (h:worthQ p pl n=some w):VQ w∧0≤dnQ w∧0≤ceilQ w:=by
 have hv:=(qdL hp h1 h2 h3 h).1
 have hn:=qqT (by have:=qmB hp pl;omega) (qsK hp h1 h2 h3 h) (Int.mul_nonneg h1 (by have:=qiR hp;omega))
 have hd:0≤w.1 / (w.2:Int):=Int.ediv_nonneg hn (Int.natCast_nonneg _)
 refine ⟨hv,hd,?_⟩
 unfold ceilQ;split<;>omega
theorem qmS {cp:List Value} {p:Qn} {pl g:Nat} {z am mode most r code:Int} (h:cp=ratZ p.1 p.2) (hp:Pc p) (hz:z=(pl:Int)) (h6:pl≤6) (a0:0≤am) (a1:am≤1000000000000000) (m0:0≤most) (m1:most≤1000000000000000)
  (hr:(manyQ p pl am=none∧r=0∧code=10)∨∃ q,manyQ p pl am=some q∧code=0∧(mode=3∧r=reachF q most∨mode=4∧r=reachC q most)) (w:World) (hg:g<w.heap.size) (hc:w.cell? ⟨g,133,none⟩=some (.int .i64 z)) :
  Calls Tryz.prog 88 #[.pointer (some ⟨g,0,none⟩),.agg cp.toArray,.int .i64 am,.int .i64 mode,.int .i64 most] w fun e w'=>e=.returned (.tuple #[.int .i64 r,.int .i64 code])∧Below w.heap.size w w':=by
 have V_cp:=hid (show cp=rat (decide (p.1<0)) p.1.natAbs false p.2 from h)
 have HG:=hid hg
 have HC:=hid hc
 obtain ⟨co,hco0⟩:∃ c,c=resR (worthQ p pl 1):=⟨_,rfl⟩
 obtain ⟨e1,he1⟩:∃ e,e=resE (worthQ p pl 1):=⟨_,rfl⟩
 obtain ⟨on,op,om,oq,hco⟩:∃ rn rp rm rq,co=rat rn rp rm rq:=by
  rw [hco0]
  cases worthQ p pl 1 with
  | none=>exact ⟨_,_,_,_,rfl⟩
  | some r=>exact ⟨_,_,_,_,rfl⟩
 have V_co:=hid hco
 obtain ⟨ca,V_ca⟩:∃ c:List Value,Hid (c=rat (decide (am<0)) am.natAbs false 1):=⟨_,hid rfl⟩
 have HW:=hid (qpH (cp:=cp) (cR:=co) (code:=e1) (k:=1) (z:=z) h hp hz h6 (by omega) (by omega) hco0 he1)
 have HAM:=hid (qoM (cr:=ca) (z:=am) V_ca.out (by omega) (by omega))
 -- what comes behind the worth of one unit
 have HN:=hid (show (e1=10∧r=0∧code=10)∨(e1=0∧∃ cq e2,(∃ n p m q,cq=rat n p m q)∧(∀ W,Calls Tryz.prog 122 #[.agg ca.toArray,.agg co.toArray] W fun e w'=>e=.returned (.tuple #[.agg cq.toArray,.int .i64 e2])∧Below W.heap.size W w') ∧
   ((e2=10∧r=0∧code=10)∨(e2=0∧code=0∧∃ q:Qn,cq=ratZ q.1 q.2∧VQ q∧0≤dnQ q∧0≤ceilQ q∧(mode=3∧r=reachF q most∨mode=4∧r=reachC q most)))) by
  rw [he1]
  cases hw:worthQ p pl 1 with
  | none =>
   have hM:manyQ p pl am=none:=by unfold manyQ;rw [hw]
   rcases hr with ⟨_,h1,h2⟩|⟨q,h1,_⟩
   ·exact .inl ⟨rfl,h1,h2⟩
   ·rw [hM] at h1;cases h1
  | some one =>
   have hPo:=qmA hp (by omega) (by omega) h6 hw
   have hMq:manyQ p pl am=quo2 (am,1) one:=by unfold manyQ;rw [hw];exact qxQ am one
   rw [hw] at hco0
   refine .inr ⟨rfl,resR (quo2 (am,1) one),resE (quo2 (am,1) one),?_,fun W=>pquoQ (a:=(am,1)) V_ca.out hco0 (qsJ (by omega)) hPo.vq hPo.pos rfl rfl W,?_⟩
   ·cases quo2 (am,1) one with
    | none=>exact ⟨_,_,_,_,rfl⟩
    | some r=>exact ⟨_,_,_,_,rfl⟩
   ·rcases hr with ⟨h0,h1,h2⟩|⟨q,h1,h2,h3⟩
    ·rw [hMq] at h0;rw [h0];exact .inl ⟨rfl,h1,h2⟩
    ·obtain ⟨qv,_⟩:=qhF hp h6 h1
     obtain ⟨_,q1,q2⟩:=qkC hp h6 a0 h1
     rw [hMq] at h1;rw [h1]
     exact .inr ⟨rfl,h2,q,rfl,qv,q1,q2,h3⟩)
 have HMM:=hid (And.intro m0 m1)
 clear h hp hz h6 a0 a1 m0 m1 hr hg hc he1 hco0 hco
 obtain ⟨B0,hB0⟩:∃ B,B=w.heap.size:=⟨_,rfl⟩
 obtain ⟨w0,hw0⟩:∃ w0,w0=(w.alloc (.cells cp.toArray 27)):=⟨_,rfl⟩
 have AB0:=hid (show At w0 B0 0 cp by rw [hw0];exact (show At (w.alloc (.cells cp.toArray 27)) B0 0 cp from At.fresh _ cp _ (by simp [hB0])))
 have FR:=hid (show Fr B0 w w0 by rw [hw0,hB0];exact (Fr.start w).alloc _)
 have FR0:=hid FR.out.le
 have hZB0:B0≤B0:=Nat.le_refl _
 have HB0:=hid hB0
 go_enter Tryz.func88,Tryz.ntmps88
 go_upto_region 1 with fail
 rw [←hw0,←hB0]
 clear hw0 hB0
 have HCB:=hid (show g<B0 by rw [HB0.out];exact HG.out)
 refine wfn [⟨true,9,12,10,0,0,27,28,co,0,co,[]⟩] [(22,.agg cp.toArray),(23,.pointer (some ⟨g,0,none⟩)),(24,.pointer (some ⟨g,0,none⟩)),(25,.pointer (some ⟨g,133,none⟩)),(26,.int .i64 z),(27,.tuple #[.agg co.toArray,.int .i64 e1]),(21,.tuple #[.agg co.toArray,.int .i64 e1]),(28,.agg co.toArray),(29,.int .i64 e1),(13,.int .i64 e1)] _ (by simp only [zz4,zz5,zq];rfl) (by kernel_rfl) (by kernel_rfl) rfl ?_ ?_ ?_ ?_
 ·intro W' hW'
  have rd0:=AB0.out.below hW'
  have zc:=qcU (qbM HC.out FR.out.below HCB.out) hW'
  refine fxo (wlg (by rfl) rfl rfl rd0 Tryz.underlying27 rfl (qR V_cp.out) (wqn (by simp only [zq]))) ?_
  iterate 3 (refine fxo ?_ ?_;(go_big_quiet_step (fail);(try simp only [zq]);exact wqn rfl))
  refine fxo (wcg (by rfl) rfl rfl (fun W h=>by simp [loadVar,h,go_sem]) zc (wqn (by simp only [zq]))) ?_
  refine fxo ?_ ?_;(go_big_quiet_step ((go_at_call 11;exact qaA (HW.out _)));(try simp only [zq]);exact wqn rfl)
  iterate 3 (refine fxo ?_ ?_;(go_big_quiet_step (fail);(try simp only [zq]);exact wqn rfl))
  iterate 2 (refine fxs (by rfl) ?_)
  refine fxo ?_ ?_;(go_big_quiet_step (fail);(try simp only [zq]);exact wqn rfl)
  exact fxn
 ·exact oP _ _ (Tryz.alR (qR V_co.out)) (oN)
 ·exact oP _ _ (stw rfl (qR V_co.out) (qfI V_co.out) (fun _=>rfl)) (oN)
 intro β wx1 E
 replace FR:=hid (FR.out.fnw E rfl)
 obtain ⟨b12,hb12⟩:∃ b,b=β 9:=⟨_,rfl⟩
 have eb12:=E.atNew mms rfl
 simp only at eb12
 rw [←hb12] at eb12
 have lB0_b12:B0<b12:=by have h1:=eb12.1;have h2:=AB0.out.lt;omega
 have hZb12:B0≤b12:=by have h1:=eb12.1;have h2:=FR0.out;omega
 replace AB0:=hid (AB0.out.fnw E rfl)
 have Ab12:=hid eb12.2
 simp only [nP,zr,zq]
 rw [←hb12]
 replace FR0:=hid FR.out.le
 clear E eb12 hb12
 rcases HN.out with ⟨rfl,rfl,rfl⟩|⟨rfl,cq,e2,⟨qn,qp,qm,qq,hcq⟩,hQ,hR⟩
 ·clear HN
  go_wp2
  go_ret2
  exact ⟨rfl,fend HB0 FR⟩
 ·have V_cq:=hid hcq
  have HQ:=hid hQ
  have HR:=hid hR
  clear HN hcq hQ hR
  go_upto_region 4 with fail
  refine wfn [⟨true,7,14,8,0,0,27,38,cq,0,cq,[]⟩] [(34,.int .i64 am),(35,.agg ca.toArray),(36,.agg co.toArray),(37,.tuple #[.agg cq.toArray,.int .i64 e2]),(33,.tuple #[.agg cq.toArray,.int .i64 e2]),(38,.agg cq.toArray),(39,.int .i64 e2),(13,.int .i64 e2)] _ (by simp only [zz4,zz5,zq];rfl) (by kernel_rfl) (by kernel_rfl) rfl ?_ ?_ ?_ ?_
  ·intro W' hW'
   have rd0:=Ab12.out.below hW'
   refine fxo ?_ ?_;(go_big_quiet_step (fail);(try simp only [zq]);exact wqn rfl)
   refine fxo ?_ ?_;(go_big_quiet_step ((go_at_call 123;exact qaA (HAM.out _)));(try simp only [zq]);exact wqn rfl)
   refine fxo (wlg (by rfl) rfl rfl rd0 Tryz.underlying27 rfl (qR V_co.out) (wqn (by simp only [zq]))) ?_
   refine fxo ?_ ?_;(go_big_quiet_step ((go_at_call 122;exact qaA (HQ.out _)));(try simp only [zq]);exact wqn rfl)
   iterate 3 (refine fxo ?_ ?_;(go_big_quiet_step (fail);(try simp only [zq]);exact wqn rfl))
   iterate 2 (refine fxs (by rfl) ?_)
   refine fxo ?_ ?_;(go_big_quiet_step (fail);(try simp only [zq]);exact wqn rfl)
   exact fxn
  ·exact oP _ _ (Tryz.alR (qR V_cq.out)) (oN)
  ·exact oP _ _ (stw rfl (qR V_cq.out) (qfI V_cq.out) (fun _=>rfl)) (oN)
  intro β wx2 E
  replace FR:=hid (FR.out.fnw E rfl)
  obtain ⟨b14,hb14⟩:∃ b,b=β 7:=⟨_,rfl⟩
  have eb14:=E.atNew mms rfl
  simp only at eb14
  rw [←hb14] at eb14
  have lB0_b14:B0<b14:=by have h1:=eb14.1;have h2:=AB0.out.lt;omega
  have lb12_b14:b12<b14:=by have h1:=eb14.1;have h2:=Ab12.out.lt;omega
  have hZb14:B0≤b14:=by have h1:=eb14.1;have h2:=FR0.out;omega
  replace AB0:=hid (AB0.out.fnw E rfl)
  replace Ab12:=hid (Ab12.out.fnw E rfl)
  have Ab14:=hid eb14.2
  simp only [nP,zr,zq]
  rw [←hb14]
  replace FR0:=hid FR.out.le
  clear E eb14 hb14
  rcases HR.out with ⟨rfl,rfl,rfl⟩|⟨rfl,rfl,q,hq,qv,q1,q2,hm⟩
  ·clear HR
   go_wp2
   go_ret2
   exact ⟨rfl,fend HB0 FR⟩
  ·obtain ⟨m0,m1⟩:=HMM.out
   obtain ⟨m2,hm2⟩:∃ x,x=most+1:=⟨_,rfl⟩
   have HMD:=hid hm
   obtain ⟨cm,V_cm⟩:∃ c:List Value,Hid (c=rat (decide (most<0)) most.natAbs false 1):=⟨_,hid rfl⟩
   obtain ⟨cn,V_cn⟩:∃ c:List Value,Hid (c=rat (decide (m2<0)) m2.natAbs false 1):=⟨_,hid rfl⟩
   have HM1:=hid (qoM (cr:=cm) (z:=most) V_cm.out (by omega) (by omega))
   have HM2:=hid (qoM (cr:=cn) (z:=m2) V_cn.out (by omega) (by omega))
   obtain ⟨x1,hx1⟩:∃ x,x=cmpZ (q.1*((1:Nat):Int)) (most*(q.2:Int)):=⟨_,rfl⟩
   obtain ⟨x2,hx2⟩:∃ x,x=cmpZ (q.1*((1:Nat):Int)) (m2*(q.2:Int)):=⟨_,rfl⟩
   have HC1:=hid (jdI (a:=q) (b:=(most,1)) hq V_cm.out qv (qsJ (by omega)) hx1)
   have HC2:=hid (jdI (a:=q) (b:=(m2,1)) hq V_cn.out qv (qsJ (by omega)) hx2)
   have y1:=(qqG hx1).1
   have y2:=(qqG hx2).2
   rw [Int.natCast_one,Int.mul_one] at y1 y2
   have s4:=qxO qv.pos most
   have s3:=qxP qv.pos most
   rw [←hm2,←y2] at s3 s4
   rw [←y1] at s4
   have HS:=hid (And.intro s3 s4)
   have wm:IntKind.i64.wrap (most+1)=m2:=by rw [hm2];exact IntWalk.i64_in _ (by omega)
   have HQQ:=hid (And.intro hq (And.intro qv (And.intro q1 q2)))
   clear HR hm hx1 hx2 y1 y2 s3 s4 hm2 hq qv q1 q2 m0 m1
   go_upto_region 7 with fail
   refine wfn [] [(44,.agg cq.toArray),(45,.int .i64 most),(46,.agg cm.toArray),(47,.tuple #[.int .i64 x1,.int .i64 0]),(43,.tuple #[.int .i64 x1,.int .i64 0]),(48,.int .i64 x1),(49,.int .i64 0),(15,.int .i64 x1),(16,.int .i64 0)] _ (by simp only [zz4,zz5,zq];rfl) (by kernel_rfl) (by kernel_rfl) rfl ?_ ?_ ?_ ?_
   ·intro W' hW'
    have rd0:=Ab14.out.below hW'
    refine fxo (wlg (by rfl) rfl rfl rd0 Tryz.underlying27 rfl (qR V_cq.out) (wqn (by simp only [zq]))) ?_
    refine fxo ?_ ?_;(go_big_quiet_step (fail);(try simp only [zq]);exact wqn rfl)
    refine fxo ?_ ?_;(go_big_quiet_step ((go_at_call 123;exact qaA (HM1.out _)));(try simp only [zq]);exact wqn rfl)
    refine fxo ?_ ?_;(go_big_quiet_step ((go_at_call 124;exact qaA (HC1.out _)));(try simp only [zq]);exact wqn rfl)
    iterate 5 (refine fxo ?_ ?_;(go_big_quiet_step (fail);(try simp only [zq]);exact wqn rfl))
    exact fxn
   ·exact oN
   ·exact oN
   intro β wx3 E
   replace FR:=hid (FR.out.fnw E rfl)
   replace AB0:=hid (AB0.out.fnw E rfl)
   replace Ab12:=hid (Ab12.out.fnw E rfl)
   replace Ab14:=hid (Ab14.out.fnw E rfl)
   have hE:=E.below rfl
   simp only [nP,zr,zq]
   replace FR0:=hid FR.out.le
   clear E
   rcases HMD.out with ⟨rfl,hr⟩|⟨rfl,hr⟩
   ·have HS3:=hid HS.out.1
    have HRR:=hid hr
    clear HMD HS hr
    by_cases c1:0<x1
    ·skip
     go_upto_region 10 with fail
     refine wfn [] [(59,.agg cq.toArray),(60,.int .i64 most),(61,.int .i64 m2),(62,.agg cn.toArray),(63,.tuple #[.int .i64 x2,.int .i64 0]),(58,.tuple #[.int .i64 x2,.int .i64 0]),(64,.int .i64 x2),(65,.int .i64 0),(17,.int .i64 x2),(18,.int .i64 0)] _ (by simp only [zz4,zz5,zq];rfl) (by kernel_rfl) (by kernel_rfl) rfl ?_ ?_ ?_ ?_
     ·intro W' hW'
      have rd0:=Ab14.out.below hW'
      refine fxo (wlg (by rfl) rfl rfl rd0 Tryz.underlying27 rfl (qR V_cq.out) (wqn (by simp only [zq]))) ?_
      iterate 2 (refine fxo ?_ ?_;(go_big_quiet_step (fail);(try simp only [zq]);exact wqn rfl))
      refine fxo ?_ ?_;(go_big_quiet_step ((go_at_call 123;exact qaA (HM2.out _)));(try simp only [zq]);exact wqn rfl)
      refine fxo ?_ ?_;(go_big_quiet_step ((go_at_call 124;exact qaA (HC2.out _)));(try simp only [zq]);exact wqn rfl)
      iterate 5 (refine fxo ?_ ?_;(go_big_quiet_step (fail);(try simp only [zq]);exact wqn rfl))
      exact fxn
     ·exact oN
     ·exact oN
     intro β wx4 E
     replace FR:=hid (FR.out.fnw E rfl)
     replace AB0:=hid (AB0.out.fnw E rfl)
     replace Ab12:=hid (Ab12.out.fnw E rfl)
     replace Ab14:=hid (Ab14.out.fnw E rfl)
     have hE:=E.below rfl
     simp only [nP,zr,zq]
     replace FR0:=hid FR.out.le
     clear E
     by_cases c2:0≤x2
     ·have HE:=hid (HRR.out.trans (HS3.out.1 c2))
      go_wp2
      go_ret2
      exact ⟨qeI HE.out.symm rfl,by rw [HB0.out] at FR;exact FR.out.below⟩
     ·skip
      obtain ⟨e1,e2⟩:=HS3.out.2 c2
      obtain ⟨hq,qv,q1,q2⟩:=HQQ.out
      have m1:=HMM.out.2
      obtain ⟨n,hn⟩:∃ n,n=q.1 / (q.2:Int):=⟨_,rfl⟩
      have hd:dnQ q=n:=hn.symm
      rw [hd] at e1 e2 q1
      have HNN:=hid (qgI (cr:=cq) (n:=n) hq qv hn (by omega) (by omega))
      have HE:=hid (HRR.out.trans e1)
      clear e1 e2 hq qv q1 q2 m1 hn hd
      go_upto_region 13 with fail
      refine wfn [] [(71,.agg cq.toArray),(72,.int .i64 3),(73,.tuple #[.int .i64 n,.int .i64 0]),(70,.tuple #[.int .i64 n,.int .i64 0]),(74,.int .i64 n),(75,.int .i64 0),(19,.int .i64 n),(20,.int .i64 0)] _ (by simp only [zz4,zz5,zq];rfl) (by kernel_rfl) (by kernel_rfl) rfl ?_ ?_ ?_ ?_
      ·intro W' hW'
       have rd0:=Ab14.out.below hW'
       refine fxo (wlg (by rfl) rfl rfl rd0 Tryz.underlying27 rfl (qR V_cq.out) (wqn (by simp only [zq]))) ?_
       refine fxo ?_ ?_;(go_big_quiet_step (fail);(try simp only [zq]);exact wqn rfl)
       refine fxo ?_ ?_;(go_big_quiet_step ((go_at_call 125;exact qaA (HNN.out _)));(try simp only [zq]);exact wqn rfl)
       iterate 5 (refine fxo ?_ ?_;(go_big_quiet_step (fail);(try simp only [zq]);exact wqn rfl))
       exact fxn
      ·exact oN
      ·exact oN
      intro β wx5 E
      replace FR:=hid (FR.out.fnw E rfl)
      replace AB0:=hid (AB0.out.fnw E rfl)
      replace Ab12:=hid (Ab12.out.fnw E rfl)
      replace Ab14:=hid (Ab14.out.fnw E rfl)
      have hE:=E.below rfl
      simp only [nP,zr,zq]
      replace FR0:=hid FR.out.le
      clear E
      go_wp2
      go_ret2
      exact ⟨qeI HE.out.symm rfl,by rw [HB0.out] at FR;exact FR.out.below⟩
    ·skip
     go_upto_region 10 with fail
     refine wfn [] [(59,.agg cq.toArray),(60,.int .i64 most),(61,.int .i64 m2),(62,.agg cn.toArray),(63,.tuple #[.int .i64 x2,.int .i64 0]),(58,.tuple #[.int .i64 x2,.int .i64 0]),(64,.int .i64 x2),(65,.int .i64 0),(17,.int .i64 x2),(18,.int .i64 0)] _ (by simp only [zz4,zz5,zq];rfl) (by kernel_rfl) (by kernel_rfl) rfl ?_ ?_ ?_ ?_
     ·intro W' hW'
      have rd0:=Ab14.out.below hW'
      refine fxo (wlg (by rfl) rfl rfl rd0 Tryz.underlying27 rfl (qR V_cq.out) (wqn (by simp only [zq]))) ?_
      iterate 2 (refine fxo ?_ ?_;(go_big_quiet_step (fail);(try simp only [zq]);exact wqn rfl))
      refine fxo ?_ ?_;(go_big_quiet_step ((go_at_call 123;exact qaA (HM2.out _)));(try simp only [zq]);exact wqn rfl)
      refine fxo ?_ ?_;(go_big_quiet_step ((go_at_call 124;exact qaA (HC2.out _)));(try simp only [zq]);exact wqn rfl)
      iterate 5 (refine fxo ?_ ?_;(go_big_quiet_step (fail);(try simp only [zq]);exact wqn rfl))
      exact fxn
     ·exact oN
     ·exact oN
     intro β wx4 E
     replace FR:=hid (FR.out.fnw E rfl)
     replace AB0:=hid (AB0.out.fnw E rfl)
     replace Ab12:=hid (Ab12.out.fnw E rfl)
     replace Ab14:=hid (Ab14.out.fnw E rfl)
     have hE:=E.below rfl
     simp only [nP,zr,zq]
     replace FR0:=hid FR.out.le
     clear E
     by_cases c2:0≤x2
     ·have HE:=hid (HRR.out.trans (HS3.out.1 c2))
      go_wp2
      go_ret2
      exact ⟨qeI HE.out.symm rfl,by rw [HB0.out] at FR;exact FR.out.below⟩
     ·skip
      obtain ⟨e1,e2⟩:=HS3.out.2 c2
      obtain ⟨hq,qv,q1,q2⟩:=HQQ.out
      have m1:=HMM.out.2
      obtain ⟨n,hn⟩:∃ n,n=q.1 / (q.2:Int):=⟨_,rfl⟩
      have hd:dnQ q=n:=hn.symm
      rw [hd] at e1 e2 q1
      have HNN:=hid (qgI (cr:=cq) (n:=n) hq qv hn (by omega) (by omega))
      have HE:=hid (HRR.out.trans e1)
      clear e1 e2 hq qv q1 q2 m1 hn hd
      go_upto_region 13 with fail
      refine wfn [] [(71,.agg cq.toArray),(72,.int .i64 3),(73,.tuple #[.int .i64 n,.int .i64 0]),(70,.tuple #[.int .i64 n,.int .i64 0]),(74,.int .i64 n),(75,.int .i64 0),(19,.int .i64 n),(20,.int .i64 0)] _ (by simp only [zz4,zz5,zq];rfl) (by kernel_rfl) (by kernel_rfl) rfl ?_ ?_ ?_ ?_
      ·intro W' hW'
       have rd0:=Ab14.out.below hW'
       refine fxo (wlg (by rfl) rfl rfl rd0 Tryz.underlying27 rfl (qR V_cq.out) (wqn (by simp only [zq]))) ?_
       refine fxo ?_ ?_;(go_big_quiet_step (fail);(try simp only [zq]);exact wqn rfl)
       refine fxo ?_ ?_;(go_big_quiet_step ((go_at_call 125;exact qaA (HNN.out _)));(try simp only [zq]);exact wqn rfl)
       iterate 5 (refine fxo ?_ ?_;(go_big_quiet_step (fail);(try simp only [zq]);exact wqn rfl))
       exact fxn
      ·exact oN
      ·exact oN
      intro β wx5 E
      replace FR:=hid (FR.out.fnw E rfl)
      replace AB0:=hid (AB0.out.fnw E rfl)
      replace Ab12:=hid (Ab12.out.fnw E rfl)
      replace Ab14:=hid (Ab14.out.fnw E rfl)
      have hE:=E.below rfl
      simp only [nP,zr,zq]
      replace FR0:=hid FR.out.le
      clear E
      go_wp2
      go_ret2
      exact ⟨qeI HE.out.symm rfl,by rw [HB0.out] at FR;exact FR.out.below⟩
   ·have HS4:=hid HS.out.2
    have HRR:=hid hr
    clear HMD HS hr
    by_cases c1:0<x1
    ·have HE:=hid (HRR.out.trans (HS4.out.1 c1))
     go_wp2
     go_ret2
     exact ⟨qeI HE.out.symm rfl,by rw [HB0.out] at FR;exact FR.out.below⟩
    ·obtain ⟨c2,e12⟩:=HS4.out.2 c1
     go_upto_region 10 with fail
     refine wfn [] [(59,.agg cq.toArray),(60,.int .i64 most),(61,.int .i64 m2),(62,.agg cn.toArray),(63,.tuple #[.int .i64 x2,.int .i64 0]),(58,.tuple #[.int .i64 x2,.int .i64 0]),(64,.int .i64 x2),(65,.int .i64 0),(17,.int .i64 x2),(18,.int .i64 0)] _ (by simp only [zz4,zz5,zq];rfl) (by kernel_rfl) (by kernel_rfl) rfl ?_ ?_ ?_ ?_
     ·intro W' hW'
      have rd0:=Ab14.out.below hW'
      refine fxo (wlg (by rfl) rfl rfl rd0 Tryz.underlying27 rfl (qR V_cq.out) (wqn (by simp only [zq]))) ?_
      iterate 2 (refine fxo ?_ ?_;(go_big_quiet_step (fail);(try simp only [zq]);exact wqn rfl))
      refine fxo ?_ ?_;(go_big_quiet_step ((go_at_call 123;exact qaA (HM2.out _)));(try simp only [zq]);exact wqn rfl)
      refine fxo ?_ ?_;(go_big_quiet_step ((go_at_call 124;exact qaA (HC2.out _)));(try simp only [zq]);exact wqn rfl)
      iterate 5 (refine fxo ?_ ?_;(go_big_quiet_step (fail);(try simp only [zq]);exact wqn rfl))
      exact fxn
     ·exact oN
     ·exact oN
     intro β wx4 E
     replace FR:=hid (FR.out.fnw E rfl)
     replace AB0:=hid (AB0.out.fnw E rfl)
     replace Ab12:=hid (Ab12.out.fnw E rfl)
     replace Ab14:=hid (Ab14.out.fnw E rfl)
     have hE:=E.below rfl
     simp only [nP,zr,zq]
     replace FR0:=hid FR.out.le
     clear E
     obtain ⟨e1,e2⟩:=e12
     obtain ⟨hq,qv,q1,q2⟩:=HQQ.out
     have m1:=HMM.out.2
     obtain ⟨n,hn⟩:∃ n,n=ceilQ q:=⟨_,rfl⟩
     rw [←hn] at e1 e2 q2
     have HNN:=hid (qmU (cr:=cq) (n:=n) hq qv hn (by omega) (by omega))
     have HE:=hid (HRR.out.trans e1)
     clear e1 e2 hq qv q1 q2 m1 hn
     go_upto_region 13 with fail
     refine wfn [] [(71,.agg cq.toArray),(72,.int .i64 4),(73,.tuple #[.int .i64 n,.int .i64 0]),(70,.tuple #[.int .i64 n,.int .i64 0]),(74,.int .i64 n),(75,.int .i64 0),(19,.int .i64 n),(20,.int .i64 0)] _ (by simp only [zz4,zz5,zq];rfl) (by kernel_rfl) (by kernel_rfl) rfl ?_ ?_ ?_ ?_
     ·intro W' hW'
      have rd0:=Ab14.out.below hW'
      refine fxo (wlg (by rfl) rfl rfl rd0 Tryz.underlying27 rfl (qR V_cq.out) (wqn (by simp only [zq]))) ?_
      refine fxo ?_ ?_;(go_big_quiet_step (fail);(try simp only [zq]);exact wqn rfl)
      refine fxo ?_ ?_;(go_big_quiet_step ((go_at_call 125;exact qaA (HNN.out _)));(try simp only [zq]);exact wqn rfl)
      iterate 5 (refine fxo ?_ ?_;(go_big_quiet_step (fail);(try simp only [zq]);exact wqn rfl))
      exact fxn
     ·exact oN
     ·exact oN
     intro β wx5 E
     replace FR:=hid (FR.out.fnw E rfl)
     replace AB0:=hid (AB0.out.fnw E rfl)
     replace Ab12:=hid (Ab12.out.fnw E rfl)
     replace Ab14:=hid (Ab14.out.fnw E rfl)
     have hE:=E.below rfl
     simp only [nP,zr,zq]
     replace FR0:=hid FR.out.le
     clear E
     go_wp2
     go_ret2
     exact ⟨qeI HE.out.symm rfl,by rw [HB0.out] at FR;exact FR.out.below⟩
def rndM (mode:Int) (q:Qn):Int:=if mode=3 then dnQ q else ceilQ q
theorem qmZ {cp:List Value} {p:Qn} {pl g:Nat} {z k mode r code:Int} (h:cp=ratZ p.1 p.2) (hp:Pc p) (hz:z=(pl:Int)) (h6:pl≤6) (k0:0≤k) (k1:k≤1000000000000000) (hm:mode=3∨mode=4)
  (hr:(moneyZ (worthQ p pl k) (rndM mode)=.ok r∧code=0)∨(moneyZ (worthQ p pl k) (rndM mode)=.error code∧r=0)) (w:World) (hg:g<w.heap.size) (hc:w.cell? ⟨g,133,none⟩=some (.int .i64 z)) :
  Calls Tryz.prog 89 #[.pointer (some ⟨g,0,none⟩),.agg cp.toArray,.int .i64 k,.int .i64 mode] w fun e w'=>e=.returned (.tuple #[.int .i64 r,.int .i64 code])∧Below w.heap.size w w':=by
 have V_cp:=hid (show cp=rat (decide (p.1<0)) p.1.natAbs false p.2 from h)
 have HG:=hid hg
 have HC:=hid hc
 obtain ⟨co,hco0⟩:∃ c,c=resR (worthQ p pl k):=⟨_,rfl⟩
 obtain ⟨e1,he1⟩:∃ e,e=resE (worthQ p pl k):=⟨_,rfl⟩
 obtain ⟨on,op,om,oq,hco⟩:∃ rn rp rm rq,co=rat rn rp rm rq:=by
  rw [hco0]
  cases worthQ p pl k with
  | none=>exact ⟨_,_,_,_,rfl⟩
  | some r=>exact ⟨_,_,_,_,rfl⟩
 have V_co:=hid hco
 have HW:=hid (qpH (cp:=cp) (cR:=co) (code:=e1) (k:=k) (z:=z) h hp hz h6 k0 k1 hco0 he1)
 have HN:=hid (show (e1=10∧r=0∧code=10)∨(e1=0∧∀ W,Calls Tryz.prog 125 #[.agg co.toArray,.int .i64 0,.int .i64 mode] W (fun e w'=>e=.returned (.tuple #[.int .i64 r,.int .i64 code])∧Below W.heap.size W w')) by
  rw [he1]
  cases hw:worthQ p pl k with
  | none =>
   rw [hw] at hr
   rcases hr with ⟨h1,_⟩|⟨h1,h2⟩
   ·simp [moneyZ] at h1
   ·simp [moneyZ] at h1;exact .inl ⟨rfl,h2,h1.symm⟩
  | some one =>
   obtain ⟨vo,nd,nc⟩:=qwO hp k0 k1 h6 hw
   refine .inr ⟨rfl,fun W=>?_⟩
   rw [hw] at hr hco0
   have hrc:(rndM mode one≤1000000000000000∧r=rndM mode one∧code=0)∨(1000000000000000<rndM mode one∧r=0∧code=33):=by
    unfold moneyZ mostZ at hr
    by_cases hf:rndM mode one≤1000000000000000
    ·simp only [if_pos hf] at hr
     rcases hr with ⟨h1,h2⟩|⟨h1,_⟩
     ·injection h1 with h1;exact .inl ⟨hf,h1.symm,h2⟩
     ·cases h1
    ·simp only [if_neg hf] at hr
     rcases hr with ⟨h1,_⟩|⟨h1,h2⟩
     ·cases h1
     ·injection h1 with h1;exact .inr ⟨by omega,h2,h1.symm⟩
   rcases hm with rfl|rfl
   ·have e3:rndM 3 one=dnQ one:=rfl
    rw [e3] at hrc
    rcases hrc with ⟨h1,rfl,rfl⟩|⟨h1,rfl,rfl⟩
    ·exact qgI hco0 vo rfl (by show _≤dnQ one;omega) h1 W
    ·exact qoO hco0 vo rfl h1 W
   ·have e3:rndM 4 one=ceilQ one:=rfl
    rw [e3] at hrc
    rcases hrc with ⟨h1,rfl,rfl⟩|⟨h1,rfl,rfl⟩
    ·exact qmU hco0 vo rfl (by omega) h1 W
    ·exact qrH hco0 vo rfl h1 W)
 clear h hp hz h6 k0 k1 hr hg hc he1 hco0 hco hm
 obtain ⟨B0,hB0⟩:∃ B,B=w.heap.size:=⟨_,rfl⟩
 obtain ⟨w0,hw0⟩:∃ w0,w0=(w.alloc (.cells cp.toArray 27)):=⟨_,rfl⟩
 have AB0:=hid (show At w0 B0 0 cp by rw [hw0];exact (show At (w.alloc (.cells cp.toArray 27)) B0 0 cp from At.fresh _ cp _ (by simp [hB0])))
 have FR:=hid (show Fr B0 w w0 by rw [hw0,hB0];exact (Fr.start w).alloc _)
 have FR0:=hid FR.out.le
 have hZB0:B0≤B0:=Nat.le_refl _
 have HB0:=hid hB0
 go_enter Tryz.func89,Tryz.ntmps89
 go_upto_region 1 with fail
 rw [←hw0,←hB0]
 clear hw0 hB0
 have HCB:=hid (show g<B0 by rw [HB0.out];exact HG.out)
 refine wfn [⟨true,10,10,11,0,0,27,20,co,0,co,[]⟩] [(13,.agg cp.toArray),(14,.pointer (some ⟨g,0,none⟩)),(15,.pointer (some ⟨g,0,none⟩)),(16,.pointer (some ⟨g,133,none⟩)),(17,.int .i64 z),(18,.int .i64 k),(19,.tuple #[.agg co.toArray,.int .i64 e1]),(12,.tuple #[.agg co.toArray,.int .i64 e1]),(20,.agg co.toArray),(21,.int .i64 e1),(11,.int .i64 e1)] _ (by simp only [zz4,zz5,zq];rfl) (by kernel_rfl) (by kernel_rfl) rfl ?_ ?_ ?_ ?_
 ·intro W' hW'
  have rd0:=AB0.out.below hW'
  have zc:=qcU (qbM HC.out FR.out.below HCB.out) hW'
  refine fxo (wlg (by rfl) rfl rfl rd0 Tryz.underlying27 rfl (qR V_cp.out) (wqn (by simp only [zq]))) ?_
  iterate 3 (refine fxo ?_ ?_;(go_big_quiet_step (fail);(try simp only [zq]);exact wqn rfl))
  refine fxo (wcg (by rfl) rfl rfl (fun W h=>by simp [loadVar,h,go_sem]) zc (wqn (by simp only [zq]))) ?_
  refine fxo ?_ ?_;(go_big_quiet_step (fail);(try simp only [zq]);exact wqn rfl)
  refine fxo ?_ ?_;(go_big_quiet_step ((go_at_call 11;exact qaA (HW.out _)));(try simp only [zq]);exact wqn rfl)
  iterate 3 (refine fxo ?_ ?_;(go_big_quiet_step (fail);(try simp only [zq]);exact wqn rfl))
  iterate 2 (refine fxs (by rfl) ?_)
  refine fxo ?_ ?_;(go_big_quiet_step (fail);(try simp only [zq]);exact wqn rfl)
  exact fxn
 ·exact oP _ _ (Tryz.alR (qR V_co.out)) (oN)
 ·exact oP _ _ (stw rfl (qR V_co.out) (qfI V_co.out) (fun _=>rfl)) (oN)
 intro β wx1 E
 replace FR:=hid (FR.out.fnw E rfl)
 obtain ⟨b10,hb10⟩:∃ b,b=β 10:=⟨_,rfl⟩
 have eb10:=E.atNew mms rfl
 simp only at eb10
 rw [←hb10] at eb10
 have lB0_b10:B0<b10:=by have h1:=eb10.1;have h2:=AB0.out.lt;omega
 have hZb10:B0≤b10:=by have h1:=eb10.1;have h2:=FR0.out;omega
 replace AB0:=hid (AB0.out.fnw E rfl)
 have Ab10:=hid eb10.2
 simp only [nP,zr,zq]
 rw [←hb10]
 replace FR0:=hid FR.out.le
 clear E eb10 hb10
 rcases HN.out with ⟨rfl,rfl,rfl⟩|⟨rfl,hN⟩
 ·clear HN
  go_wp2
  go_ret2
  exact ⟨rfl,fend HB0 FR⟩
 ·have HR:=hid hN
  clear HN hN
  go_upto_region 4 with fail
  refine wfn [] [(25,.agg co.toArray),(26,.int .i64 mode),(27,.tuple #[.int .i64 r,.int .i64 code]),(28,.int .i64 r),(29,.int .i64 code),(8,.int .i64 r),(9,.int .i64 code)] _ (by simp only [zz4,zz5,zq];rfl) (by kernel_rfl) (by kernel_rfl) rfl ?_ ?_ ?_ ?_
  ·intro W' hW'
   have rd0:=Ab10.out.below hW'
   refine fxo (wlg (by rfl) rfl rfl rd0 Tryz.underlying27 rfl (qR V_co.out) (wqn (by simp only [zq]))) ?_
   refine fxo ?_ ?_;(go_big_quiet_step (fail);(try simp only [zq]);exact wqn rfl)
   refine fxo ?_ ?_;(go_big_quiet_step ((go_at_call 125;exact qaA (HR.out _)));(try simp only [zq]);exact wqn rfl)
   iterate 4 (refine fxo ?_ ?_;(go_big_quiet_step (fail);(try simp only [zq]);exact wqn rfl))
   exact fxn
  ·exact oN
  ·exact oN
  intro β wx2 E
  replace FR:=hid (FR.out.fnw E rfl)
  replace AB0:=hid (AB0.out.fnw E rfl)
  replace Ab10:=hid (Ab10.out.fnw E rfl)
  have hE:=E.below rfl
  simp only [nP,zr,zq]
  replace FR0:=hid FR.out.le
  clear E
  go_wp2
  go_ret2
  exact ⟨rfl,fend HB0 FR⟩
end Go.Proofs.YtemoddmadfoaiaaGreat
