import Derived.Test.YtooeabibhjbkoaaGreatBkO
import Derived.Test.YtooeabibhjbkoaaGreatAlD
import Derived.Test.YtooeabibhjbkoaaGreatGaA
set_option linter.unusedVariables false
set_option linter.unusedSimpArgs false
set_option maxRecDepth 100000
set_option maxHeartbeats 8000000
namespace Go.Proofs.YtooeabibhjbkoaaGreat
open Go.RowKit Big
open Lib (hid)
theorem qiY {P:Program} {ops:Array Oper} {op:Oper} {a:Act} {w:World} {rest:List Oper} {Q:Exit→Act→World→Prop} (hgd:op.guard=none) (ty:TypeId) (xs:Array (Nat × Operand)) (ho:op.op=.build ty xs)
  (vs:List (Nat × Value)) (hx:xs.toList.map (fun p=>(p.1,a.eval p.2))=vs) (Z:Array Value) (hb:P.built ty vs=some Z) (h:wpList P ops Q rest (a.put op.dst (.agg Z)) w):wpList P ops Q (op::rest) a w:=by
 refine wpList_plain hgd fun K' hK'=>?_
 unfold Oper.wp execOp
 have hr:=run_build (P:=P) w ty vs.toArray Z (by simpa using hb)
 have hx2:xs.map (fun p=>(p.1,a.eval p.2))=vs.toArray:=by rw [←hx];apply Array.toList_inj.1;simp
 simp [ho,hx2,hr]
 exact hK' _ _ h
theorem qwN {q:Nat} (h:q≠0):true=cs1 true q:=by unfold cs1;simp [h]
theorem At.stored {w:World} {b:Nat} {cs ds:List Value} (h:At w b 0 cs) (hl:ds.length=cs.length):At (w.setCells b 0 ds) b 0 ds:=by
 have ht:w.there b 0 ds.length:=by rw [hl];exact h.there
 refine ⟨World.rangeAt_setCells_same w b 0 ds ht,?_,by rw [qbC];exact h.lt⟩
 intro j hj
 refine ⟨?_,?_⟩
 ·have:=World.rangeAt_setCells_same w b 0 ds ht j _ (List.getElem?_eq_getElem hj)
  rw [this];rfl
 ·exact (qcT _ ds 0 w).trans (ht j hj).2
theorem qwS (x:Int):Tryz.prog.built 123 [(0,.int .u32 x)]=some (.int .u32 x::List.replicate 31 (.int .u32 0)).toArray:=by kernel_rfl
theorem qqO {c:List Value} (hc:c=lv 32 1):Tryz.prog.built 123 [(0,.int .u32 1)]=some c.toArray:=by
 have e0:lim 1 0=1:=by unfold lim BB;decide
 have e1:lim 1 1=0:=by unfold lim BB;decide
 have h2:1<BB^2:=by unfold BB;decide
 rw [qwS,hc,qkY h2,e0,e1]
 rfl
theorem qpX {ca cb cq cr:List Value} {a b q r:Nat} (h1:ca=.bool true::lv 32 a) (h2:cb=.bool false::lv 32 b) (hq:cq=.bool true::lv 32 q) (hr:cr=.bool false::lv 32 r) (hqv:q=a / b+1) (hrv:r=b - a%b) (hx:a%b≠0) (ha:a<BB^31) (hb:b<BB^32) (h0:b≠0) (w:World) :
  Calls Tryz.prog 131 #[.agg ca.toArray,.agg cb.toArray] w fun e w'=>e=.returned (.tuple #[.agg cq.toArray,.agg cr.toArray,.int .i64 0])∧Below w.heap.size w w':=by
 have V_ca:=hid h1
 have V_cb:=hid h2
 have V_cq:=hid hq
 have V_cr:=hid hr
 have u31:BB^31<BB^32:=Nat.pow_lt_pow_right (by unfold BB;decide) (by decide)
 have hdle:=Nat.div_le_self a b
 have hmlt:=Nat.mod_lt a (Nat.pos_of_ne_zero h0)
 have hqB:q<BB^32:=by omega
 have hrB:r<BB^32:=by omega
 have ha0:a≠0:=by intro h;subst h;simp at hx
 obtain ⟨ma,V_ma⟩:∃ c:List Value,Hid (c=lv 32 a):=⟨_,hid rfl⟩
 obtain ⟨mb,V_mb⟩:∃ c:List Value,Hid (c=lv 32 b):=⟨_,hid rfl⟩
 obtain ⟨mq,V_mq⟩:∃ c:List Value,Hid (c=lv 32 (a / b)):=⟨_,hid rfl⟩
 obtain ⟨mr,V_mr⟩:∃ c:List Value,Hid (c=lv 32 (a%b)):=⟨_,hid rfl⟩
 obtain ⟨nq,V_nq⟩:∃ c:List Value,Hid (c=lv 32 q):=⟨_,hid rfl⟩
 obtain ⟨nr,V_nr⟩:∃ c:List Value,Hid (c=lv 32 r):=⟨_,hid rfl⟩
 obtain ⟨c1,V_c1⟩:∃ c:List Value,Hid (c=lv 32 1):=⟨_,hid rfl⟩
 obtain ⟨cz,V_cz⟩:∃ c:List Value,Hid (c=lv 32 0):=⟨_,hid rfl⟩
 obtain ⟨cy,V_cy⟩:∃ c:List Value,Hid (c=.bool false::lv 32 0):=⟨_,hid rfl⟩
 have HSA:=hid (qbD V_ca.out V_ma.out (show true=cs1 true a by simp [cs1,ha0]) (by omega))
 have HSB:=hid (qbD V_cb.out V_mb.out (show false=cs1 false b by simp [cs1]) hb)
 have HM1:=hid (qdZ (neg:=true) V_nq.out V_cq.out (show true=cs1 true q from qwN (by rw [hqv];exact Nat.succ_ne_zero _)) hqB)
 have HM2:=hid (qdZ (neg:=false) V_nr.out V_cr.out rfl hrB)
 have HQ:=hid (fun (W:World) (p q:Nat) (hp:At W p 0 ma) (hq:At W q 0 mb)=>qnF W hp hq V_ma.out V_mb.out V_mq.out V_mr.out (by omega) hb (Nat.pos_of_ne_zero h0))
 have HNZ:=hid (show true=!decide (a%b=0) by simp [hx])
 have HPL:=hid (fun (W:World) (p q':Nat) (hp:At W p 0 mq) (hq':At W q' 0 c1)=>qrZ (c2:=0) (v:=q) W hp hq' V_mq.out V_c1.out V_nq.out (by omega) (by omega) hqB (by rw [hqv];simp))
 have HMI:=hid (fun (W:World) (p q':Nat) (hp:At W p 0 mb) (hq':At W q' 0 mr)=>qjO (c2:=0) (v:=r) W hp hq' V_mb.out V_mr.out V_nr.out hb (by omega) hrB (by rw [hrv];simp;omega))
 have HB:=hid (And.intro hb (show a%b<BB^32 by omega))
 have HZ:=hid (show false=decide (b=0) by simp [h0])
 have HB1:=hid (qqO V_c1.out)
 clear h1 h2 hq hr hx ha hb h0 hqB hrB u31 hdle hmlt ha0 hqv hrv
 obtain ⟨B0,hB0⟩:∃ B,B=w.heap.size:=⟨_,rfl⟩
 obtain ⟨B1,hB1⟩:∃ B,B=w.heap.size+1:=⟨_,rfl⟩
 obtain ⟨B2,hB2⟩:∃ B,B=w.heap.size+1+1:=⟨_,rfl⟩
 obtain ⟨B3,hB3⟩:∃ B,B=w.heap.size+1+1+1:=⟨_,rfl⟩
 obtain ⟨w0,hw0⟩:∃ w0,w0=((((w.alloc (.cells ca.toArray 25)).alloc (.cells cb.toArray 25)).alloc (.cells zero33 25)).alloc (.cells zero33 25)):=⟨_,rfl⟩
 have AB0:=hid (show At w0 B0 0 ca by rw [hw0];exact ((((show At (w.alloc (.cells ca.toArray 25)) B0 0 ca from At.fresh _ ca _ (by simp [hB0])).alloc _).alloc _).alloc _))
 have AB1:=hid (show At w0 B1 0 cb by rw [hw0];exact (((show At ((w.alloc (.cells ca.toArray 25)).alloc (.cells cb.toArray 25)) B1 0 cb from At.fresh _ cb _ (by simp [hB1])).alloc _).alloc _))
 have AB2:=hid (show At w0 B2 0 cy by rw [hw0];exact ((show At (((w.alloc (.cells ca.toArray 25)).alloc (.cells cb.toArray 25)).alloc (.cells zero33 25)) B2 0 cy from (by rw [V_cy.out];exact At.zero _ _ (by simp [hB2]))).alloc _))
 have AB3:=hid (show At w0 B3 0 cy by rw [hw0];exact (show At ((((w.alloc (.cells ca.toArray 25)).alloc (.cells cb.toArray 25)).alloc (.cells zero33 25)).alloc (.cells zero33 25)) B3 0 cy from (by rw [V_cy.out];exact At.zero _ _ (by simp [hB3]))))
 have FR:=hid (show Fr B0 w w0 by rw [hw0,hB0];exact ((((Fr.start w).alloc _).alloc _).alloc _).alloc _)
 have FR0:=hid FR.out.le
 have l01:B0<B1:=by omega
 have hZB1:B0≤B1:=by omega
 have l12:B1<B2:=by omega
 have hZB2:B0≤B2:=by omega
 have l23:B2<B3:=by omega
 have hZB3:B0≤B3:=by omega
 have hZB0:B0≤B0:=Nat.le_refl _
 unfold zero33 at hw0
 have HB0:=hid hB0
 go_enter Tryz.func131,Tryz.ntmps131
 go_upto_region 1 with fail
 rw [←hw0,←hB3,←hB2,←hB1,←hB0]
 clear hw0 hB0 hB1 hB2 hB3
 refine wfn [⟨true,5,8,7,0,0,123,17,ma,0,ma,[]⟩] [(14,.agg ca.toArray),(15,.tuple #[.bool true,.agg ma.toArray]),(13,.tuple #[.bool true,.agg ma.toArray]),(16,.bool true),(17,.agg ma.toArray),(7,.bool true)] _ (by simp only [zz4,zz5,zq];rfl) (by kernel_rfl) (by kernel_rfl) rfl ?_ ?_ ?_ ?_
 ·intro W' hW'
  have rd0:=AB0.out.below hW'
  refine fxo (wlg (by rfl) rfl rfl rd0 Tryz.underlying25 rfl (qI V_ca.out) (wqn (by simp only [zq]))) ?_
  refine fxo ?_ ?_;(go_big_quiet_step ((go_at_call 99;exact qaA (HSA.out _)));(try simp only [zq]);exact wqn rfl)
  iterate 3 (refine fxo ?_ ?_;(go_big_quiet_step (fail);(try simp only [zq]);exact wqn rfl))
  refine fxs (by rfl) ?_
  refine fxo ?_ ?_;(go_big_quiet_step (fail);(try simp only [zq]);exact wqn rfl)
  refine fxs (by rfl) ?_
  exact fxn
 ·exact oP _ _ (Tryz.alG (qG V_ma.out)) (oN)
 ·exact oP _ _ (stw rfl (qG V_ma.out) (qdK V_ma.out) (fun _=>rfl)) (oN)
 intro β wx1 E
 replace FR:=hid (FR.out.fnw E rfl)
 obtain ⟨b8,hb8⟩:∃ b,b=β 5:=⟨_,rfl⟩
 have eb8:=E.atNew mms rfl
 simp only at eb8
 rw [←hb8] at eb8
 have lB0_b8:B0<b8:=by have h1:=eb8.1;have h2:=AB0.out.lt;omega
 have lB1_b8:B1<b8:=by have h1:=eb8.1;have h2:=AB1.out.lt;omega
 have lB2_b8:B2<b8:=by have h1:=eb8.1;have h2:=AB2.out.lt;omega
 have lB3_b8:B3<b8:=by have h1:=eb8.1;have h2:=AB3.out.lt;omega
 have hZb8:B0≤b8:=by have h1:=eb8.1;have h2:=FR0.out;omega
 clear AB0
 replace AB1:=hid (AB1.out.fnw E rfl)
 replace AB2:=hid (AB2.out.fnw E rfl)
 replace AB3:=hid (AB3.out.fnw E rfl)
 have Ab8:=hid eb8.2
 simp only [nP,zr,zq]
 rw [←hb8]
 replace FR0:=hid FR.out.le
 clear E eb8 hb8
 go_upto_region 2 with fail
 refine wfn [⟨true,5,10,7,0,0,123,22,mb,0,mb,[]⟩] [(19,.agg cb.toArray),(20,.tuple #[.bool false,.agg mb.toArray]),(18,.tuple #[.bool false,.agg mb.toArray]),(21,.bool false),(22,.agg mb.toArray),(9,.bool false)] _ (by simp only [zz4,zz5,zq];rfl) (by kernel_rfl) (by kernel_rfl) rfl ?_ ?_ ?_ ?_
 ·intro W' hW'
  have rd0:=AB1.out.below hW'
  refine fxo (wlg (by rfl) rfl rfl rd0 Tryz.underlying25 rfl (qI V_cb.out) (wqn (by simp only [zq]))) ?_
  refine fxo ?_ ?_;(go_big_quiet_step ((go_at_call 99;exact qaA (HSB.out _)));(try simp only [zq]);exact wqn rfl)
  iterate 3 (refine fxo ?_ ?_;(go_big_quiet_step (fail);(try simp only [zq]);exact wqn rfl))
  refine fxs (by rfl) ?_
  refine fxo ?_ ?_;(go_big_quiet_step (fail);(try simp only [zq]);exact wqn rfl)
  refine fxs (by rfl) ?_
  exact fxn
 ·exact oP _ _ (Tryz.alG (qG V_mb.out)) (oN)
 ·exact oP _ _ (stw rfl (qG V_mb.out) (qdK V_mb.out) (fun _=>rfl)) (oN)
 intro β wx2 E
 replace FR:=hid (FR.out.fnw E rfl)
 obtain ⟨b10,hb10⟩:∃ b,b=β 5:=⟨_,rfl⟩
 have eb10:=E.atNew mms rfl
 simp only at eb10
 rw [←hb10] at eb10
 have lB1_b10:B1<b10:=by have h1:=eb10.1;have h2:=AB1.out.lt;omega
 have lB2_b10:B2<b10:=by have h1:=eb10.1;have h2:=AB2.out.lt;omega
 have lB3_b10:B3<b10:=by have h1:=eb10.1;have h2:=AB3.out.lt;omega
 have lb8_b10:b8<b10:=by have h1:=eb10.1;have h2:=Ab8.out.lt;omega
 have hZb10:B0≤b10:=by have h1:=eb10.1;have h2:=FR0.out;omega
 clear AB1
 replace AB2:=hid (AB2.out.fnw E rfl)
 replace AB3:=hid (AB3.out.fnw E rfl)
 replace Ab8:=hid (Ab8.out.fnw E rfl)
 have Ab10:=hid eb10.2
 simp only [nP,zr,zq]
 rw [←hb10]
 replace FR0:=hid FR.out.le
 clear E eb10 hb10
 go_upto_region 3 with fail
 refine wfn [] [(23,.agg mb.toArray),(24,.agg cz.toArray),(25,.bool false)] _ (by simp only [zz4,zz5,zq];rfl) (by kernel_rfl) (by kernel_rfl) rfl ?_ ?_ ?_ ?_
 ·intro W' hW'
  have rd0:=Ab10.out.below hW'
  refine fxo (wlg (by rfl) rfl rfl rd0 Tryz.underlying123 rfl (qG V_mb.out) (wqn (by simp only [zq]))) ?_
  refine fxo (wqB rfl _ _ rfl _ rfl _ (qbI V_cz.out) (wqn (by simp only [zq]))) ?_
  refine fxo (qcS (r:=false) (by rfl) rfl rfl rfl V_mb.out V_cz.out HB.out.1 qbQ HZ.out (wqn (by simp only [zq]))) ?_
  exact fxn
 ·exact oN
 ·exact oN
 intro β wx3 E
 replace FR:=hid (FR.out.fnw E rfl)
 replace AB2:=hid (AB2.out.fnw E rfl)
 replace AB3:=hid (AB3.out.fnw E rfl)
 replace Ab8:=hid (Ab8.out.fnw E rfl)
 replace Ab10:=hid (Ab10.out.fnw E rfl)
 have hE:=E.below rfl
 simp only [nP,zr,zq]
 replace FR0:=hid FR.out.le
 clear E
 go_upto_region 5 with fail
 refine wfn [⟨true,4,11,6,0,0,123,30,mq,0,mq,[]⟩,⟨true,5,12,7,0,0,123,31,mr,0,mr,[]⟩] [(29,.tuple #[.agg mq.toArray,.agg mr.toArray]),(28,.tuple #[.agg mq.toArray,.agg mr.toArray]),(30,.agg mq.toArray),(31,.agg mr.toArray)] _ (by simp only [zz4,zz5,zq];rfl) (by kernel_rfl) (by kernel_rfl) rfl ?_ ?_ ?_ ?_
 ·intro W' hW'
  refine fxo ?_ ?_;(go_big_quiet_step ((go_at_call 149;exact qaA (HQ.out _ _ _ ((Ab8.out.below hW').below (qbG _ _ _)) ((Ab10.out.below hW').below (qbG _ _ _)))));(try simp only [zq]);exact wqn rfl)
  iterate 3 (refine fxo ?_ ?_;(go_big_quiet_step (fail);(try simp only [zq]);exact wqn rfl))
  iterate 4 (refine fxs (by rfl) ?_)
  exact fxn
 ·exact oP _ _ (Tryz.alG (qG V_mq.out)) (oP _ _ (Tryz.alG (qG V_mr.out)) (oN))
 ·exact oP _ _ (stw rfl (qG V_mq.out) (qdK V_mq.out) (fun _=>rfl)) (oP _ _ (stw rfl (qG V_mr.out) (qdK V_mr.out) (fun _=>rfl)) (oN))
 intro β wx4 E
 replace FR:=hid (FR.out.fnw E rfl)
 obtain ⟨b11,hb11⟩:∃ b,b=β 4:=⟨_,rfl⟩
 have eb11:=E.atNew mms rfl
 simp only at eb11
 rw [←hb11] at eb11
 have lB2_b11:B2<b11:=by have h1:=eb11.1;have h2:=AB2.out.lt;omega
 have lB3_b11:B3<b11:=by have h1:=eb11.1;have h2:=AB3.out.lt;omega
 have lb8_b11:b8<b11:=by have h1:=eb11.1;have h2:=Ab8.out.lt;omega
 have lb10_b11:b10<b11:=by have h1:=eb11.1;have h2:=Ab10.out.lt;omega
 have hZb11:B0≤b11:=by have h1:=eb11.1;have h2:=FR0.out;omega
 obtain ⟨b12,hb12⟩:∃ b,b=β 5:=⟨_,rfl⟩
 have eb12:=E.atNew (List.mem_cons_of_mem _ mms) rfl
 simp only at eb12
 rw [←hb12] at eb12
 have lB2_b12:B2<b12:=by have h1:=eb12.1;have h2:=AB2.out.lt;omega
 have lB3_b12:B3<b12:=by have h1:=eb12.1;have h2:=AB3.out.lt;omega
 have lb8_b12:b8<b12:=by have h1:=eb12.1;have h2:=Ab8.out.lt;omega
 have lb10_b12:b10<b12:=by have h1:=eb12.1;have h2:=Ab10.out.lt;omega
 have hZb12:B0≤b12:=by have h1:=eb12.1;have h2:=FR0.out;omega
 have nb11_b12:b11≠b12:=fun e=>absurd (E.apart _ mms _ (List.mem_cons_of_mem _ mms) rfl rfl (by rw [hb11,hb12] at e;exact e)) (show ¬(4:Nat)=5 by decide)
 replace AB2:=hid (AB2.out.fnw E rfl)
 replace AB3:=hid (AB3.out.fnw E rfl)
 replace Ab8:=hid (Ab8.out.fnw E rfl)
 replace Ab10:=hid (Ab10.out.fnw E rfl)
 have Ab11:=hid eb11.2
 have Ab12:=hid eb12.2
 simp only [nP,zr,zq]
 rw [←hb11]
 rw [←hb12]
 replace FR0:=hid FR.out.le
 clear E eb11 hb11 eb12 hb12
 go_upto_region 6 with fail
 refine wfn [] [(32,.bool true),(33,.bool true),(34,.agg mr.toArray),(35,.agg cz.toArray),(36,.bool true),(37,.bool true)] _ (by simp only [zz4,zz5,zq];rfl) (by kernel_rfl) (by kernel_rfl) rfl ?_ ?_ ?_ ?_
 ·intro W' hW'
  have rd0:=Ab12.out.below hW'
  iterate 2 (refine fxo ?_ ?_;(go_big_quiet_step (fail);(try simp only [zq]);exact wqn rfl))
  refine fxo (wlg (by rfl) rfl rfl rd0 Tryz.underlying123 rfl (qG V_mr.out) (wqn (by simp only [zq]))) ?_
  refine fxo (qbE (by rfl) _ _ rfl _ rfl _ (qbI V_cz.out) (wqn (by simp only [zq]))) ?_
  refine fxo (qbO (r:=true) (by rfl) rfl rfl rfl V_mr.out V_cz.out HB.out.2 qbQ HNZ.out (wqn (by simp only [zq]))) ?_
  refine fxo ?_ ?_;(go_big_quiet_step (fail);(try simp only [zq]);exact wqn rfl)
  exact fxn
 ·exact oN
 ·exact oN
 intro β wx5 E
 replace FR:=hid (FR.out.fnw E rfl)
 replace AB2:=hid (AB2.out.fnw E rfl)
 replace AB3:=hid (AB3.out.fnw E rfl)
 replace Ab8:=hid (Ab8.out.fnw E rfl)
 replace Ab10:=hid (Ab10.out.fnw E rfl)
 replace Ab11:=hid (Ab11.out.fnw E rfl)
 replace Ab12:=hid (Ab12.out.fnw E rfl)
 have hE:=E.below rfl
 simp only [nP,zr,zq]
 replace FR0:=hid FR.out.le
 clear E
 obtain ⟨wa,hwa⟩:∃ wa,wa=wx5.alloc (.cells c1.toArray 123):=⟨_,rfl⟩
 obtain ⟨b40,hb40⟩:∃ b,b=wx5.heap.size:=⟨_,rfl⟩
 have A40:=hid (show At wa b40 0 c1 by rw [hwa];exact At.fresh _ c1 _ hb40)
 have A11:=hid (show At wa b11 0 mq by rw [hwa];exact Ab11.out.alloc _)
 have FA:=hid (show Fr B0 w wa by rw [hwa];exact FR.out.alloc _)
 have HTA:=hid (show Below wx5.heap.size wx5 wa by rw [hwa];exact (Below.refl _ _).alloc (Nat.le_refl _) _)
 have HL11:=hid (show nq.length=mq.length by rw [V_nq.out,V_mq.out,qlL,qlL])
 have HT11:=hid (fun (W:World) (h:At W b11 0 mq)=>show W.there b11 0 nq.toArray.size by have:=h.there;rw [List.size_toArray,HL11.out];exact this)
 have HS11:=hid (show (Tryz.prog.info? 123).map (·.size)=some nq.toArray.size by rw [List.size_toArray];exact qG V_nq.out)
 have HO11:=hid (qdK V_nq.out)
 have HWA:=hid hwa
 have H40:=hid hb40
 clear hwa hb40
 go_upto_region 7 with fail
 go_upto_region 8 with (first|(refine qiY rfl 123 _ rfl [(0,.int .u32 1)] rfl c1.toArray HB1.out ?_)|(go_at_call 133;rw [←H40.out,←HWA.out];refine (HPL.out _ _ _ A11.out A40.out).mono ?_;rintro e w7 ⟨rfl,hb7⟩;have HT7:=hid (HT11.out w7 (A11.out.below hb7));have HB7:=hid hb7;clear hb7)|(refine wpList_store_mid rfl _ _ _ rfl b11 0 _ rfl rfl HT7.out HS11.out HO11.out ?_))
 try simp only [zq]
 try simp only [List.toList_toArray]
 obtain ⟨w8,hw8⟩:∃ w8,w8=w7.setCells b11 0 nq:=⟨_,rfl⟩
 rw [←hw8]
 replace AB2:=hid (show At w8 B2 0 cy by rw [hw8];exact ((AB2.out.below HTA.out).below HB7.out).sets (by omega) _ _)
 replace AB3:=hid (show At w8 B3 0 cy by rw [hw8];exact ((AB3.out.below HTA.out).below HB7.out).sets (by omega) _ _)
 replace Ab8:=hid (show At w8 b8 0 ma by rw [hw8];exact ((Ab8.out.below HTA.out).below HB7.out).sets (by omega) _ _)
 replace Ab10:=hid (show At w8 b10 0 mb by rw [hw8];exact ((Ab10.out.below HTA.out).below HB7.out).sets (by omega) _ _)
 replace Ab12:=hid (show At w8 b12 0 mr by rw [hw8];exact ((Ab12.out.below HTA.out).below HB7.out).sets (by omega) _ _)
 replace Ab11:=hid (show At w8 b11 0 nq by rw [hw8];exact (A11.out.below HB7.out).stored HL11.out)
 replace FR:=hid (show Fr B0 w w8 by rw [hw8];exact ⟨qaB (by omega) nq 0 w7 (FA.out.step HB7.out).below,by rw [qbC];exact (FA.out.step HB7.out).le⟩)
 replace FR0:=hid FR.out.le
 clear hw8 HWA H40 A40 A11 FA HTA HT11 HS11 HO11 HL11 HT7 HB7
 refine qwf [⟨false,0,12,1,b12,0,123,44,nr,0,nr,[]⟩] [(44,.agg nr.toArray)] _ (by simp only [zz4,zz5,zq];rfl) (by kernel_rfl) (by kernel_rfl) ?_ ?_ ?_ ?_ ?_ ?_ ?_
 ·intro W' hW'
  refine fxo ?_ ?_;(go_big_quiet_step ((go_at_call 132;exact qaA (HMI.out _ _ _ ((Ab10.out.below hW').below (qbG _ _ _)) ((Ab12.out.below hW').below (qbG _ _ _)))));(try simp only [zq]);exact wqn rfl)
  refine fxs (by rfl) ?_
  exact fxn
 ·intro W' hK'
  iterate 2 (refine fxs (by kernel_rfl) ?_)
  exact fxn
 ·exact oP _ _ (bnc) (oN)
 ·exact oP _ _ (fun _=>⟨Ab12.out.lt,rfl,At.room Ab12.out (qG V_mr.out) (qG V_nr.out)⟩) (oN)
 ·exact uno
 ·exact oP _ _ (stw rfl (qG V_nr.out) (qdK V_nr.out) (fun _=>rfl)) (oN)
 intro β wx6 E
 replace FR:=hid (FR.out.flow E (oP _ _ (fun _=>(by show B0≤b12;omega)) (oN)))
 replace AB2:=hid (At.flow E AB2.out (oP _ _ (fun _=>(by show b12≠B2;omega)) (oN)))
 replace AB3:=hid (At.flow E AB3.out (oP _ _ (fun _=>(by show b12≠B3;omega)) (oN)))
 replace Ab8:=hid (At.flow E Ab8.out (oP _ _ (fun _=>(by show b12≠b8;omega)) (oN)))
 replace Ab10:=hid (At.flow E Ab10.out (oP _ _ (fun _=>(by show b12≠b10;omega)) (oN)))
 replace Ab11:=hid (At.flow E Ab11.out (oP _ _ (fun _=>(by show b12≠b11;omega)) (oN)))
 replace Ab12:=hid (show At wx6 b12 0 nr from E.atOld mms rfl Ab12.out.lt)
 simp only [nP,zr,zq]
 replace FR0:=hid FR.out.le
 clear E
 go_upto_region 9 with fail
 refine qwf [⟨false,0,4,7,B2,0,25,49,cq,0,cq,[]⟩,⟨false,0,5,8,B3,0,25,51,cr,0,cr,[]⟩] [(45,.bool true),(46,.bool false),(47,.bool true),(48,.agg nq.toArray),(49,.agg cq.toArray),(50,.agg nr.toArray),(51,.agg cr.toArray),(6,.int .i64 0)] _ (by simp only [zz4,zz5,zq];rfl) (by kernel_rfl) (by kernel_rfl) ?_ ?_ ?_ ?_ ?_ ?_ ?_
 ·intro W' hW'
  have rd0:=Ab11.out.below hW'
  have rd1:=Ab12.out.below hW'
  iterate 3 (refine fxo ?_ ?_;(go_big_quiet_step (fail);(try simp only [zq]);exact wqn rfl))
  refine fxo (wlg (by rfl) rfl rfl rd0 Tryz.underlying123 rfl (qG V_nq.out) (wqn (by simp only [zq]))) ?_
  refine fxo ?_ ?_;(go_big_quiet_step ((go_at_call 94;exact qaA (HM1.out _)));(try simp only [zq]);exact wqn rfl)
  refine fxo (wlg (by rfl) rfl rfl rd1 Tryz.underlying123 rfl (qG V_nr.out) (wqn (by simp only [zq]))) ?_
  refine fxo ?_ ?_;(go_big_quiet_step ((go_at_call 94;exact qaA (HM2.out _)));(try simp only [zq]);exact wqn rfl)
  iterate 2 (refine fxs (by rfl) ?_)
  refine fxo ?_ ?_;(go_big_quiet_step (fail);(try simp only [zq]);exact wqn rfl)
  exact fxn
 ·intro W' hK'
  have rd0:=At.keep hK' Ab11.out (oP _ _ (fun _=>(by show B2≠b11;omega)) (oP _ _ (fun _=>(by show B3≠b11;omega)) (oN)))
  have rd1:=At.keep hK' Ab12.out (oP _ _ (fun _=>(by show B2≠b12;omega)) (oP _ _ (fun _=>(by show B3≠b12;omega)) (oN)))
  iterate 3 (first|(refine fxo ?_ ?_;(go_big_quiet_step (fail);(try simp only [zq]);exact wqn rfl))|(refine fxs (by kernel_rfl) ?_))
  refine fxo (wlg (by rfl) rfl rfl rd0 Tryz.underlying123 rfl (qG V_nq.out) (wqn (by simp only [zq]))) ?_
  refine fxs (by kernel_rfl) ?_
  refine fxo (wlg (by rfl) rfl rfl rd1 Tryz.underlying123 rfl (qG V_nr.out) (wqn (by simp only [zq]))) ?_
  iterate 3 (refine fxs (by kernel_rfl) ?_)
  first|(refine fxo ?_ ?_;(go_big_quiet_step (fail);(try simp only [zq]);exact wqn rfl))|(refine fxs (by kernel_rfl) ?_)
  exact fxn
 ·exact oP _ _ (bnc) (oP _ _ (bnc) (oN))
 ·exact oP _ _ (fun _=>⟨AB2.out.lt,rfl,At.room AB2.out (qI V_cy.out) (qI V_cq.out)⟩) (oP _ _ (fun _=>⟨AB3.out.lt,rfl,At.room AB3.out (qI V_cy.out) (qI V_cr.out)⟩) (oN))
 ·intro q hq r hr hqn hrn e
  simp only [List.mem_cons,List.not_mem_nil,or_false] at hq hr
  rcases hq with rfl|rfl<;>rcases hr with rfl|rfl<;>first|rfl|(exact Bool.noConfusion hqn)|(exact Bool.noConfusion hrn)|(exfalso;simp only at e;omega)
 ·exact oP _ _ (stw rfl (qI V_cq.out) (qbL V_cq.out) (fun _=>rfl)) (oP _ _ (stw rfl (qI V_cr.out) (qbL V_cr.out) (fun _=>rfl)) (oN))
 intro β wx7 E
 replace FR:=hid (FR.out.flow E (oP _ _ (fun _=>(by show B0≤B2;omega)) (oP _ _ (fun _=>(by show B0≤B3;omega)) (oN))))
 replace AB2:=hid (show At wx7 B2 0 cq from E.atOld mms rfl AB2.out.lt)
 replace AB3:=hid (show At wx7 B3 0 cr from E.atOld (List.mem_cons_of_mem _ mms) rfl AB3.out.lt)
 replace Ab8:=hid (At.flow E Ab8.out (oP _ _ (fun _=>(by show B2≠b8;omega)) (oP _ _ (fun _=>(by show B3≠b8;omega)) (oN))))
 replace Ab10:=hid (At.flow E Ab10.out (oP _ _ (fun _=>(by show B2≠b10;omega)) (oP _ _ (fun _=>(by show B3≠b10;omega)) (oN))))
 replace Ab11:=hid (At.flow E Ab11.out (oP _ _ (fun _=>(by show B2≠b11;omega)) (oP _ _ (fun _=>(by show B3≠b11;omega)) (oN))))
 replace Ab12:=hid (At.flow E Ab12.out (oP _ _ (fun _=>(by show B2≠b12;omega)) (oP _ _ (fun _=>(by show B3≠b12;omega)) (oN))))
 simp only [nP,zr,zq]
 replace FR0:=hid FR.out.le
 clear E
 go_wp2_with fail
 have hld0:=AB2.out.read (P:=Tryz.prog) Tryz.underlying25 rfl (qI V_cq.out)
 have hld1:=AB3.out.read (P:=Tryz.prog) Tryz.underlying25 rfl (qI V_cr.out)
 refine bodyPost_ret (v:=.tuple #[.agg cq.toArray,.agg cr.toArray,.int .i64 0]) (by simp [results,Tryz.results131,asAddr,hld0,hld1]) rfl ?_
 exact ⟨rfl,fend HB0 FR⟩
set_option maxHeartbeats 8000000
theorem qyM {ca:List Value} {z:Int} (h:ca=iZ z) (h1:-9223372036854775808<z) (h2:z<9223372036854775808) (w:World) :
  Calls Tryz.prog 62 #[.agg ca.toArray] w fun e w'=>e=.returned (.tuple #[.int .i64 z,.bool true])∧Below w.heap.size w w':=by
 have V_ca:=hid (show ca=.bool (decide (z<0))::lv 32 z.natAbs from h)
 obtain ⟨v,hv⟩:∃ v,v=z.natAbs:=⟨_,rfl⟩
 obtain ⟨n,hn⟩:∃ n,n=decide (z<0):=⟨_,rfl⟩
 rw [←hv,←hn] at V_ca
 have hvb:v<9223372036854775808:=by omega
 have hv2:v<BB^2:=qfO (by omega)
 have hv32:v<BB^32:=Nat.lt_of_lt_of_le hv2 (Nat.pow_le_pow_right qaN (by omega))
 obtain ⟨k,hk⟩:=qaE v
 have hk64:k≤64:=qrD (k:=64) hk (by omega)
 have hl:=qdH hv2
 have l0:=qaC v 0
 have l1:=qaC v 1
 obtain ⟨cm,V_cm⟩:∃ c:List Value,Hid (c=lv 32 v):=⟨_,hid rfl⟩
 have HS:=hid (qbD V_ca.out V_cm.out (show n=cs1 n v by rw [hn,hv,qwM]) hv32)
 have HV:=hid (And.intro hv32 hk)
 obtain ⟨x,hx⟩:∃ x,x=lim v 0:=⟨_,rfl⟩
 obtain ⟨y,hy⟩:∃ y,y=lim v 1:=⟨_,rfl⟩
 have HXY:=hid (And.intro hx hy)
 rw [←hx,←hy] at hl
 rw [←hx] at l0
 rw [←hy] at l1
 have hor:=qxD l0 l1 hl
 have wx:IntKind.u64.wrap (x:Int)=(x:Int):=by unfold BB at l0;rw [IntKind.wrap_u64];omega
 have wy:IntKind.u64.wrap (y:Int)=(y:Int):=by unfold BB at l1;rw [IntKind.wrap_u64];omega
 have HE1:=hid (show n=true→z=-(v:Int) by intro h;rw [hn] at h;have:=of_decide_eq_true h;omega)
 have HE2:=hid (show n=false→z=(v:Int) by intro h;rw [hn] at h;have:=of_decide_eq_false h;omega)
 have hkI:¬(64:Int)<(k:Int):=by omega
 clear h hv hn hv2 hv32 hk hk64 hl l0 l1 hx hy h1 h2
 obtain ⟨B0,hB0⟩:∃ B,B=w.heap.size:=⟨_,rfl⟩
 obtain ⟨w0,hw0⟩:∃ w0,w0=(w.alloc (.cells ca.toArray 25)):=⟨_,rfl⟩
 have AB0:=hid (show At w0 B0 0 ca by rw [hw0];exact (show At (w.alloc (.cells ca.toArray 25)) B0 0 ca from At.fresh _ ca _ (by simp [hB0])))
 have FR:=hid (show Fr B0 w w0 by rw [hw0,hB0];exact (Fr.start w).alloc _)
 have FR0:=hid FR.out.le
 have hZB0:B0≤B0:=Nat.le_refl _
 have HB0:=hid hB0
 go_enter Tryz.func62,Tryz.ntmps62
 go_upto_region 1 with fail
 rw [←hw0,←hB0]
 clear hw0 hB0
 refine wfn [⟨true,5,5,7,0,0,123,11,cm,0,cm,[]⟩] [(8,.agg ca.toArray),(9,.tuple #[.bool n,.agg cm.toArray]),(7,.tuple #[.bool n,.agg cm.toArray]),(10,.bool n),(11,.agg cm.toArray),(4,.bool n)] _ (by simp only [zz4,zz5,zq];rfl) (by kernel_rfl) (by kernel_rfl) rfl ?_ ?_ ?_ ?_
 ·intro W' hW'
  have rd0:=AB0.out.below hW'
  refine fxo (wlg (by rfl) rfl rfl rd0 Tryz.underlying25 rfl (qI V_ca.out) (wqn (by simp only [zq]))) ?_
  refine fxo ?_ ?_;(go_big_quiet_step ((go_at_call 99;exact qaA (HS.out _)));(try simp only [zq]);exact wqn rfl)
  iterate 3 (refine fxo ?_ ?_;(go_big_quiet_step (fail);(try simp only [zq]);exact wqn rfl))
  refine fxs (by rfl) ?_
  refine fxo ?_ ?_;(go_big_quiet_step (fail);(try simp only [zq]);exact wqn rfl)
  refine fxs (by rfl) ?_
  exact fxn
 ·exact oP _ _ (Tryz.alG (qG V_cm.out)) (oN)
 ·exact oP _ _ (stw rfl (qG V_cm.out) (qdK V_cm.out) (fun _=>rfl)) (oN)
 intro β wx1 E
 replace FR:=hid (FR.out.fnw E rfl)
 obtain ⟨b5,hb5⟩:∃ b,b=β 5:=⟨_,rfl⟩
 have eb5:=E.atNew mms rfl
 simp only at eb5
 rw [←hb5] at eb5
 have lB0_b5:B0<b5:=by have h1:=eb5.1;have h2:=AB0.out.lt;omega
 have hZb5:B0≤b5:=by have h1:=eb5.1;have h2:=FR0.out;omega
 replace AB0:=hid (AB0.out.fnw E rfl)
 have Ab5:=hid eb5.2
 simp only [nP,zr,zq]
 rw [←hb5]
 replace FR0:=hid FR.out.le
 clear E eb5 hb5
 have HM:=hid (show At wx1 b5 0 (lv 32 v) by have:=Ab5.out;rwa [V_cm.out] at this)
 have HB:=hid (qpD v k b5 0 wx1 HM.out HV.out.1 HV.out.2)
 have cx:=HM.out.limb (j:=0) (by omega)
 have cy:=HM.out.limb (j:=1) (by omega)
 rw [←HXY.out.1] at cx
 rw [←HXY.out.2] at cy
 obtain ⟨V,hV⟩:∃ V:Int,V=(v:Int):=⟨_,rfl⟩
 rw [←hV] at hor
 have HVV:=hid hV
 have hV0:0≤V:=by omega
 have hV1:V<9223372036854775808:=by omega
 clear hV hvb
 cases n with
 | true =>
  have hle:V≤9223372036854775808:=by omega
  have hneg:IntKind.i64.wrap (IntKind.u64.wrap (-V))=-V:=by rw [IntKind.wrap_u64,IntKind.wrap_i64];omega
  go_wp2_with (go_at_call 100;refine HB.out.mono ?_;rintro e w' ⟨rfl,rfl⟩)
  go_ret2
  have ez:z=-V:=by rw [HVV.out];first|exact HE1.out rfl|exact HE1.out trivial
  exact ⟨by rw [ez];rfl,by rw [HB0.out] at FR;exact FR.out.below⟩
 | false =>
  have hpos:IntKind.i64.wrap V=V:=by rw [IntKind.wrap_i64];omega
  go_wp2_with (go_at_call 100;refine HB.out.mono ?_;rintro e w' ⟨rfl,rfl⟩)
  go_ret2
  have ez:z=V:=by rw [HVV.out];first|exact HE2.out rfl|exact HE2.out trivial
  exact ⟨by rw [ez];rfl,by rw [HB0.out] at FR;exact FR.out.below⟩
theorem qiM {n:Nat} (h:n≠0):-(n:Int)<0:=by omega
theorem qoE {a:Nat} (d:Nat) {z:Int} (hz:z=a):z / (d:Int)=((a / d:Nat):Int)∧z%(d:Int)=((a%d:Nat):Int):=by subst hz;exact ⟨by simp,by simp⟩
theorem qoF {a d:Nat} {z:Int} (hz:z=-(a:Int)) (hd:d≠0) (hr:a%d≠0):z / (d:Int)=-((a / d+1:Nat):Int)∧z%(d:Int)=((d - a%d:Nat):Int):=by
 have h1:=Nat.div_add_mod a d
 have h2:=Nat.mod_lt a (Nat.pos_of_ne_zero hd)
 have e:z=(d:Int)*-((a / d+1:Nat):Int)+((d - a%d:Nat):Int):=by
  rw [hz,Int.mul_neg,←Int.natCast_mul,Nat.mul_add,Nat.mul_one]
  omega
 have hb:0≤((d - a%d:Nat):Int):=Int.natCast_nonneg _
 have hb2:((d - a%d:Nat):Int)<(d:Int):=by omega
 constructor
 ·rw [e,Int.add_comm,Int.add_mul_ediv_left _ _ (by omega),Int.ediv_eq_zero_of_lt hb hb2,Int.zero_add]
 ·rw [e,Int.add_comm,Int.add_mul_emod_self_left,Int.emod_eq_of_lt hb hb2]
theorem qkH {a d:Nat} {z:Int} (hz:z=-(a:Int)) (hd:d≠0) (hr:a%d=0):z / (d:Int)=-((a / d:Nat):Int)∧z%(d:Int)=0:=by
 have h1:=Nat.div_add_mod a d
 rw [hr,Nat.add_zero] at h1
 have e:z=(d:Int)*-((a / d:Nat):Int):=by rw [hz,Int.mul_neg,←Int.natCast_mul,h1]
 exact ⟨by rw [e,Int.mul_ediv_cancel_left _ (by omega)],by rw [e,Int.mul_emod_right]⟩
theorem pdivQ {ca cb cq cr:List Value} {z:Int} {d:Nat} (h1:ca=iZ z) (h2:cb=iZ (d:Int)) (hd:d≠0) (hq:cq=iZ (z / (d:Int))) (hr:cr=iZ (z%(d:Int))) (ha:z.natAbs<BB^31) (hb:d<BB^32) (w:World) :
  Calls Tryz.prog 131 #[.agg ca.toArray,.agg cb.toArray] w fun e w'=>e=.returned (.tuple #[.agg cq.toArray,.agg cr.toArray,.int .i64 0])∧Below w.heap.size w w':=by
 have u31:BB^31<BB^32:=Nat.pow_lt_pow_right (by unfold BB;decide) (by decide)
 have hcb:cb=.bool false::lv 32 d:=by rw [h2];unfold iZ;rw [Int.natAbs_natCast];simp
 by_cases hn:z<0
 ·have hz:z=-(z.natAbs:Int):=by omega
  have hca:ca=.bool true::lv 32 z.natAbs:=by rw [h1];unfold iZ;simp [hn]
  by_cases hx:z.natAbs%d=0
  ·obtain ⟨e1,e2⟩:=qkH hz hd hx
   have hk:z.natAbs / d≠0:=by
    intro h
    have:=Nat.div_add_mod z.natAbs d
    rw [h,hx] at this;simp at this;omega
   refine qgK hca hcb (s:=true) ?_ ?_ (by simp [cs1,hk]) (.inr hx) (by omega) hb hd w
   ·rw [hq,e1];unfold iZ
    rw [Int.natAbs_neg,Int.natAbs_natCast,decide_eq_true (qiM hk)]
   ·rw [hr,e2,hx];rfl
  ·obtain ⟨e1,e2⟩:=qoF hz hd hx
   refine qpX hca hcb (q:=z.natAbs / d+1) (r:=d - z.natAbs%d) ?_ ?_ rfl rfl hx ha hb hd w
   ·rw [hq,e1];unfold iZ
    rw [Int.natAbs_neg,Int.natAbs_natCast,decide_eq_true (qiM (Nat.succ_ne_zero _))]
   ·rw [hr,e2];unfold iZ
    rw [Int.natAbs_natCast,decide_eq_false (Int.not_lt.2 (Int.natCast_nonneg _))]
 ·have hz:z=(z.natAbs:Int):=by omega
  have hca:ca=.bool false::lv 32 z.natAbs:=by rw [h1];unfold iZ;simp [hn]
  obtain ⟨e1,e2⟩:=qoE d hz
  refine qgK hca hcb (s:=false) ?_ ?_ (by simp [cs1]) (.inl rfl) (by omega) hb hd w
  ·rw [hq,e1];unfold iZ
   rw [Int.natAbs_natCast,decide_eq_false (Int.not_lt.2 (Int.natCast_nonneg _))]
  ·rw [hr,e2];unfold iZ
   rw [Int.natAbs_natCast,decide_eq_false (Int.not_lt.2 (Int.natCast_nonneg _))]
theorem qyQ {cr:List Value} {r:Qn} (h:cr=ratZ r.1 r.2) (hv:VQ r) (w:World) :
  Calls Tryz.prog 95 #[.agg cr.toArray,.int .i64 0] w fun e w'=>e=.returned (.int .i64 0)∧Below w.heap.size w w':=by
 have HV:=hid (qhP h hv)
 have V_cr:=hid (show cr=rat (decide (r.1<0)) r.1.natAbs false r.2 from h)
 clear h hv
 obtain ⟨B0,hB0⟩:∃ B,B=w.heap.size:=⟨_,rfl⟩
 obtain ⟨w0,hw0⟩:∃ w0,w0=(w.alloc (.cells cr.toArray 27)):=⟨_,rfl⟩
 have AB0:=hid (show At w0 B0 0 cr by rw [hw0];exact (show At (w.alloc (.cells cr.toArray 27)) B0 0 cr from At.fresh _ cr _ (by simp [hB0])))
 have FR:=hid (show Fr B0 w w0 by rw [hw0,hB0];exact (Fr.start w).alloc _)
 have FR0:=hid FR.out.le
 have hZB0:B0≤B0:=Nat.le_refl _
 have HB0:=hid hB0
 go_enter Tryz.func95,Tryz.ntmps95
 go_upto_region 1 with fail
 rw [←hw0,←hB0]
 clear hw0 hB0
 refine wfn [] [(6,.agg cr.toArray),(7,.bool true),(8,.bool false),(5,.bool false)] _ (by simp only [zz4,zz5,zq];rfl) (by kernel_rfl) (by kernel_rfl) rfl ?_ ?_ ?_ ?_
 ·intro W' hW'
  have rd0:=AB0.out.below hW'
  refine fxo (wlg (by rfl) rfl rfl rd0 Tryz.underlying27 rfl (qR V_cr.out) (wqn (by simp only [zq]))) ?_
  refine fxo ?_ ?_;(go_big_quiet_step ((go_at_call 87;exact qaA (HV.out _)));(try simp only [zq]);exact wqn rfl)
  iterate 2 (refine fxo ?_ ?_;(go_big_quiet_step (fail);(try simp only [zq]);exact wqn rfl))
  exact fxn
 ·exact oN
 ·exact oN
 intro β wx1 E
 replace FR:=hid (FR.out.fnw E rfl)
 replace AB0:=hid (AB0.out.fnw E rfl)
 have hE:=E.below rfl
 simp only [nP,zr,zq]
 replace FR0:=hid FR.out.le
 clear E
 go_wp2
 go_ret
 exact ⟨rfl,fend HB0 FR⟩
theorem qyO (w:World):Calls Tryz.prog 130 #[.int .i64 0] w fun e w'=>e=.returned (.int .i64 1)∧w=w':=by
 go_enter Tryz.func130,Tryz.ntmps130
 go_wp2
 go_loopg [3,5] 0 (fun n p i wr=>p=.int .i64 1∧i=.int .i64 0∧wr=w)
 case atStart=>exact ⟨rfl,rfl,rfl⟩
 case round =>
  obtain ⟨rfl,rfl,rfl⟩:=hrel
  go_wp2
  go_ret
  exact ⟨rfl,rfl⟩
theorem qyN {cr cq ct:List Value} {r:Qn} (h:cr=ratZ r.1 r.2) (hv:VQ r) (hq:cq=iZ (r.1 / (r.2:Int))) (ht:ct=iZ (r.1%(r.2:Int))) (w:World) :
  Calls Tryz.prog 96 #[.agg cr.toArray,.int .i64 0] w fun e w'=>e=.returned (.tuple #[.agg cq.toArray,.agg ct.toArray])∧Below w.heap.size w w':=by
 obtain ⟨z,d⟩:=r
 have V_cr:=hid (show cr=rat (decide (z<0)) z.natAbs false d from h)
 have V_cq:=hid (show cq=.bool (decide (z / (d:Int)<0))::lv 32 (z / (d:Int)).natAbs from hq)
 have V_ct:=hid (show ct=.bool (decide (z%(d:Int)<0))::lv 32 (z%(d:Int)).natAbs from ht)
 have u30:BB^15≤BB^31:=Nat.pow_le_pow_right qaN (by omega)
 have u31:BB^31<BB^32:=Nat.pow_lt_pow_right (by unfold BB;decide) (by decide)
 have hz:z.natAbs<BB^15:=hv.num
 have hdd:d<BB^15:=hv.den
 obtain ⟨cn,V_cn⟩:∃ c:List Value,Hid (c=.bool (decide (z<0))::lv 32 z.natAbs):=⟨_,hid rfl⟩
 obtain ⟨cd,V_cd⟩:∃ c:List Value,Hid (c=.bool false::lv 32 d):=⟨_,hid rfl⟩
 obtain ⟨co,V_co⟩:∃ c:List Value,Hid (c=.bool false::lv 32 1):=⟨_,hid rfl⟩
 obtain ⟨cz,V_cz⟩:∃ c:List Value,Hid (c=.bool false::lv 32 0):=⟨_,hid rfl⟩
 have HF:=hid (jaP (z:=1) (cr:=co) V_co.out (by decide) (by decide))
 have HM:=hid (pmulZ (a:=z) (b:=1) (ca:=cn) (cb:=co) (cr:=cn) V_cn.out V_co.out (by rw [Int.mul_one];exact V_cn.out) (by omega) (Nat.one_lt_pow (by omega) (by unfold BB;decide)) (by rw [Int.mul_one];omega))
 have HD:=hid (pdivQ (z:=z) (d:=d) (ca:=cn) (cb:=cd) V_cn.out (by rw [V_cd.out];unfold iZ;rw [Int.natAbs_natCast];simp) hv.pos hq ht (by omega) (by omega))
 clear h hq ht u30 u31 hz hdd hv
 obtain ⟨B0,hB0⟩:∃ B,B=w.heap.size:=⟨_,rfl⟩
 obtain ⟨B1,hB1⟩:∃ B,B=w.heap.size+1:=⟨_,rfl⟩
 obtain ⟨B2,hB2⟩:∃ B,B=w.heap.size+1+1:=⟨_,rfl⟩
 obtain ⟨w0,hw0⟩:∃ w0,w0=(((w.alloc (.cells cr.toArray 27)).alloc (.cells zero33 25)).alloc (.cells zero33 25)):=⟨_,rfl⟩
 have AB0:=hid (show At w0 B0 0 cr by rw [hw0];exact (((show At (w.alloc (.cells cr.toArray 27)) B0 0 cr from At.fresh _ cr _ (by simp [hB0])).alloc _).alloc _))
 have AB1:=hid (show At w0 B1 0 cz by rw [hw0];exact ((show At ((w.alloc (.cells cr.toArray 27)).alloc (.cells zero33 25)) B1 0 cz from (by rw [V_cz.out];exact At.zero _ _ (by simp [hB1]))).alloc _))
 have AB2:=hid (show At w0 B2 0 cz by rw [hw0];exact (show At (((w.alloc (.cells cr.toArray 27)).alloc (.cells zero33 25)).alloc (.cells zero33 25)) B2 0 cz from (by rw [V_cz.out];exact At.zero _ _ (by simp [hB2]))))
 have FR:=hid (show Fr B0 w w0 by rw [hw0,hB0];exact (((Fr.start w).alloc _).alloc _).alloc _)
 have FR0:=hid FR.out.le
 have l01:B0<B1:=by omega
 have hZB1:B0≤B1:=by omega
 have l12:B1<B2:=by omega
 have hZB2:B0≤B2:=by omega
 have hZB0:B0≤B0:=Nat.le_refl _
 unfold zero33 at hw0
 have HB0:=hid hB0
 go_enter Tryz.func96,Tryz.ntmps96
 go_upto_region 1 with fail
 rw [←hw0,←hB2,←hB1,←hB0]
 clear hw0 hB0 hB1 hB2
 have AB0_n:=hid (AB0.out.num V_cr.out V_cn.out)
 have AB0_d:=hid (AB0.out.den V_cr.out V_cd.out)
 refine wfn [⟨true,9,6,10,0,0,25,15,cn,0,cn,[]⟩] [(9,.pointer (some ⟨B0,0,none⟩)),(10,.agg cn.toArray),(11,.int .i64 0),(12,.int .i64 1),(13,.agg co.toArray),(14,.tuple #[.agg cn.toArray,.int .i64 0]),(8,.tuple #[.agg cn.toArray,.int .i64 0]),(15,.agg cn.toArray),(16,.int .i64 0),(7,.int .i64 0)] _ (by simp only [zz4,zz5,zq];rfl) (by kernel_rfl) (by kernel_rfl) rfl ?_ ?_ ?_ ?_
 ·intro W' hW'
  have rd0:=AB0_n.out.below hW'
  refine fxo ?_ ?_;(go_big_quiet_step (fail);(try simp only [zq]);exact wqn rfl)
  refine fxo (wlg (by rfl) rfl rfl rd0 Tryz.underlying25 rfl (qI V_cn.out) (wqn (by simp only [zq]))) ?_
  refine fxo ?_ ?_;(go_big_quiet_step (fail);(try simp only [zq]);exact wqn rfl)
  refine fxo ?_ ?_;(go_big_quiet_step ((go_at_call 130;exact qaL (qyO _)));(try simp only [zq]);exact wqn rfl)
  refine fxo ?_ ?_;(go_big_quiet_step ((go_at_call 60;exact qaA (HF.out _)));(try simp only [zq]);exact wqn rfl)
  refine fxo ?_ ?_;(go_big_quiet_step ((go_at_call 93;exact qaA (HM.out _)));(try simp only [zq]);exact wqn rfl)
  iterate 3 (refine fxo ?_ ?_;(go_big_quiet_step (fail);(try simp only [zq]);exact wqn rfl))
  iterate 2 (refine fxs (by rfl) ?_)
  refine fxo ?_ ?_;(go_big_quiet_step (fail);(try simp only [zq]);exact wqn rfl)
  exact fxn
 ·exact oP _ _ (Tryz.alI (qI V_cn.out)) (oN)
 ·exact oP _ _ (stw rfl (qI V_cn.out) (qbL V_cn.out) (fun _=>rfl)) (oN)
 intro β wx1 E
 replace FR:=hid (FR.out.fnw E rfl)
 obtain ⟨b6,hb6⟩:∃ b,b=β 9:=⟨_,rfl⟩
 have eb6:=E.atNew mms rfl
 simp only at eb6
 rw [←hb6] at eb6
 have lB0_b6:B0<b6:=by have h1:=eb6.1;have h2:=AB0.out.lt;omega
 have lB1_b6:B1<b6:=by have h1:=eb6.1;have h2:=AB1.out.lt;omega
 have lB2_b6:B2<b6:=by have h1:=eb6.1;have h2:=AB2.out.lt;omega
 have hZb6:B0≤b6:=by have h1:=eb6.1;have h2:=FR0.out;omega
 replace AB0:=hid (AB0.out.fnw E rfl)
 replace AB1:=hid (AB1.out.fnw E rfl)
 replace AB2:=hid (AB2.out.fnw E rfl)
 replace AB0_n:=hid (AB0_n.out.fnw E rfl)
 replace AB0_d:=hid (AB0_d.out.fnw E rfl)
 have Ab6:=hid eb6.2
 simp only [nP,zr,zq]
 rw [←hb6]
 replace FR0:=hid FR.out.le
 clear E eb6 hb6
 go_upto_region 2 with fail
 refine qwf [⟨false,0,4,8,B1,0,25,22,cq,0,cq,[]⟩,⟨false,0,5,9,B2,0,25,23,ct,0,ct,[]⟩] [(18,.agg cn.toArray),(19,.pointer (some ⟨B0,33,none⟩)),(20,.agg cd.toArray),(21,.tuple #[.agg cq.toArray,.agg ct.toArray,.int .i64 0]),(17,.tuple #[.agg cq.toArray,.agg ct.toArray,.int .i64 0]),(22,.agg cq.toArray),(23,.agg ct.toArray),(24,.int .i64 0)] _ (by simp only [zz4,zz5,zq];rfl) (by kernel_rfl) (by kernel_rfl) ?_ ?_ ?_ ?_ ?_ ?_ ?_
 ·intro W' hW'
  have rd0:=Ab6.out.below hW'
  have rd1:=AB0_d.out.below hW'
  refine fxo (wlg (by rfl) rfl rfl rd0 Tryz.underlying25 rfl (qI V_cn.out) (wqn (by simp only [zq]))) ?_
  refine fxo ?_ ?_;(go_big_quiet_step (fail);(try simp only [zq]);exact wqn rfl)
  refine fxo (wlg (by rfl) rfl rfl rd1 Tryz.underlying25 rfl (qI V_cd.out) (wqn (by simp only [zq]))) ?_
  refine fxo ?_ ?_;(go_big_quiet_step ((go_at_call 131;exact qaA (HD.out _)));(try simp only [zq]);exact wqn rfl)
  iterate 4 (refine fxo ?_ ?_;(go_big_quiet_step (fail);(try simp only [zq]);exact wqn rfl))
  iterate 2 (refine fxs (by rfl) ?_)
  exact fxn
 ·intro W' hK'
  have rd0:=At.keep hK' Ab6.out (oP _ _ (fun _=>(by show B1≠b6;omega)) (oP _ _ (fun _=>(by show B2≠b6;omega)) (oN)))
  have rd1:=At.keep hK' AB0_d.out (oP _ _ (fun _=>(by show B1≠B0;omega)) (oP _ _ (fun _=>(by show B2≠B0;omega)) (oN)))
  refine fxo (wlg (by rfl) rfl rfl rd0 Tryz.underlying25 rfl (qI V_cn.out) (wqn (by simp only [zq]))) ?_
  first|(refine fxo ?_ ?_;(go_big_quiet_step (fail);(try simp only [zq]);exact wqn rfl))|(refine fxs (by kernel_rfl) ?_)
  refine fxo (wlg (by rfl) rfl rfl rd1 Tryz.underlying25 rfl (qI V_cd.out) (wqn (by simp only [zq]))) ?_
  refine fxs (by kernel_rfl) ?_
  iterate 4 (first|(refine fxo ?_ ?_;(go_big_quiet_step (fail);(try simp only [zq]);exact wqn rfl))|(refine fxs (by kernel_rfl) ?_))
  iterate 2 (refine fxs (by kernel_rfl) ?_)
  exact fxn
 ·exact oP _ _ (bnc) (oP _ _ (bnc) (oN))
 ·exact oP _ _ (fun _=>⟨AB1.out.lt,rfl,At.room AB1.out (qI V_cz.out) (qI V_cq.out)⟩) (oP _ _ (fun _=>⟨AB2.out.lt,rfl,At.room AB2.out (qI V_cz.out) (qI V_ct.out)⟩) (oN))
 ·intro q hq r hr hqn hrn e
  simp only [List.mem_cons,List.not_mem_nil,or_false] at hq hr
  rcases hq with rfl|rfl<;>rcases hr with rfl|rfl<;>first|rfl|(exact Bool.noConfusion hqn)|(exact Bool.noConfusion hrn)|(exfalso;simp only at e;omega)
 ·exact oP _ _ (stw rfl (qI V_cq.out) (qbL V_cq.out) (fun _=>rfl)) (oP _ _ (stw rfl (qI V_ct.out) (qbL V_ct.out) (fun _=>rfl)) (oN))
 intro β wx2 E
 replace FR:=hid (FR.out.flow E (oP _ _ (fun _=>(by show B0≤B1;omega)) (oP _ _ (fun _=>(by show B0≤B2;omega)) (oN))))
 replace AB0:=hid (At.flow E AB0.out (oP _ _ (fun _=>(by show B1≠B0;omega)) (oP _ _ (fun _=>(by show B2≠B0;omega)) (oN))))
 replace AB1:=hid (show At wx2 B1 0 cq from E.atOld mms rfl AB1.out.lt)
 replace AB2:=hid (show At wx2 B2 0 ct from E.atOld (List.mem_cons_of_mem _ mms) rfl AB2.out.lt)
 replace AB0_n:=hid (At.flow E AB0_n.out (oP _ _ (fun _=>(by show B1≠B0;omega)) (oP _ _ (fun _=>(by show B2≠B0;omega)) (oN))))
 replace AB0_d:=hid (At.flow E AB0_d.out (oP _ _ (fun _=>(by show B1≠B0;omega)) (oP _ _ (fun _=>(by show B2≠B0;omega)) (oN))))
 replace Ab6:=hid (At.flow E Ab6.out (oP _ _ (fun _=>(by show B1≠b6;omega)) (oP _ _ (fun _=>(by show B2≠b6;omega)) (oN))))
 simp only [nP,zr,zq]
 replace FR0:=hid FR.out.le
 clear E
 go_upto_region 3 with fail
 have hd1:B1≠B2:=by omega
 refine qbY 25 _ _ _ _ _ _ _ B1 B2 B1 B2 cq ct (by kernel_rfl) (by kernel_rfl) (by kernel_rfl) (by kernel_rfl) (by kernel_rfl) (by kernel_rfl) (by kernel_rfl) (by kernel_rfl) (by kernel_rfl) rfl rfl rfl rfl rfl rfl rfl rfl Tryz.underlying25 rfl (qI V_cq.out) (qI V_ct.out) (qbL V_cq.out) (qbL V_ct.out) rfl rfl rfl rfl rfl rfl AB1.out.range AB2.out.range AB1.out.there AB2.out.there hd1 rfl (.inl rfl) (Ne.symm hd1) ?_
 have D1:At wx2.drew B1 0 cq:=AB1.out.same rfl
 have D2:At wx2.drew B2 0 ct:=AB2.out.same rfl
 have F1:=hid ((D1.stored rfl).sets (Ne.symm hd1) 0 ct)
 have F2:=hid ((D2.sets hd1 0 cq).stored rfl)
 have FF:=hid (qaB hZB2 ct 0 _ (qaB hZB1 cq 0 _ (qaZ FR.out.below)))
 obtain ⟨wf,hwf⟩:∃ wf,wf=(wx2.drew.setCells B1 0 cq).setCells B2 0 ct:=⟨_,rfl⟩
 rw [←hwf] at F1 F2 FF ⊢
 try simp only [zq]
 clear hwf D1 D2 FR FR0 AB1 AB2
 go_wp2_with fail
 have hld0:=F1.out.read (P:=Tryz.prog) Tryz.underlying25 rfl (qI V_cq.out)
 have hld1:=F2.out.read (P:=Tryz.prog) Tryz.underlying25 rfl (qI V_ct.out)
 refine bodyPost_ret (v:=.tuple #[.agg cq.toArray,.agg ct.toArray]) (by simp [results,Tryz.results96,asAddr,hld0,hld1]) rfl ?_
 exact ⟨rfl,by rw [HB0.out] at FF;exact FF.out⟩
theorem Tryz.info127:(Tryz.prog.info? 127).map (·.size)=some 35:=by kernel_rfl
def btw (c:List Value) (h:Int) (n:Bool):List Value:=c++[.int .i64 h,.bool n]
theorem qzZ {c:List Value} {h:Int} {n:Bool} (hc:c.length=33):(btw c h n).length=35:=by simp [btw,hc]
theorem quC {c:List Value} {h:Int} {n s:Bool} {v:Nat} (hc:c=.bool s::lv 32 v):Tryz.prog.built 127 [(0,.agg c.toArray),(1,.int .i64 h),(2,.bool n)]=some (btw c h n).toArray:=by
 subst hc;kernel_rfl
theorem qiF {P:Program} (w:World) {t:TypeId} {ps rs:Array TypeId} {vr:Bool} (ht:P.underlying t=some (.func ps rs vr)) (f:Fn) (b c:Array Value):(binOp .eql t (.func f b c) .nilFunc).run P w=.ok (.bool false) w:=by
 have h:∀ d:Nat,(Op.equalIn (d+1) t (.func f b c) .nilFunc).run P w=.ok false w:=fun d=>by
  simp [Op.equalIn,run_underlying ht]
 simp only [binOp]
 simp [Op.equal,Op.maxDepth,h 9999]
theorem qtG {c:List Value} (w:World):Calls Tryz.prog 136 #[.agg c.toArray] w fun e w'=>e=.returned (.bool false)∧Below w.heap.size w w':=by
 go_enter Tryz.func136,Tryz.ntmps136
 go_wp2
 go_ret
 exact ⟨rfl,(Below.refl _ _).alloc (Nat.le_refl _) _⟩
theorem qqE {c:List Value} (hl:c.length=35) (w:World):Calls Tryz.prog 98 #[.agg c.toArray,.int .i64 3] w fun e w'=>e=.returned (.func (.func 136) #[.agg c.toArray] #[])∧Below w.heap.size w w':=by
 have HA:=hid (At.fresh w c 127 rfl)
 have HS:=hid (show (Tryz.prog.info? 127).map (·.size)=some c.length by rw [hl];exact Tryz.info127)
 clear hl
 go_enter Tryz.func98,Tryz.ntmps98
 go_wp2_with (refine wpList_load_mid rfl _ _ rfl w.heap.size 0 rfl c _ HA.out.range Tryz.underlying127 rfl HS.out ?_)
 go_ret
 exact ⟨rfl,(Below.refl _ _).alloc (Nat.le_refl _) _⟩
theorem qkU {cr cv:List Value} {r:Qn} (h:cr=ratZ r.1 r.2) (hv:VQ r) (hz:cv=iZ (r.1 / (r.2:Int))) (w:World) :
  Calls Tryz.prog 61 #[.agg cr.toArray,.int .i64 0,.int .i64 3] w fun e w'=>e=.returned (.tuple #[.agg cv.toArray,.int .i64 0])∧Below w.heap.size w w':=by
 have HCK:=hid (qyQ h hv)
 obtain ⟨z,d⟩:=r
 have V_cr:=hid (show cr=rat (decide (z<0)) z.natAbs false d from h)
 have V_cv:=hid (show cv=.bool (decide (z / (d:Int)<0))::lv 32 (z / (d:Int)).natAbs from hz)
 have u15:BB^15<BB^30:=Nat.pow_lt_pow_right (by unfold BB;decide) (by decide)
 have u30:2*BB^30≤BB^32:=quK
 have hzB:z.natAbs<BB^15:=hv.num
 have hdB:d<BB^15:=hv.den
 have hd0:d≠0:=hv.pos
 obtain ⟨t,ht⟩:∃ t,t=z%(d:Int):=⟨_,rfl⟩
 have ht0:0≤t:=by rw [ht];exact Int.emod_nonneg _ (by omega)
 have ht1:t<d:=by rw [ht];exact Int.emod_lt_of_pos _ (by omega)
 obtain ⟨x,hx⟩:∃ x,x=cmpZ (t+t) (d:Int):=⟨_,rfl⟩
 obtain ⟨s,hs⟩:∃ s,s=z.sign:=⟨_,rfl⟩
 obtain ⟨cn,V_cn⟩:∃ c:List Value,Hid (c=.bool (decide (z<0))::lv 32 z.natAbs):=⟨_,hid rfl⟩
 obtain ⟨cd,V_cd⟩:∃ c:List Value,Hid (c=.bool false::lv 32 d):=⟨_,hid rfl⟩
 obtain ⟨ct,V_ct⟩:∃ c:List Value,Hid (c=.bool (decide (t<0))::lv 32 t.natAbs):=⟨_,hid rfl⟩
 obtain ⟨cw,V_cw⟩:∃ c:List Value,Hid (c=.bool (decide (t+t<0))::lv 32 (t+t).natAbs):=⟨_,hid rfl⟩
 obtain ⟨cB,V_cB⟩:∃ c:List Value,Hid (c=btw cv x (decide (s<0))):=⟨_,hid rfl⟩
 obtain ⟨cz,V_cz⟩:∃ c:List Value,Hid (c=.bool false::lv 32 0):=⟨_,hid rfl⟩
 have hcd:cd=iZ (d:Int):=by rw [V_cd.out];unfold iZ;rw [Int.natAbs_natCast];simp
 have HSC:=hid (qyN (cq:=cv) (ct:=ct) h hv hz (by rw [V_ct.out,ht];rfl))
 have HAD:=hid (paddZ (a:=t) (b:=t) (ca:=ct) (cb:=ct) (cr:=cw) V_ct.out V_ct.out V_cw.out (by omega) (by omega) (by omega))
 have HCM:=hid (qsC (z:=x) (ca:=cw) (cb:=cd) V_cw.out V_cd.out (by rw [hx,qhK];rfl) (by omega) (by omega))
 have HSN:=hid (qxJ (cx:=cn) (z:=z) V_cn.out (by omega))
 rw [←hs] at HSN
 have HST:=hid (qxJ (cx:=ct) (z:=t) V_ct.out (by omega))
 have hL:cv.length=33:=by rw [V_cv.out,List.length_cons,qlL]
 have HBB:=hid (show Tryz.prog.built 127 [(0,.agg cv.toArray),(1,.int .i64 x),(2,.bool (decide (s<0)))]=some cB.toArray by rw [V_cB.out];exact quC V_cv.out)
 have HMO:=hid (qqE (c:=cB) (by rw [V_cB.out];exact qzZ hL))
 have HFL:=hid (qtG (c:=cB))
 have HT:=hid (show t=0∨0<t by omega)
 have qf:∀ (w:World) (f:Fn) (b c:Array Value),(binOp .eql 29 (.func f b c) .nilFunc).run Tryz.prog w=.ok (.bool false) w:=fun w f b c=>qiF w Tryz.underlying29 f b c
 clear h hv hz u15 u30 hzB hdB hd0 ht ht0 ht1 hx hs hcd hL
 obtain ⟨B0,hB0⟩:∃ B,B=w.heap.size:=⟨_,rfl⟩
 obtain ⟨B1,hB1⟩:∃ B,B=w.heap.size+1:=⟨_,rfl⟩
 obtain ⟨w0,hw0⟩:∃ w0,w0=((w.alloc (.cells cr.toArray 27)).alloc (.cells zero33 25)):=⟨_,rfl⟩
 have AB0:=hid (show At w0 B0 0 cr by rw [hw0];exact ((show At (w.alloc (.cells cr.toArray 27)) B0 0 cr from At.fresh _ cr _ (by simp [hB0])).alloc _))
 have AB1:=hid (show At w0 B1 0 cz by rw [hw0];exact (show At ((w.alloc (.cells cr.toArray 27)).alloc (.cells zero33 25)) B1 0 cz from (by rw [V_cz.out];exact At.zero _ _ (by simp [hB1]))))
 have FR:=hid (show Fr B0 w w0 by rw [hw0,hB0];exact ((Fr.start w).alloc _).alloc _)
 have FR0:=hid FR.out.le
 have l01:B0<B1:=by omega
 have hZB1:B0≤B1:=by omega
 have hZB0:B0≤B0:=Nat.le_refl _
 unfold zero33 at hw0
 have HB0:=hid hB0
 go_enter Tryz.func61,Tryz.ntmps61
 go_upto_region 1 with fail
 rw [←hw0,←hB1,←hB0]
 clear hw0 hB0 hB1
 have AB0_n:=hid (AB0.out.num V_cr.out V_cn.out)
 have AB0_d:=hid (AB0.out.den V_cr.out V_cd.out)
 refine wfn [] [(16,.agg cr.toArray),(17,.int .i64 0),(18,.int .i64 0),(8,.int .i64 0)] _ (by simp only [zz4,zz5,zq];rfl) (by kernel_rfl) (by kernel_rfl) rfl ?_ ?_ ?_ ?_
 ·intro W' hW'
  have rd0:=AB0.out.below hW'
  refine fxo (wlg (by rfl) rfl rfl rd0 Tryz.underlying27 rfl (qR V_cr.out) (wqn (by simp only [zq]))) ?_
  refine fxo ?_ ?_;(go_big_quiet_step (fail);(try simp only [zq]);exact wqn rfl)
  refine fxo ?_ ?_;(go_big_quiet_step ((go_at_call 95;exact qaA (HCK.out _)));(try simp only [zq]);exact wqn rfl)
  refine fxo ?_ ?_;(go_big_quiet_step (fail);(try simp only [zq]);exact wqn rfl)
  exact fxn
 ·exact oN
 ·exact oN
 intro β wx1 E
 replace FR:=hid (FR.out.fnw E rfl)
 replace AB0:=hid (AB0.out.fnw E rfl)
 replace AB1:=hid (AB1.out.fnw E rfl)
 replace AB0_n:=hid (AB0_n.out.fnw E rfl)
 replace AB0_d:=hid (AB0_d.out.fnw E rfl)
 have hE:=E.below rfl
 simp only [nP,zr,zq]
 replace FR0:=hid FR.out.le
 clear E
 go_upto_region 4 with fail
 refine wfn [⟨true,6,9,8,0,0,25,27,cv,0,cv,[]⟩,⟨true,7,10,9,0,0,25,28,ct,0,ct,[]⟩] [(24,.agg cr.toArray),(25,.int .i64 0),(26,.tuple #[.agg cv.toArray,.agg ct.toArray]),(23,.tuple #[.agg cv.toArray,.agg ct.toArray]),(27,.agg cv.toArray),(28,.agg ct.toArray)] _ (by simp only [zz4,zz5,zq];rfl) (by kernel_rfl) (by kernel_rfl) rfl ?_ ?_ ?_ ?_
 ·intro W' hW'
  have rd0:=AB0.out.below hW'
  refine fxo (wlg (by rfl) rfl rfl rd0 Tryz.underlying27 rfl (qR V_cr.out) (wqn (by simp only [zq]))) ?_
  refine fxo ?_ ?_;(go_big_quiet_step (fail);(try simp only [zq]);exact wqn rfl)
  refine fxo ?_ ?_;(go_big_quiet_step ((go_at_call 96;exact qaA (HSC.out _)));(try simp only [zq]);exact wqn rfl)
  iterate 3 (refine fxo ?_ ?_;(go_big_quiet_step (fail);(try simp only [zq]);exact wqn rfl))
  iterate 4 (refine fxs (by rfl) ?_)
  exact fxn
 ·exact oP _ _ (Tryz.alI (qI V_cv.out)) (oP _ _ (Tryz.alI (qI V_ct.out)) (oN))
 ·exact oP _ _ (stw rfl (qI V_cv.out) (qbL V_cv.out) (fun _=>rfl)) (oP _ _ (stw rfl (qI V_ct.out) (qbL V_ct.out) (fun _=>rfl)) (oN))
 intro β wx2 E
 replace FR:=hid (FR.out.fnw E rfl)
 obtain ⟨b9,hb9⟩:∃ b,b=β 6:=⟨_,rfl⟩
 have eb9:=E.atNew mms rfl
 simp only at eb9
 rw [←hb9] at eb9
 have lB0_b9:B0<b9:=by have h1:=eb9.1;have h2:=AB0.out.lt;omega
 have lB1_b9:B1<b9:=by have h1:=eb9.1;have h2:=AB1.out.lt;omega
 have hZb9:B0≤b9:=by have h1:=eb9.1;have h2:=FR0.out;omega
 obtain ⟨b10,hb10⟩:∃ b,b=β 7:=⟨_,rfl⟩
 have eb10:=E.atNew (List.mem_cons_of_mem _ mms) rfl
 simp only at eb10
 rw [←hb10] at eb10
 have lB0_b10:B0<b10:=by have h1:=eb10.1;have h2:=AB0.out.lt;omega
 have lB1_b10:B1<b10:=by have h1:=eb10.1;have h2:=AB1.out.lt;omega
 have hZb10:B0≤b10:=by have h1:=eb10.1;have h2:=FR0.out;omega
 have nb9_b10:b9≠b10:=fun e=>absurd (E.apart _ mms _ (List.mem_cons_of_mem _ mms) rfl rfl (by rw [hb9,hb10] at e;exact e)) (show ¬(6:Nat)=7 by decide)
 replace AB0:=hid (AB0.out.fnw E rfl)
 replace AB1:=hid (AB1.out.fnw E rfl)
 replace AB0_n:=hid (AB0_n.out.fnw E rfl)
 replace AB0_d:=hid (AB0_d.out.fnw E rfl)
 have Ab9:=hid eb9.2
 have Ab10:=hid eb10.2
 simp only [nP,zr,zq]
 rw [←hb9]
 rw [←hb10]
 replace FR0:=hid FR.out.le
 clear E eb9 hb9 eb10 hb10
 go_upto_region 5 with fail
 refine wfn [⟨true,6,11,7,0,0,25,33,cw,0,cw,[]⟩] [(30,.agg ct.toArray),(31,.agg ct.toArray),(32,.tuple #[.agg cw.toArray,.int .i64 0]),(29,.tuple #[.agg cw.toArray,.int .i64 0]),(33,.agg cw.toArray),(34,.int .i64 0),(12,.int .i64 0)] _ (by simp only [zz4,zz5,zq];rfl) (by kernel_rfl) (by kernel_rfl) rfl ?_ ?_ ?_ ?_
 ·intro W' hW'
  have rd0:=Ab10.out.below hW'
  iterate 2 (refine fxo (wlg (by rfl) rfl rfl rd0 Tryz.underlying25 rfl (qI V_ct.out) (wqn (by simp only [zq]))) ?_)
  refine fxo ?_ ?_;(go_big_quiet_step ((go_at_call 97;exact qaA (HAD.out _)));(try simp only [zq]);exact wqn rfl)
  iterate 3 (refine fxo ?_ ?_;(go_big_quiet_step (fail);(try simp only [zq]);exact wqn rfl))
  iterate 2 (refine fxs (by rfl) ?_)
  refine fxo ?_ ?_;(go_big_quiet_step (fail);(try simp only [zq]);exact wqn rfl)
  exact fxn
 ·exact oP _ _ (Tryz.alI (qI V_cw.out)) (oN)
 ·exact oP _ _ (stw rfl (qI V_cw.out) (qbL V_cw.out) (fun _=>rfl)) (oN)
 intro β wx3 E
 replace FR:=hid (FR.out.fnw E rfl)
 obtain ⟨b11,hb11⟩:∃ b,b=β 6:=⟨_,rfl⟩
 have eb11:=E.atNew mms rfl
 simp only at eb11
 rw [←hb11] at eb11
 have lB0_b11:B0<b11:=by have h1:=eb11.1;have h2:=AB0.out.lt;omega
 have lB1_b11:B1<b11:=by have h1:=eb11.1;have h2:=AB1.out.lt;omega
 have lb9_b11:b9<b11:=by have h1:=eb11.1;have h2:=Ab9.out.lt;omega
 have lb10_b11:b10<b11:=by have h1:=eb11.1;have h2:=Ab10.out.lt;omega
 have hZb11:B0≤b11:=by have h1:=eb11.1;have h2:=FR0.out;omega
 replace AB0:=hid (AB0.out.fnw E rfl)
 replace AB1:=hid (AB1.out.fnw E rfl)
 replace AB0_n:=hid (AB0_n.out.fnw E rfl)
 replace AB0_d:=hid (AB0_d.out.fnw E rfl)
 replace Ab9:=hid (Ab9.out.fnw E rfl)
 replace Ab10:=hid (Ab10.out.fnw E rfl)
 have Ab11:=hid eb11.2
 simp only [nP,zr,zq]
 rw [←hb11]
 replace FR0:=hid FR.out.le
 clear E eb11 hb11
 go_upto_region 6 with fail
 refine wfn [] [(35,.agg cv.toArray),(36,.agg cw.toArray),(37,.pointer (some ⟨B0,33,none⟩)),(38,.agg cd.toArray),(39,.int .i64 x),(40,.pointer (some ⟨B0,0,none⟩)),(41,.agg cn.toArray),(42,.int .i64 s),(43,.bool (decide (s<0))),(44,.agg cB.toArray),(45,.int .i64 3),(46,.func (.func 136) #[.agg cB.toArray] #[]),(13,.func (.func 136) #[.agg cB.toArray] #[])] _ (by simp only [zz4,zz5,zq];rfl) (by kernel_rfl) (by kernel_rfl) rfl ?_ ?_ ?_ ?_
 ·intro W' hW'
  have rd0:=Ab9.out.below hW'
  have rd1:=Ab11.out.below hW'
  have rd2:=AB0_d.out.below hW'
  have rd3:=AB0_n.out.below hW'
  refine fxo (wlg (by rfl) rfl rfl rd0 Tryz.underlying25 rfl (qI V_cv.out) (wqn (by simp only [zq]))) ?_
  refine fxo (wlg (by rfl) rfl rfl rd1 Tryz.underlying25 rfl (qI V_cw.out) (wqn (by simp only [zq]))) ?_
  refine fxo ?_ ?_;(go_big_quiet_step (fail);(try simp only [zq]);exact wqn rfl)
  refine fxo (wlg (by rfl) rfl rfl rd2 Tryz.underlying25 rfl (qI V_cd.out) (wqn (by simp only [zq]))) ?_
  refine fxo ?_ ?_;(go_big_quiet_step ((go_at_call 89;exact qaA (HCM.out _)));(try simp only [zq]);exact wqn rfl)
  refine fxo ?_ ?_;(go_big_quiet_step (fail);(try simp only [zq]);exact wqn rfl)
  refine fxo (wlg (by rfl) rfl rfl rd3 Tryz.underlying25 rfl (qI V_cn.out) (wqn (by simp only [zq]))) ?_
  refine fxo ?_ ?_;(go_big_quiet_step ((go_at_call 88;exact qaA (HSN.out _)));(try simp only [zq]);exact wqn rfl)
  refine fxo ?_ ?_;(go_big_quiet_step (fail);(try simp only [zq]);exact wqn rfl)
  refine fxo (wqB rfl _ _ rfl _ rfl _ HBB.out (wqn (by simp only [zq]))) ?_
  refine fxo ?_ ?_;(go_big_quiet_step (fail);(try simp only [zq]);exact wqn rfl)
  refine fxo ?_ ?_;(go_big_quiet_step ((go_at_call 98;exact qaA (HMO.out _)));(try simp only [zq]);exact wqn rfl)
  refine fxo ?_ ?_;(go_big_quiet_step (fail);(try simp only [zq]);exact wqn rfl)
  exact fxn
 ·exact oN
 ·exact oN
 intro β wx4 E
 replace FR:=hid (FR.out.fnw E rfl)
 replace AB0:=hid (AB0.out.fnw E rfl)
 replace AB1:=hid (AB1.out.fnw E rfl)
 replace AB0_n:=hid (AB0_n.out.fnw E rfl)
 replace AB0_d:=hid (AB0_d.out.fnw E rfl)
 replace Ab9:=hid (Ab9.out.fnw E rfl)
 replace Ab10:=hid (Ab10.out.fnw E rfl)
 replace Ab11:=hid (Ab11.out.fnw E rfl)
 have hE:=E.below rfl
 simp only [nP,zr,zq]
 replace FR0:=hid FR.out.le
 clear E
 go_upto_region 9 with fail
 rcases HT.out with ht|ht
 ·have hsg:t.sign=0:=by rw [ht];rfl
  rw [hsg] at HST
  clear ht hsg
  refine wfn [] [(52,.agg ct.toArray),(53,.int .i64 0),(54,.bool true),(55,.bool true),(56,undef),(57,undef),(58,undef),(59,.bool true),(51,.bool true)] _ (by simp only [zz4,zz5,zq];rfl) (by kernel_rfl) (by kernel_rfl) rfl ?_ ?_ ?_ ?_
  ·intro W' hW'
   have rd0:=Ab10.out.below hW'
   refine fxo (wlg (by rfl) rfl rfl rd0 Tryz.underlying25 rfl (qI V_ct.out) (wqn (by simp only [zq]))) ?_
   refine fxo ?_ ?_;(go_big_quiet_step ((go_at_call 88;exact qaA (HST.out _)));(try simp only [zq]);exact wqn rfl)
   iterate 7 (refine fxo ?_ ?_;(go_big_quiet_step (fail);(try simp only [zq]);exact wqn rfl))
   exact fxn
  ·exact oN
  ·exact oN
  intro β wx5 E
  replace FR:=hid (FR.out.fnw E rfl)
  replace AB0:=hid (AB0.out.fnw E rfl)
  replace AB1:=hid (AB1.out.fnw E rfl)
  replace AB0_n:=hid (AB0_n.out.fnw E rfl)
  replace AB0_d:=hid (AB0_d.out.fnw E rfl)
  replace Ab9:=hid (Ab9.out.fnw E rfl)
  replace Ab10:=hid (Ab10.out.fnw E rfl)
  replace Ab11:=hid (Ab11.out.fnw E rfl)
  have hE:=E.below rfl
  simp only [nP,zr,zq]
  replace FR0:=hid FR.out.le
  clear E
  go_upto_region 10 with fail
  refine qwf [⟨false,0,6,1,B1,0,25,60,cv,0,cv,[]⟩] [(60,.agg cv.toArray),(7,.int .i64 0)] _ (by simp only [zz4,zz5,zq];rfl) (by kernel_rfl) (by kernel_rfl) ?_ ?_ ?_ ?_ ?_ ?_ ?_
  ·intro W' hW'
   have rd0:=Ab9.out.below hW'
   refine fxo (wlg (by rfl) rfl rfl rd0 Tryz.underlying25 rfl (qI V_cv.out) (wqn (by simp only [zq]))) ?_
   refine fxs (by rfl) ?_
   refine fxo ?_ ?_;(go_big_quiet_step (fail);(try simp only [zq]);exact wqn rfl)
   exact fxn
  ·intro W' hK'
   have rd0:=At.keep hK' Ab9.out (oP _ _ (fun _=>(by show B1≠b9;omega)) (oN))
   refine fxo (wlg (by rfl) rfl rfl rd0 Tryz.underlying25 rfl (qI V_cv.out) (wqn (by simp only [zq]))) ?_
   refine fxs (by kernel_rfl) ?_
   first|(refine fxo ?_ ?_;(go_big_quiet_step (fail);(try simp only [zq]);exact wqn rfl))|(refine fxs (by kernel_rfl) ?_)
   exact fxn
  ·exact oP _ _ (bnc) (oN)
  ·exact oP _ _ (fun _=>⟨AB1.out.lt,rfl,At.room AB1.out (qI V_cz.out) (qI V_cv.out)⟩) (oN)
  ·exact uno
  ·exact oP _ _ (stw rfl (qI V_cv.out) (qbL V_cv.out) (fun _=>rfl)) (oN)
  intro β wx6 E
  replace FR:=hid (FR.out.flow E (oP _ _ (fun _=>(by show B0≤B1;omega)) (oN)))
  replace AB0:=hid (At.flow E AB0.out (oP _ _ (fun _=>(by show B1≠B0;omega)) (oN)))
  replace AB1:=hid (show At wx6 B1 0 cv from E.atOld mms rfl AB1.out.lt)
  replace AB0_n:=hid (At.flow E AB0_n.out (oP _ _ (fun _=>(by show B1≠B0;omega)) (oN)))
  replace AB0_d:=hid (At.flow E AB0_d.out (oP _ _ (fun _=>(by show B1≠B0;omega)) (oN)))
  replace Ab9:=hid (At.flow E Ab9.out (oP _ _ (fun _=>(by show B1≠b9;omega)) (oN)))
  replace Ab10:=hid (At.flow E Ab10.out (oP _ _ (fun _=>(by show B1≠b10;omega)) (oN)))
  replace Ab11:=hid (At.flow E Ab11.out (oP _ _ (fun _=>(by show B1≠b11;omega)) (oN)))
  simp only [nP,zr,zq]
  replace FR0:=hid FR.out.le
  clear E
  go_wp2_with fail
  have hld:=AB1.out.read (P:=Tryz.prog) Tryz.underlying25 rfl (qI V_cv.out)
  refine bodyPost_ret (v:=.tuple #[.agg cv.toArray,.int .i64 0]) (by simp [results,Tryz.results61,asAddr,hld]) rfl ?_
  exact ⟨rfl,fend HB0 FR⟩
 ·have hsg:t.sign=1:=Int.sign_eq_one_of_pos ht
  rw [hsg] at HST
  clear ht hsg
  refine wfn [] [(52,.agg ct.toArray),(53,.int .i64 1),(54,.bool false),(55,.bool false),(56,.func (.func 136) #[.agg cB.toArray] #[]),(57,.bool false),(58,.bool true),(59,.bool true),(51,.bool true)] _ (by simp only [zz4,zz5,zq];rfl) (by kernel_rfl) (by kernel_rfl) rfl ?_ ?_ ?_ ?_
  ·intro W' hW'
   have rd0:=Ab10.out.below hW'
   refine fxo (wlg (by rfl) rfl rfl rd0 Tryz.underlying25 rfl (qI V_ct.out) (wqn (by simp only [zq]))) ?_
   refine fxo ?_ ?_;(go_big_quiet_step ((go_at_call 88;exact qaA (HST.out _)));(try simp only [zq]);exact wqn rfl)
   iterate 3 (refine fxo ?_ ?_;(go_big_quiet_step (fail);(try simp only [zq]);exact wqn rfl))
   refine fxo ?_ ?_;(go_big_quiet_step ((go_at_call 136;exact qaA (HFL.out _)));(try simp only [zq]);exact wqn rfl)
   iterate 3 (refine fxo ?_ ?_;(go_big_quiet_step (fail);(try simp only [zq]);exact wqn rfl))
   exact fxn
  ·exact oN
  ·exact oN
  intro β wx5 E
  replace FR:=hid (FR.out.fnw E rfl)
  replace AB0:=hid (AB0.out.fnw E rfl)
  replace AB1:=hid (AB1.out.fnw E rfl)
  replace AB0_n:=hid (AB0_n.out.fnw E rfl)
  replace AB0_d:=hid (AB0_d.out.fnw E rfl)
  replace Ab9:=hid (Ab9.out.fnw E rfl)
  replace Ab10:=hid (Ab10.out.fnw E rfl)
  replace Ab11:=hid (Ab11.out.fnw E rfl)
  have hE:=E.below rfl
  simp only [nP,zr,zq]
  replace FR0:=hid FR.out.le
  clear E
  go_upto_region 10 with fail
  refine qwf [⟨false,0,6,1,B1,0,25,60,cv,0,cv,[]⟩] [(60,.agg cv.toArray),(7,.int .i64 0)] _ (by simp only [zz4,zz5,zq];rfl) (by kernel_rfl) (by kernel_rfl) ?_ ?_ ?_ ?_ ?_ ?_ ?_
  ·intro W' hW'
   have rd0:=Ab9.out.below hW'
   refine fxo (wlg (by rfl) rfl rfl rd0 Tryz.underlying25 rfl (qI V_cv.out) (wqn (by simp only [zq]))) ?_
   refine fxs (by rfl) ?_
   refine fxo ?_ ?_;(go_big_quiet_step (fail);(try simp only [zq]);exact wqn rfl)
   exact fxn
  ·intro W' hK'
   have rd0:=At.keep hK' Ab9.out (oP _ _ (fun _=>(by show B1≠b9;omega)) (oN))
   refine fxo (wlg (by rfl) rfl rfl rd0 Tryz.underlying25 rfl (qI V_cv.out) (wqn (by simp only [zq]))) ?_
   refine fxs (by kernel_rfl) ?_
   first|(refine fxo ?_ ?_;(go_big_quiet_step (fail);(try simp only [zq]);exact wqn rfl))|(refine fxs (by kernel_rfl) ?_)
   exact fxn
  ·exact oP _ _ (bnc) (oN)
  ·exact oP _ _ (fun _=>⟨AB1.out.lt,rfl,At.room AB1.out (qI V_cz.out) (qI V_cv.out)⟩) (oN)
  ·exact uno
  ·exact oP _ _ (stw rfl (qI V_cv.out) (qbL V_cv.out) (fun _=>rfl)) (oN)
  intro β wx6 E
  replace FR:=hid (FR.out.flow E (oP _ _ (fun _=>(by show B0≤B1;omega)) (oN)))
  replace AB0:=hid (At.flow E AB0.out (oP _ _ (fun _=>(by show B1≠B0;omega)) (oN)))
  replace AB1:=hid (show At wx6 B1 0 cv from E.atOld mms rfl AB1.out.lt)
  replace AB0_n:=hid (At.flow E AB0_n.out (oP _ _ (fun _=>(by show B1≠B0;omega)) (oN)))
  replace AB0_d:=hid (At.flow E AB0_d.out (oP _ _ (fun _=>(by show B1≠B0;omega)) (oN)))
  replace Ab9:=hid (At.flow E Ab9.out (oP _ _ (fun _=>(by show B1≠b9;omega)) (oN)))
  replace Ab10:=hid (At.flow E Ab10.out (oP _ _ (fun _=>(by show B1≠b10;omega)) (oN)))
  replace Ab11:=hid (At.flow E Ab11.out (oP _ _ (fun _=>(by show B1≠b11;omega)) (oN)))
  simp only [nP,zr,zq]
  replace FR0:=hid FR.out.le
  clear E
  go_wp2_with fail
  have hld:=AB1.out.read (P:=Tryz.prog) Tryz.underlying25 rfl (qI V_cv.out)
  refine bodyPost_ret (v:=.tuple #[.agg cv.toArray,.int .i64 0]) (by simp [results,Tryz.results61,asAddr,hld]) rfl ?_
  exact ⟨rfl,fend HB0 FR⟩
theorem qpW {cr:List Value} {r:Qn} {n:Int} (h:cr=ratZ r.1 r.2) (hv:VQ r) (hn:n=r.1 / (r.2:Int)) (h1:-1000000000000000≤n) (h2:n≤1000000000000000) (w:World) :
  Calls Tryz.prog 34 #[.agg cr.toArray,.int .i64 0,.int .i64 3] w fun e w'=>e=.returned (.tuple #[.int .i64 n,.int .i64 0])∧Below w.heap.size w w':=by
 obtain ⟨cv,V_cv⟩:∃ c:List Value,Hid (c=.bool (decide (n<0))::lv 32 n.natAbs):=⟨_,hid rfl⟩
 have HR:=hid (qkU (cv:=cv) h hv (by rw [V_cv.out,←hn];rfl))
 have HI:=hid (qyM (ca:=cv) (z:=n) V_cv.out (by omega) (by omega))
 have V_cr:=hid (show cr=rat (decide (r.1<0)) r.1.natAbs false r.2 from h)
 have p1:¬n < -1000000000000000:=by omega
 have p2:¬(1000000000000000:Int)<n:=by omega
 clear h hv hn h1 h2
 obtain ⟨B0,hB0⟩:∃ B,B=w.heap.size:=⟨_,rfl⟩
 obtain ⟨w0,hw0⟩:∃ w0,w0=(w.alloc (.cells cr.toArray 27)):=⟨_,rfl⟩
 have AB0:=hid (show At w0 B0 0 cr by rw [hw0];exact (show At (w.alloc (.cells cr.toArray 27)) B0 0 cr from At.fresh _ cr _ (by simp [hB0])))
 have FR:=hid (show Fr B0 w w0 by rw [hw0,hB0];exact (Fr.start w).alloc _)
 have FR0:=hid FR.out.le
 have hZB0:B0≤B0:=Nat.le_refl _
 have HB0:=hid hB0
 go_enter Tryz.func34,Tryz.ntmps34
 go_upto_region 1 with fail
 rw [←hw0,←hB0]
 clear hw0 hB0
 refine wfn [⟨true,7,8,8,0,0,25,17,cv,0,cv,[]⟩] [(13,.agg cr.toArray),(14,.int .i64 0),(15,.int .i64 3),(16,.tuple #[.agg cv.toArray,.int .i64 0]),(12,.tuple #[.agg cv.toArray,.int .i64 0]),(17,.agg cv.toArray),(18,.int .i64 0),(9,.int .i64 0)] _ (by simp only [zz4,zz5,zq];rfl) (by kernel_rfl) (by kernel_rfl) rfl ?_ ?_ ?_ ?_
 ·intro W' hW'
  have rd0:=AB0.out.below hW'
  refine fxo (wlg (by rfl) rfl rfl rd0 Tryz.underlying27 rfl (qR V_cr.out) (wqn (by simp only [zq]))) ?_
  iterate 2 (refine fxo ?_ ?_;(go_big_quiet_step (fail);(try simp only [zq]);exact wqn rfl))
  refine fxo ?_ ?_;(go_big_quiet_step ((go_at_call 61;exact qaA (HR.out _)));(try simp only [zq]);exact wqn rfl)
  iterate 3 (refine fxo ?_ ?_;(go_big_quiet_step (fail);(try simp only [zq]);exact wqn rfl))
  iterate 2 (refine fxs (by rfl) ?_)
  refine fxo ?_ ?_;(go_big_quiet_step (fail);(try simp only [zq]);exact wqn rfl)
  exact fxn
 ·exact oP _ _ (Tryz.alI (qI V_cv.out)) (oN)
 ·exact oP _ _ (stw rfl (qI V_cv.out) (qbL V_cv.out) (fun _=>rfl)) (oN)
 intro β wx1 E
 replace FR:=hid (FR.out.fnw E rfl)
 obtain ⟨b8,hb8⟩:∃ b,b=β 7:=⟨_,rfl⟩
 have eb8:=E.atNew mms rfl
 simp only at eb8
 rw [←hb8] at eb8
 have lB0_b8:B0<b8:=by have h1:=eb8.1;have h2:=AB0.out.lt;omega
 have hZb8:B0≤b8:=by have h1:=eb8.1;have h2:=FR0.out;omega
 replace AB0:=hid (AB0.out.fnw E rfl)
 have Ab8:=hid eb8.2
 simp only [nP,zr,zq]
 rw [←hb8]
 replace FR0:=hid FR.out.le
 clear E eb8 hb8
 go_upto_region 4 with fail
 refine wfn [] [(23,.agg cv.toArray),(24,.tuple #[.int .i64 n,.bool true]),(22,.tuple #[.int .i64 n,.bool true]),(25,.int .i64 n),(26,.bool true),(10,.int .i64 n),(11,.bool true)] _ (by simp only [zz4,zz5,zq];rfl) (by kernel_rfl) (by kernel_rfl) rfl ?_ ?_ ?_ ?_
 ·intro W' hW'
  have rd0:=Ab8.out.below hW'
  refine fxo (wlg (by rfl) rfl rfl rd0 Tryz.underlying25 rfl (qI V_cv.out) (wqn (by simp only [zq]))) ?_
  refine fxo ?_ ?_;(go_big_quiet_step ((go_at_call 62;exact qaA (HI.out _)));(try simp only [zq]);exact wqn rfl)
  iterate 5 (refine fxo ?_ ?_;(go_big_quiet_step (fail);(try simp only [zq]);exact wqn rfl))
  exact fxn
 ·exact oN
 ·exact oN
 intro β wx2 E
 replace FR:=hid (FR.out.fnw E rfl)
 replace AB0:=hid (AB0.out.fnw E rfl)
 replace Ab8:=hid (Ab8.out.fnw E rfl)
 have hE:=E.below rfl
 simp only [nP,zr,zq]
 replace FR0:=hid FR.out.le
 clear E
 go_wp2
 go_ret2
 exact ⟨rfl,fend HB0 FR⟩
end Go.Proofs.YtooeabibhjbkoaaGreat
