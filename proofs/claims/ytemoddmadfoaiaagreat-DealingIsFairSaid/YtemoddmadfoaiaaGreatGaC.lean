import Derived.Test.YtemoddmadfoaiaaGreatGaA
import Derived.Great.BuildSlice
set_option linter.unusedVariables false
set_option linter.unusedSimpArgs false
set_option maxRecDepth 100000
namespace Go.Proofs.YtemoddmadfoaiaaGreat
open Go.RowKit Big
theorem At.sets {w:World} {b o:Nat} {cs:List Value} (h:At w b o cs) {b2:Nat} (hb:b2≠b) (o2:Nat) (vs:List Value):At (w.setCells b2 o2 vs) b o cs :=
 ⟨qaL h.range vs b2 o2 hb,qbD h.there vs o2 hb,by rw [qaU];exact h.lt⟩
def SlAt (n:Nat) (cs:List Value) (v:Value) (w:World):Prop:=∃ b,v=.slice (some ⟨b,0,none⟩) n n∧At w b 0 cs
def ftSl (v:Value) (q:Nat):Prop:=∃ n c,v=.slice (some ⟨q,0,none⟩) n c
theorem GY.build {P:Program} {fin:Act} {o:Oper} {W:World} {t e:TypeId} {len s:Nat} {parts:Array (Nat × Operand)} (css:List (List Value)) (ho:o.op=.buildSlice t len parts)
  (hparts:(parts.map fun (i,x)=>(i,fin.eval x)).toList=((css.map fun c=>Value.agg c.toArray).zipIdx 0).map fun x=>(x.2,x.1)) (hlen:len=css.length) (hpos:0<len) (hs:0<s) (hcs:∀ c∈css,c.length=s) (hsmall:len*s≤2^24)
  (hu:P.underlying t=some (.slice e)) (hsz:(P.info? e).map (·.size)=some s) (hz:((P.info? e).bind (·.zero)).isSome=true) {X:Nat→Prop} :
  GY P fin o W (fun v w''=>Below W.heap.size W w''∧SlAt len css.flatten v w''∧∀ q,ftSl v q→(W.heap.size≤q∧q<w''.heap.size)∨X q):=by
 cases hie:P.info? e with
 | none=>simp [hie] at hsz
 | some ie =>
  simp only [hie,Option.map_some,Option.some.injEq,Option.bind_some] at hsz hz;obtain ⟨z,hzz⟩:=Option.isSome_iff_exists.1 hz
  have hfl:(css.map fun c=>Value.agg c.toArray).flatMap (fun v=>v.cells.toList)=css.flatten:=by
   rw [List.flatMap_map]
   induction css with
   | nil=>rfl
   | cons c l ih=>simp [List.flatMap_cons,Value.cells]
  have hrun:(execOp fin.eval o).run P W=.ok (.value (.slice (some ⟨W.heap.size,0,none⟩) len len)) (W.alloc (.cells css.flatten.toArray e)):=by
   unfold execOp;have hp:0<len*ie.size:=Nat.mul_pos hpos (by omega)
   simp only [ho,Sem.run_bind,run_buildSlice W t e len _ _ ie z hu hie hzz (by rw [hsz];omega) (by omega) (by
    rw [hparts,hsz];exact Great.fill_whole hs _ _ (fun v hv=>by obtain ⟨c,hc,rfl⟩:=List.mem_map.1 hv;simpa [Value.cells] using hcs c hc) (by simp [hlen])),Result.andThen_ok]
   rw [hfl];rfl
  refine GY.value hrun ⟨(Below.refl _ _).alloc (Nat.le_refl _) _,⟨W.heap.size,rfl,At.fresh W css.flatten e rfl⟩,fun q hq=>?_⟩;obtain ⟨n,c,hq⟩:=hq;injection hq with h1 h2 h3
  injection h1 with h1
  injection h1 with h1
  exact .inl ⟨by omega,by simp;omega⟩
theorem qiF {P:Program} {ops:Array Oper} {rest:List Oper} {o:Oper} {a:Act} {w:World} {Q:Exit→Act→World→Prop} (hg:o.guard=none) {t e:TypeId} {len s:Nat} {parts:Array (Nat × Operand)} (css:List (List Value)) (ho:o.op=.buildSlice t len parts)
  (hparts:(parts.map fun (i,x)=>(i,a.eval x)).toList=((css.map fun c=>Value.agg c.toArray).zipIdx 0).map fun x=>(x.2,x.1)) (hlen:len=css.length) (hpos:0<len) (hs:0<s) (hcs:∀ c∈css,c.length=s) (hsmall:len*s≤2^24)
  (hu:P.underlying t=some (.slice e)) (hsz:(P.info? e).map (·.size)=some s) (hz:((P.info? e).bind (·.zero)).isSome=true)
  (h:wpList P ops Q rest (a.put o.dst (.slice (some ⟨w.heap.size,0,none⟩) len len)) (w.alloc (.cells css.flatten.toArray e))):wpList P ops Q (o::rest) a w:=by
 cases hie:P.info? e with
 | none=>simp [hie] at hsz
 | some ie =>
  simp only [hie,Option.map_some,Option.some.injEq,Option.bind_some] at hsz hz;obtain ⟨z,hzz⟩:=Option.isSome_iff_exists.1 hz;have hp:0<len*ie.size:=Nat.mul_pos hpos (by omega)
  refine wpList_buildSlice hg t e len parts ho _ ie z hu hie hzz (by rw [hsz];omega) (by omega) (by
    rw [hparts,hsz];exact Great.fill_whole hs _ _ (fun v hv=>by obtain ⟨c,hc,rfl⟩:=List.mem_map.1 hv;simpa [Value.cells] using hcs c hc) (by simp [hlen])) ?_
  have hfl:(css.map fun c=>Value.agg c.toArray).flatMap (fun v=>v.cells.toList)=css.flatten:=by
   rw [List.flatMap_map]
   induction css with
   | nil=>rfl
   | cons c l ih=>simp [List.flatMap_cons,Value.cells]
  rw [hfl];exact h
end Go.Proofs.YtemoddmadfoaiaaGreat
set_option maxHeartbeats 8000000
namespace Go.Proofs.YtemoddmadfoaiaaGreat
open Go.RowKit Big
open Lib (hid)
theorem qgI {P:Program} {ops:Array Oper} {op:Oper} {a:Act} {w:World} {rest:List Oper} {Q:Exit→Act→World→Prop} (hgd:op.guard=none) (ty:TypeId) (xs:Array (Nat × Operand)) (ho:op.op=.build ty xs)
  (vs:List (Nat × Value)) (hx:xs.toList.map (fun p=>(p.1,a.eval p.2))=vs) (Z:Array Value) (hb:P.built ty vs=some Z) (h:wpList P ops Q rest (a.put op.dst (.agg Z)) w):wpList P ops Q (op::rest) a w:=by
 refine wpList_plain hgd fun K' hK'=>?_
 unfold Oper.wp execOp;have hr:=run_build (P:=P) w ty vs.toArray Z (by simpa using hb);have hx2:xs.map (fun p=>(p.1,a.eval p.2))=vs.toArray:=by rw [←hx];apply Array.toList_inj.1;simp
 simp [ho,hx2,hr];exact hK' _ _ h
theorem jcJ {q:Nat} (h:q≠0):true=cs1 true q:=by unfold cs1;simp [h]
theorem At.stored {w:World} {b:Nat} {cs ds:List Value} (h:At w b 0 cs) (hl:ds.length=cs.length):At (w.setCells b 0 ds) b 0 ds:=by
 have ht:w.there b 0 ds.length:=by rw [hl];exact h.there
 refine ⟨World.rangeAt_setCells_same w b 0 ds ht,?_,by rw [qaU];exact h.lt⟩;intro j hj;refine ⟨?_,?_⟩
 ·have:=World.rangeAt_setCells_same w b 0 ds ht j _ (List.getElem?_eq_getElem hj)
  rw [this];rfl
 ·exact (qcV _ ds 0 w).trans (ht j hj).2
theorem jcO (x:Int):Tryz.prog.built 140 [(0,.int .u32 x)]=some (.int .u32 x::List.replicate 31 (.int .u32 0)).toArray:=by kernel_rfl
theorem quC {c:List Value} (hc:c=lv 32 1):Tryz.prog.built 140 [(0,.int .u32 1)]=some c.toArray:=by
 have e0:lim 1 0=1:=by unfold lim BB;decide
 have e1:lim 1 1=0:=by unfold lim BB;decide
 have h2:1<BB^2:=by unfold BB;decide
 rw [jcO,hc,qoN h2,e0,e1];rfl
theorem qtJ {ca cb cq cr:List Value} {a b q r:Nat} (h1:ca=.bool true::lv 32 a) (h2:cb=.bool false::lv 32 b) (hq:cq=.bool true::lv 32 q) (hr:cr=.bool false::lv 32 r) (hqv:q=a / b+1) (hrv:r=b - a%b) (hx:a%b≠0) (ha:a<BB^31) (hb:b<BB^32) (h0:b≠0) (w:World) :
  CB 146 #[.agg ca.toArray,.agg cb.toArray] (.tuple #[.agg cq.toArray,.agg cr.toArray,.int .i64 0]) w:=by
 have V_ca:=hid h1;have V_cb:=hid h2;have V_cq:=hid hq;have V_cr:=hid hr;have u31:BB^31<BB^32:=Nat.pow_lt_pow_right (by unfold BB;decide) (by decide);have hdle:=Nat.div_le_self a b;have hmlt:=Nat.mod_lt a (Nat.pos_of_ne_zero h0);have hqB:q<BB^32:=by omega
 have hrB:r<BB^32:=by omega
 have ha0:a≠0:=by intro h;subst h;simp at hx
 obtain ⟨ma,V_ma⟩:=nvx (lv 32 a);obtain ⟨mb,V_mb⟩:=nvx (lv 32 b);obtain ⟨mq,V_mq⟩:=nvx (lv 32 (a / b));obtain ⟨mr,V_mr⟩:=nvx (lv 32 (a%b));obtain ⟨nq,V_nq⟩:=nvx (lv 32 q);obtain ⟨nr,V_nr⟩:=nvx (lv 32 r);obtain ⟨c1,V_c1⟩:=nvx (lv 32 1);obtain ⟨cz,V_cz⟩:=nvx (lv 32 0);obtain ⟨cy,V_cy⟩:=nvx (.bool false::lv 32 0);have HSA:=hid (qbR V_ca.out V_ma.out (show true=cs1 true a by simp [cs1,ha0]) (by omega));have HSB:=hid (qbR V_cb.out V_mb.out (show false=cs1 false b by simp [cs1]) hb);have HM1:=hid (qeO (neg:=true) V_nq.out V_cq.out (show true=cs1 true q from jcJ (by rw [hqv];exact Nat.succ_ne_zero _)) hqB);have HM2:=hid (qeO (neg:=false) V_nr.out V_cr.out rfl hrB);have HQ:=hid (fun (W:World) (p q:Nat) (hp:At W p 0 ma) (hq:At W q 0 mb)=>qqD W hp hq V_ma.out V_mb.out V_mq.out V_mr.out (by omega) hb (Nat.pos_of_ne_zero h0));have HNZ:=hid (show true=!decide (a%b=0) by simp [hx]);have HPL:=hid (fun (W:World) (p q':Nat) (hp:At W p 0 mq) (hq':At W q' 0 c1)=>qwG (c2:=0) (v:=q) W hp hq' V_mq.out V_c1.out V_nq.out (by omega) (by omega) hqB (by rw [hqv];simp));have HMI:=hid (fun (W:World) (p q':Nat) (hp:At W p 0 mb) (hq':At W q' 0 mr)=>qmN (c2:=0) (v:=r) W hp hq' V_mb.out V_mr.out V_nr.out hb (by omega) hrB (by rw [hrv];simp;omega));have HB:=hid (And.intro hb (show a%b<BB^32 by omega));have HZ:=hid (show false=decide (b=0) by simp [h0]);have HB1:=hid (quC V_c1.out);clear h1 h2 hq hr hx ha hb h0 hqB hrB u31 hdle hmlt ha0 hqv hrv;obtain ⟨B0,B1,B2,B3,w0,hw0,hB0,hB1,hB2,hB3,AB0,AB1,AB2,AB3,FR,FR0,HB0,hZB0,l01,hZB1,l12,hZB2,l23,hZB3⟩:=en4 w 25 25 25 25 (bxq ca) (bxq cb) (zQI V_cy) (zQI V_cy);unfold zero33 at hw0;go_enter Tryz.func146,Tryz.ntmps146
 go_upto_region 1 with fail
 rw [←hw0,←hB3,←hB2,←hB1,←hB0];clear hw0 hB0 hB1 hB2 hB3;refine wT [⟨true,5,8,7,0,0,140,17,ma,0,ma,[]⟩] [(14,aT ca),(15,.tuple #[bT,aT ma]),(13,.tuple #[bT,aT ma]),(16,bT),(17,aT ma),(7,bT)] (by simp only [zu];rfl) (by kernel_rfl) rfl ?_ ?_ ?_ ?_
 ·intro W' hW';refine lhI AB0 hW' V_ca rfl<|fo4 ?_ ?_ ?_ ?_<|fxs rfl<|fxo ?_<|fxs rfl<|fxn;all_goals (go_big_quiet_step (exact qaA (HSA.out _));exact wqn rfl)
 ·exact fP1 (Tryz.alG (qG V_ma.out))
 ·exact fP1 (sG V_ma (fun _=>rfl) rfl)
 intro β wx1 E;replace FR:=fnf FR E rfl;obtain ⟨b8,hb8,eb8⟩:=nwb E mms;have lB0_b8:B0<b8:=ltb AB0 eb8.1;have lB1_b8:B1<b8:=ltb AB1 eb8.1;have lB2_b8:B2<b8:=ltb AB2 eb8.1;have lB3_b8:B3<b8:=ltb AB3 eb8.1;have hZb8:B0≤b8:=Nat.le_trans FR0.out eb8.1;clear AB0;replace AB1:=fnh AB1 E rfl;replace AB2:=fnh AB2 E rfl;replace AB3:=fnh AB3 E rfl;have Ab8:=hid eb8.2;simp only [nP,zu];rw [←hb8];replace FR0:=hid FR.out.le;clear E eb8 hb8;go_upto_region 2 with fail
 refine wT [⟨true,5,10,7,0,0,140,22,mb,0,mb,[]⟩] [(19,aT cb),(20,.tuple #[bF,aT mb]),(18,.tuple #[bF,aT mb]),(21,bF),(22,aT mb),(9,bF)] (by simp only [zu];rfl) (by kernel_rfl) rfl ?_ ?_ ?_ ?_
 ·intro W' hW';refine lhI AB1 hW' V_cb rfl<|fo4 ?_ ?_ ?_ ?_<|fxs rfl<|fxo ?_<|fxs rfl<|fxn;all_goals (go_big_quiet_step (exact qaA (HSB.out _));exact wqn rfl)
 ·exact fP1 (Tryz.alG (qG V_mb.out))
 ·exact fP1 (sG V_mb (fun _=>rfl) rfl)
 intro β wx2 E;replace FR:=fnf FR E rfl;obtain ⟨b10,hb10,eb10⟩:=nwb E mms;have lB1_b10:B1<b10:=ltb AB1 eb10.1;have lB2_b10:B2<b10:=ltb AB2 eb10.1;have lB3_b10:B3<b10:=ltb AB3 eb10.1;have lb8_b10:b8<b10:=ltb Ab8 eb10.1;have hZb10:B0≤b10:=Nat.le_trans FR0.out eb10.1;clear AB1;replace AB2:=fnh AB2 E rfl;replace AB3:=fnh AB3 E rfl;replace Ab8:=fnh Ab8 E rfl;have Ab10:=hid eb10.2;simp only [nP,zu];rw [←hb10];replace FR0:=hid FR.out.le;clear E eb10 hb10;go_upto_region 3 with fail
 refine wE [(23,aT mb),(24,aT cz),(25,bF)] (by simp only [zu];rfl) (by kernel_rfl) ?_ ?_
 ·intro W' hW';exact lhG Ab10 hW' V_mb rfl<|fxb (qcA V_cz.out) rfl<|fxo (qdT (r:=false) (by rfl) rfl rfl rfl V_mb.out V_cz.out HB.out.1 qcJ HZ.out (wqn (by simp only [zq])))<|fxn
 intro β wx3 E;replace FR:=fnf FR E rfl;replace AB2:=fnh AB2 E rfl;replace AB3:=fnh AB3 E rfl;replace Ab8:=fnh Ab8 E rfl;replace Ab10:=fnh Ab10 E rfl;simp only [nP,zu];replace FR0:=hid FR.out.le;go_upto_region 5 with fail
 refine wT [⟨true,4,11,6,0,0,140,30,mq,0,mq,[]⟩,⟨true,5,12,7,0,0,140,31,mr,0,mr,[]⟩] [(29,.tuple #[aT mq,aT mr]),(28,.tuple #[aT mq,aT mr]),(30,aT mq),(31,aT mr)] (by simp only [zu];rfl) (by kernel_rfl) rfl ?_ ?_ ?_ ?_
 ·intro W' hW';refine fo4 ?_ ?_ ?_ ?_<|fxs rfl<|fxs rfl<|fxs rfl<|fxs rfl<|fxn;all_goals (go_big_quiet_step (exact qaA (HQ.out _ _ _ ((Ab8.out.below hW').below (qbG _ _ _)) ((Ab10.out.below hW').below (qbG _ _ _))));exact wqn rfl)
 ·exact oP _ _ (Tryz.alG (qG V_mq.out)) (oP _ _ (Tryz.alG (qG V_mr.out)) (oN))
 ·exact oP _ _ (stw rfl (qG V_mq.out) (qpO V_mq.out) (fun _=>rfl)) (oP _ _ (stw rfl (qG V_mr.out) (qpO V_mr.out) (fun _=>rfl)) (oN))
 intro β wx4 E;replace FR:=fnf FR E rfl;obtain ⟨b11,hb11,eb11⟩:=nwb E mms;have lB2_b11:B2<b11:=ltb AB2 eb11.1;have lB3_b11:B3<b11:=ltb AB3 eb11.1;have lb8_b11:b8<b11:=ltb Ab8 eb11.1;have lb10_b11:b10<b11:=ltb Ab10 eb11.1;have hZb11:B0≤b11:=Nat.le_trans FR0.out eb11.1;obtain ⟨b12,hb12,eb12⟩:=nwb E (List.mem_cons_of_mem _ mms);have lB2_b12:B2<b12:=ltb AB2 eb12.1;have lB3_b12:B3<b12:=ltb AB3 eb12.1;have lb8_b12:b8<b12:=ltb Ab8 eb12.1;have lb10_b12:b10<b12:=ltb Ab10 eb12.1;have hZb12:B0≤b12:=Nat.le_trans FR0.out eb12.1;have nb11_b12:b11≠b12:=fun e=>absurd (E.apart _ mms _ (List.mem_cons_of_mem _ mms) rfl rfl (by rw [hb11,hb12] at e;exact e)) (show ¬(4:Nat)=5 by decide)
 replace AB2:=fnh AB2 E rfl;replace AB3:=fnh AB3 E rfl;replace Ab10:=fnh Ab10 E rfl;have Ab11:=hid eb11.2;have Ab12:=hid eb12.2;simp only [nP,zu];rw [←hb11];rw [←hb12];clear E eb11 hb11 eb12 hb12;go_upto_region 6 with fail
 refine wE [(32,bT),(33,bT),(34,aT mr),(35,aT cz),(36,bT),(37,bT)] (by simp only [zu];rfl) (by kernel_rfl) ?_ ?_
 ·intro W' hW';refine fo2 ?_ ?_<|lhG Ab12 hW' V_mr rfl<|fxo (qbO (by rfl) _ _ rfl _ rfl _ (qcA V_cz.out) (wqn (by simp only [zq])))<|fxo (qcH (r:=true) (by rfl) rfl rfl rfl V_mr.out V_cz.out HB.out.2 qcJ HNZ.out (wqn (by simp only [zq])))<|fxo ?_<|fxn;all_goals (go_big_quiet_step (fail);exact wqn rfl)
 intro β wx5 E;replace FR:=fnf FR E rfl;replace AB2:=fnh AB2 E rfl;replace AB3:=fnh AB3 E rfl;replace Ab10:=fnh Ab10 E rfl;replace Ab11:=fnh Ab11 E rfl;replace Ab12:=fnh Ab12 E rfl;simp only [nP,zu];obtain ⟨wa,hwa⟩:=nqx (wx5.alloc (.cells c1.toArray 140));obtain ⟨b40,hb40⟩:=nqx (wx5.heap.size);have A40:=hid (show At wa b40 0 c1 by rw [hwa];exact At.fresh _ c1 _ hb40);have A11:=hid (show At wa b11 0 mq by rw [hwa];exact Ab11.out.alloc _);have FA:=hid (show Fr B0 w wa by rw [hwa];exact FR.out.alloc _);have HTA:=hid (show Below wx5.heap.size wx5 wa by rw [hwa];exact (Below.refl _ _).alloc (Nat.le_refl _) _);have HL11:=hid (show nq.length=mq.length by rw [V_nq.out,V_mq.out,qlL,qlL]);have HT11:=hid (fun (W:World) (h:At W b11 0 mq)=>show W.there b11 0 nq.toArray.size by have:=h.there;rw [List.size_toArray,HL11.out];exact this);have HS11:=hid (show (Tryz.prog.info? 140).map (·.size)=some nq.toArray.size by rw [List.size_toArray];exact qG V_nq.out);have HO11:=hid (qpO V_nq.out);have HWA:=hid hwa;have H40:=hid hb40;clear hwa hb40;go_upto_region 7 with fail
 go_upto_region 8 with (first|(refine qgI rfl 140 _ rfl [(0,.int .u32 1)] rfl c1.toArray HB1.out ?_)|(go_at_call 170;rw [←H40.out,←HWA.out];refine (HPL.out _ _ _ A11.out A40.out).mono ?_;rintro e w7 ⟨rfl,hb7⟩;have HT7:=hid (HT11.out w7 (A11.out.below hb7));have HB7:=hid hb7;clear hb7)|(refine wpList_store_mid rfl _ _ _ rfl b11 0 _ rfl rfl HT7.out HS11.out HO11.out ?_))
 try simp only [zq]
 try simp only [List.toList_toArray]
 obtain ⟨w8,hw8⟩:=nqx (w7.setCells b11 0 nq);rw [←hw8];replace AB2:=hid (show At w8 B2 0 cy by rw [hw8];exact ((AB2.out.below HTA.out).below HB7.out).sets (by omega) _ _);replace AB3:=hid (show At w8 B3 0 cy by rw [hw8];exact ((AB3.out.below HTA.out).below HB7.out).sets (by omega) _ _);replace Ab10:=hid (show At w8 b10 0 mb by rw [hw8];exact ((Ab10.out.below HTA.out).below HB7.out).sets (by omega) _ _);replace Ab12:=hid (show At w8 b12 0 mr by rw [hw8];exact ((Ab12.out.below HTA.out).below HB7.out).sets (by omega) _ _);replace Ab11:=hid (show At w8 b11 0 nq by rw [hw8];exact (A11.out.below HB7.out).stored HL11.out);replace FR:=hid (show Fr B0 w w8 by rw [hw8];exact ⟨qaC (by omega) nq 0 w7 (FA.out.step HB7.out).below,by rw [qaU];exact (FA.out.step HB7.out).le⟩);clear hw8 HWA H40 A40 A11 FA HTA HT11 HS11 HO11 HL11 HT7 HB7;refine wF [⟨false,0,12,1,b12,0,140,44,nr,0,nr,[]⟩] [(44,aT nr)] (by simp only [zu];rfl) (by kernel_rfl) ?_ ?_ (fP1 bnC) ?_ uno ?_ ?_
 ·intro W' hW';refine fxo ?_<|fxs rfl<|fxn
  go_big_quiet_step (exact qaA (HMI.out _ _ _ ((Ab10.out.below hW').below (qbG _ _ _)) ((Ab12.out.below hW').below (qbG _ _ _))));exact wqn rfl
 ·intro W' hK';exact fxs (by kernel_rfl)<|fxs (by kernel_rfl)<|fxn
 ·exact fP1 (fun _=>rmh Ab12 (qG V_mr.out) (qG V_nr.out) rfl)
 ·exact fP1 (sG V_nr (fun _=>rfl) rfl)
 intro β wx6 E;replace FR:=ffh FR E (by omega);replace AB2:=afh AB2 E (by omega);replace AB3:=afh AB3 E (by omega);replace Ab11:=afh Ab11 E (by omega);replace Ab12:=aoh E Ab12 mms;simp only [nP,zu];go_upto_region 9 with fail
 refine wF [⟨false,0,4,7,B2,0,25,49,cq,0,cq,[]⟩,⟨false,0,5,8,B3,0,25,51,cr,0,cr,[]⟩] [(45,bT),(46,bF),(47,bT),(48,aT nq),(49,aT cq),(50,aT nr),(51,aT cr),(6,iT 0)] (by simp only [zu];rfl) (by kernel_rfl) ?_ ?_ (oP _ _ bnC (fP1 bnC)) ?_ ?_ ?_ ?_
 ·intro W' hW';refine fo3 ?_ ?_ ?_<|lhG Ab11 hW' V_nq rfl<|fxo ?_<|lhG Ab12 hW' V_nr rfl<|fxo (by go_big_quiet_step (exact qaA (HM2.out _));exact wqn rfl)<|fxs rfl<|fxs rfl<|fxo ?_<|fxn;all_goals (go_big_quiet_step (exact qaA (HM1.out _));exact wqn rfl)
 ·intro W' hK';have rd0:=At.keep hK' Ab11.out (oP _ _ (fun _=>(by show B2≠b11;omega)) (oP _ _ (fun _=>(by show B3≠b11;omega)) (oN)));have rd1:=At.keep hK' Ab12.out (oP _ _ (fun _=>(by show B2≠b12;omega)) (oP _ _ (fun _=>(by show B3≠b12;omega)) (oN)));refine fxi ?_<|fxi ?_<|fxi ?_<|ldG rd0 V_nq rfl<|fxs (by kernel_rfl)<|ldG rd1 V_nr rfl<|fxs (by kernel_rfl)<|fxs (by kernel_rfl)<|fxs (by kernel_rfl)<|fxi ?_<|fxn;all_goals (first|(refine .inr ?_;go_big_quiet_step (fail);exact wqn rfl)|exact .inl (by kernel_rfl))
 ·exact oP _ _ (fun _=>rmh AB2 (qI V_cy.out) (qI V_cq.out) rfl) (oP _ _ (fun _=>rmh AB3 (qI V_cy.out) (qI V_cr.out) rfl) (oN))
 ·intro q hq r hr hqn hrn e;simp only [List.mem_cons,List.not_mem_nil,or_false] at hq hr;rcases hq with rfl|rfl<;>rcases hr with rfl|rfl<;>first|rfl|(exact Bool.noConfusion hqn)|(exact Bool.noConfusion hrn)|(exfalso;simp only at e;omega)
 ·exact oP _ _ (stw rfl (qI V_cq.out) (qgF V_cq.out) (fun _=>rfl)) (oP _ _ (stw rfl (qI V_cr.out) (qgF V_cr.out) (fun _=>rfl)) (oN))
 intro β wx7 E;replace FR:=hid (FR.out.flow E (oP _ _ (fun _=>(by show B0≤B2;omega)) (oP _ _ (fun _=>(by show B0≤B3;omega)) (oN))));replace AB2:=aoh E AB2 mms;replace AB3:=aoh E AB3 (List.mem_cons_of_mem _ mms);simp only [nP,zu];go_wp2_with fail
 have hld0:=rdI AB2 V_cq;have hld1:=rdI AB3 V_cr;refine bodyPost_ret (v:=.tuple #[.agg cq.toArray,.agg cr.toArray,.int .i64 0]) (by simp [results,Tryz.results146,asAddr,hld0,hld1]) rfl ?_;exact ⟨rfl,qbL HB0 FR⟩
set_option maxHeartbeats 8000000
theorem qmE {ca:List Value} {z:Int} (h:ca=iZ z) (h1:-9223372036854775808<z) (h2:z<9223372036854775808) (w:World) :
  CB 156 #[.agg ca.toArray] (.tuple #[.int .i64 z,.bool true]) w:=by
 have V_ca:=hid (show ca=.bool (decide (z<0))::lv 32 z.natAbs from h);obtain ⟨v,hv⟩:=nqx (z.natAbs);obtain ⟨n,hn⟩:=nqx (decide (z<0));rw [←hv,←hn] at V_ca;have hvb:v<9223372036854775808:=by omega
 have hv2:v<BB^2:=qnO (by omega);have hv32:v<BB^32:=Nat.lt_of_lt_of_le hv2 (Nat.pow_le_pow_right qbH (by omega));obtain ⟨k,hk⟩:=qaO v;have hk64:k≤64:=qvH (k:=64) hk (by omega);have hl:=qeE hv2;have l0:=qaG v 0;have l1:=qaG v 1;obtain ⟨cm,V_cm⟩:=nvx (lv 32 v);have HS:=hid (qbR V_ca.out V_cm.out (show n=cs1 n v by rw [hn,hv,jcI]) hv32);have HV:=hid (And.intro hv32 hk);obtain ⟨x,hx⟩:=nqx (lim v 0);obtain ⟨y,hy⟩:=nqx (lim v 1);have HXY:=hid (And.intro hx hy);rw [←hx,←hy] at hl;rw [←hx] at l0;rw [←hy] at l1;have hor:=jdD l0 l1 hl;have wx:IntKind.u64.wrap (x:Int)=(x:Int):=by unfold BB at l0;rw [IntKind.wrap_u64];omega
 have wy:IntKind.u64.wrap (y:Int)=(y:Int):=by unfold BB at l1;rw [IntKind.wrap_u64];omega
 have HE1:=hid (show n=true→z=-(v:Int) by intro h;rw [hn] at h;have:=of_decide_eq_true h;omega);have HE2:=hid (show n=false→z=(v:Int) by intro h;rw [hn] at h;have:=of_decide_eq_false h;omega);have hkI:¬(64:Int)<(k:Int):=by omega
 clear h hv hn hv2 hv32 hk hk64 hl l0 l1 hx hy h1 h2;obtain ⟨B0,w0,hw0,hB0,AB0,FR,FR0,HB0,hZB0⟩:=en1 w 25 (bxq ca);go_enter Tryz.func156,Tryz.ntmps156
 go_upto_region 1 with fail
 rw [←hw0,←hB0];clear hw0 hB0;refine wT [⟨true,5,5,7,0,0,140,11,cm,0,cm,[]⟩] [(8,aT ca),(9,.tuple #[.bool n,aT cm]),(7,.tuple #[.bool n,aT cm]),(10,.bool n),(11,aT cm),(4,.bool n)] (by simp only [zu];rfl) (by kernel_rfl) rfl ?_ ?_ ?_ ?_
 ·intro W' hW';refine lhI AB0 hW' V_ca rfl<|fo4 ?_ ?_ ?_ ?_<|fxs rfl<|fxo ?_<|fxs rfl<|fxn;all_goals (go_big_quiet_step (exact qaA (HS.out _));exact wqn rfl)
 ·exact fP1 (Tryz.alG (qG V_cm.out))
 ·exact fP1 (sG V_cm (fun _=>rfl) rfl)
 intro β wx1 E;replace FR:=fnf FR E rfl;obtain ⟨b5,hb5,eb5⟩:=nwb E mms;have lB0_b5:B0<b5:=ltb AB0 eb5.1;have hZb5:B0≤b5:=Nat.le_trans FR0.out eb5.1;have Ab5:=hid eb5.2;simp only [nP,zu];rw [←hb5];clear E eb5 hb5;have HM:=hid (show At wx1 b5 0 (lv 32 v) by have:=Ab5.out;rwa [V_cm.out] at this);have HB:=hid (qiO v k b5 0 wx1 HM.out HV.out.1 HV.out.2);have cx:=HM.out.limb (j:=0) (by omega);have cy:=HM.out.limb (j:=1) (by omega);rw [←HXY.out.1] at cx;rw [←HXY.out.2] at cy;obtain ⟨V,hV⟩:=nqx ((v:Int):Int);rw [←hV] at hor;have HVV:=hid hV;have hV0:0≤V:=by omega
 have hV1:V<9223372036854775808:=by omega
 clear hV hvb
 cases n with
 | true =>
  have hle:V≤9223372036854775808:=by omega
  have hneg:IntKind.i64.wrap (IntKind.u64.wrap (-V))=-V:=by rw [IntKind.wrap_u64,IntKind.wrap_i64];omega
  go_wp2_with (go_at_call 172;refine HB.out.mono ?_;rintro e w' ⟨rfl,rfl⟩)
  go_ret2
  have ez:z=-V:=by rw [HVV.out];first|exact HE1.out rfl|exact HE1.out trivial
  exact ⟨by rw [ez];rfl,qbL HB0 FR⟩
 | false =>
  have hpos:IntKind.i64.wrap V=V:=by rw [IntKind.wrap_i64];omega
  go_wp2_with (go_at_call 172;refine HB.out.mono ?_;rintro e w' ⟨rfl,rfl⟩)
  go_ret2
  have ez:z=V:=by rw [HVV.out];first|exact HE2.out rfl|exact HE2.out trivial
  exact ⟨by rw [ez];rfl,qbL HB0 FR⟩
theorem qkK {n:Nat} (h:n≠0):-(n:Int)<0:=by omega
theorem qzX {a:Nat} (d:Nat) {z:Int} (hz:z=a):z / (d:Int)=((a / d:Nat):Int)∧z%(d:Int)=((a%d:Nat):Int):=by subst hz;exact ⟨by simp,by simp⟩
theorem qzY {a d:Nat} {z:Int} (hz:z=-(a:Int)) (hd:d≠0) (hr:a%d≠0):z / (d:Int)=-((a / d+1:Nat):Int)∧z%(d:Int)=((d - a%d:Nat):Int):=by
 have h1:=Nat.div_add_mod a d;have h2:=Nat.mod_lt a (Nat.pos_of_ne_zero hd)
 have e:z=(d:Int)*-((a / d+1:Nat):Int)+((d - a%d:Nat):Int):=by
  rw [hz,Int.mul_neg,←Int.natCast_mul,Nat.mul_add,Nat.mul_one];omega
 have hb:0≤((d - a%d:Nat):Int):=Int.natCast_nonneg _;have hb2:((d - a%d:Nat):Int)<(d:Int):=by omega
 constructor
 ·rw [e,Int.add_comm,Int.add_mul_ediv_left _ _ (by omega),Int.ediv_eq_zero_of_lt hb hb2,Int.zero_add]
 ·rw [e,Int.add_comm,Int.add_mul_emod_self_left,Int.emod_eq_of_lt hb hb2]
theorem quS {a d:Nat} {z:Int} (hz:z=-(a:Int)) (hd:d≠0) (hr:a%d=0):z / (d:Int)=-((a / d:Nat):Int)∧z%(d:Int)=0:=by
 have h1:=Nat.div_add_mod a d;rw [hr,Nat.add_zero] at h1;have e:z=(d:Int)*-((a / d:Nat):Int):=by rw [hz,Int.mul_neg,←Int.natCast_mul,h1]
 exact ⟨by rw [e,Int.mul_ediv_cancel_left _ (by omega)],by rw [e,Int.mul_emod_right]⟩
theorem pdivQ {ca cb cq cr:List Value} {z:Int} {d:Nat} (h1:ca=iZ z) (h2:cb=iZ (d:Int)) (hd:d≠0) (hq:cq=iZ (z / (d:Int))) (hr:cr=iZ (z%(d:Int))) (ha:z.natAbs<BB^31) (hb:d<BB^32) (w:World) :
  CB 146 #[.agg ca.toArray,.agg cb.toArray] (.tuple #[.agg cq.toArray,.agg cr.toArray,.int .i64 0]) w:=by
 have u31:BB^31<BB^32:=Nat.pow_lt_pow_right (by unfold BB;decide) (by decide);have hcb:cb=.bool false::lv 32 d:=by rw [h2];unfold iZ;rw [Int.natAbs_natCast];simp
 by_cases hn:z<0
 ·have hz:z=-(z.natAbs:Int):=by omega
  have hca:ca=.bool true::lv 32 z.natAbs:=by rw [h1];unfold iZ;simp [hn]
  by_cases hx:z.natAbs%d=0
  ·obtain ⟨e1,e2⟩:=quS hz hd hx
   have hk:z.natAbs / d≠0:=by
    intro h
    have:=Nat.div_add_mod z.natAbs d
    rw [h,hx] at this;simp at this;omega
   refine qhM hca hcb (s:=true) ?_ ?_ (by simp [cs1,hk]) (.inr hx) (by omega) hb hd w
   ·rw [hq,e1];unfold iZ;rw [Int.natAbs_neg,Int.natAbs_natCast,decide_eq_true (qkK hk)]
   ·rw [hr,e2,hx];rfl
  ·obtain ⟨e1,e2⟩:=qzY hz hd hx;refine qtJ hca hcb (q:=z.natAbs / d+1) (r:=d - z.natAbs%d) ?_ ?_ rfl rfl hx ha hb hd w
   ·rw [hq,e1];unfold iZ;rw [Int.natAbs_neg,Int.natAbs_natCast,decide_eq_true (qkK (Nat.succ_ne_zero _))]
   ·rw [hr,e2];unfold iZ;rw [Int.natAbs_natCast,decide_eq_false (Int.not_lt.2 (Int.natCast_nonneg _))]
 ·have hz:z=(z.natAbs:Int):=by omega
  have hca:ca=.bool false::lv 32 z.natAbs:=by rw [h1];unfold iZ;simp [hn]
  obtain ⟨e1,e2⟩:=qzX d hz;refine qhM hca hcb (s:=false) ?_ ?_ (by simp [cs1]) (.inl rfl) (by omega) hb hd w
  ·rw [hq,e1];unfold iZ;rw [Int.natAbs_natCast,decide_eq_false (Int.not_lt.2 (Int.natCast_nonneg _))]
  ·rw [hr,e2];unfold iZ;rw [Int.natAbs_natCast,decide_eq_false (Int.not_lt.2 (Int.natCast_nonneg _))]
theorem qwJ {cr:List Value} {r:Qn} (h:cr=ratZ r.1 r.2) (hv:VQ r) (w:World) :
  CB 175 #[.agg cr.toArray,.int .i64 0] (.int .i64 0) w:=by
 have HV:=hid (qgE h hv);have V_cr:=hid (show cr=rat (decide (r.1<0)) r.1.natAbs false r.2 from h);clear h hv;obtain ⟨B0,w0,hw0,hB0,AB0,FR,FR0,HB0,hZB0⟩:=en1 w 27 (bxq cr);go_enter Tryz.func175,Tryz.ntmps175
 go_upto_region 1 with fail
 rw [←hw0,←hB0];clear hw0 hB0;refine wE [(6,aT cr),(7,bT),(8,bF),(5,bF)] (by simp only [zu];rfl) (by kernel_rfl) ?_ ?_
 ·intro W' hW';refine lhR AB0 hW' V_cr rfl<|fo3 ?_ ?_ ?_<|fxn;all_goals (go_big_quiet_step (exact qaA (HV.out _));exact wqn rfl)
 intro β wx1 E;replace FR:=fnf FR E rfl;simp only [nP,zu];go_wp2
 go_ret
 exact ⟨rfl,qbL HB0 FR⟩
theorem jeL (w:World):Calls Tryz.prog 191 #[.int .i64 0] w fun e w'=>e=.returned (.int .i64 1)∧w=w':=by
 go_enter Tryz.func191,Tryz.ntmps191
 go_wp2
 go_loopg [3,5] 0 (fun n p i wr=>p=.int .i64 1∧i=.int .i64 0∧wr=w)
 case atStart=>exact ⟨rfl,rfl,rfl⟩
 case round =>
  obtain ⟨rfl,rfl,rfl⟩:=hrel;go_wp2
  go_ret
  exact ⟨rfl,rfl⟩
theorem qwD {cr cq ct:List Value} {r:Qn} (h:cr=ratZ r.1 r.2) (hv:VQ r) (hq:cq=iZ (r.1 / (r.2:Int))) (ht:ct=iZ (r.1%(r.2:Int))) (w:World) :
  CB 176 #[.agg cr.toArray,.int .i64 0] (.tuple #[.agg cq.toArray,.agg ct.toArray]) w:=by
 obtain ⟨z,d⟩:=r;have V_cr:=hid (show cr=rat (decide (z<0)) z.natAbs false d from h);have V_cq:=hid (show cq=.bool (decide (z / (d:Int)<0))::lv 32 (z / (d:Int)).natAbs from hq);have V_ct:=hid (show ct=.bool (decide (z%(d:Int)<0))::lv 32 (z%(d:Int)).natAbs from ht);have u30:BB^15≤BB^31:=Nat.pow_le_pow_right qbH (by omega);have u31:BB^31<BB^32:=Nat.pow_lt_pow_right (by unfold BB;decide) (by decide);have hz:z.natAbs<BB^15:=hv.num;have hdd:d<BB^15:=hv.den;obtain ⟨cn,V_cn⟩:=nvx (.bool (decide (z<0))::lv 32 z.natAbs);obtain ⟨cd,V_cd⟩:=nvx (.bool false::lv 32 d);obtain ⟨co,V_co⟩:=nvx (.bool false::lv 32 1);obtain ⟨cz,V_cz⟩:=nvx (.bool false::lv 32 0);have HF:=hid (qrK (z:=1) (cr:=co) V_co.out (by decide) (by decide));have HM:=hid (pmulZ (a:=z) (b:=1) (ca:=cn) (cb:=co) (cr:=cn) V_cn.out V_co.out (by rw [Int.mul_one];exact V_cn.out) (by omega) (Nat.one_lt_pow (by omega) (by unfold BB;decide)) (by rw [Int.mul_one];omega));have HD:=hid (pdivQ (z:=z) (d:=d) (ca:=cn) (cb:=cd) V_cn.out (by rw [V_cd.out];unfold iZ;rw [Int.natAbs_natCast];simp) hv.pos hq ht (by omega) (by omega));clear h hq ht u30 u31 hz hdd hv;obtain ⟨B0,B1,B2,w0,hw0,hB0,hB1,hB2,AB0,AB1,AB2,FR,FR0,HB0,hZB0,l01,hZB1,l12,hZB2⟩:=en3 w 27 25 25 (bxq cr) (zQI V_cz) (zQI V_cz);unfold zero33 at hw0;go_enter Tryz.func176,Tryz.ntmps176
 go_upto_region 1 with fail
 rw [←hw0,←hB2,←hB1,←hB0];clear hw0 hB0 hB1 hB2;have AB0_n:=hid (AB0.out.num V_cr.out V_cn.out);have AB0_d:=hid (AB0.out.den V_cr.out V_cd.out);refine wT [⟨true,9,6,10,0,0,25,15,cn,0,cn,[]⟩] [(9,pT B0 0),(10,aT cn),(11,iT 0),(12,iT 1),(13,aT co),(14,.tuple #[aT cn,iT 0]),(8,.tuple #[aT cn,iT 0]),(15,aT cn),(16,iT 0),(7,iT 0)] (by simp only [zu];rfl) (by kernel_rfl) rfl ?_ ?_ ?_ ?_
 ·intro W' hW';refine fxo ?_<|lhI AB0_n hW' V_cn rfl<|fo2 ?_ ?_<|fxo (by go_big_quiet_step (exact qaA (HF.out _));exact wqn rfl)<|fxo (by go_big_quiet_step (exact qaA (HM.out _));exact wqn rfl)<|fo3 ?_ ?_ ?_<|fxs rfl<|fxs rfl<|fxo ?_<|fxn;all_goals (go_big_quiet_step (exact qaJ (jeL _));exact wqn rfl)
 ·exact fP1 (Tryz.alI (qI V_cn.out))
 ·exact fP1 (sI V_cn (fun _=>rfl) rfl)
 intro β wx1 E;replace FR:=fnf FR E rfl;obtain ⟨b6,hb6,eb6⟩:=nwb E mms;have lB0_b6:B0<b6:=ltb AB0 eb6.1;have lB1_b6:B1<b6:=ltb AB1 eb6.1;have lB2_b6:B2<b6:=ltb AB2 eb6.1;have hZb6:B0≤b6:=Nat.le_trans FR0.out eb6.1;replace AB1:=fnh AB1 E rfl;replace AB2:=fnh AB2 E rfl;replace AB0_d:=fnh AB0_d E rfl;have Ab6:=hid eb6.2;simp only [nP,zu];rw [←hb6];replace FR0:=hid FR.out.le;clear E eb6 hb6;go_upto_region 2 with fail
 refine wF [⟨false,0,4,8,B1,0,25,22,cq,0,cq,[]⟩,⟨false,0,5,9,B2,0,25,23,ct,0,ct,[]⟩] [(18,aT cn),(19,pT B0 33),(20,aT cd),(21,.tuple #[aT cq,aT ct,iT 0]),(17,.tuple #[aT cq,aT ct,iT 0]),(22,aT cq),(23,aT ct),(24,iT 0)] (by simp only [zu];rfl) (by kernel_rfl) ?_ ?_ (oP _ _ bnC (fP1 bnC)) ?_ ?_ ?_ ?_
 ·intro W' hW';refine lhI Ab6 hW' V_cn rfl<|fxo ?_<|lhI AB0_d hW' V_cd rfl<|fo4 ?_ ?_ ?_ ?_<|fxo ?_<|fxs rfl<|fxs rfl<|fxn;all_goals (go_big_quiet_step (exact qaA (HD.out _));exact wqn rfl)
 ·intro W' hK';have rd0:=At.keep hK' Ab6.out (oP _ _ (fun _=>(by show B1≠b6;omega)) (oP _ _ (fun _=>(by show B2≠b6;omega)) (oN)));have rd1:=At.keep hK' AB0_d.out (oP _ _ (fun _=>(by show B1≠B0;omega)) (oP _ _ (fun _=>(by show B2≠B0;omega)) (oN)));refine ldI rd0 V_cn rfl<|fxi ?_<|ldI rd1 V_cd rfl<|fxs (by kernel_rfl)<|fxi ?_<|fxi ?_<|fxi ?_<|fxi ?_<|fxs (by kernel_rfl)<|fxs (by kernel_rfl)<|fxn;all_goals (first|(refine .inr ?_;go_big_quiet_step (fail);exact wqn rfl)|exact .inl (by kernel_rfl))
 ·exact oP _ _ (fun _=>rmh AB1 (qI V_cz.out) (qI V_cq.out) rfl) (oP _ _ (fun _=>rmh AB2 (qI V_cz.out) (qI V_ct.out) rfl) (oN))
 ·intro q hq r hr hqn hrn e;simp only [List.mem_cons,List.not_mem_nil,or_false] at hq hr;rcases hq with rfl|rfl<;>rcases hr with rfl|rfl<;>first|rfl|(exact Bool.noConfusion hqn)|(exact Bool.noConfusion hrn)|(exfalso;simp only at e;omega)
 ·exact oP _ _ (stw rfl (qI V_cq.out) (qgF V_cq.out) (fun _=>rfl)) (oP _ _ (stw rfl (qI V_ct.out) (qgF V_ct.out) (fun _=>rfl)) (oN))
 intro β wx2 E;replace FR:=hid (FR.out.flow E (oP _ _ (fun _=>(by show B0≤B1;omega)) (oP _ _ (fun _=>(by show B0≤B2;omega)) (oN))));replace AB1:=aoh E AB1 mms;replace AB2:=aoh E AB2 (List.mem_cons_of_mem _ mms);simp only [nP,zu];replace FR0:=hid FR.out.le;go_upto_region 3 with fail
 have hd1:B1≠B2:=by omega
 refine qcO 25 _ _ _ _ _ _ _ B1 B2 B1 B2 cq ct (by kernel_rfl) (by kernel_rfl) (by kernel_rfl) (by kernel_rfl) (by kernel_rfl) (by kernel_rfl) (by kernel_rfl) (by kernel_rfl) (by kernel_rfl) rfl rfl rfl rfl rfl rfl rfl rfl Tryz.underlying25 rfl (qI V_cq.out) (qI V_ct.out) (qgF V_cq.out) (qgF V_ct.out) rfl rfl rfl rfl rfl rfl AB1.out.range AB2.out.range AB1.out.there AB2.out.there hd1 rfl (.inl rfl) (Ne.symm hd1) ?_;have D1:At wx2.drew B1 0 cq:=AB1.out.same rfl;have D2:At wx2.drew B2 0 ct:=AB2.out.same rfl;have F1:=hid ((D1.stored rfl).sets (Ne.symm hd1) 0 ct);have F2:=hid ((D2.sets hd1 0 cq).stored rfl);have FF:=hid (qaC hZB2 ct 0 _ (qaC hZB1 cq 0 _ (qbN FR.out.below)));obtain ⟨wf,hwf⟩:∃ wf,wf=(wx2.drew.setCells B1 0 cq).setCells B2 0 ct:=⟨_,rfl⟩;rw [←hwf] at F1 F2 FF ⊢
 try simp only [zq]
 clear hwf D1 D2 FR FR0 AB1 AB2;go_wp2_with fail
 have hld0:=rdI F1 V_cq;have hld1:=rdI F2 V_ct;refine bodyPost_ret (v:=.tuple #[.agg cq.toArray,.agg ct.toArray]) (by simp [results,Tryz.results176,asAddr,hld0,hld1]) rfl ?_;exact ⟨rfl,by rw [HB0.out] at FF;exact FF.out⟩
theorem Tryz.info127:(Tryz.prog.info? 193).map (·.size)=some 35:=by kernel_rfl
def btw (c:List Value) (h:Int) (n:Bool):List Value:=c++[.int .i64 h,.bool n]
theorem qzD {c:List Value} {h:Int} {n:Bool} (hc:c.length=33):(btw c h n).length=35:=by simp [btw,hc]
theorem qpI {c:List Value} {h:Int} {n s:Bool} {v:Nat} (hc:c=.bool s::lv 32 v):Tryz.prog.built 193 [(0,.agg c.toArray),(1,.int .i64 h),(2,.bool n)]=some (btw c h n).toArray:=by
 subst hc;kernel_rfl
theorem qfU {P:Program} (w:World) {t:TypeId} {ps rs:Array TypeId} {vr:Bool} (ht:P.underlying t=some (.func ps rs vr)) (f:Fn) (b c:Array Value):(binOp .eql t (.func f b c) .nilFunc).run P w=.ok (.bool false) w:=by
 have h:∀ d:Nat,(Op.equalIn (d+1) t (.func f b c) .nilFunc).run P w=.ok false w:=fun d=>by
  simp [Op.equalIn,run_underlying ht]
 simp only [binOp];simp [Op.equal,Op.maxDepth,h 9999]
theorem qxZ {c:List Value} (w:World):CB 194 #[.agg c.toArray] (.bool false) w:=by
 go_enter Tryz.func194,Tryz.ntmps194
 go_wp2
 go_ret
 exact ⟨rfl,(Below.refl _ _).alloc (Nat.le_refl _) _⟩
theorem qtM {c:List Value} (hl:c.length=35) (w:World):CB 178 #[.agg c.toArray,.int .i64 3] (.func (.func 194) #[.agg c.toArray] #[]) w:=by
 have HA:=hid (At.fresh w c 193 rfl);have HS:=hid (show (Tryz.prog.info? 193).map (·.size)=some c.length by rw [hl];exact Tryz.info127);clear hl;go_enter Tryz.func178,Tryz.ntmps178
 go_wp2_with (refine wpList_load_mid rfl _ _ rfl w.heap.size 0 rfl c _ HA.out.range Tryz.underlying193 rfl HS.out ?_)
 go_ret
 exact ⟨rfl,(Below.refl _ _).alloc (Nat.le_refl _) _⟩
theorem qiA {cr cv:List Value} {r:Qn} (h:cr=ratZ r.1 r.2) (hv:VQ r) (hz:cv=iZ (r.1 / (r.2:Int))) (w:World) :
  CB 155 #[.agg cr.toArray,.int .i64 0,.int .i64 3] (.tuple #[.agg cv.toArray,.int .i64 0]) w:=by
 have HCK:=hid (qwJ h hv);obtain ⟨z,d⟩:=r;have V_cr:=hid (show cr=rat (decide (z<0)) z.natAbs false d from h);have V_cv:=hid (show cv=.bool (decide (z / (d:Int)<0))::lv 32 (z / (d:Int)).natAbs from hz);have u15:BB^15<BB^30:=Nat.pow_lt_pow_right (by unfold BB;decide) (by decide);have u30:2*BB^30≤BB^32:=qzS;have hzB:z.natAbs<BB^15:=hv.num;have hdB:d<BB^15:=hv.den;have hd0:d≠0:=hv.pos;obtain ⟨t,ht⟩:=nqx (z%(d:Int));have ht0:0≤t:=by rw [ht];exact Int.emod_nonneg _ (by omega)
 have ht1:t<d:=by rw [ht];exact Int.emod_lt_of_pos _ (by omega)
 obtain ⟨x,hx⟩:=nqx (cmpZ (t+t) (d:Int));obtain ⟨s,hs⟩:=nqx (z.sign);obtain ⟨cn,V_cn⟩:=nvx (.bool (decide (z<0))::lv 32 z.natAbs);obtain ⟨cd,V_cd⟩:=nvx (.bool false::lv 32 d);obtain ⟨ct,V_ct⟩:=nvx (.bool (decide (t<0))::lv 32 t.natAbs);obtain ⟨cw,V_cw⟩:=nvx (.bool (decide (t+t<0))::lv 32 (t+t).natAbs);obtain ⟨cB,V_cB⟩:=nvx (btw cv x (decide (s<0)));obtain ⟨cz,V_cz⟩:=nvx (.bool false::lv 32 0);have hcd:cd=iZ (d:Int):=by rw [V_cd.out];unfold iZ;rw [Int.natAbs_natCast];simp
 have HSC:=hid (qwD (cq:=cv) (ct:=ct) h hv hz (by rw [V_ct.out,ht];rfl));have HAD:=hid (jeO (a:=t) (b:=t) (ca:=ct) (cb:=ct) (cr:=cw) V_ct.out V_ct.out V_cw.out (by omega) (by omega) (by omega));have HCM:=hid (qqH (z:=x) (ca:=cw) (cb:=cd) V_cw.out V_cd.out (by rw [hx,qpP];rfl) (by omega) (by omega));have HSN:=hid (qrJ (cx:=cn) (z:=z) V_cn.out (by omega));rw [←hs] at HSN;have HST:=hid (qrJ (cx:=ct) (z:=t) V_ct.out (by omega));have hL:cv.length=33:=by rw [V_cv.out,List.length_cons,qlL]
 have HBB:=hid (show Tryz.prog.built 193 [(0,.agg cv.toArray),(1,.int .i64 x),(2,.bool (decide (s<0)))]=some cB.toArray by rw [V_cB.out];exact qpI V_cv.out);have HMO:=hid (qtM (c:=cB) (by rw [V_cB.out];exact qzD hL));have HFL:=hid (qxZ (c:=cB));have HT:=hid (show t=0∨0<t by omega);have qf:∀ (w:World) (f:Fn) (b c:Array Value),(binOp .eql 31 (.func f b c) .nilFunc).run Tryz.prog w=.ok (.bool false) w:=fun w f b c=>qfU w Tryz.underlying31 f b c
 clear h hv hz u15 u30 hzB hdB hd0 ht ht0 ht1 hx hs hcd hL;obtain ⟨B0,B1,w0,hw0,hB0,hB1,AB0,AB1,FR,FR0,HB0,hZB0,l01,hZB1⟩:=en2 w 27 25 (bxq cr) (zQI V_cz);unfold zero33 at hw0;go_enter Tryz.func155,Tryz.ntmps155
 go_upto_region 1 with fail
 rw [←hw0,←hB1,←hB0];clear hw0 hB0 hB1;have AB0_n:=hid (AB0.out.num V_cr.out V_cn.out);have AB0_d:=hid (AB0.out.den V_cr.out V_cd.out);refine wE [(16,aT cr),(17,iT 0),(18,iT 0),(8,iT 0)] (by simp only [zu];rfl) (by kernel_rfl) ?_ ?_
 ·intro W' hW';refine lhR AB0 hW' V_cr rfl<|fo3 ?_ ?_ ?_<|fxn;all_goals (go_big_quiet_step (exact qaA (HCK.out _));exact wqn rfl)
 intro β wx1 E;replace FR:=fnf FR E rfl;replace AB0:=fnh AB0 E rfl;replace AB1:=fnh AB1 E rfl;replace AB0_n:=fnh AB0_n E rfl;replace AB0_d:=fnh AB0_d E rfl;simp only [nP,zu];replace FR0:=hid FR.out.le;go_upto_region 4 with fail
 refine wT [⟨true,6,9,8,0,0,25,27,cv,0,cv,[]⟩,⟨true,7,10,9,0,0,25,28,ct,0,ct,[]⟩] [(24,aT cr),(25,iT 0),(26,.tuple #[aT cv,aT ct]),(23,.tuple #[aT cv,aT ct]),(27,aT cv),(28,aT ct)] (by simp only [zu];rfl) (by kernel_rfl) rfl ?_ ?_ ?_ ?_
 ·intro W' hW';refine lhR AB0 hW' V_cr rfl<|fo4 ?_ ?_ ?_ ?_<|fxo ?_<|fxs rfl<|fxs rfl<|fxs rfl<|fxs rfl<|fxn;all_goals (go_big_quiet_step (exact qaA (HSC.out _));exact wqn rfl)
 ·exact oP _ _ (Tryz.alI (qI V_cv.out)) (oP _ _ (Tryz.alI (qI V_ct.out)) (oN))
 ·exact oP _ _ (stw rfl (qI V_cv.out) (qgF V_cv.out) (fun _=>rfl)) (oP _ _ (stw rfl (qI V_ct.out) (qgF V_ct.out) (fun _=>rfl)) (oN))
 intro β wx2 E;replace FR:=fnf FR E rfl;obtain ⟨b9,hb9,eb9⟩:=nwb E mms;have lB0_b9:B0<b9:=ltb AB0 eb9.1;have lB1_b9:B1<b9:=ltb AB1 eb9.1;have hZb9:B0≤b9:=Nat.le_trans FR0.out eb9.1;obtain ⟨b10,hb10,eb10⟩:=nwb E (List.mem_cons_of_mem _ mms);have lB0_b10:B0<b10:=ltb AB0 eb10.1;have lB1_b10:B1<b10:=ltb AB1 eb10.1;have hZb10:B0≤b10:=Nat.le_trans FR0.out eb10.1;have nb9_b10:b9≠b10:=fun e=>absurd (E.apart _ mms _ (List.mem_cons_of_mem _ mms) rfl rfl (by rw [hb9,hb10] at e;exact e)) (show ¬(6:Nat)=7 by decide)
 replace AB0:=fnh AB0 E rfl;replace AB1:=fnh AB1 E rfl;replace AB0_n:=fnh AB0_n E rfl;replace AB0_d:=fnh AB0_d E rfl;have Ab9:=hid eb9.2;have Ab10:=hid eb10.2;simp only [nP,zu];rw [←hb9];rw [←hb10];replace FR0:=hid FR.out.le;clear E eb9 hb9 eb10 hb10;go_upto_region 5 with fail
 refine wT [⟨true,6,11,7,0,0,25,33,cw,0,cw,[]⟩] [(30,aT ct),(31,aT ct),(32,.tuple #[aT cw,iT 0]),(29,.tuple #[aT cw,iT 0]),(33,aT cw),(34,iT 0),(12,iT 0)] (by simp only [zu];rfl) (by kernel_rfl) rfl ?_ ?_ ?_ ?_
 ·intro W' hW';have rd0:=Ab10.out.below hW';refine ldI rd0 V_ct rfl<|ldI rd0 V_ct rfl<|fo4 ?_ ?_ ?_ ?_<|fxs rfl<|fxs rfl<|fxo ?_<|fxn;all_goals (go_big_quiet_step (exact qaA (HAD.out _));exact wqn rfl)
 ·exact fP1 (Tryz.alI (qI V_cw.out))
 ·exact fP1 (sI V_cw (fun _=>rfl) rfl)
 intro β wx3 E;replace FR:=fnf FR E rfl;obtain ⟨b11,hb11,eb11⟩:=nwb E mms;have lB0_b11:B0<b11:=ltb AB0 eb11.1;have lB1_b11:B1<b11:=ltb AB1 eb11.1;have lb9_b11:b9<b11:=ltb Ab9 eb11.1;have lb10_b11:b10<b11:=ltb Ab10 eb11.1;have hZb11:B0≤b11:=Nat.le_trans FR0.out eb11.1;replace AB1:=fnh AB1 E rfl;replace AB0_n:=fnh AB0_n E rfl;replace AB0_d:=fnh AB0_d E rfl;replace Ab9:=fnh Ab9 E rfl;replace Ab10:=fnh Ab10 E rfl;have Ab11:=hid eb11.2;simp only [nP,zu];rw [←hb11];clear E eb11 hb11;go_upto_region 6 with fail
 refine wE [(35,aT cv),(36,aT cw),(37,pT B0 33),(38,aT cd),(39,iT x),(40,pT B0 0),(41,aT cn),(42,iT s),(43,.bool (decide (s<0))),(44,aT cB),(45,iT 3),(46,.func (.func 194) #[aT cB] #[]),(13,.func (.func 194) #[aT cB] #[])] (by simp only [zu];rfl) (by kernel_rfl) ?_ ?_
 ·intro W' hW';refine lhI Ab9 hW' V_cv rfl<|lhI Ab11 hW' V_cw rfl<|fxo ?_<|lhI AB0_d hW' V_cd rfl<|fo2 ?_ ?_<|lhI AB0_n hW' V_cn rfl<|fxo (by go_big_quiet_step (exact qaA (HSN.out _));exact wqn rfl)<|fxo ?_<|fxb HBB.out rfl<|fxo ?_<|fxo (by go_big_quiet_step (exact qaA (HMO.out _));exact wqn rfl)<|fxo ?_<|fxn;all_goals (go_big_quiet_step (exact qaA (HCM.out _));exact wqn rfl)
 intro β wx4 E;replace FR:=fnf FR E rfl;replace AB1:=fnh AB1 E rfl;replace Ab9:=fnh Ab9 E rfl;replace Ab10:=fnh Ab10 E rfl;simp only [nP,zu];go_upto_region 9 with fail
 rcases HT.out with ht|ht
 ·have hsg:t.sign=0:=by rw [ht];rfl
  rw [hsg] at HST;clear ht hsg;refine wE [(52,aT ct),(53,iT 0),(54,bT),(55,bT),(56,undef),(57,undef),(58,undef),(59,bT),(51,bT)] (by simp only [zu];rfl) (by kernel_rfl) ?_ ?_
  ·intro W' hW';refine lhI Ab10 hW' V_ct rfl<|fo4 ?_ ?_ ?_ ?_<|fo4 ?_ ?_ ?_ ?_<|fxn;all_goals (go_big_quiet_step (exact qaA (HST.out _));exact wqn rfl)
  intro β wx5 E;replace FR:=fnf FR E rfl;replace AB1:=fnh AB1 E rfl;replace Ab9:=fnh Ab9 E rfl;simp only [nP,zu];go_upto_region 10 with fail
  refine wF [⟨false,0,6,1,B1,0,25,60,cv,0,cv,[]⟩] [(60,aT cv),(7,iT 0)] (by simp only [zu];rfl) (by kernel_rfl) ?_ ?_ (fP1 bnC) ?_ uno ?_ ?_
  ·intro W' hW';refine lhI Ab9 hW' V_cv rfl<|fxs rfl<|fxo ?_<|fxn
   go_big_quiet_step (fail);exact wqn rfl
  ·intro W' hK';have rd0:=akh Ab9 hK' (by omega);refine ldI rd0 V_cv rfl<|fxs (by kernel_rfl)<|fxi ?_<|fxn
   first|(refine .inr ?_;go_big_quiet_step (fail);exact wqn rfl)|exact .inl (by kernel_rfl)
  ·exact fP1 (fun _=>rmh AB1 (qI V_cz.out) (qI V_cv.out) rfl)
  ·exact fP1 (sI V_cv (fun _=>rfl) rfl)
  intro β wx6 E;replace FR:=ffh FR E (by omega);replace AB1:=aoh E AB1 mms;simp only [nP,zu];go_wp2_with fail
  have hld:=rdI AB1 V_cv;refine bodyPost_ret (v:=.tuple #[.agg cv.toArray,.int .i64 0]) (by simp [results,Tryz.results155,asAddr,hld]) rfl ?_;exact ⟨rfl,qbL HB0 FR⟩
 ·have hsg:t.sign=1:=Int.sign_eq_one_of_pos ht;rw [hsg] at HST;clear ht hsg;refine wE [(52,aT ct),(53,iT 1),(54,bF),(55,bF),(56,.func (.func 194) #[aT cB] #[]),(57,bF),(58,bT),(59,bT),(51,bT)] (by simp only [zu];rfl) (by kernel_rfl) ?_ ?_
  ·intro W' hW';refine lhI Ab10 hW' V_ct rfl<|fo4 ?_ ?_ ?_ ?_<|fxo (by go_big_quiet_step (exact qaA (HFL.out _));exact wqn rfl)<|fo3 ?_ ?_ ?_<|fxn;all_goals (go_big_quiet_step (exact qaA (HST.out _));exact wqn rfl)
  intro β wx5 E;replace FR:=fnf FR E rfl;replace AB1:=fnh AB1 E rfl;replace Ab9:=fnh Ab9 E rfl;simp only [nP,zu];go_upto_region 10 with fail
  refine wF [⟨false,0,6,1,B1,0,25,60,cv,0,cv,[]⟩] [(60,aT cv),(7,iT 0)] (by simp only [zu];rfl) (by kernel_rfl) ?_ ?_ (fP1 bnC) ?_ uno ?_ ?_
  ·intro W' hW';refine lhI Ab9 hW' V_cv rfl<|fxs rfl<|fxo ?_<|fxn
   go_big_quiet_step (fail);exact wqn rfl
  ·intro W' hK';have rd0:=akh Ab9 hK' (by omega);refine ldI rd0 V_cv rfl<|fxs (by kernel_rfl)<|fxi ?_<|fxn
   first|(refine .inr ?_;go_big_quiet_step (fail);exact wqn rfl)|exact .inl (by kernel_rfl)
  ·exact fP1 (fun _=>rmh AB1 (qI V_cz.out) (qI V_cv.out) rfl)
  ·exact fP1 (sI V_cv (fun _=>rfl) rfl)
  intro β wx6 E;replace FR:=ffh FR E (by omega);replace AB1:=aoh E AB1 mms;simp only [nP,zu];go_wp2_with fail
  have hld:=rdI AB1 V_cv;refine bodyPost_ret (v:=.tuple #[.agg cv.toArray,.int .i64 0]) (by simp [results,Tryz.results155,asAddr,hld]) rfl ?_;exact ⟨rfl,qbL HB0 FR⟩
theorem qhL {cr:List Value} {r:Qn} {n:Int} (h:cr=ratZ r.1 r.2) (hv:VQ r) (hn:n=r.1 / (r.2:Int)) (h1:-1000000000000000≤n) (h2:n≤1000000000000000) (w:World) :
  CB 125 #[.agg cr.toArray,.int .i64 0,.int .i64 3] (.tuple #[.int .i64 n,.int .i64 0]) w:=by
 obtain ⟨cv,V_cv⟩:=nvx (.bool (decide (n<0))::lv 32 n.natAbs);have HR:=hid (qiA (cv:=cv) h hv (by rw [V_cv.out,←hn];rfl));have HI:=hid (qmE (ca:=cv) (z:=n) V_cv.out (by omega) (by omega));have V_cr:=hid (show cr=rat (decide (r.1<0)) r.1.natAbs false r.2 from h);have p1:¬n < -1000000000000000:=by omega
 have p2:¬(1000000000000000:Int)<n:=by omega
 clear h hv hn h1 h2;obtain ⟨B0,w0,hw0,hB0,AB0,FR,FR0,HB0,hZB0⟩:=en1 w 27 (bxq cr);go_enter Tryz.func125,Tryz.ntmps125
 go_upto_region 1 with fail
 rw [←hw0,←hB0];clear hw0 hB0;refine wT [⟨true,7,8,8,0,0,25,17,cv,0,cv,[]⟩] [(13,aT cr),(14,iT 0),(15,iT 3),(16,.tuple #[aT cv,iT 0]),(12,.tuple #[aT cv,iT 0]),(17,aT cv),(18,iT 0),(9,iT 0)] (by simp only [zu];rfl) (by kernel_rfl) rfl ?_ ?_ ?_ ?_
 ·intro W' hW';refine lhR AB0 hW' V_cr rfl<|fo4 ?_ ?_ ?_ ?_<|fo2 ?_ ?_<|fxs rfl<|fxs rfl<|fxo ?_<|fxn;all_goals (go_big_quiet_step (exact qaA (HR.out _));exact wqn rfl)
 ·exact fP1 (Tryz.alI (qI V_cv.out))
 ·exact fP1 (sI V_cv (fun _=>rfl) rfl)
 intro β wx1 E;replace FR:=fnf FR E rfl;obtain ⟨b8,hb8,eb8⟩:=nwb E mms;have lB0_b8:B0<b8:=ltb AB0 eb8.1;have hZb8:B0≤b8:=Nat.le_trans FR0.out eb8.1;have Ab8:=hid eb8.2;simp only [nP,zu];rw [←hb8];clear E eb8 hb8;go_upto_region 4 with fail
 refine wE [(23,aT cv),(24,.tuple #[iT n,bT]),(22,.tuple #[iT n,bT]),(25,iT n),(26,bT),(10,iT n),(11,bT)] (by simp only [zu];rfl) (by kernel_rfl) ?_ ?_
 ·intro W' hW';refine lhI Ab8 hW' V_cv rfl<|fo4 ?_ ?_ ?_ ?_<|fo2 ?_ ?_<|fxn;all_goals (go_big_quiet_step (exact qaA (HI.out _));exact wqn rfl)
 intro β wx2 E;replace FR:=fnf FR E rfl;simp only [nP,zu];go_wp2
 go_ret2
 exact ⟨rfl,qbL HB0 FR⟩
end Go.Proofs.YtemoddmadfoaiaaGreat
