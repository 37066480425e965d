import Derived.Test.YtemoddmadfoaiaaGreatBiX
import Derived.Test.YtemoddmadfoaiaaGreatQrA
import Derived.Great.BuildSlice
import Derived.Test.YtemoddmadfoaiaaGreatBkM
set_option linter.unusedVariables false
set_option linter.unusedSimpArgs false
set_option maxRecDepth 100000
namespace Go.Proofs.YtemoddmadfoaiaaGreat
open Go.RowKit Big
theorem At.sets {w:World} {b o:Nat} {cs:List Value} (h:At w b o cs) {b2:Nat} (hb:b2≠b) (o2:Nat) (vs:List Value):At (w.setCells b2 o2 vs) b o cs :=
 ⟨qaK h.range vs b2 o2 hb,qaW h.there vs o2 hb,by rw [qbH];exact h.lt⟩
def SlAt (n:Nat) (cs:List Value) (v:Value) (w:World):Prop:=∃ b,v=.slice (some ⟨b,0,none⟩) n n∧At w b 0 cs
def ftSl (v:Value) (q:Nat):Prop:=∃ n c,v=.slice (some ⟨q,0,none⟩) n c
theorem GY.build {P:Program} {fin:Act} {o:Oper} {W:World} {t e:TypeId} {len s:Nat} {parts:Array (Nat × Operand)} (css:List (List Value)) (ho:o.op=.buildSlice t len parts)
  (hparts:(parts.map fun (i,x)=>(i,fin.eval x)).toList=((css.map fun c=>Value.agg c.toArray).zipIdx 0).map fun x=>(x.2,x.1)) (hlen:len=css.length) (hpos:0<len) (hs:0<s) (hcs:∀ c∈css,c.length=s) (hsmall:len*s≤2^24)
  (hu:P.underlying t=some (.slice e)) (hsz:(P.info? e).map (·.size)=some s) (hz:((P.info? e).bind (·.zero)).isSome=true) {X:Nat→Prop} :
  GY P fin o W (fun v w''=>Below W.heap.size W w''∧SlAt len css.flatten v w''∧∀ q,ftSl v q→(W.heap.size≤q∧q<w''.heap.size)∨X q):=by
 cases hie:P.info? e with
 | none=>simp [hie] at hsz
 | some ie =>
  simp only [hie,Option.map_some,Option.some.injEq,Option.bind_some] at hsz hz;obtain ⟨z,hzz⟩:=Option.isSome_iff_exists.1 hz
  have hfl:(css.map fun c=>Value.agg c.toArray).flatMap (fun v=>v.cells.toList)=css.flatten:=by
   rw [List.flatMap_map]
   induction css with
   | nil=>rfl
   | cons c l ih=>simp [List.flatMap_cons,Value.cells]
  have hrun:(execOp fin.eval o).run P W=.ok (.value (.slice (some ⟨W.heap.size,0,none⟩) len len)) (W.alloc (.cells css.flatten.toArray e)):=by
   unfold execOp;have hp:0<len*ie.size:=Nat.mul_pos hpos (by omega)
   simp only [ho,Sem.run_bind,run_buildSlice W t e len _ _ ie z hu hie hzz (by rw [hsz];omega) (by omega) (by
    rw [hparts,hsz];exact Great.fill_whole hs _ _ (fun v hv=>by obtain ⟨c,hc,rfl⟩:=List.mem_map.1 hv;simpa [Value.cells] using hcs c hc) (by simp [hlen])),Result.andThen_ok]
   rw [hfl];rfl
  refine GY.value hrun ⟨(Below.refl _ _).alloc (Nat.le_refl _) _,⟨W.heap.size,rfl,At.fresh W css.flatten e rfl⟩,fun q hq=>?_⟩;obtain ⟨n,c,hq⟩:=hq;injection hq with h1 h2 h3
  injection h1 with h1
  injection h1 with h1
  exact .inl ⟨by omega,by simp;omega⟩
theorem qhE {P:Program} {ops:Array Oper} {rest:List Oper} {o:Oper} {a:Act} {w:World} {Q:Exit→Act→World→Prop} (hg:o.guard=none) {t e:TypeId} {len s:Nat} {parts:Array (Nat × Operand)} (css:List (List Value)) (ho:o.op=.buildSlice t len parts)
  (hparts:(parts.map fun (i,x)=>(i,a.eval x)).toList=((css.map fun c=>Value.agg c.toArray).zipIdx 0).map fun x=>(x.2,x.1)) (hlen:len=css.length) (hpos:0<len) (hs:0<s) (hcs:∀ c∈css,c.length=s) (hsmall:len*s≤2^24)
  (hu:P.underlying t=some (.slice e)) (hsz:(P.info? e).map (·.size)=some s) (hz:((P.info? e).bind (·.zero)).isSome=true)
  (h:wpList P ops Q rest (a.put o.dst (.slice (some ⟨w.heap.size,0,none⟩) len len)) (w.alloc (.cells css.flatten.toArray e))):wpList P ops Q (o::rest) a w:=by
 cases hie:P.info? e with
 | none=>simp [hie] at hsz
 | some ie =>
  simp only [hie,Option.map_some,Option.some.injEq,Option.bind_some] at hsz hz;obtain ⟨z,hzz⟩:=Option.isSome_iff_exists.1 hz;have hp:0<len*ie.size:=Nat.mul_pos hpos (by omega)
  refine wpList_buildSlice hg t e len parts ho _ ie z hu hie hzz (by rw [hsz];omega) (by omega) (by
    rw [hparts,hsz];exact Great.fill_whole hs _ _ (fun v hv=>by obtain ⟨c,hc,rfl⟩:=List.mem_map.1 hv;simpa [Value.cells] using hcs c hc) (by simp [hlen])) ?_
  have hfl:(css.map fun c=>Value.agg c.toArray).flatMap (fun v=>v.cells.toList)=css.flatten:=by
   rw [List.flatMap_map]
   induction css with
   | nil=>rfl
   | cons c l ih=>simp [List.flatMap_cons,Value.cells]
  rw [hfl];exact h
end Go.Proofs.YtemoddmadfoaiaaGreat
set_option maxHeartbeats 8000000
namespace Go.Proofs.YtemoddmadfoaiaaGreat
open Go.RowKit Big
open Lib (hid)
theorem qfP {P:Program} {ops:Array Oper} {op:Oper} {a:Act} {w:World} {rest:List Oper} {Q:Exit→Act→World→Prop} (hgd:op.guard=none) (ty:TypeId) (xs:Array (Nat × Operand)) (ho:op.op=.build ty xs)
  (vs:List (Nat × Value)) (hx:xs.toList.map (fun p=>(p.1,a.eval p.2))=vs) (Z:Array Value) (hb:P.built ty vs=some Z) (h:wpList P ops Q rest (a.put op.dst (.agg Z)) w):wpList P ops Q (op::rest) a w:=by
 refine wpList_plain hgd fun K' hK'=>?_
 unfold Oper.wp execOp;have hr:=run_build (P:=P) w ty vs.toArray Z (by simpa using hb);have hx2:xs.map (fun p=>(p.1,a.eval p.2))=vs.toArray:=by rw [←hx];apply Array.toList_inj.1;simp
 simp [ho,hx2,hr];exact hK' _ _ h
theorem qzT {q:Nat} (h:q≠0):true=cs1 true q:=by unfold cs1;simp [h]
theorem At.stored {w:World} {b:Nat} {cs ds:List Value} (h:At w b 0 cs) (hl:ds.length=cs.length):At (w.setCells b 0 ds) b 0 ds:=by
 have ht:w.there b 0 ds.length:=by rw [hl];exact h.there
 refine ⟨World.rangeAt_setCells_same w b 0 ds ht,?_,by rw [qbH];exact h.lt⟩;intro j hj;refine ⟨?_,?_⟩
 ·have:=World.rangeAt_setCells_same w b 0 ds ht j _ (List.getElem?_eq_getElem hj)
  rw [this];rfl
 ·exact (qcM _ ds 0 w).trans (ht j hj).2
theorem qzY (x:Int):Tryz.prog.built 140 [(0,.int .u32 x)]=some (.int .u32 x::List.replicate 31 (.int .u32 0)).toArray:=by kernel_rfl
theorem qsL {c:List Value} (hc:c=lv 32 1):Tryz.prog.built 140 [(0,.int .u32 1)]=some c.toArray:=by
 have e0:lim 1 0=1:=by unfold lim BB;decide
 have e1:lim 1 1=0:=by unfold lim BB;decide
 have h2:1<BB^2:=by unfold BB;decide
 rw [qzY,hc,qnG h2,e0,e1];rfl
theorem qrT {ca cb cq cr:List Value} {a b q r:Nat} (h1:ca=.bool true::lv 32 a) (h2:cb=.bool false::lv 32 b) (hq:cq=.bool true::lv 32 q) (hr:cr=.bool false::lv 32 r) (hqv:q=a / b+1) (hrv:r=b - a%b) (hx:a%b≠0) (ha:a<BB^31) (hb:b<BB^32) (h0:b≠0) (w:World) :
  Calls Tryz.prog 146 #[.agg ca.toArray,.agg cb.toArray] w fun e w'=>e=.returned (.tuple #[.agg cq.toArray,.agg cr.toArray,.int .i64 0])∧Below w.heap.size w w':=by
 have V_ca:=hid h1;have V_cb:=hid h2;have V_cq:=hid hq;have V_cr:=hid hr;have u31:BB^31<BB^32:=Nat.pow_lt_pow_right (by unfold BB;decide) (by decide);have hdle:=Nat.div_le_self a b;have hmlt:=Nat.mod_lt a (Nat.pos_of_ne_zero h0);have hqB:q<BB^32:=by omega
 have hrB:r<BB^32:=by omega
 have ha0:a≠0:=by intro h;subst h;simp at hx
 obtain ⟨ma,V_ma⟩:∃ c:List Value,Hid (c=lv 32 a):=⟨_,hid rfl⟩;obtain ⟨mb,V_mb⟩:∃ c:List Value,Hid (c=lv 32 b):=⟨_,hid rfl⟩;obtain ⟨mq,V_mq⟩:∃ c:List Value,Hid (c=lv 32 (a / b)):=⟨_,hid rfl⟩;obtain ⟨mr,V_mr⟩:∃ c:List Value,Hid (c=lv 32 (a%b)):=⟨_,hid rfl⟩;obtain ⟨nq,V_nq⟩:∃ c:List Value,Hid (c=lv 32 q):=⟨_,hid rfl⟩;obtain ⟨nr,V_nr⟩:∃ c:List Value,Hid (c=lv 32 r):=⟨_,hid rfl⟩;obtain ⟨c1,V_c1⟩:∃ c:List Value,Hid (c=lv 32 1):=⟨_,hid rfl⟩;obtain ⟨cz,V_cz⟩:∃ c:List Value,Hid (c=lv 32 0):=⟨_,hid rfl⟩;obtain ⟨cy,V_cy⟩:∃ c:List Value,Hid (c=.bool false::lv 32 0):=⟨_,hid rfl⟩;have HSA:=hid (qbL V_ca.out V_ma.out (show true=cs1 true a by simp [cs1,ha0]) (by omega));have HSB:=hid (qbL V_cb.out V_mb.out (show false=cs1 false b by simp [cs1]) hb);have HM1:=hid (qeB (neg:=true) V_nq.out V_cq.out (show true=cs1 true q from qzT (by rw [hqv];exact Nat.succ_ne_zero _)) hqB);have HM2:=hid (qeB (neg:=false) V_nr.out V_cr.out rfl hrB);have HQ:=hid (fun (W:World) (p q:Nat) (hp:At W p 0 ma) (hq:At W q 0 mb)=>qoX W hp hq V_ma.out V_mb.out V_mq.out V_mr.out (by omega) hb (Nat.pos_of_ne_zero h0));have HNZ:=hid (show true=!decide (a%b=0) by simp [hx]);have HPL:=hid (fun (W:World) (p q':Nat) (hp:At W p 0 mq) (hq':At W q' 0 c1)=>quJ (c2:=0) (v:=q) W hp hq' V_mq.out V_c1.out V_nq.out (by omega) (by omega) hqB (by rw [hqv];simp));have HMI:=hid (fun (W:World) (p q':Nat) (hp:At W p 0 mb) (hq':At W q' 0 mr)=>qkJ (c2:=0) (v:=r) W hp hq' V_mb.out V_mr.out V_nr.out hb (by omega) hrB (by rw [hrv];simp;omega));have HB:=hid (And.intro hb (show a%b<BB^32 by omega));have HZ:=hid (show false=decide (b=0) by simp [h0]);have HB1:=hid (qsL V_c1.out);clear h1 h2 hq hr hx ha hb h0 hqB hrB u31 hdle hmlt ha0 hqv hrv;obtain ⟨B0,B1,B2,B3,w0,hw0,hB0,hB1,hB2,hB3,AB0,AB1,AB2,AB3,FR,FR0,HB0,hZB0,l01,hZB1,l12,hZB2,l23,hZB3⟩:=en4 w 25 25 25 25 (bxq ca) (bxq cb) (zQI V_cy) (zQI V_cy);unfold zero33 at hw0;go_enter Tryz.func146,Tryz.ntmps146
 go_upto_region 1 with fail
 rw [←hw0,←hB3,←hB2,←hB1,←hB0];clear hw0 hB0 hB1 hB2 hB3;refine wT [⟨true,5,8,7,0,0,140,17,ma,0,ma,[]⟩] [(14,.agg ca.toArray),(15,.tuple #[.bool true,.agg ma.toArray]),(13,.tuple #[.bool true,.agg ma.toArray]),(16,.bool true),(17,.agg ma.toArray),(7,.bool true)] (by simp only [zr,zq];rfl) (by kernel_rfl) rfl ?_ ?_ ?_ ?_
 ·intro W' hW';refine ldI (abl AB0 hW') V_ca rfl<|fo4 ?_ ?_ ?_ ?_<|fxs rfl<|fxo ?_<|fxs rfl<|fxn;all_goals (go_big_quiet_step ((go_at_call 144;exact qaA (HSA.out _)));exact wqn rfl)
 ·exact fP1 (Tryz.alG (qG V_ma.out))
 ·exact fP1 (sG V_ma (fun _=>rfl) rfl)
 intro β wx1 E;replace FR:=fnf FR E rfl;obtain ⟨b8,hb8,eb8⟩:=nwb E mms;have lB0_b8:B0<b8:=ltb AB0 eb8.1;have lB1_b8:B1<b8:=ltb AB1 eb8.1;have lB2_b8:B2<b8:=ltb AB2 eb8.1;have lB3_b8:B3<b8:=ltb AB3 eb8.1;have hZb8:B0≤b8:=Nat.le_trans FR0.out eb8.1;clear AB0;replace AB1:=fnh AB1 E rfl;replace AB2:=fnh AB2 E rfl;replace AB3:=fnh AB3 E rfl;have Ab8:=hid eb8.2;simp only [nP,zr,zq];rw [←hb8];replace FR0:=hid FR.out.le;clear E eb8 hb8;go_upto_region 2 with fail
 refine wT [⟨true,5,10,7,0,0,140,22,mb,0,mb,[]⟩] [(19,.agg cb.toArray),(20,.tuple #[.bool false,.agg mb.toArray]),(18,.tuple #[.bool false,.agg mb.toArray]),(21,.bool false),(22,.agg mb.toArray),(9,.bool false)] (by simp only [zr,zq];rfl) (by kernel_rfl) rfl ?_ ?_ ?_ ?_
 ·intro W' hW';refine ldI (abl AB1 hW') V_cb rfl<|fo4 ?_ ?_ ?_ ?_<|fxs rfl<|fxo ?_<|fxs rfl<|fxn;all_goals (go_big_quiet_step ((go_at_call 144;exact qaA (HSB.out _)));exact wqn rfl)
 ·exact fP1 (Tryz.alG (qG V_mb.out))
 ·exact fP1 (sG V_mb (fun _=>rfl) rfl)
 intro β wx2 E;replace FR:=fnf FR E rfl;obtain ⟨b10,hb10,eb10⟩:=nwb E mms;have lB1_b10:B1<b10:=ltb AB1 eb10.1;have lB2_b10:B2<b10:=ltb AB2 eb10.1;have lB3_b10:B3<b10:=ltb AB3 eb10.1;have lb8_b10:b8<b10:=ltb Ab8 eb10.1;have hZb10:B0≤b10:=Nat.le_trans FR0.out eb10.1;clear AB1;replace AB2:=fnh AB2 E rfl;replace AB3:=fnh AB3 E rfl;replace Ab8:=fnh Ab8 E rfl;have Ab10:=hid eb10.2;simp only [nP,zr,zq];rw [←hb10];replace FR0:=hid FR.out.le;clear E eb10 hb10;go_upto_region 3 with fail
 refine wT [] [(23,.agg mb.toArray),(24,.agg cz.toArray),(25,.bool false)] (by simp only [zr,zq];rfl) (by kernel_rfl) rfl ?_ oN oN ?_
 ·intro W' hW';exact ldG (abl Ab10 hW') V_mb rfl<|fxb (qbT V_cz.out) rfl<|fxo (qdG (r:=false) (by rfl) rfl rfl rfl V_mb.out V_cz.out HB.out.1 qcC HZ.out (wqn (by simp only [zq])))<|fxn
 intro β wx3 E;replace FR:=fnf FR E rfl;replace AB2:=fnh AB2 E rfl;replace AB3:=fnh AB3 E rfl;replace Ab8:=fnh Ab8 E rfl;replace Ab10:=fnh Ab10 E rfl;simp only [nP,zr,zq];replace FR0:=hid FR.out.le;clear E;go_upto_region 5 with fail
 refine wT [⟨true,4,11,6,0,0,140,30,mq,0,mq,[]⟩,⟨true,5,12,7,0,0,140,31,mr,0,mr,[]⟩] [(29,.tuple #[.agg mq.toArray,.agg mr.toArray]),(28,.tuple #[.agg mq.toArray,.agg mr.toArray]),(30,.agg mq.toArray),(31,.agg mr.toArray)] (by simp only [zr,zq];rfl) (by kernel_rfl) rfl ?_ ?_ ?_ ?_
 ·intro W' hW';refine fo4 ?_ ?_ ?_ ?_<|fxs rfl<|fxs rfl<|fxs rfl<|fxs rfl<|fxn;all_goals (go_big_quiet_step ((go_at_call 145;exact qaA (HQ.out _ _ _ ((Ab8.out.below hW').below (qbG _ _ _)) ((Ab10.out.below hW').below (qbG _ _ _)))));exact wqn rfl)
 ·exact oP _ _ (Tryz.alG (qG V_mq.out)) (oP _ _ (Tryz.alG (qG V_mr.out)) (oN))
 ·exact oP _ _ (stw rfl (qG V_mq.out) (qoI V_mq.out) (fun _=>rfl)) (oP _ _ (stw rfl (qG V_mr.out) (qoI V_mr.out) (fun _=>rfl)) (oN))
 intro β wx4 E;replace FR:=fnf FR E rfl;obtain ⟨b11,hb11,eb11⟩:=nwb E mms;have lB2_b11:B2<b11:=ltb AB2 eb11.1;have lB3_b11:B3<b11:=ltb AB3 eb11.1;have lb8_b11:b8<b11:=ltb Ab8 eb11.1;have lb10_b11:b10<b11:=ltb Ab10 eb11.1;have hZb11:B0≤b11:=Nat.le_trans FR0.out eb11.1;obtain ⟨b12,hb12,eb12⟩:=nwb E (List.mem_cons_of_mem _ mms);have lB2_b12:B2<b12:=ltb AB2 eb12.1;have lB3_b12:B3<b12:=ltb AB3 eb12.1;have lb8_b12:b8<b12:=ltb Ab8 eb12.1;have lb10_b12:b10<b12:=ltb Ab10 eb12.1;have hZb12:B0≤b12:=Nat.le_trans FR0.out eb12.1;have nb11_b12:b11≠b12:=fun e=>absurd (E.apart _ mms _ (List.mem_cons_of_mem _ mms) rfl rfl (by rw [hb11,hb12] at e;exact e)) (show ¬(4:Nat)=5 by decide)
 replace AB2:=fnh AB2 E rfl;replace AB3:=fnh AB3 E rfl;replace Ab8:=fnh Ab8 E rfl;replace Ab10:=fnh Ab10 E rfl;have Ab11:=hid eb11.2;have Ab12:=hid eb12.2;simp only [nP,zr,zq];rw [←hb11];rw [←hb12];replace FR0:=hid FR.out.le;clear E eb11 hb11 eb12 hb12;go_upto_region 6 with fail
 refine wT [] [(32,.bool true),(33,.bool true),(34,.agg mr.toArray),(35,.agg cz.toArray),(36,.bool true),(37,.bool true)] (by simp only [zr,zq];rfl) (by kernel_rfl) rfl ?_ oN oN ?_
 ·intro W' hW';refine fo2 ?_ ?_<|ldG (abl Ab12 hW') V_mr rfl<|fxo (qbJ (by rfl) _ _ rfl _ rfl _ (qbT V_cz.out) (wqn (by simp only [zq])))<|fxo (qbZ (r:=true) (by rfl) rfl rfl rfl V_mr.out V_cz.out HB.out.2 qcC HNZ.out (wqn (by simp only [zq])))<|fxo ?_<|fxn;all_goals (go_big_quiet_step (fail);exact wqn rfl)
 intro β wx5 E;replace FR:=fnf FR E rfl;replace AB2:=fnh AB2 E rfl;replace AB3:=fnh AB3 E rfl;replace Ab8:=fnh Ab8 E rfl;replace Ab10:=fnh Ab10 E rfl;replace Ab11:=fnh Ab11 E rfl;replace Ab12:=fnh Ab12 E rfl;simp only [nP,zr,zq];replace FR0:=hid FR.out.le;clear E;obtain ⟨wa,hwa⟩:∃ wa,wa=wx5.alloc (.cells c1.toArray 140):=⟨_,rfl⟩;obtain ⟨b40,hb40⟩:∃ b,b=wx5.heap.size:=⟨_,rfl⟩;have A40:=hid (show At wa b40 0 c1 by rw [hwa];exact At.fresh _ c1 _ hb40);have A11:=hid (show At wa b11 0 mq by rw [hwa];exact Ab11.out.alloc _);have FA:=hid (show Fr B0 w wa by rw [hwa];exact FR.out.alloc _);have HTA:=hid (show Below wx5.heap.size wx5 wa by rw [hwa];exact (Below.refl _ _).alloc (Nat.le_refl _) _);have HL11:=hid (show nq.length=mq.length by rw [V_nq.out,V_mq.out,qlL,qlL]);have HT11:=hid (fun (W:World) (h:At W b11 0 mq)=>show W.there b11 0 nq.toArray.size by have:=h.there;rw [List.size_toArray,HL11.out];exact this);have HS11:=hid (show (Tryz.prog.info? 140).map (·.size)=some nq.toArray.size by rw [List.size_toArray];exact qG V_nq.out);have HO11:=hid (qoI V_nq.out);have HWA:=hid hwa;have H40:=hid hb40;clear hwa hb40;go_upto_region 7 with fail
 go_upto_region 8 with (first|(refine qfP rfl 140 _ rfl [(0,.int .u32 1)] rfl c1.toArray HB1.out ?_)|(go_at_call 170;rw [←H40.out,←HWA.out];refine (HPL.out _ _ _ A11.out A40.out).mono ?_;rintro e w7 ⟨rfl,hb7⟩;have HT7:=hid (HT11.out w7 (A11.out.below hb7));have HB7:=hid hb7;clear hb7)|(refine wpList_store_mid rfl _ _ _ rfl b11 0 _ rfl rfl HT7.out HS11.out HO11.out ?_))
 try simp only [zq]
 try simp only [List.toList_toArray]
 obtain ⟨w8,hw8⟩:∃ w8,w8=w7.setCells b11 0 nq:=⟨_,rfl⟩;rw [←hw8];replace AB2:=hid (show At w8 B2 0 cy by rw [hw8];exact ((AB2.out.below HTA.out).below HB7.out).sets (by omega) _ _);replace AB3:=hid (show At w8 B3 0 cy by rw [hw8];exact ((AB3.out.below HTA.out).below HB7.out).sets (by omega) _ _);replace Ab8:=hid (show At w8 b8 0 ma by rw [hw8];exact ((Ab8.out.below HTA.out).below HB7.out).sets (by omega) _ _);replace Ab10:=hid (show At w8 b10 0 mb by rw [hw8];exact ((Ab10.out.below HTA.out).below HB7.out).sets (by omega) _ _);replace Ab12:=hid (show At w8 b12 0 mr by rw [hw8];exact ((Ab12.out.below HTA.out).below HB7.out).sets (by omega) _ _);replace Ab11:=hid (show At w8 b11 0 nq by rw [hw8];exact (A11.out.below HB7.out).stored HL11.out);replace FR:=hid (show Fr B0 w w8 by rw [hw8];exact ⟨qaB (by omega) nq 0 w7 (FA.out.step HB7.out).below,by rw [qbH];exact (FA.out.step HB7.out).le⟩);replace FR0:=hid FR.out.le;clear hw8 HWA H40 A40 A11 FA HTA HT11 HS11 HO11 HL11 HT7 HB7;refine wF [⟨false,0,12,1,b12,0,140,44,nr,0,nr,[]⟩] [(44,.agg nr.toArray)] (by simp only [zr,zq];rfl) (by kernel_rfl) ?_ ?_ (fP1 bnC) ?_ uno ?_ ?_
 ·intro W' hW';refine fxo ?_<|fxs rfl<|fxn
  go_big_quiet_step ((go_at_call 171;exact qaA (HMI.out _ _ _ ((Ab10.out.below hW').below (qbG _ _ _)) ((Ab12.out.below hW').below (qbG _ _ _)))));exact wqn rfl
 ·intro W' hK';exact fxs (by kernel_rfl)<|fxs (by kernel_rfl)<|fxn
 ·exact fP1 (fun _=>⟨Ab12.out.lt,rfl,At.room Ab12.out (qG V_mr.out) (qG V_nr.out)⟩)
 ·exact fP1 (sG V_nr (fun _=>rfl) rfl)
 intro β wx6 E;replace FR:=ffh FR E (by show B0≤b12;omega);replace AB2:=afh AB2 E (by show b12≠B2;omega);replace AB3:=afh AB3 E (by show b12≠B3;omega);replace Ab8:=afh Ab8 E (by show b12≠b8;omega);replace Ab10:=afh Ab10 E (by show b12≠b10;omega);replace Ab11:=afh Ab11 E (by show b12≠b11;omega);replace Ab12:=hid (show At wx6 b12 0 nr from E.atOld mms rfl Ab12.out.lt);simp only [nP,zr,zq];replace FR0:=hid FR.out.le;clear E;go_upto_region 9 with fail
 refine wF [⟨false,0,4,7,B2,0,25,49,cq,0,cq,[]⟩,⟨false,0,5,8,B3,0,25,51,cr,0,cr,[]⟩] [(45,.bool true),(46,.bool false),(47,.bool true),(48,.agg nq.toArray),(49,.agg cq.toArray),(50,.agg nr.toArray),(51,.agg cr.toArray),(6,.int .i64 0)] (by simp only [zr,zq];rfl) (by kernel_rfl) ?_ ?_ (oP _ _ bnC (fP1 bnC)) ?_ ?_ ?_ ?_
 ·intro W' hW';refine fo3 ?_ ?_ ?_<|ldG (abl Ab11 hW') V_nq rfl<|fxo ?_<|ldG (abl Ab12 hW') V_nr rfl<|fxo (by go_big_quiet_step ((go_at_call 112;exact qaA (HM2.out _)));exact wqn rfl)<|fxs rfl<|fxs rfl<|fxo ?_<|fxn;all_goals (go_big_quiet_step ((go_at_call 112;exact qaA (HM1.out _)));exact wqn rfl)
 ·intro W' hK';have rd0:=At.keep hK' Ab11.out (oP _ _ (fun _=>(by show B2≠b11;omega)) (oP _ _ (fun _=>(by show B3≠b11;omega)) (oN)));have rd1:=At.keep hK' Ab12.out (oP _ _ (fun _=>(by show B2≠b12;omega)) (oP _ _ (fun _=>(by show B3≠b12;omega)) (oN)));refine fxi ?_<|fxi ?_<|fxi ?_<|ldG rd0 V_nq rfl<|fxs (by kernel_rfl)<|ldG rd1 V_nr rfl<|fxs (by kernel_rfl)<|fxs (by kernel_rfl)<|fxs (by kernel_rfl)<|fxi ?_<|fxn;all_goals (first|(refine .inr ?_;go_big_quiet_step (fail);exact wqn rfl)|exact .inl (by kernel_rfl))
 ·exact oP _ _ (fun _=>⟨AB2.out.lt,rfl,At.room AB2.out (qI V_cy.out) (qI V_cq.out)⟩) (oP _ _ (fun _=>⟨AB3.out.lt,rfl,At.room AB3.out (qI V_cy.out) (qI V_cr.out)⟩) (oN))
 ·intro q hq r hr hqn hrn e;simp only [List.mem_cons,List.not_mem_nil,or_false] at hq hr;rcases hq with rfl|rfl<;>rcases hr with rfl|rfl<;>first|rfl|(exact Bool.noConfusion hqn)|(exact Bool.noConfusion hrn)|(exfalso;simp only at e;omega)
 ·exact oP _ _ (stw rfl (qI V_cq.out) (qfM V_cq.out) (fun _=>rfl)) (oP _ _ (stw rfl (qI V_cr.out) (qfM V_cr.out) (fun _=>rfl)) (oN))
 intro β wx7 E;replace FR:=hid (FR.out.flow E (oP _ _ (fun _=>(by show B0≤B2;omega)) (oP _ _ (fun _=>(by show B0≤B3;omega)) (oN))));replace AB2:=hid (show At wx7 B2 0 cq from E.atOld mms rfl AB2.out.lt);replace AB3:=hid (show At wx7 B3 0 cr from E.atOld (List.mem_cons_of_mem _ mms) rfl AB3.out.lt);replace Ab8:=hid (At.flow E Ab8.out (oP _ _ (fun _=>(by show B2≠b8;omega)) (oP _ _ (fun _=>(by show B3≠b8;omega)) (oN))));replace Ab10:=hid (At.flow E Ab10.out (oP _ _ (fun _=>(by show B2≠b10;omega)) (oP _ _ (fun _=>(by show B3≠b10;omega)) (oN))));replace Ab11:=hid (At.flow E Ab11.out (oP _ _ (fun _=>(by show B2≠b11;omega)) (oP _ _ (fun _=>(by show B3≠b11;omega)) (oN))));replace Ab12:=hid (At.flow E Ab12.out (oP _ _ (fun _=>(by show B2≠b12;omega)) (oP _ _ (fun _=>(by show B3≠b12;omega)) (oN))));simp only [nP,zr,zq];replace FR0:=hid FR.out.le;clear E;go_wp2_with fail
 have hld0:=AB2.out.read (P:=Tryz.prog) Tryz.underlying25 rfl (qI V_cq.out);have hld1:=AB3.out.read (P:=Tryz.prog) Tryz.underlying25 rfl (qI V_cr.out);refine bodyPost_ret (v:=.tuple #[.agg cq.toArray,.agg cr.toArray,.int .i64 0]) (by simp [results,Tryz.results146,asAddr,hld0,hld1]) rfl ?_;exact ⟨rfl,fend HB0 FR⟩
end Go.Proofs.YtemoddmadfoaiaaGreat
