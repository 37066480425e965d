import Derived.Test.YtemoddmadfoaiaaGreatDvA
import Derived.ProofKit
import Derived.OpenShut
import Derived.Deep.Slices
import Derived.Deep.Strs
import Derived.Lib.SmallJoins
import Derived.DataShut
set_option linter.unusedVariables false
set_option linter.unusedSimpArgs false
set_option maxRecDepth 100000
set_option maxHeartbeats 8000000
namespace Go.Proofs.YtemoddmadfoaiaaGreat
open Go.RowKit Big Reg Al Ap Ga Dl Go.ChangeShapes Go.WideShapes Go.ChangeAt Go.Joins Go.Deep
open Lib (hid)
theorem Tryz.cells27:Tryz.prog.cellsOf 27=66:=by kernel_rfl
theorem Tryz.cells25:Tryz.prog.cellsOf 25=33:=by kernel_rfl
theorem Tryz.cells23:Tryz.prog.cellsOf 23=32:=by kernel_rfl
theorem Tryz.cells22:Tryz.prog.cellsOf 22=1:=by kernel_rfl
theorem Tryz.cells4:Tryz.prog.cellsOf 4=1:=by kernel_rfl
theorem qyQ (f:Nat→Nat) (n:Nat) (h:∀ i,i<n→f i<BB):∃ v,v<BB^n∧∀ i,i<n→lim v i=f i:=by
 induction n with
 | zero=>exact ⟨0,by simp,fun i hi=>by omega⟩
 | succ n ih =>
  obtain ⟨v,hv,hl⟩:=ih (fun i hi=>h i (by omega));refine ⟨v+f n*BB^n,?_,fun i hi=>?_⟩
  ·have hfn:=h n (by omega);have h2:(f n+1)*BB^n≤BB*BB^n:=Nat.mul_le_mul_right _ hfn;rw [Nat.pow_succ,Nat.mul_comm (BB^n)];rw [Nat.add_mul,Nat.one_mul] at h2;omega
  ·by_cases hin:i<n
   ·rw [qnL hin];exact hl i hin
   ·obtain rfl:i=n:=by omega
    rw [qnM hv (Nat.le_refl _),Nat.sub_self,qnK (h i (by omega))];simp
theorem lv_get {n i:Nat} (v:Nat) (h:i<n):(lv n v)[i]?=some (.int .u32 (lim v i:Nat)):=by
 unfold lv cells;rw [List.getElem?_map,qgH v h];rfl
set_option maxRecDepth 100000
section
variable {H:Type} {enc:TypeId × Value→H} {w:World} {base:Nat} {spare:Nat→Bool} {held:Bool}
theorem qrW {n:Nat} {cs:List Value} {x:DataW H × List MemPlace} (h:DataW.trod enc Tryz.prog w base spare held n 23 cs=some x):∃ v,v<BB^32∧cs=lv 32 v:=by
 obtain ⟨xs,m,_,_,hl,hn,hf⟩:=DataW.trod_array Tryz.underlying23 h;rw [Tryz.cells23] at hl
 have hi:∀ i,i<32→∃ d:Nat,d<BB∧cs[i]?=some (.int .u32 (d:Int)):=by
  intro i hi;have h1:=hf i hi;obtain ⟨y,hy⟩:∃ y,xs[i]?=some y:=⟨_,List.getElem?_eq_getElem (by omega)⟩;rw [hy,Tryz.cells22,Nat.mul_one] at h1;obtain ⟨d,e,_,hw⟩:=DataW.trod_int Tryz.underlying22 h1;rw [Lit.wf_int_iff] at hw;have hi':i<cs.length:=by omega
  rw [List.drop_eq_getElem_cons hi'] at e;simp only [List.take_succ_cons,List.take_zero,List.cons.injEq,and_true] at e;have h0:(0:Int)≤d:=hw.1;have h2:d≤4294967295:=hw.2;obtain ⟨k,rfl⟩:=Int.eq_ofNat_of_zero_le h0;exact ⟨k,by unfold BB;omega,by rw [List.getElem?_eq_getElem hi',e]⟩
 obtain ⟨f,hf⟩:=choose_lt (α:=Nat) (n:=32) (p:=fun i d=>d<BB∧cs[i]?=some (.int .u32 (d:Int))) hi;obtain ⟨v,hv,hlim⟩:=qyQ f 32 (fun i hi=>(hf i hi).1);refine ⟨v,hv,List.ext_getElem? fun i=>?_⟩;by_cases hlt:i<32
 ·rw [(hf i hlt).2,lv_get v hlt,hlim i hlt]
 ·rw [List.getElem?_eq_none (by omega),List.getElem?_eq_none (by rw [qlL];omega)]
theorem qjJ {n:Nat} {cs:List Value} {x:DataW H × List MemPlace} (h:DataW.trod enc Tryz.prog w base spare held n 25 cs=some x):∃ (b:Bool) (v:Nat),v<BB^32∧cs=.bool b::lv 32 v:=by
 obtain ⟨y0,y1,m,_,hl,h0,h1⟩:=trod_struct2 Tryz.underlying25 h;rw [Tryz.cells25] at hl;simp only [Tryz.cells4,Tryz.cells23,List.drop_zero] at h0 h1;obtain ⟨b,e0,_⟩:=DataW.trod_bool Tryz.underlying4 h0;obtain ⟨v,hv,e1⟩:=qrW h1;refine ⟨b,v,hv,?_⟩
 match cs,hl with
 | c::cs',hl =>
  simp only [List.take_succ_cons,List.take_zero,List.cons.injEq,and_true] at e0;simp only [List.drop_succ_cons,List.drop_zero] at e1;rw [List.take_of_length_le (by simp at hl;omega)] at e1;rw [e0,e1]
theorem qoW {n:Nat} {cs:List Value} {x:DataW H × List MemPlace} (h:DataW.trod enc Tryz.prog w base spare held n 27 cs=some x):∃ (a b:Bool) (p q:Nat),cs=rat a p b q∧p<BB^32∧q<BB^32:=by
 obtain ⟨y0,y1,m,_,hl,h0,h1⟩:=trod_struct2 Tryz.underlying27 h;rw [Tryz.cells27] at hl;simp only [Tryz.cells25,List.drop_zero] at h0 h1;obtain ⟨a,p,hp,e0⟩:=qjJ h0;obtain ⟨b,q,hq,e1⟩:=qjJ h1;refine ⟨a,b,p,q,?_,hp,hq⟩;rw [List.take_of_length_le (by rw [List.length_drop];omega)] at e1;unfold rat;rw [←e0,←e1,List.take_append_drop]
theorem open_ratio {r:Reach} {b0:Nat} {v:Value} {d:DataW H} {p:List MemPlace} (hv:Value.okWide Tryz.prog w r b0 27 v) (h:DataW.Trod enc Tryz.prog w base spare held 27 v d p) :
  ∃ cs:List Value,v=.agg cs.toArray∧∃ (a b:Bool) (p q:Nat),cs=rat a p b q∧p<BB^32∧q<BB^32:=by
 obtain ⟨cs,rfl,hsz⟩:=okWide_struct Tryz.underlying27 hv;obtain ⟨fuel,hf⟩:=h;exact ⟨cs.toList,by simp,qoW (by simpa [Value.cells] using hf)⟩
end
theorem Tryz.infoI33s:(Tryz.prog.info? 25).map (·.size)=some 33:=by kernel_rfl
theorem jeL {n m:Bool} {p q:Nat} (hp:p<BB^32) (hq:q<BB^32) (w:World):(Op.equalIn 10000 27 (.agg (rat n p m q).toArray) (.agg (rat n p m q).toArray)).run Tryz.prog w=.ok true w:=by
 have hu:Tryz.prog.underlying 27=some (.struct (Tryz.prog.fieldsOf 27)):=by rw [Program.fieldsOf,Tryz.underlying27]
 have hst:Tryz.prog.stoodInHeld 27=false:=by kernel_rfl
 rw [run_equalIn_struct w 9999 27 _ _ hu hst]
 have hf : (Tryz.prog.fieldsOf 27).toList = [{ name := "Num", type := 25, offset := 0, embedded := false, tag := "", pkgPath := "", byteOffset := 0 }, { name := "Den", type := 25, offset := 33, embedded := false, tag := "", pkgPath := "", byteOffset := 132 }] := by rw [Program.fieldsOf, Tryz.underlying27]
 rw [hf]
 obtain ⟨i,hi,hs⟩:∃ i,Tryz.prog.info? 25=some i∧i.size=33:=by
  have:=Tryz.infoI33s
  cases h:Tryz.prog.info? 25 with
  | none=>rw [h] at this;cases this
  | some i=>rw [h] at this;injection this with this;exact ⟨i,rfl,this⟩
 have e1:=jcY 9996 n n p p hp hp w;have e2:=jcY 9996 m m q q hq hq w;simp only [Nat.reduceAdd,and_self,decide_true] at e1 e2
 have q1:(part 25 (rat n p m q).toArray 0).run Tryz.prog w=.ok (iV n p) w:=by
  have hx:List.take 33 (Value.bool n::lv 32 p++Value.bool m::lv 32 q)=Value.bool n::lv 32 p:=List.take_left' (by rw [List.length_cons,qlL]);simp [part,isAgg,Sem.run_bind,run_underlying Tryz.underlying25,run_sizeOf w hi,Program.cellsOf,hi,hs,rat]
  simpa [iV] using hx
 have q2:(part 25 (rat n p m q).toArray 33).run Tryz.prog w=.ok (iV m q) w:=by
  have hx:List.drop 33 (Value.bool n::lv 32 p++Value.bool m::lv 32 q)=Value.bool m::lv 32 q:=List.drop_left' (by rw [List.length_cons,qlL]);have hy:List.take 33 (Value.bool m::lv 32 q)=Value.bool m::lv 32 q:=by rw [List.take_of_length_le];rw [List.length_cons,qlL];exact Nat.le_refl _
  simp [part,isAgg,Sem.run_bind,run_underlying Tryz.underlying25,run_sizeOf w hi,Program.cellsOf,hi,hs,rat];rw [show List.drop 32 (lv 32 p++Value.bool m::lv 32 q)=Value.bool m::lv 32 q from List.drop_left' (qlL _ _),hy];rfl
 have n1 : ("Num" : String) ≠ "_" := by simp
 have n2 : ("Den" : String) ≠ "_" := by simp
 unfold Op.eqFields;rw [if_pos n1];simp only [Sem.run_bind,q1,e1,Result.andThen_ok,and_self,decide_true,Bool.not_true,Bool.false_eq_true,if_false];unfold Op.eqFields;rw [if_pos n2];simp only [Sem.run_bind,q2,e2,Result.andThen_ok,and_self,decide_true,Bool.not_true,Bool.false_eq_true,if_false];unfold Op.eqFields;simp only [Sem.run_pure]
theorem eqRr {n m:Bool} {p q:Nat} (hp:p<BB^32) (hq:q<BB^32) (w:World):(binOp .eql 27 (.agg (rat n p m q).toArray) (.agg (rat n p m q).toArray)).run Tryz.prog w=.ok (.bool true) w:=by
 rw [run_eql_struct,jeL hp hq];rfl
theorem wqs {ops:Array Oper} {C:World→Prop} {Q:Act→Prop} {a:Act} {op:Oper} {rest:List Oper} {x y:Operand} {t ty:TypeId} {c:List Value} {b:BinOp} {r:Bool} (hgd:Region.wanted op (yielded ops a.tmps)=true) (ho:op.op=.binOp b ty x y t) (hx:a.eval x=.agg c.toArray) (hy:a.eval y=.agg c.toArray)
  (hm:Tryz.prog.eqGuardType Tryz.prog.depth ty=false) (he:∀ W,(binOp b ty (.agg c.toArray) (.agg c.toArray)).run Tryz.prog W=.ok (.bool r) W)
  (h:wpQuiet Tryz.prog ops C Q rest (a.put op.dst (.bool r))):wpQuiet Tryz.prog ops C Q (op::rest) a:=by
 refine wpQuiet_step (fun K hK=>?_);rw [if_pos hgd];refine ⟨.bool r,fun W hW=>?_,hK _ h⟩;have hg:=run_eqGuard_agg (P:=Tryz.prog) W b ty x y c.toArray c.toArray hm;unfold Oper.quietAt execOp;simp [ho,hx,hy,hg,he W,Oper.quietUpon]
theorem qoN {cr:List Value} {n m:Bool} {p q:Nat} (z k:Int) (h:cr=rat n p m q) (hp:p<BB^32) (hq:q<BB^32):∃ (cR:List Value) (code:Int),(∃ rn rp rm rq,cR=rat rn rp rm rq∧rp<BB^32∧rq<BB^32) ∧
  (∀ W,Calls Tryz.prog 11 #[.agg cr.toArray,.int .i64 z,.int .i64 k] W fun e w'=>e=.returned (.tuple #[.agg cR.toArray,.int .i64 code])∧Below W.heap.size W w') ∧
  ∀ W,Calls Tryz.prog 12 #[.agg cr.toArray,.int .i64 z,.int .i64 k] W fun e w'=>e=.returned (.tuple #[.agg cR.toArray,.int .i64 code])∧Below W.heap.size W w':=by
 have h00:(0:Nat)<BB^32:=Nat.pow_pos qaX
 have bad:∀ code:Int,(okPc n m p q=false∧code=261∨okPc n m p q=true∧(z<0∨6<z)∧code=30∨okPc n m p q=true∧¬z<0∧¬6<z∧(k<0∨1000000000000000<k)∧code=253)→_:=fun code hb =>
  (⟨rat false 0 false 0,code,⟨_,_,_,_,rfl,h00,h00⟩,fun W=>qsR h rfl hp hq hb W,fun W=>qjC (rn:=false) (rp:=0) (rm:=false) (rq:=0) h rfl hp hq rfl rfl (by
   rcases hb with ⟨h1,h2⟩|⟨h1,h2,h3⟩|⟨h1,h2,h3,h4,h5⟩
   ·exact .inl ⟨h1,rfl,h2⟩
   ·exact .inr (.inl ⟨h1,h2,rfl,h3⟩)
   ·exact .inr (.inr (.inl ⟨h1,h2,h3,h4,rfl,h5⟩))) W⟩:∃ (cR:List Value) (code:Int),(∃ rn rp rm rq,cR=rat rn rp rm rq∧rp<BB^32∧rq<BB^32) ∧
  (∀ W,Calls Tryz.prog 11 #[.agg cr.toArray,.int .i64 z,.int .i64 k] W fun e w'=>e=.returned (.tuple #[.agg cR.toArray,.int .i64 code])∧Below W.heap.size W w') ∧
  ∀ W,Calls Tryz.prog 12 #[.agg cr.toArray,.int .i64 z,.int .i64 k] W fun e w'=>e=.returned (.tuple #[.agg cR.toArray,.int .i64 code])∧Below W.heap.size W w')
 cases hb:okPc n m p q with
 | false=>exact bad 261 (.inl ⟨hb,rfl⟩)
 | true =>
  by_cases h1:z<0∨6<z
  ·exact bad 30 (.inr (.inl ⟨hb,h1,rfl⟩))
  by_cases h2:k<0∨1000000000000000<k
  ·exact bad 253 (.inr (.inr ⟨hb,by omega,by omega,h2,rfl⟩))
  clear bad;have hb0:=hb;unfold okPc at hb;simp only [Bool.and_eq_true,decide_eq_true_eq] at hb;obtain ⟨⟨b1,b2,b3,b4,b5,b6⟩,b7⟩:=hb;subst b4;have hz:cr=ratZ (zI n p) q:=by rw [h,jdV b3]
  have hc:=qjR n p;rw [←b3] at hc;have hP:Pc ((zI n p,q):Qn):=⟨⟨by show (zI n p).natAbs<B480;rw [←hc.2];exact b1,b2,b5,by show Nat.gcd (zI n p).natAbs q=1;rw [←hc.2];exact b6⟩,b7⟩;obtain ⟨pl,hpl⟩:∃ pl:Nat,z=(pl:Int):=⟨z.toNat,by omega⟩;have hV:∀ r,worthQ (zI n p,q) pl k=some r→VQ r:=fun r e=>(qdH hP (by omega) (by omega) (by omega) e).1
  obtain ⟨rn,rp,rm,rq,hcR,hr1,hr2⟩:∃ rn rp rm rq,resR (worthQ (zI n p,q) pl k)=rat rn rp rm rq∧rp<BB^32∧rq<BB^32:=by
   cases hw:worthQ (zI n p,q) pl k with
   | none=>exact ⟨_,_,_,_,rfl,h00,h00⟩
   | some r=>exact ⟨_,_,_,_,rfl,qaO (hV r hw).num,qaO (hV r hw).den⟩
  refine ⟨resR (worthQ (zI n p,q) pl k),resE (worthQ (zI n p,q) pl k),⟨rn,rp,rm,rq,hcR,hr1,hr2⟩,fun W=>qjU (p:=(zI n p,q)) hz hP hpl (by omega) (by omega) (by omega) rfl rfl W,fun W=>?_⟩
  exact qjC (cz:=rat false 0 false 0) h hb0.symm hp hq hcR rfl (.inr (.inr (.inr ⟨rfl,by omega,by omega,by omega,by omega,fun V=>by
   have:=qrD (cN:=resN (worthQ (zI n p,q) pl k)) (p:=(zI n p,q)) (pl:=pl) (z:=z) (k:=k) hz hP hpl (by omega) (by omega) (by omega) rfl V
   unfold resN at this;rw [hcR] at this;exact this⟩))) W
theorem worths_any (cr:List Value) (z k:Int) (w:World) (hcr:∃ (a b:Bool) (p q:Nat),cr=rat a p b q∧p<BB^32∧q<BB^32) :
  Calls Tryz.prog 3 #[.agg cr.toArray,.int .i64 z,.int .i64 k] w fun e w'=>e=.returned (.bool true)∧Below w.heap.size w w':=by
 obtain ⟨n,m,p,q,h,hp,hq⟩:=hcr;obtain ⟨cR,code,⟨rn,rp,rm,rq,hcR,hr1,hr2⟩,h1,h2⟩:=qoN z k h hp hq;have V_cr:=hid h;have V_cR:=hid hcR;have H1:=hid h1;have H2:=hid h2;have HAW:=hid jaJ;have HEQ:=hid (fun W=>show (binOp .eql 27 (.agg cR.toArray) (.agg cR.toArray)).run Tryz.prog W=.ok (.bool true) W by rw [hcR];exact eqRr hr1 hr2 W);clear h hp hq hcR hr1 hr2 h1 h2;obtain ⟨B0,w0,hw0,hB0,AB0,FR,FR0,HB0,hZB0⟩:=en1 w 27 (bxq cr);go_enter Tryz.func3,Tryz.ntmps3
 go_upto_region 1 with fail
 rw [←hw0,←hB0];clear hw0 hB0;refine wT [⟨true,7,7,8,0,0,27,16,cR,0,cR,[]⟩] [(12,.agg cr.toArray),(13,.int .i64 z),(14,.int .i64 k),(15,.tuple #[.agg cR.toArray,.int .i64 code]),(11,.tuple #[.agg cR.toArray,.int .i64 code]),(16,.agg cR.toArray),(17,.int .i64 code),(8,.int .i64 code)] (by simp only [zr,zq];rfl) (by kernel_rfl) rfl ?_ ?_ ?_ ?_
 ·intro W' hW';refine ldR (abl AB0 hW') V_cr rfl<|fo4 ?_ ?_ ?_ ?_<|fo2 ?_ ?_<|fxs rfl<|fxs rfl<|fxo ?_<|fxn;all_goals (go_big_quiet_step ((go_at_call 11;exact qaA (H1.out _)));exact wqn rfl)
 ·exact fP1 (Tryz.alR (qR V_cR.out))
 ·exact fP1 (sR V_cR (fun _=>rfl) rfl)
 intro β wx1 E;replace FR:=fnf FR E rfl;obtain ⟨b7,hb7,eb7⟩:=nwb E mms;have lB0_b7:B0<b7:=ltb AB0 eb7.1;have hZb7:B0≤b7:=Nat.le_trans FR0.out eb7.1;replace AB0:=fnh AB0 E rfl;have Ab7:=hid eb7.2;simp only [nP,zr,zq];rw [←hb7];replace FR0:=hid FR.out.le;clear E eb7 hb7;go_upto_region 2 with fail
 refine wT [⟨true,7,9,8,0,0,27,23,cR,0,cR,[]⟩] [(19,.agg cr.toArray),(20,.int .i64 z),(21,.int .i64 k),(22,.tuple #[.agg cR.toArray,.int .i64 code]),(18,.tuple #[.agg cR.toArray,.int .i64 code]),(23,.agg cR.toArray),(24,.int .i64 code),(10,.int .i64 code)] (by simp only [zr,zq];rfl) (by kernel_rfl) rfl ?_ ?_ ?_ ?_
 ·intro W' hW';refine ldR (abl AB0 hW') V_cr rfl<|fo4 ?_ ?_ ?_ ?_<|fo2 ?_ ?_<|fxs rfl<|fxs rfl<|fxo ?_<|fxn;all_goals (go_big_quiet_step ((go_at_call 12;exact qaA (H2.out _)));exact wqn rfl)
 ·exact fP1 (Tryz.alR (qR V_cR.out))
 ·exact fP1 (sR V_cR (fun _=>rfl) rfl)
 intro β wx2 E;replace FR:=fnf FR E rfl;obtain ⟨b9,hb9,eb9⟩:=nwb E mms;have lB0_b9:B0<b9:=ltb AB0 eb9.1;have lb7_b9:b7<b9:=ltb Ab7 eb9.1;have hZb9:B0≤b9:=Nat.le_trans FR0.out eb9.1;replace AB0:=fnh AB0 E rfl;replace Ab7:=fnh Ab7 E rfl;have Ab9:=hid eb9.2;simp only [nP,zr,zq];rw [←hb9];replace FR0:=hid FR.out.le;clear E eb9 hb9;go_upto_region 3 with fail
 refine wT [] [(25,.agg cR.toArray),(26,.agg cR.toArray),(27,.bool true),(28,.bool true),(29,.int .i64 code),(30,.int .i64 code),(31,.bool true),(32,.bool true),(33,.bool true),(34,.bool true),(35,.bool true),(6,.bool true)] (by simp only [zr,zq];rfl) (by kernel_rfl) rfl ?_ oN oN ?_
 ·intro W' hW';refine ldR (abl Ab7 hW') V_cR rfl<|ldR (abl Ab9 hW') V_cR rfl<|fxo (wqs (by rfl) rfl rfl rfl (by kernel_rfl) HEQ.out (wqn (by simp only [zq])))<|fo4 ?_ ?_ ?_ ?_<|fo4 ?_ ?_ ?_ ?_<|fxo ?_<|fxn;all_goals (go_big_quiet_step ((go_at_call 13;exact qaA (HAW.out _)));exact wqn rfl)
 intro β wx3 E;replace FR:=fnf FR E rfl;replace AB0:=fnh AB0 E rfl;replace Ab7:=fnh Ab7 E rfl;replace Ab9:=fnh Ab9 E rfl;simp only [nP,zr,zq];replace FR0:=hid FR.out.le;clear E;go_wp2
 go_ret
 exact ⟨rfl,fend HB0 FR⟩
end Go.Proofs.YtemoddmadfoaiaaGreat
