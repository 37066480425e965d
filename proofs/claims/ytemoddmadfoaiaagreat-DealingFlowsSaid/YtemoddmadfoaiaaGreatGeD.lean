import Derived.Test.YtemoddmadfoaiaaGreatGaC
import Derived.Test.YtemoddmadfoaiaaGreatGaD
import Derived.Test.YtemoddmadfoaiaaGreatApI
import Derived.Lib.MinMax
import Derived.BigFrame
import Derived.Test.YtemoddmadfoaiaaGreatCpA
import Derived.Test.YtemoddmadfoaiaaGreatToA
import Derived.Great.BuildSlice
set_option linter.unusedVariables false
set_option linter.unusedSimpArgs false
set_option maxRecDepth 100000
namespace Go.Proofs.YtemoddmadfoaiaaGreat
open Go.RowKit Big Reg Al Ap Ga
namespace Ga
end Ga
theorem qqS {P:Program} {ops:Array Oper} {rest:List Oper} {o:Oper} {a:Act} {w:World} {Q:Exit→Act→World→Prop} (hg:o.guard=none) (x y:Operand) (ats:Array TypeId) (ho:o.op=.call { callee:=.builtin .max,args:=#[x,y],argTypes:=ats })
  (k:IntKind) (X Y:Int) (hx:a.eval x=.int k X) (hy:a.eval y=.int k Y) (h:wpList P ops Q rest (a.put o.dst (.int k (max X Y))) w):wpList P ops Q (o::rest) a w:=by
 refine wpList_plain hg fun K' hK'=>?_
 unfold Oper.wp execOp
 simp [Act.eval] at hx hy
 simp [ho,hx,hy,resolve,invoke,go_sem,BigFrame.builtin_max,Go.Lib.run_max_ints]
 exact hK' _ _ h
theorem At.cell0 {w:World} {b:Nat} {v:Value} {cs:List Value} (h:At w b 0 (v::cs)):w.cell? ⟨b,0,none⟩=some v:=h.cell (j:=0) rfl
end Go.Proofs.YtemoddmadfoaiaaGreat
namespace Go.Proofs.YtemoddmadfoaiaaGreat
open Go.RowKit Big
def nm (n:Bool) (p:Nat) (m:Bool) (q:Nat) (e:Int):List Value:=rat n p m q++[.int .i64 e]
theorem jdP (n m:Bool) (p q:Nat) (e:Int):(nm n p m q e).length=67:=by simp [nm,qdE]
theorem jdO (n m:Bool) (p q:Nat) (e:Int):∀ v∈nm n p m q e,v.oneCell'=true:=by
 intro v hv
 rcases List.mem_append.1 hv with h|h
 ·exact qtP n p m q v h
 ·rw [List.mem_singleton.1 h];rfl
theorem Tryz.infoN:(Tryz.prog.info? 70).map (·.size)=some 67:=by kernel_rfl
theorem qxE {cs:List Value} {n m:Bool} {p q:Nat} {e:Int} (h:cs=nm n p m q e):(Tryz.prog.info? 70).map (·.size)=some cs.length:=by rw [h,jdP];exact Tryz.infoN
theorem oneN {cs:List Value} {n m:Bool} {p q:Nat} {e:Int} (h:cs=nm n p m q e):cs.toArray.all (·.oneCell')=true:=by rw [h];exact all_oneCell_toArray (jdO n m p q e)
theorem qqL {c r:List Value} {n m:Bool} {p q:Nat} {e:Int} (hc:c=rat n p m q) (hr:r=nm n p m q e):Tryz.prog.built 70 [(0,.agg c.toArray),(1,.int .i64 e)]=some r.toArray:=by
 subst hc hr;unfold nm rat;kernel_rfl
theorem Tryz.zeroN:Tryz.zeroCells70=(nm false 0 false 0 0).toArray:=by unfold nm rat;rw [qcF];rfl
theorem At.val {w:World} {b:Nat} {c d:List Value} {n m:Bool} {p q:Nat} {e:Int} (h:At w b 0 c) (hc:c=nm n p m q e) (hd:d=rat n p m q):At w b 0 d:=by
 subst hc hd;exact At.head h
end Go.Proofs.YtemoddmadfoaiaaGreat
set_option maxHeartbeats 8000000
namespace Go.Proofs.YtemoddmadfoaiaaGreat
open Go.RowKit Big
open Lib (hid)
def resN (o:Option Qn):List Value:=resR o++[.int .i64 (resE o)]
theorem eOver {cN:List Value} {x y:Int} {d:Nat} (hy:y=(d:Int)) (hd:d≠0) (hN:cN=resN (mkQ x d)) (h1:-9223372036854775808≤x) (h2:x≤9223372036854775807) (h3:y≤9223372036854775807) (w:World) :
  Calls Tryz.prog 39 #[.int .i64 x,.int .i64 y] w fun e w'=>e=.returned (.agg cN.toArray)∧Below w.heap.size w w':=by
 obtain ⟨cR,hR⟩:∃ c,c=resR (mkQ x d):=⟨_,rfl⟩
 obtain ⟨code,hc⟩:∃ c,c=resE (mkQ x d):=⟨_,rfl⟩
 obtain ⟨rn,rp,rm,rq,hcR⟩:∃ rn rp rm rq,cR=rat rn rp rm rq:=by
  rw [hR]
  cases mkQ x d with
  | none=>exact ⟨_,_,_,_,rfl⟩
  | some r=>exact ⟨_,_,_,_,rfl⟩
 have V_cR:=hid hcR
 have V_cN:=hid (show cN=nm rn rp rm rq code by rw [hN];unfold resN nm;rw [←hR,←hc,hcR])
 obtain ⟨cz,V_cz⟩:∃ c:List Value,Hid (c=nm false 0 false 0 0):=⟨_,hid rfl⟩
 have HO:=hid (rofQ (cR:=cR) (code:=code) hy hd hR hc h1 h2 h3)
 clear hy hd hN h1 h2 h3 hR hc hcR
 obtain ⟨B0,hB0⟩:∃ B,B=w.heap.size:=⟨_,rfl⟩
 obtain ⟨w0,hw0⟩:∃ w0,w0=(w.alloc (.cells Tryz.zeroCells70 70)):=⟨_,rfl⟩
 have AB0:=hid (show At w0 B0 0 cz by rw [hw0];exact (show At (w.alloc (.cells Tryz.zeroCells70 70)) B0 0 cz from (by rw [Tryz.zeroN,V_cz.out];exact At.fresh _ (nm false 0 false 0 0) _ (by simp [hB0]))))
 have FR:=hid (show Fr B0 w w0 by rw [hw0,hB0];exact (Fr.start w).alloc _)
 have FR0:=hid FR.out.le
 have hZB0:B0≤B0:=Nat.le_refl _
 have HB0:=hid hB0
 go_enter Tryz.func39,Tryz.ntmps39
 go_upto_region 1 with fail
 rw [←hw0,←hB0]
 clear hw0 hB0
 refine wfn [⟨true,6,5,7,0,0,27,11,cR,0,cR,[]⟩] [(8,.int .i64 x),(9,.int .i64 y),(10,.tuple #[.agg cR.toArray,.int .i64 code]),(7,.tuple #[.agg cR.toArray,.int .i64 code]),(11,.agg cR.toArray),(12,.int .i64 code),(6,.int .i64 code)] _ (by simp only [zz4,zz5,zq];rfl) (by kernel_rfl) (by kernel_rfl) rfl ?_ ?_ ?_ ?_
 ·intro W' hW'
  iterate 2 (refine fxo ?_ ?_;(go_big_quiet_step (fail);(try simp only [zq]);exact wqn rfl))
  refine fxo ?_ ?_;(go_big_quiet_step ((go_at_call 73;exact qaA (HO.out _)));(try simp only [zq]);exact wqn rfl)
  iterate 3 (refine fxo ?_ ?_;(go_big_quiet_step (fail);(try simp only [zq]);exact wqn rfl))
  iterate 2 (refine fxs (by rfl) ?_)
  refine fxo ?_ ?_;(go_big_quiet_step (fail);(try simp only [zq]);exact wqn rfl)
  exact fxn
 ·exact oP _ _ (Tryz.alR (qR V_cR.out)) (oN)
 ·exact oP _ _ (stw rfl (qR V_cR.out) (qfI V_cR.out) (fun _=>rfl)) (oN)
 intro β wx1 E
 replace FR:=hid (FR.out.fnw E rfl)
 obtain ⟨b5,hb5⟩:∃ b,b=β 6:=⟨_,rfl⟩
 have eb5:=E.atNew mms rfl
 simp only at eb5
 rw [←hb5] at eb5
 have lB0_b5:B0<b5:=by have h1:=eb5.1;have h2:=AB0.out.lt;omega
 have hZb5:B0≤b5:=by have h1:=eb5.1;have h2:=FR0.out;omega
 replace AB0:=hid (AB0.out.fnw E rfl)
 have Ab5:=hid eb5.2
 simp only [nP,zr,zq]
 rw [←hb5]
 replace FR0:=hid FR.out.le
 clear E eb5 hb5
 go_upto_region 2 with fail
 refine qwf [⟨false,0,4,3,B0,0,70,15,cN,0,cN,[]⟩] [(13,.agg cR.toArray),(14,.int .i64 code),(15,.agg cN.toArray)] _ (by simp only [zz4,zz5,zq];rfl) (by kernel_rfl) (by kernel_rfl) ?_ ?_ ?_ ?_ ?_ ?_ ?_
 ·intro W' hW'
  have rd0:=Ab5.out.below hW'
  refine fxo (wlg (by rfl) rfl rfl rd0 Tryz.underlying27 rfl (qR V_cR.out) (wqn (by simp only [zq]))) ?_
  refine fxo ?_ ?_;(go_big_quiet_step (fail);(try simp only [zq]);exact wqn rfl)
  refine fxo (wqB rfl _ _ rfl _ rfl _ (qqL V_cR.out V_cN.out) (wqn (by simp only [zq]))) ?_
  refine fxs (by rfl) ?_
  exact fxn
 ·intro W' hK'
  have rd0:=At.keep hK' Ab5.out (oP _ _ (fun _=>(by show B0≠b5;omega)) (oN))
  refine fxo (wlg (by rfl) rfl rfl rd0 Tryz.underlying27 rfl (qR V_cR.out) (wqn (by simp only [zq]))) ?_
  first|(refine fxo ?_ ?_;(go_big_quiet_step (fail);(try simp only [zq]);exact wqn rfl))|(refine fxs (by kernel_rfl) ?_)
  refine fxo (wqB rfl _ _ rfl _ rfl _ (qqL V_cR.out V_cN.out) (wqn (by simp only [zq]))) ?_
  refine fxs (by kernel_rfl) ?_
  exact fxn
 ·exact oP _ _ (bnc) (oN)
 ·exact oP _ _ (fun _=>⟨AB0.out.lt,rfl,At.room AB0.out (qxE V_cz.out) (qxE V_cN.out)⟩) (oN)
 ·exact uno
 ·exact oP _ _ (stw rfl (qxE V_cN.out) (oneN V_cN.out) (fun _=>rfl)) (oN)
 intro β wx2 E
 replace FR:=hid (FR.out.flow E (oP _ _ (fun _=>(by show B0≤B0;omega)) (oN)))
 replace AB0:=hid (show At wx2 B0 0 cN from E.atOld mms rfl AB0.out.lt)
 replace Ab5:=hid (At.flow E Ab5.out (oP _ _ (fun _=>(by show B0≠b5;omega)) (oN)))
 simp only [nP,zr,zq]
 replace FR0:=hid FR.out.le
 clear E
 go_wp2_with fail
 have hld:=AB0.out.read (P:=Tryz.prog) Tryz.underlying70 rfl (qxE V_cN.out)
 refine bodyPost_ret (v:=.agg cN.toArray) (by simp [results,Tryz.results39,asAddr,hld]) rfl ?_
 exact ⟨rfl,fend HB0 FR⟩
set_option maxHeartbeats 8000000
theorem qxK {c d:List Value} (hc:c.length=66) (w:World):(Instr.field 70 (.agg (c++d).toArray) 0).run Tryz.prog w=.ok (.agg c.toArray) w:=by
 have hx:List.take 66 (c++d)=c:=by rw [←hc];exact List.take_left
 unfold Instr.field
 simp only [Sem.run_bind,run_underlying Tryz.underlying70,Result.andThen_ok]
 show (do let x ←asAgg (Value.agg (c++d).toArray);part 27 x 0:Sem Value).run Tryz.prog w=_
 obtain ⟨i,hi,hs⟩:∃ i,Tryz.prog.info? 27=some i∧i.size=66:=by
  have:=Tryz.infoR
  cases h:Tryz.prog.info? 27 with
  | none=>rw [h] at this;cases this
  | some i=>rw [h] at this;injection this with this;exact ⟨i,rfl,this⟩
 simp [asAgg,part,isAgg,Sem.run_bind,run_underlying Tryz.underlying27,run_sizeOf w hi,Program.cellsOf,hi,hs,hx]
set_option maxRecDepth 1000000 in
theorem qoB {ops:Array Oper} {op:Oper} {a:Act} {w:World} {rest:List Oper} {Q:Exit→Act→World→Prop} (hgd:op.guard=none) (x:Operand) (ho:op.op=.field 70 x 0) {r c:List Value} {n m:Bool} {p q:Nat} {e:Int} (hx:a.eval x=.agg r.toArray) (hr:r=nm n p m q e) (hc:c=rat n p m q)
  (h:wpList Tryz.prog ops Q rest (a.put op.dst (.agg c.toArray)) w):wpList Tryz.prog ops Q (op::rest) a w:=by
 subst hr hc
 refine wpList_plain hgd fun K' hK'=>?_
 unfold Oper.wp execOp
 unfold nm at hx
 obtain ⟨C,hC⟩:∃ C,C=rat n p m q:=⟨_,rfl⟩
 have:=qxK (c:=C) (d:=[.int .i64 e]) (by rw [hC];exact qdE _ _ _ _) w
 rw [←hC] at hx h
 clear hC
 simp only [ho,hx,Sem.run_bind,this,Result.andThen_ok,Sem.run_pure]
 exact hK' _ _ h
theorem jcZ {cR:List Value} {x y:Int} {d:Nat} (hy:y=(d:Int)) (hd:d≠0) (hR:cR=resR (mkQ x d)) (h1:-9223372036854775808≤x) (h2:x≤9223372036854775807) (h3:y≤9223372036854775807) (w:World) :
  Calls Tryz.prog 24 #[.int .i64 x,.int .i64 y] w fun e w'=>e=.returned (.agg cR.toArray)∧Below w.heap.size w w':=by
 obtain ⟨code,hc⟩:∃ c,c=resE (mkQ x d):=⟨_,rfl⟩
 obtain ⟨rn,rp,rm,rq,hcR⟩:∃ rn rp rm rq,cR=rat rn rp rm rq:=by
  rw [hR]
  cases mkQ x d with
  | none=>exact ⟨_,_,_,_,rfl⟩
  | some r=>exact ⟨_,_,_,_,rfl⟩
 have V_cR:=hid hcR
 obtain ⟨cN,V_cN⟩:∃ c:List Value,Hid (c=nm rn rp rm rq code):=⟨_,hid rfl⟩
 obtain ⟨cz,V_cz⟩:∃ c:List Value,Hid (c=rat false 0 false 0):=⟨_,hid rfl⟩
 have HO:=hid (eOver (cN:=cN) hy hd (by rw [V_cN.out];unfold resN nm;rw [←hR,←hc,hcR]) h1 h2 h3)
 have HMX:=hid (show max y 1=y by omega)
 clear hy hd hR h1 h2 h3 hc hcR
 obtain ⟨B0,hB0⟩:∃ B,B=w.heap.size:=⟨_,rfl⟩
 obtain ⟨w0,hw0⟩:∃ w0,w0=(w.alloc (.cells Tryz.zeroCells27 27)):=⟨_,rfl⟩
 have AB0:=hid (show At w0 B0 0 cz by rw [hw0];exact (show At (w.alloc (.cells Tryz.zeroCells27 27)) B0 0 cz from (by rw [Tryz.zeroR,V_cz.out];exact At.fresh _ (rat false 0 false 0) _ (by simp [hB0]))))
 have FR:=hid (show Fr B0 w w0 by rw [hw0,hB0];exact (Fr.start w).alloc _)
 have FR0:=hid FR.out.le
 have hZB0:B0≤B0:=Nat.le_refl _
 have HB0:=hid hB0
 go_enter Tryz.func24,Tryz.ntmps24
 go_upto_region 1 with fail
 rw [←hw0,←hB0]
 clear hw0 hB0
 have HTH:=hid (fun W (hb:Below w0.heap.size w0 W)=>(show W.there B0 0 cR.toArray.size by have:=(AB0.out.below hb).there;rw [V_cz.out,qdE] at this;rw [List.size_toArray,V_cR.out,qdE];exact this))
 have HSA:=hid (show (Tryz.prog.info? 27).map (·.size)=some cR.toArray.size by rw [List.size_toArray];exact qR V_cR.out)
 have HONE:=hid (qfI V_cR.out)
 go_wp2_with (first|(refine qqS rfl _ _ _ rfl .i64 y 1 rfl rfl ?_;rw [HMX.out])|(go_at_call 39;refine (HO.out _).mono ?_;rintro e w1 ⟨rfl,hb1⟩;have HB1:=hid hb1;clear hb1)|(refine qoB rfl _ rfl rfl V_cN.out V_cR.out ?_)|(refine wpList_store_mid rfl _ _ _ rfl B0 0 _ rfl rfl (HTH.out _ HB1.out) HSA.out HONE.out ?_))
 try simp only [zq]
 try simp only [List.toList_toArray]
 have AF:=hid ((AB0.out.below HB1.out).stored (ds:=cR) (by rw [V_cR.out,V_cz.out,qdE,qdE]))
 have FF:=hid (qaB hZB0 cR 0 _ (FR.out.step HB1.out).below)
 have hld:=AF.out.read (P:=Tryz.prog) Tryz.underlying27 rfl (qR V_cR.out)
 refine bodyPost_ret (v:=.agg cR.toArray) (by simp [results,Tryz.results24,asAddr,hld]) rfl ?_
 exact ⟨rfl,by have h:=FF.out;rw [HB0.out] at h ⊢;exact h⟩
end Go.Proofs.YtemoddmadfoaiaaGreat
namespace Go.Proofs.YtemoddmadfoaiaaGreat
open Go.RowKit Big Reg Al Ap Ga
namespace Ga
end Ga
end Go.Proofs.YtemoddmadfoaiaaGreat
