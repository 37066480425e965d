import Derived.Test.YtmcekgapelanhaaGreatRcA
import Derived.Test.YtmcekgapelanhaaGreatRcC
import Derived.Test.YtmcekgapelanhaaGreatAlI
set_option linter.unusedVariables false
set_option linter.unusedSimpArgs false
set_option maxRecDepth 100000
set_option maxHeartbeats 8000000
namespace Go.Proofs.YtmcekgapelanhaaGreat
open Go.RowKit Big Al Tok Ap
open Lib (hid)
theorem equalR_no {n m n' m':Bool} {p q p' q':Nat} (hp:p<BB^32) (hp':p'<BB^32) (hne:p≠p') (w:World):(Op.equalIn 10000 27 (.agg (rat n p m q).toArray) (.agg (rat n' p' m' q').toArray)).run Tryz.prog w=.ok false w:=by
 have hu:Tryz.prog.underlying 27=some (.struct (Tryz.prog.fieldsOf 27)):=by rw [Program.fieldsOf,Tryz.underlying27]
 have hst:Tryz.prog.stoodInHeld 27=false:=by kernel_rfl
 rw [run_equalIn_struct w 9999 27 _ _ hu hst]
 have hf : (Tryz.prog.fieldsOf 27).toList = [{ name := "Num", type := 25, offset := 0, embedded := false, tag := "", pkgPath := "", byteOffset := 0 }, { name := "Den", type := 25, offset := 33, embedded := false, tag := "", pkgPath := "", byteOffset := 132 }] := by rw [Program.fieldsOf, Tryz.underlying27]
 rw [hf]
 obtain ⟨i,hi,hs⟩:∃ i,Tryz.prog.info? 25=some i∧i.size=33:=by
  have:=Tryz.infoI33s
  cases h:Tryz.prog.info? 25 with
  | none=>rw [h] at this;cases this
  | some i=>rw [h] at this;injection this with this;exact ⟨i,rfl,this⟩
 have e1:=eq_at 9996 n n' p p' hp hp' w
 have ef:decide (n=n'∧p=p')=false:=decide_eq_false (fun h=>hne h.2)
 simp only [Nat.reduceAdd,ef] at e1
 have q1:∀ (n m:Bool) (p q:Nat),(part 25 (rat n p m q).toArray 0).run Tryz.prog w=.ok (iV n p) w:=fun n m p q=>by
  have hx:List.take 33 (Value.bool n::lv 32 p++Value.bool m::lv 32 q)=Value.bool n::lv 32 p:=List.take_left' (by rw [List.length_cons,qlL])
  simp [part,isAgg,Sem.run_bind,run_underlying Tryz.underlying25,run_sizeOf w hi,Program.cellsOf,hi,hs,rat]
  simpa [iV] using hx
 have n1 : ("Num" : String) ≠ "_" := by simp
 unfold Op.eqFields
 rw [if_pos n1]
 simp only [Sem.run_bind,q1,e1,Result.andThen_ok,Bool.not_false,if_true,Sem.run_pure]
theorem neQ_no {c d:List Value} {r:Qn} (h:c=ratZ r.1 r.2) (h2:d=ratZ 0 1) (hv:VQ r) (h0:r.1≠0) (w:World):(binOp .neq 27 (.agg c.toArray) (.agg d.toArray)).run Tryz.prog w=.ok (.bool true) w:=by
 rw [h,h2,run_neq_struct]
 unfold ratZ
 rw [equalR_no (b480_bb hv.num) (by exact Nat.pow_pos BB_pos) (by simpa using h0)];rfl
theorem wpQuiet_diff {ops:Array Oper} {C:World→Prop} {Q:Act→Prop} {a:Act} {op:Oper} {rest:List Oper} {x y:Operand} {t ty:TypeId} {c d:List Value} {b:BinOp} {r:Bool} (hgd:Region.wanted op (yielded ops a.tmps)=true) (ho:op.op=.binOp b ty x y t) (hx:a.eval x=.agg c.toArray) (hy:a.eval y=.agg d.toArray)
  (hm:Tryz.prog.eqGuardType Tryz.prog.depth ty=false) (he:∀ W,(binOp b ty (.agg c.toArray) (.agg d.toArray)).run Tryz.prog W=.ok (.bool r) W)
  (h:wpQuiet Tryz.prog ops C Q rest (a.put op.dst (.bool r))):wpQuiet Tryz.prog ops C Q (op::rest) a:=by
 refine wpQuiet_step (fun K hK=>?_)
 rw [if_pos hgd]
 refine ⟨.bool r,fun W hW=>?_,hK _ h⟩
 have hg:=run_eqGuard_agg (P:=Tryz.prog) W b ty x y c.toArray d.toArray hm
 unfold Oper.quietAt execOp
 simp [ho,hx,hy,hg,he W,Oper.quietUpon]
theorem sizeBk {cs:List Value} {x:Bk} (h:cs=x.cells):(Tryz.prog.info? 47).map (·.size)=some cs.length:=by rw [h];show _=some 5;kernel_rfl
theorem rexact_any {ct:List Value} (t:Qn) (l:List Bk) (v:Value) (w:World) (h:BksAt w v l) (hC:checkB l=true) (hV:VQ t) (hct:ct=ratZ t.1 t.2) :
  Calls Tryz.prog 10 #[.agg ct.toArray,v] w (ExactP (exactR t l) w):=by
 have hO:=check_oks hC
 have hS:=sumO_bd hO
 have hT:=ownS_le hO
 have HCK:=hid (fun W (h:BksAt W v l)=>show Calls Tryz.prog 13 #[v] W (fun e w'=>e=.returned (.int .i64 0)∧Below W.heap.size W w') by have:=rcheck_any v l W h;rw [hC] at this;exact this)
 have HEX:=hid (exactR.eq_1 t l)
 have V_ct:=hid hct
 have HVT:=hid hV
 have HBK:=hid h
 obtain ⟨hl1,hl4⟩:=hO.len
 obtain ⟨n,hnn⟩:∃ n,n=l.length:=⟨_,rfl⟩
 have HN:=hid hnn
 rw [←hnn] at hl1 hl4
 have HOK:=hid hO.all
 obtain ⟨S,hSS⟩:∃ S,S=sumO l:=⟨_,rfl⟩
 obtain ⟨T,hTT⟩:∃ T,T=ownS l:=⟨_,rfl⟩
 have HSU:=hid (fun W (h:BksAt W v l)=>show Calls Tryz.prog 33 #[v] W (fun e w'=>e=.returned (.tuple #[.int .i64 (S:Int),.int .i64 T])∧Below W.heap.size W w') by rw [hSS,hTT];exact rsums_any v l W h hO)
 have HST:=hid (And.intro hSS hTT)
 rw [←hSS] at hS
 rw [←hTT] at hT
 obtain ⟨z,hz⟩:∃ z,z=(S:Int)+T:=⟨_,rfl⟩
 have HZV:=hid (show VQ (z,1) from vq_whole (by omega) (by omega))
 have wz:IntKind.i64.wrap ((S:Int)+T)=z:=by rw [IntWalk.i64_in _ (by omega)];exact hz.symm
 have hz':(S:Int)+T=z:=hz.symm
 have hzb:-8000000000000000≤z∧z≤8000000000000000:=by omega
 have HZ:=hid hz
 obtain ⟨A,cap,hv⟩:=Rd.form h
 have HVV:=hid hv
 clear hC hct hV h hO hnn hSS hTT hz hv
 obtain ⟨cw,V_cw⟩:∃ c:List Value,Hid (c=ratZ z 1):=⟨_,hid rfl⟩
 have HWH:=hid (rwholeZ V_cw.out (by omega) (by omega))
 obtain ⟨B0,hB0⟩:∃ B,B=w.heap.size:=⟨_,rfl⟩
 obtain ⟨w0,hw0⟩:∃ w0,w0=(w.alloc (.cells ct.toArray 27)):=⟨_,rfl⟩
 have AB0:=hid (show At w0 B0 0 ct by rw [hw0];exact (show At (w.alloc (.cells ct.toArray 27)) B0 0 ct from At.fresh _ ct _ (by simp [hB0])))
 have FR:=hid (show Fr B0 w w0 by rw [hw0,hB0];exact (Fr.start w).alloc _)
 have FR0:=hid FR.out.le
 have hZB0:B0≤B0:=Nat.le_refl _
 have HB0:=hid hB0
 go_enter Tryz.func10,Tryz.ntmps10
 go_upto_region 1 with fail
 rw [←hw0,←hB0]
 clear hw0 hB0
 have HFB:=hid (show ∀ W,Fr B0 w W→BksAt W v l from fun W hF=>HBK.out.below (by have:=hF.below;rwa [HB0.out] at this))
 go_upto_region 4 with (go_at_call 13;refine (HCK.out _ (HFB.out _ FR.out)).mono ?_;rintro e wa ⟨rfl,hb⟩;replace AB0:=hid (AB0.out.below hb);replace FR:=hid (FR.out.step hb);clear hb)
 replace FR0:=hid FR.out.le
 have HPV:=hid (rvalidQ V_ct.out HVT.out)
 refine wfn [] [(20,.agg ct.toArray),(21,.bool true),(22,.bool false)] _ (by simp only [zz4,zz5,zq];rfl) (by kernel_rfl) (by kernel_rfl) rfl ?_ ?_ ?_ ?_
 ·intro W' hW'
  have rd0:=AB0.out.below hW'
  refine fxo (wlg (by rfl) rfl rfl rd0 Tryz.underlying27 rfl (qR V_ct.out) (wqn (by simp only [zq]))) ?_
  refine fxo ?_ ?_;(go_big_quiet_step ((go_at_call 43;exact Calls.below_of (HPV.out _)));(try simp only [zq]);exact wqn rfl)
  refine fxo ?_ ?_;(go_big_quiet_step (fail);(try simp only [zq]);exact wqn rfl)
  exact fxn
 ·exact oN
 ·exact oN
 intro β wx1 E
 replace FR:=hid (FR.out.fnw E rfl)
 replace AB0:=hid (AB0.out.fnw E rfl)
 have hE:=E.below rfl
 simp only [nP,zr,zq]
 replace FR0:=hid FR.out.le
 clear E
 go_upto_region 7 with (go_at_call 33;refine (HSU.out _ (HFB.out _ FR.out)).mono ?_;rintro e wb ⟨rfl,hb⟩;replace AB0:=hid (AB0.out.below hb);replace FR:=hid (FR.out.step hb);clear hb)
 replace FR0:=hid FR.out.le
 cases hsub:subQ t (z,1) with
 | none =>
  have HSB:=hid (fun (cR:List Value) (code:Int) (hR:cR=rat false 0 false 0) (hc:code=10)=>rsubQ (a:=t) (b:=(z,1)) (cR:=cR) (code:=code) V_ct.out V_cw.out HVT.out HZV.out (by rw [hsub];exact hR) (by rw [hsub];exact hc))
  have HR:=hid (show exactR t l=(if S=0 then 211 else 10,[]) by rw [HEX.out,←HST.out.1,←HST.out.2,←HZ.out,hsub])
  clear hsub
  obtain ⟨cc,V_cc⟩:∃ c:List Value,Hid (c=rat false 0 false 0):=⟨_,hid rfl⟩
  refine wfn [⟨true,9,9,10,0,0,27,35,cc,0,cc,[]⟩] [(29,.agg ct.toArray),(30,.int .i64 (S:Int)),(31,.int .i64 T),(32,.int .i64 z),(33,.agg cw.toArray),(34,.tuple #[.agg cc.toArray,.int .i64 10]),(28,.tuple #[.agg cc.toArray,.int .i64 10]),(35,.agg cc.toArray),(36,.int .i64 10),(10,.int .i64 10)] _ (by simp only [zz4,zz5,zq];rfl) (by kernel_rfl) (by kernel_rfl) rfl ?_ ?_ ?_ ?_
  ·intro W' hW'
   have rd0:=AB0.out.below hW'
   refine fxo (wlg (by rfl) rfl rfl rd0 Tryz.underlying27 rfl (qR V_ct.out) (wqn (by simp only [zq]))) ?_
   iterate 3 (refine fxo ?_ ?_;(go_big_quiet_step (fail);(try simp only [zq]);exact wqn rfl))
   refine fxo ?_ ?_;(go_big_quiet_step ((go_at_call 18;exact Calls.below_of (HWH.out _)));(try simp only [zq]);exact wqn rfl)
   refine fxo ?_ ?_;(go_big_quiet_step ((go_at_call 26;exact Calls.below_of (HSB.out _ _ V_cc.out rfl _)));(try simp only [zq]);exact wqn rfl)
   iterate 3 (refine fxo ?_ ?_;(go_big_quiet_step (fail);(try simp only [zq]);exact wqn rfl))
   iterate 2 (refine fxs (by rfl) ?_)
   refine fxo ?_ ?_;(go_big_quiet_step (fail);(try simp only [zq]);exact wqn rfl)
   exact fxn
  ·exact oP _ _ (Tryz.alR (qR V_cc.out)) (oN)
  ·exact oP _ _ (stw rfl (qR V_cc.out) (oneR V_cc.out) (fun _=>rfl)) (oN)
  intro β wx2 E
  replace FR:=hid (FR.out.fnw E rfl)
  obtain ⟨b9,hb9⟩:∃ b,b=β 9:=⟨_,rfl⟩
  have eb9:=E.atNew mms rfl
  simp only at eb9
  rw [←hb9] at eb9
  have lB0_b9:B0<b9:=by have h1:=eb9.1;have h2:=AB0.out.lt;omega
  have hZb9:B0≤b9:=by have h1:=eb9.1;have h2:=FR0.out;omega
  replace AB0:=hid (AB0.out.fnw E rfl)
  have Ab9:=hid eb9.2
  simp only [nP,zr,zq]
  rw [←hb9]
  replace FR0:=hid FR.out.le
  clear E eb9 hb9
  by_cases hS0:S=0
  ·subst hS0
   have HR2:=hid (show exactR t l=(211,[]) by rw [HR.out];rfl)
   go_upto_region 8 with fail
   refine wfn [] [(37,.int .i64 0),(38,.bool true),(39,.bool true),(40,.int .i64 10),(41,.bool true),(42,.bool true),(43,undef),(44,undef),(45,undef),(46,.bool true),(47,.bool true)] _ (by simp only [zz4,zz5,zq];rfl) (by kernel_rfl) (by kernel_rfl) rfl ?_ ?_ ?_ ?_
   ·intro W' hW'
    iterate 11 (refine fxo ?_ ?_;(go_big_quiet_step (fail);(try simp only [zq]);exact wqn rfl))
    exact fxn
   ·exact oN
   ·exact oN
   intro β wx3 E
   replace FR:=hid (FR.out.fnw E rfl)
   replace AB0:=hid (AB0.out.fnw E rfl)
   replace Ab9:=hid (Ab9.out.fnw E rfl)
   have hE:=E.below rfl
   simp only [nP,zr,zq]
   replace FR0:=hid FR.out.le
   clear E
   go_wp2_with fail
   go_ret2
   show ExactP (exactR t l) _ _ _
   rw [HR2.out]
   refine ⟨.slice none 0 0,(by rfl),?_,fun q hq=>(by cases hq),by have:=FR.out.below;rwa [HB0.out] at this⟩
   exact rd_nil _ _
  ·have HR2:=hid (show exactR t l=(10,[]) by rw [HR.out,if_neg hS0])
   have hS0':((S:Int)==0)=false:=beq_eq_false_iff_ne.2 (by omega)
   go_upto_region 8 with fail
   refine wfn [] [(37,.int .i64 (S:Int)),(38,.bool false),(39,.bool false),(40,undef),(41,undef),(42,undef),(43,undef),(44,undef),(45,undef),(46,undef),(47,.bool false)] _ (by simp only [zz4,zz5,zq];rfl) (by kernel_rfl) (by kernel_rfl) rfl ?_ ?_ ?_ ?_
   ·intro W' hW'
    iterate 11 (refine fxo ?_ ?_;(go_big_quiet_step (fail);(try simp only [zq]);exact wqn rfl))
    exact fxn
   ·exact oN
   ·exact oN
   intro β wx3 E
   replace FR:=hid (FR.out.fnw E rfl)
   replace AB0:=hid (AB0.out.fnw E rfl)
   replace Ab9:=hid (Ab9.out.fnw E rfl)
   have hE:=E.below rfl
   simp only [nP,zr,zq]
   replace FR0:=hid FR.out.le
   clear E
   go_wp2_with fail
   go_ret2
   show ExactP (exactR t l) _ _ _
   rw [HR2.out]
   refine ⟨.slice none 0 0,(by rfl),?_,fun q hq=>(by cases hq),by have:=FR.out.below;rwa [HB0.out] at this⟩
   exact rd_nil _ _
 | some c =>
  have HSB:=hid (fun (cR:List Value) (code:Int) (hR:cR=ratZ c.1 c.2) (hc:code=0)=>rsubQ (a:=t) (b:=(z,1)) (cR:=cR) (code:=code) V_ct.out V_cw.out HVT.out HZV.out (by rw [hsub];exact hR) (by rw [hsub];exact hc))
  have HR:=hid (show exactR t l=if S=0∧c.1≠0 then ((211:Int),[]) else match exL c S l with
   | none=>(10,[])
   | some rs=>(0,rs) by rw [HEX.out,←HST.out.1,←HST.out.2,←HZ.out,hsub];first|done|rfl)
  have HVC:=hid (show VQ c from mkQ_valid (Nat.mul_ne_zero HVT.out.pos (by simp)) hsub)
  clear hsub
  obtain ⟨cc,V_cc⟩:∃ c':List Value,Hid (c'=ratZ c.1 c.2):=⟨_,hid rfl⟩
  obtain ⟨c0,V_c0⟩:∃ c':List Value,Hid (c'=ratZ 0 1):=⟨_,hid rfl⟩
  have HZE:=hid (rzeroQ V_c0.out)
  refine wfn [⟨true,9,9,10,0,0,27,35,cc,0,cc,[]⟩] [(29,.agg ct.toArray),(30,.int .i64 (S:Int)),(31,.int .i64 T),(32,.int .i64 z),(33,.agg cw.toArray),(34,.tuple #[.agg cc.toArray,.int .i64 0]),(28,.tuple #[.agg cc.toArray,.int .i64 0]),(35,.agg cc.toArray),(36,.int .i64 0),(10,.int .i64 0)] _ (by simp only [zz4,zz5,zq];rfl) (by kernel_rfl) (by kernel_rfl) rfl ?_ ?_ ?_ ?_
  ·intro W' hW'
   have rd0:=AB0.out.below hW'
   refine fxo (wlg (by rfl) rfl rfl rd0 Tryz.underlying27 rfl (qR V_ct.out) (wqn (by simp only [zq]))) ?_
   iterate 3 (refine fxo ?_ ?_;(go_big_quiet_step (fail);(try simp only [zq]);exact wqn rfl))
   refine fxo ?_ ?_;(go_big_quiet_step ((go_at_call 18;exact Calls.below_of (HWH.out _)));(try simp only [zq]);exact wqn rfl)
   refine fxo ?_ ?_;(go_big_quiet_step ((go_at_call 26;exact Calls.below_of (HSB.out _ _ V_cc.out rfl _)));(try simp only [zq]);exact wqn rfl)
   iterate 3 (refine fxo ?_ ?_;(go_big_quiet_step (fail);(try simp only [zq]);exact wqn rfl))
   iterate 2 (refine fxs (by rfl) ?_)
   refine fxo ?_ ?_;(go_big_quiet_step (fail);(try simp only [zq]);exact wqn rfl)
   exact fxn
  ·exact oP _ _ (Tryz.alR (qR V_cc.out)) (oN)
  ·exact oP _ _ (stw rfl (qR V_cc.out) (oneR V_cc.out) (fun _=>rfl)) (oN)
  intro β wx2 E
  replace FR:=hid (FR.out.fnw E rfl)
  obtain ⟨b9,hb9⟩:∃ b,b=β 9:=⟨_,rfl⟩
  have eb9:=E.atNew mms rfl
  simp only at eb9
  rw [←hb9] at eb9
  have lB0_b9:B0<b9:=by have h1:=eb9.1;have h2:=AB0.out.lt;omega
  have hZb9:B0≤b9:=by have h1:=eb9.1;have h2:=FR0.out;omega
  replace AB0:=hid (AB0.out.fnw E rfl)
  have Ab9:=hid eb9.2
  simp only [nP,zr,zq]
  rw [←hb9]
  replace FR0:=hid FR.out.le
  clear E eb9 hb9
  by_cases hbad:S=0∧c.1≠0
  ·have HR2:=hid (show exactR t l=(211,[]) by rw [HR.out,if_pos hbad])
   have HNE:=hid (fun W=>neQ_no V_cc.out V_c0.out HVC.out hbad.2 W)
   obtain ⟨h0,_⟩:=hbad
   subst h0
   go_upto_region 8 with fail
   refine wfn [] [(37,.int .i64 0),(38,.bool true),(39,.bool true),(40,.int .i64 0),(41,.bool false),(42,.bool false),(43,.agg cc.toArray),(44,.agg c0.toArray),(45,.bool true),(46,.bool true),(47,.bool true)] _ (by simp only [zz4,zz5,zq];rfl) (by kernel_rfl) (by kernel_rfl) rfl ?_ ?_ ?_ ?_
   ·intro W' hW'
    have rd0:=Ab9.out.below hW'
    iterate 6 (refine fxo ?_ ?_;(go_big_quiet_step (fail);(try simp only [zq]);exact wqn rfl))
    refine fxo (wlg (by rfl) rfl rfl rd0 Tryz.underlying27 rfl (qR V_cc.out) (wqn (by simp only [zq]))) ?_
    refine fxo ?_ ?_;(go_big_quiet_step ((go_at_call 24;exact Calls.below_of (HZE.out _)));(try simp only [zq]);exact wqn rfl)
    refine fxo (wpQuiet_diff (by rfl) rfl rfl rfl (by kernel_rfl) (fun W=>HNE.out W) (wqn (by simp only [zq]))) ?_
    iterate 2 (refine fxo ?_ ?_;(go_big_quiet_step (fail);(try simp only [zq]);exact wqn rfl))
    exact fxn
   ·exact oN
   ·exact oN
   intro β wx3 E
   replace FR:=hid (FR.out.fnw E rfl)
   replace AB0:=hid (AB0.out.fnw E rfl)
   replace Ab9:=hid (Ab9.out.fnw E rfl)
   have hE:=E.below rfl
   simp only [nP,zr,zq]
   replace FR0:=hid FR.out.le
   clear E
   go_wp2_with fail
   go_ret2
   show ExactP (exactR t l) _ _ _
   rw [HR2.out]
   refine ⟨.slice none 0 0,(by rfl),?_,fun q hq=>(by cases hq),by have:=FR.out.below;rwa [HB0.out] at this⟩
   exact rd_nil _ _
  ·have HR2:=hid (show exactR t l=match exL c S l with
    | none=>(10,[])
    | some rs=>(0,rs) by rw [HR.out,if_neg hbad])
   have HSC:=hid (show S=0→c.1=0 from fun hS0=>by
    by_cases h:c.1=0
    ·exact h
    ·exact absurd ⟨hS0,h⟩ hbad)
   clear HR hbad
   go_upto_region 8 with fail
   go_cut [47] from 37 to 47 (fun t wx=>t=.bool false∧At wx b9 0 cc∧Fr B0 w wx)
   case first =>
    by_cases hS0:S=0
    ·have hc01:=low_zero HVC.out (HSC.out hS0)
     have HEQ:=hid (fun W=>neQ (c:=cc) (r:=(0,1)) (by rw [V_cc.out,hc01]) (vq_whole (by decide) (by decide)) W)
     have HZ2:=hid (fun W=>show Calls Tryz.prog 24 #[] W (fun e w'=>e=.returned (.agg cc.toArray)∧Below W.heap.size W w') from rzeroQ (by rw [V_cc.out,hc01]) W)
     subst hS0
     clear hc01
     refine wfn [] [(37,.int .i64 0),(38,.bool true),(39,.bool true),(40,.int .i64 0),(41,.bool false),(42,.bool false),(43,.agg cc.toArray),(44,.agg cc.toArray),(45,.bool false),(46,.bool false),(47,.bool false)] _ (by simp only [zz4,zz5,zq];rfl) (by kernel_rfl) (by kernel_rfl) rfl ?_ ?_ ?_ ?_
     ·intro W' hW'
      have rd0:=Ab9.out.below hW'
      iterate 6 (refine fxo ?_ ?_;(go_big_quiet_step (fail);(try simp only [zq]);exact wqn rfl))
      refine fxo (wlg (by rfl) rfl rfl rd0 Tryz.underlying27 rfl (qR V_cc.out) (wqn (by simp only [zq]))) ?_
      refine fxo ?_ ?_;(go_big_quiet_step ((go_at_call 24;exact Calls.below_of (HZ2.out _)));(try simp only [zq]);exact wqn rfl)
      refine fxo (wpQuiet_diff (by rfl) rfl rfl rfl (by kernel_rfl) (fun W=>HEQ.out W) (wqn (by simp only [zq]))) ?_
      iterate 2 (refine fxo ?_ ?_;(go_big_quiet_step (fail);(try simp only [zq]);exact wqn rfl))
      exact fxn
     ·exact oN
     ·exact oN
     intro β wx3 E
     replace FR:=hid (FR.out.fnw E rfl)
     replace AB0:=hid (AB0.out.fnw E rfl)
     replace Ab9:=hid (Ab9.out.fnw E rfl)
     have hE:=E.below rfl
     simp only [nP,zr,zq]
     replace FR0:=hid FR.out.le
     clear E
     go_wp2_with fail
     go_meet
     exact ⟨rfl,Ab9.out,FR.out⟩
    ·have hS0':((S:Int)==0)=false:=beq_eq_false_iff_ne.2 (by omega)
     refine wfn [] [(37,.int .i64 (S:Int)),(38,.bool false),(39,.bool false),(40,undef),(41,undef),(42,undef),(43,undef),(44,undef),(45,undef),(46,undef),(47,.bool false)] _ (by simp only [zz4,zz5,zq];rfl) (by kernel_rfl) (by kernel_rfl) rfl ?_ ?_ ?_ ?_
     ·intro W' hW'
      iterate 11 (refine fxo ?_ ?_;(go_big_quiet_step (fail);(try simp only [zq]);exact wqn rfl))
      exact fxn
     ·exact oN
     ·exact oN
     intro β wx3 E
     replace FR:=hid (FR.out.fnw E rfl)
     replace AB0:=hid (AB0.out.fnw E rfl)
     replace Ab9:=hid (Ab9.out.fnw E rfl)
     have hE:=E.below rfl
     simp only [nP,zr,zq]
     replace FR0:=hid FR.out.le
     clear E
     go_wp2_with fail
     go_meet
     exact ⟨rfl,Ab9.out,FR.out⟩
   case rest =>
    obtain ⟨rfl,h9,hF⟩:=hcut
    clear Ab9 FR FR0 AB0
    have hv:=HVV.out
    rw [←HN.out] at hv
    subst hv
    obtain ⟨BL,hBL⟩:∃ B,B=wc.heap.size:=⟨_,rfl⟩
    have lb9:b9<BL:=by rw [hBL];exact h9.lt
    have hZBL:B0≤BL:=by rw [hBL];exact hF.le
    have hBLw:BL≤wc.heap.size:=by omega
    clear hBL
    go_wp2
    go_loopg [11,12] n (fun m vo iv wr=>∃ (k:Nat) (rs:List Qn),k≤n∧n - k≤m∧iv=.int .i64 (k:Int)∧exL c S (l.take k)=some rs∧wr.ownsRow BL 27 66 vo k (cellsQ rs)∧At wr b9 0 cc∧Fr B0 w wr∧BL≤wr.heap.size)
    case atStart=>exact ⟨0,[],by omega,by omega,rfl,rfl,⟨by simp [cellsQ],.inl ⟨rfl,rfl⟩⟩,h9,hF,hBLw⟩
    case round =>
     clear h9 hF hBLw
     obtain ⟨k,rs,hk,hm,rfl,hrs,hown,h9,hF,hBLr⟩:=hrel
     have HRS:=hid hrs
     have HOW:=hid hown
     have Ab9:=hid h9
     have FR:=hid hF
     have FR0:=hid hF.le
     clear hrs hown h9 hF
     by_cases hlt:k<n
     ·obtain ⟨x,hx⟩:∃ x,l[k]?=some x:=⟨l[k]'(by rw [←HN.out];exact hlt),by simp [←HN.out,hlt]⟩
      have hok:=HOK.out x (List.mem_of_getElem? hx)
      have HX:=hid hx
      obtain ⟨q0,q1,hv0,hrd⟩:∃ g off,A=some ⟨g,off,none⟩∧wr.rangeAt g (off+k*5) x.cells:=by
       obtain ⟨h1,h2,A',cap2,h3,h4⟩:=HFB.out _ FR.out
       obtain ⟨g,off,hA,hc⟩:=h4 (by have:=HN.out;omega)
       injection h3 with e1
       refine ⟨g,off,e1.trans hA,fun j u hu=>?_⟩
       have:=hc _ _ (cellsB_get l k x hx j u hu)
       rwa [←Nat.add_assoc] at this
      subst hv0
      obtain ⟨cb,V_cb⟩:∃ c:List Value,Hid (c=x.cells):=⟨_,hid rfl⟩
      rw [←V_cb.out] at hrd
      have RB:=hid hrd
      obtain ⟨ro,hro⟩:∃ r,r=exR c S x:=⟨_,rfl⟩
      have HRO:=hid hro
      obtain ⟨code,hcode⟩:∃ e,e=resE ro:=⟨_,rfl⟩
      obtain ⟨cR,hcR⟩:∃ e,e=resR ro:=⟨_,rfl⟩
      have HMK:=hid (rvalueQ (S:=S) V_cc.out V_cb.out HVC.out hok hS HSC.out (show cR=resR _ by rw [hcR,hro]) (show code=resE _ by rw [hcode,hro]))
      have FW:=hid (Fr.start wr)
      clear hro hx hok hrd
      cases ro with
      | none =>
       have V_cR:=hid (show cR=rat false 0 false 0 from hcR)
       obtain rfl:code=10:=hcode
       clear hcR
       go_upto_region 16 with fail
       refine wfn [⟨true,10,13,11,0,0,27,65,cR,0,cR,[]⟩] [(58,.agg cc.toArray),(59,.slice (some ⟨q0,q1,none⟩) n cap),(60,.int .i64 (k:Int)),(61,.pointer (some ⟨q0,q1+k*5,none⟩)),(62,.agg cb.toArray),(63,.int .i64 (S:Int)),(64,.tuple #[.agg cR.toArray,.int .i64 10]),(57,.tuple #[.agg cR.toArray,.int .i64 10]),(65,.agg cR.toArray),(66,.int .i64 10),(14,.int .i64 10)] _ (by simp only [zz4,zz5,zq];rfl) (by kernel_rfl) (by kernel_rfl) rfl ?_ ?_ ?_ ?_
       ·intro W' hW'
        have rd0:=Ab9.out.below hW'
        have rb:=ranges_up RB.out hW'
        refine fxo (wlg (by rfl) rfl rfl rd0 Tryz.underlying27 rfl (qR V_cc.out) (wqn (by simp only [zq]))) ?_
        iterate 3 (refine fxo ?_ ?_;(go_big_quiet_step (fail);(try simp only [zq]);exact wqn rfl))
        refine fxo (wlq (by rfl) _ _ rfl _ _ rfl _ _ rb Tryz.underlying47 rfl (sizeBk V_cb.out) (wqn (by simp only [zq]))) ?_
        refine fxo ?_ ?_;(go_big_quiet_step (fail);(try simp only [zq]);exact wqn rfl)
        refine fxo ?_ ?_;(go_big_quiet_step ((go_at_call 44;exact Calls.below_of (HMK.out _)));(try simp only [zq]);exact wqn rfl)
        iterate 3 (refine fxo ?_ ?_;(go_big_quiet_step (fail);(try simp only [zq]);exact wqn rfl))
        iterate 2 (refine fxs (by rfl) ?_)
        refine fxo ?_ ?_;(go_big_quiet_step (fail);(try simp only [zq]);exact wqn rfl)
        exact fxn
       ·exact oP _ _ (Tryz.alR (qR V_cR.out)) (oN)
       ·exact oP _ _ (stw rfl (qR V_cR.out) (oneR V_cR.out) (fun _=>rfl)) (oN)
       intro β wx1 E
       replace FR:=hid (FR.out.fnw E rfl)
       replace FW:=hid (FW.out.fnw E rfl)
       obtain ⟨b13,hb13⟩:∃ b,b=β 10:=⟨_,rfl⟩
       have eb13:=E.atNew mms rfl
       simp only at eb13
       rw [←hb13] at eb13
       have lb9_b13:b9<b13:=by have h1:=eb13.1;have h2:=Ab9.out.lt;omega
       have hZb13:B0≤b13:=by have h1:=eb13.1;have h2:=FR0.out;omega
       replace Ab9:=hid (Ab9.out.fnw E rfl)
       have Ab13:=hid eb13.2
       simp only [nP,zr,zq]
       rw [←hb13]
       replace FR0:=hid FR.out.le
       clear E eb13 hb13
       have HR3:=hid (show exactR t l=(10,[]) by rw [HR2.out,exL_fail HX.out HRO.out.symm])
       go_wp2_with fail
       go_ret2
       show ExactP (exactR t l) _ _ _
       rw [HR3.out]
       refine ⟨.slice none 0 0,(by rfl),?_,fun q hq=>(by cases hq),by have:=FR.out.below;rwa [HB0.out] at this⟩
       exact rd_nil _ _
      | some r =>
       have V_cR:=hid (show cR=ratZ r.1 r.2 from hcR)
       obtain rfl:code=0:=hcode
       clear hcR
       go_upto_region 16 with fail
       refine wfn [⟨true,10,13,11,0,0,27,65,cR,0,cR,[]⟩] [(58,.agg cc.toArray),(59,.slice (some ⟨q0,q1,none⟩) n cap),(60,.int .i64 (k:Int)),(61,.pointer (some ⟨q0,q1+k*5,none⟩)),(62,.agg cb.toArray),(63,.int .i64 (S:Int)),(64,.tuple #[.agg cR.toArray,.int .i64 0]),(57,.tuple #[.agg cR.toArray,.int .i64 0]),(65,.agg cR.toArray),(66,.int .i64 0),(14,.int .i64 0)] _ (by simp only [zz4,zz5,zq];rfl) (by kernel_rfl) (by kernel_rfl) rfl ?_ ?_ ?_ ?_
       ·intro W' hW'
        have rd0:=Ab9.out.below hW'
        have rb:=ranges_up RB.out hW'
        refine fxo (wlg (by rfl) rfl rfl rd0 Tryz.underlying27 rfl (qR V_cc.out) (wqn (by simp only [zq]))) ?_
        iterate 3 (refine fxo ?_ ?_;(go_big_quiet_step (fail);(try simp only [zq]);exact wqn rfl))
        refine fxo (wlq (by rfl) _ _ rfl _ _ rfl _ _ rb Tryz.underlying47 rfl (sizeBk V_cb.out) (wqn (by simp only [zq]))) ?_
        refine fxo ?_ ?_;(go_big_quiet_step (fail);(try simp only [zq]);exact wqn rfl)
        refine fxo ?_ ?_;(go_big_quiet_step ((go_at_call 44;exact Calls.below_of (HMK.out _)));(try simp only [zq]);exact wqn rfl)
        iterate 3 (refine fxo ?_ ?_;(go_big_quiet_step (fail);(try simp only [zq]);exact wqn rfl))
        iterate 2 (refine fxs (by rfl) ?_)
        refine fxo ?_ ?_;(go_big_quiet_step (fail);(try simp only [zq]);exact wqn rfl)
        exact fxn
       ·exact oP _ _ (Tryz.alR (qR V_cR.out)) (oN)
       ·exact oP _ _ (stw rfl (qR V_cR.out) (oneR V_cR.out) (fun _=>rfl)) (oN)
       intro β wx1 E
       replace FR:=hid (FR.out.fnw E rfl)
       replace FW:=hid (FW.out.fnw E rfl)
       obtain ⟨b13,hb13⟩:∃ b,b=β 10:=⟨_,rfl⟩
       have eb13:=E.atNew mms rfl
       simp only at eb13
       rw [←hb13] at eb13
       have lb9_b13:b9<b13:=by have h1:=eb13.1;have h2:=Ab9.out.lt;omega
       have hZb13:B0≤b13:=by have h1:=eb13.1;have h2:=FR0.out;omega
       replace Ab9:=hid (Ab9.out.fnw E rfl)
       have Ab13:=hid eb13.2
       simp only [nP,zr,zq]
       rw [←hb13]
       replace FR0:=hid FR.out.le
       clear E eb13 hb13
       have HOW2:=hid (ownsRow_below HOW.out FW.out.below)
       have hBW:B0≤wx1.heap.size:=FR0.out
       have hBLW:BL≤wx1.heap.size:=Nat.le_trans hBLr FW.out.le
       have lcR:cR.length=66:=by rw [V_cR.out,ratZ_len]
       have HLR:=hid lcR
       clear lcR HOW FW
       obtain ⟨i0,hi,hz0,hz1,hz2⟩:=info_parts Tryz.infoR66
       go_upto_region 15 with (first|(refine wpList_load_mid rfl _ _ rfl b13 0 rfl cR _ Ab13.out.range Tryz.underlying27 rfl (qR V_cR.out) ?_)|(refine wpList_buildRow1 rfl (s:=66) cR rfl (by simp [Act.eval,Act.put]) (by decide) HLR.out (by decide) Tryz.underlying33 Tryz.infoRs (by kernel_rfl) ?_)|(at_builtin;refine wpList_append_own _ rfl _ _ 33 rfl BL 27 i0 _ 66 264 Tryz.underlying33 hi hz0 hz1 hz2 rfl (by decide) _ _ _ rfl (World.ownsRow.alloc HOW2.out _) ⟨wx1.heap.size,0,none⟩ 1 1 cR rfl HLR.out ?_ ?_ ?_ ?_ ?_ ?_;(intro j u hu;exact cells_new wx1 cR _ j u hu);exact (oneR' V_cR.out);exact small_maxLen (by omega);omega;(simp;omega);intro v' Wa hown' hgrow _))
       have hq:∀ q,u11.ownBlock=some q→BL≤q:=fun q h=>(HOW2.out.lt q h).1
       have h9':=(Ab9.out.alloc (.cells cR.toArray 27)).grown hgrow (fun q h e=>by have:=hq q h;omega)
       have hF':Fr B0 w Wa:=⟨(FR.out.below.alloc FR.out.le _).grown hgrow (by simp;omega) (fun q h=>by have:=hq q h;omega),by have:=hgrow.size;simp at this;omega⟩
       have hR':exL c S (l.take (k+1))=some (rs++[r]):=by rw [exL_take HRS.out HX.out,←HRO.out];rfl
       have hO':Wa.ownsRow BL 27 66 v' (k+1) (cellsQ (rs++[r])):=by
        rw [show cellsQ (rs++[r])=cellsQ rs++cR by rw [V_cR.out];simp [cellsQ]];exact hown'
       have hL':BL≤Wa.heap.size:=by have:=hgrow.size;simp at this;omega
       have HALL:=hid (And.intro h9' (And.intro hF' (And.intro hR' (And.intro hO' hL'))))
       clear h9' hF' hR' hO' hL' hq hown' hgrow hi hz0 hz1 hz2
       go_wp2
       go_roundg (gk - 1)
       case measure=>omega
       case rel=>exact ⟨k+1,rs++[r],by omega,by omega,by go_num,HALL.out.2.2.1,HALL.out.2.2.2.1,HALL.out.1,HALL.out.2.1,HALL.out.2.2.2.2⟩
     ·have e:l.take k=l:=List.take_of_length_le (by rw [←HN.out];omega)
      have HR3:=hid (show exactR t l=(0,rs) by rw [HR2.out];have:=HRS.out;rw [e] at this;rw [this])
      have hlen:=exL_len HRS.out
      rw [e,←HN.out] at hlen
      have HLN:=hid (show rs.length=k by omega)
      clear e hlen
      go_wp2
      go_ret2
      show ExactP (exactR t l) _ _ _
      rw [HR3.out]
      exact ⟨u11,(by rfl),by have:=Rd.of_own HOW.out;rw [←HLN.out] at this;exact this,fun q hq=>(by have h1:=(HOW.out.lt q hq).1;rw [←HB0.out];omega),by have:=FR.out.below;rwa [HB0.out] at this⟩
end Go.Proofs.YtmcekgapelanhaaGreat
