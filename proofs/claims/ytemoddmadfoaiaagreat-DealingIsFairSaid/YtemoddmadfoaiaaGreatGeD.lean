import Derived.Test.YtemoddmadfoaiaaGreatGaD
import Derived.Lib.MinMax
import Derived.BigFrame
import Derived.Test.YtemoddmadfoaiaaGreatCpA
import Derived.Great.BuildSlice
set_option linter.unusedVariables false
set_option linter.unusedSimpArgs false
set_option maxRecDepth 100000
namespace Go.Proofs.YtemoddmadfoaiaaGreat
open Go.RowKit Big Reg Al Ap Ga
namespace Ga
end Ga
theorem qsS {P:Program} {ops:Array Oper} {rest:List Oper} {o:Oper} {a:Act} {w:World} {Q:Exit→Act→World→Prop} (hg:o.guard=none) (x y:Operand) (ats:Array TypeId) (ho:o.op=.call { callee:=.builtin .max,args:=#[x,y],argTypes:=ats })
  (k:IntKind) (X Y:Int) (hx:a.eval x=.int k X) (hy:a.eval y=.int k Y) (h:wpList P ops Q rest (a.put o.dst (.int k (max X Y))) w):wpList P ops Q (o::rest) a w:=by
 refine wpList_plain hg fun K' hK'=>?_
 unfold Oper.wp execOp;simp [Act.eval] at hx hy;simp [ho,hx,hy,resolve,invoke,go_sem,BigFrame.builtin_max,Go.Lib.run_max_ints];exact hK' _ _ h
theorem At.cell0 {w:World} {b:Nat} {v:Value} {cs:List Value} (h:At w b 0 (v::cs)):w.cell? ⟨b,0,none⟩=some v:=h.cell (j:=0) rfl
end Go.Proofs.YtemoddmadfoaiaaGreat
set_option maxHeartbeats 8000000
namespace Go.Proofs.YtemoddmadfoaiaaGreat
open Go.RowKit Big
open Lib (hid)
theorem rmulQ {ca cb cR:List Value} {a b:Qn} {code:Int} (h1:ca=ratZ a.1 a.2) (h2:cb=ratZ b.1 b.2) (ha:VQ a) (hb:VQ b) (hR:cR=resR (mulQ a b)) (hc:code=resE (mulQ a b)) (w:World) :
  CB 66 #[.agg ca.toArray,.agg cb.toArray] (.tuple #[.agg cR.toArray,.int .i64 code]) w:=by
 have V_ca:=hid h1;have V_cb:=hid h2;obtain ⟨B1,B2,B3⟩:=qwS ha hb;have hd:((a.2:Int)*(b.2:Int)).natAbs<BB^30:=by rw [Int.natAbs_mul];exact qwT (by simpa using ha.den) (by simpa using hb.den)
 obtain ⟨rn,rp,rm,rq,hcR⟩:∃ rn rp rm rq,cR=rat rn rp rm rq:=by
  rw [hR]
  cases mulQ a b with
  | none=>exact ⟨_,_,_,_,rfl⟩
  | some r=>exact ⟨_,_,_,_,rfl⟩
 have V_cR:=hid hcR;obtain ⟨cz,V_cz⟩:=nvx (rat false 0 false 0);obtain ⟨cna,V_cna⟩:=nvx (iZ a.1);obtain ⟨cnb,V_cnb⟩:=nvx (iZ b.1);obtain ⟨cx,V_cx⟩:=nvx (iZ (a.1*b.1));obtain ⟨ce,V_ce⟩:=nvx (iZ ((a.2:Int)*(b.2:Int)));obtain ⟨cda,V_cda⟩:=nvx (.bool false::lv 32 a.2);obtain ⟨cdb,V_cdb⟩:=nvx (.bool false::lv 32 b.2);have hda:cda=iZ (a.2:Int):=by rw [V_cda.out,qxO]
 have hdb:cdb=iZ (b.2:Int):=by rw [V_cdb.out,qxO]
 have HVA:=hid (qvN V_ca.out ha);have HVB:=hid (qvN V_cb.out hb);have HX:=hid (jdE V_cna.out V_cnb.out V_cx.out (qaT ha.num) (qaT hb.num) B1);have HD:=hid (jdE hda hdb V_ce.out (qaT (by simpa using ha.den)) (qaT (by simpa using hb.den)) (b30 hd));have HM:=hid (jdF V_cx.out (show ce=iZ ((a.2*b.2:Nat):Int) by rw [V_ce.out,Int.natCast_mul]) hR hc B1 B2 B3);clear h1 h2 ha hb hR hc hd hcR hda hdb B1 B2 B3;obtain ⟨B0,B1,B2,w0,hw0,hB0,hB1,hB2,AB0,AB1,AB2,FR,FR0,HB0,hZB0,l01,hZB1,l12,hZB2⟩:=en3 w 27 27 27 (bxq ca) (bxq cb) (zQR V_cz);go_enter Tryz.func66,Tryz.ntmps66
 go_upto_region 1 with fail
 rw [←hw0,←hB2,←hB1,←hB0];clear hw0 hB0 hB1 hB2;refine wE [(6,aT ca),(7,bT),(8,bF),(9,bF),(10,aT cb),(11,bT),(12,bF),(13,bF)] (by simp only [zu];rfl) (by kernel_rfl) ?_ ?_
 ·intro W' hW';refine lhR AB0 hW' V_ca rfl<|fo3 ?_ ?_ ?_<|lhR AB1 hW' V_cb rfl<|fxo (by go_big_quiet_step (exact qaA (HVB.out _));exact wqn rfl)<|fo2 ?_ ?_<|fxn;all_goals (go_big_quiet_step (exact qaA (HVA.out _));exact wqn rfl)
 intro β wx1 E;replace FR:=fnf FR E rfl;replace AB0:=fnh AB0 E rfl;replace AB1:=fnh AB1 E rfl;replace AB2:=fnh AB2 E rfl;simp only [nP,zu];go_upto_region 3 with fail
 have AB0_n:=hid (AB0.out.num V_ca.out V_cna.out);have AB0_d:=hid (AB0.out.den V_ca.out V_cda.out);have AB1_n:=hid (AB1.out.num V_cb.out V_cnb.out);have AB1_d:=hid (AB1.out.den V_cb.out V_cdb.out);refine wF [⟨false,0,4,13,B2,0,27,26,cR,0,cR,[]⟩] [(15,pT B0 0),(16,aT cna),(17,pT B1 0),(18,aT cnb),(19,aT cx),(20,pT B0 33),(21,aT cda),(22,pT B1 33),(23,aT cdb),(24,aT ce),(25,.tuple #[aT cR,iT code]),(26,aT cR),(27,iT code),(5,iT code)] (by simp only [zu];rfl) (by kernel_rfl) ?_ ?_ (fP1 bnC) ?_ uno ?_ ?_
 ·intro W' hW';refine fxo ?_<|lhI AB0_n hW' V_cna rfl<|fxo ?_<|lhI AB1_n hW' V_cnb rfl<|fo2 ?_ ?_<|lhI AB0_d hW' V_cda rfl<|fxo ?_<|lhI AB1_d hW' V_cdb rfl<|fxo (by go_big_quiet_step (exact qaA (HD.out _));exact wqn rfl)<|fxo (by go_big_quiet_step (exact qaA (HM.out _));exact wqn rfl)<|fo2 ?_ ?_<|fxs rfl<|fxo ?_<|fxn;all_goals (go_big_quiet_step (exact qaA (HX.out _));exact wqn rfl)
 ·intro W' hK';have rd0:=akh AB0_n hK' (by omega);have rd1:=akh AB1_n hK' (by omega);have rd2:=akh AB0_d hK' (by omega);have rd3:=akh AB1_d hK' (by omega);refine fxi ?_<|ldI rd0 V_cna rfl<|fxi ?_<|ldI rd1 V_cnb rfl<|fxs (by kernel_rfl)<|fxi ?_<|ldI rd2 V_cda rfl<|fxi ?_<|ldI rd3 V_cdb rfl<|fxs (by kernel_rfl)<|fxs (by kernel_rfl)<|fxi ?_<|fxi ?_<|fxs (by kernel_rfl)<|fxi ?_<|fxn;all_goals (first|(refine .inr ?_;go_big_quiet_step (fail);exact wqn rfl)|exact .inl (by kernel_rfl))
 ·exact fP1 (fun _=>rmh AB2 (qR V_cz.out) (qR V_cR.out) rfl)
 ·exact fP1 (sR V_cR (fun _=>rfl) rfl)
 intro β wx2 E;replace FR:=ffh FR E (by omega);replace AB2:=aoh E AB2 mms;simp only [nP,zu];go_wp2_with fail
 have hld:=rdR AB2 V_cR;refine bodyPost_ret (v:=.tuple #[.agg cR.toArray,.int .i64 code]) (by simp [results,Tryz.results66,asAddr,hld]) rfl ?_;exact ⟨rfl,qbL HB0 FR⟩
def nm (n:Bool) (p:Nat) (m:Bool) (q:Nat) (e:Int):List Value:=rat n p m q++[.int .i64 e]
theorem jdJ (n m:Bool) (p q:Nat) (e:Int):(nm n p m q e).length=67:=by simp [nm,qbE]
theorem jgZ (n m:Bool) (p q:Nat) (e:Int):∀ v∈nm n p m q e,v.oneCell'=true:=by
 intro v hv;rcases List.mem_append.1 hv with h|h
 ·exact qvW n p m q v h
 ·rw [List.mem_singleton.1 h];rfl
theorem Tryz.infoN:(Tryz.prog.info? 70).map (·.size)=some 67:=by kernel_rfl
theorem qdG {cs:List Value} {n m:Bool} {p q:Nat} {e:Int} (h:cs=nm n p m q e):(Tryz.prog.info? 70).map (·.size)=some cs.length:=by rw [h,jdJ];exact Tryz.infoN
theorem jgF {cs:List Value} {n m:Bool} {p q:Nat} {e:Int} (h:cs=nm n p m q e):cs.toArray.all (·.oneCell')=true:=by rw [h];exact all_oneCell_toArray (jgZ n m p q e)
theorem qiN {c r:List Value} {n m:Bool} {p q:Nat} {e:Int} (hc:c=rat n p m q) (hr:r=nm n p m q e):Tryz.prog.built 70 [(0,.agg c.toArray),(1,.int .i64 e)]=some r.toArray:=by
 subst hc hr;unfold nm rat;kernel_rfl
theorem qpH {c r:List Value} {n m:Bool} {p q:Nat} (hc:c=rat n p m q) (hr:r=nm n p m q 0):Tryz.prog.built 70 [(0,.agg c.toArray)]=some r.toArray:=by
 subst hc hr;unfold nm rat;kernel_rfl
theorem qpG {r:List Value} {e:Int} (hr:r=nm false 0 false 0 e):Tryz.prog.built 70 [(1,.int .i64 e)]=some r.toArray:=by
 subst hr;unfold nm rat;rw [qbW];kernel_rfl
theorem Tryz.zeroN:Tryz.zeroCells70=(nm false 0 false 0 0).toArray:=by unfold nm rat;rw [qbW];rfl
theorem zQN {c:List Value} (h:Hid (c=nm false 0 false 0 0)):Tryz.zeroCells70=c.toArray:=by rw [h.out];exact Tryz.zeroN
theorem At.val {w:World} {b:Nat} {c d:List Value} {n m:Bool} {p q:Nat} {e:Int} (h:At w b 0 c) (hc:c=nm n p m q e) (hd:d=rat n p m q):At w b 0 d:=by
 subst hc hd;exact At.head h
theorem At.err {w:World} {b:Nat} {c:List Value} {n m:Bool} {p q:Nat} {e:Int} (h:At w b 0 c) (hc:c=nm n p m q e):w.cell? ⟨b,66,none⟩=some (.int .i64 e):=by
 subst hc
 have:=h.cell (j:=66) (v:=.int .i64 e) (by unfold nm;rw [List.getElem?_append_right (by rw [qbE];omega),qbE];rfl)
 simpa using this
set_option maxHeartbeats 8000000
def resN (o:Option Qn):List Value:=resR o++[.int .i64 (resE o)]
def opt2 (f:Qn→Qn→Option Qn) (a b:Option Qn):Option Qn:=match a,b with|some x,some y=>f x y|_,_=>none
def okN (o:Option Qn):Prop:=∀ r,o=some r→VQ r
theorem qvQ (o:Option Qn):∃ n p m q e,resN o=nm n p m q e:=by
 cases o with
 | none=>exact ⟨_,_,_,_,_,rfl⟩
 | some r=>exact ⟨_,_,_,_,_,rfl⟩
theorem eOf {cr cN:List Value} {n m:Bool} {p q:Nat} (h:cr=rat n p m q) (hN:cN=nm n p m q 0) (w:World) :
  CB 32 #[.agg cr.toArray] (.agg cN.toArray) w:=by
 have V_cr:=hid h;have V_cN:=hid hN;obtain ⟨cz,V_cz⟩:=nvx (nm false 0 false 0 0);clear h hN;obtain ⟨B0,B1,w0,hw0,hB0,hB1,AB0,AB1,FR,FR0,HB0,hZB0,l01,hZB1⟩:=en2 w 27 70 (bxq cr) (zQN V_cz);go_enter Tryz.func32,Tryz.ntmps32
 go_upto_region 1 with fail
 rw [←hw0,←hB1,←hB0];clear hw0 hB0 hB1;refine wF [⟨false,0,2,2,B1,0,70,4,cN,0,cN,[]⟩] [(3,aT cr),(4,aT cN)] (by simp only [zu];rfl) (by kernel_rfl) ?_ ?_ (fP1 bnC) ?_ uno ?_ ?_
 ·intro W' hW';exact lhR AB0 hW' V_cr rfl<|fxb (qpH V_cr.out V_cN.out) rfl<|fxs rfl<|fxn
 ·intro W' hK';have rd0:=akh AB0 hK' (by omega);exact ldR rd0 V_cr rfl<|fxb (qpH V_cr.out V_cN.out) rfl<|fxs (by kernel_rfl)<|fxn
 ·exact fP1 (fun _=>rmh AB1 (qdG V_cz.out) (qdG V_cN.out) rfl)
 ·exact fP1 (stw rfl (qdG V_cN.out) (jgF V_cN.out) (fun _=>rfl))
 intro β wx1 E;replace FR:=ffh FR E (by omega);replace AB1:=aoh E AB1 mms;simp only [nP,zu];go_wp2_with fail
 have hld:=AB1.out.read (P:=Tryz.prog) Tryz.underlying70 rfl (qdG V_cN.out);refine bodyPost_ret (v:=.agg cN.toArray) (by simp [results,Tryz.results32,asAddr,hld]) rfl ?_;exact ⟨rfl,qbL HB0 FR⟩
theorem jfT {cN:List Value} {x y:Int} {d:Nat} (hy:y=(d:Int)) (hd:d≠0) (hN:cN=resN (mkQ x d)) (h1:-9223372036854775808≤x) (h2:x≤9223372036854775807) (h3:y≤9223372036854775807) (w:World) :
  CB 39 #[.int .i64 x,.int .i64 y] (.agg cN.toArray) w:=by
 obtain ⟨cR,hR⟩:=nqx (resR (mkQ x d));obtain ⟨code,hc⟩:=nqx (resE (mkQ x d))
 obtain ⟨rn,rp,rm,rq,hcR⟩:∃ rn rp rm rq,cR=rat rn rp rm rq:=by
  rw [hR]
  cases mkQ x d with
  | none=>exact ⟨_,_,_,_,rfl⟩
  | some r=>exact ⟨_,_,_,_,rfl⟩
 have V_cR:=hid hcR;have V_cN:=hid (show cN=nm rn rp rm rq code by rw [hN];unfold resN nm;rw [←hR,←hc,hcR]);obtain ⟨cz,V_cz⟩:=nvx (nm false 0 false 0 0);have HO:=hid (rofQ (cR:=cR) (code:=code) hy hd hR hc h1 h2 h3);clear hy hd hN h1 h2 h3 hR hc hcR;obtain ⟨B0,w0,hw0,hB0,AB0,FR,FR0,HB0,hZB0⟩:=en1 w 70 (zQN V_cz);go_enter Tryz.func39,Tryz.ntmps39
 go_upto_region 1 with fail
 rw [←hw0,←hB0];clear hw0 hB0;refine wT [⟨true,6,5,7,0,0,27,11,cR,0,cR,[]⟩] [(8,iT x),(9,iT y),(10,.tuple #[aT cR,iT code]),(7,.tuple #[aT cR,iT code]),(11,aT cR),(12,iT code),(6,iT code)] (by simp only [zu];rfl) (by kernel_rfl) rfl ?_ ?_ ?_ ?_
 ·intro W' hW';refine fo4 ?_ ?_ ?_ ?_<|fo2 ?_ ?_<|fxs rfl<|fxs rfl<|fxo ?_<|fxn;all_goals (go_big_quiet_step (exact qaA (HO.out _));exact wqn rfl)
 ·exact fP1 (Tryz.alR (qR V_cR.out))
 ·exact fP1 (sR V_cR (fun _=>rfl) rfl)
 intro β wx1 E;replace FR:=fnf FR E rfl;obtain ⟨b5,hb5,eb5⟩:=nwb E mms;have lB0_b5:B0<b5:=ltb AB0 eb5.1;have hZb5:B0≤b5:=Nat.le_trans FR0.out eb5.1;replace AB0:=fnh AB0 E rfl;have Ab5:=hid eb5.2;simp only [nP,zu];rw [←hb5];clear E eb5 hb5;go_upto_region 2 with fail
 refine wF [⟨false,0,4,3,B0,0,70,15,cN,0,cN,[]⟩] [(13,aT cR),(14,iT code),(15,aT cN)] (by simp only [zu];rfl) (by kernel_rfl) ?_ ?_ (fP1 bnC) ?_ uno ?_ ?_
 ·intro W' hW';refine lhR Ab5 hW' V_cR rfl<|fxo ?_<|fxb (qiN V_cR.out V_cN.out) rfl<|fxs rfl<|fxn
  go_big_quiet_step (fail);exact wqn rfl
 ·intro W' hK';have rd0:=akh Ab5 hK' (by omega);refine ldR rd0 V_cR rfl<|fxi ?_<|fxb (qiN V_cR.out V_cN.out) rfl<|fxs (by kernel_rfl)<|fxn
  first|(refine .inr ?_;go_big_quiet_step (fail);exact wqn rfl)|exact .inl (by kernel_rfl)
 ·exact fP1 (fun _=>rmh AB0 (qdG V_cz.out) (qdG V_cN.out) rfl)
 ·exact fP1 (stw rfl (qdG V_cN.out) (jgF V_cN.out) (fun _=>rfl))
 intro β wx2 E;replace FR:=ffh FR E (by omega);replace AB0:=aoh E AB0 mms;simp only [nP,zu];go_wp2_with fail
 have hld:=AB0.out.read (P:=Tryz.prog) Tryz.underlying70 rfl (qdG V_cN.out);refine bodyPost_ret (v:=.agg cN.toArray) (by simp [results,Tryz.results39,asAddr,hld]) rfl ?_;exact ⟨rfl,qbL HB0 FR⟩
theorem jhI {ca cb:List Value} {n1 m1 n2 m2:Bool} {p1 q1 p2 q2:Nat} {e1 e2 r:Int} (ha:ca=nm n1 p1 m1 q1 e1) (hb:cb=nm n2 p2 m2 q2 e2) (hr:r=if e1=0 then e2 else e1) (w:World) :
  CB 65 #[.agg ca.toArray,.agg cb.toArray] (.int .i64 r) w:=by
 have V_ca:=hid ha;have V_cb:=hid hb;clear ha hb;obtain ⟨B0,B1,w0,hw0,hB0,hB1,AB0,AB1,FR,FR0,HB0,hZB0,l01,hZB1⟩:=en2 w 70 70 (bxq ca) (bxq cb);go_enter Tryz.func65,Tryz.ntmps65
 go_upto_region 1 with fail
 rw [←hw0,←hB1,←hB0];clear hw0 hB0 hB1;have c0:=AB0.out.err V_ca.out;have c1:=AB1.out.err V_cb.out;by_cases h:e1=0
 ·rw [if_pos h] at hr;subst hr;subst h;go_wp2
  go_ret
  exact ⟨rfl,qbL HB0 FR⟩
 ·rw [if_neg h] at hr;subst hr;have hne:(r==0)=false:=beq_eq_false_iff_ne.2 h;go_wp2
  go_ret
  exact ⟨rfl,qbL HB0 FR⟩
theorem eMul {ca cb cN:List Value} {a b:Option Qn} (h1:ca=resN a) (h2:cb=resN b) (ha:okN a) (hb:okN b) (hN:cN=resN (opt2 mulQ a b)) (w:World) :
  CB 29 #[.agg ca.toArray,.agg cb.toArray] (.agg cN.toArray) w:=by
 obtain ⟨n1,p1,m1,q1,e1,hca⟩:∃ n p m q e,ca=nm n p m q e:=by rw [h1];exact qvQ a
 obtain ⟨n2,p2,m2,q2,e2,hcb⟩:∃ n p m q e,cb=nm n p m q e:=by rw [h2];exact qvQ b
 have V_ca:=hid hca;have V_cb:=hid hcb;obtain ⟨cz,V_cz⟩:=nvx (nm false 0 false 0 0);obtain ⟨r,hr⟩:=nqx (if e1=0 then e2 else e1:Int);have HF:=hid (jhI V_ca.out V_cb.out hr)
 have ee:∀ (o:Option Qn) (n:Bool) (p:Nat) (m:Bool) (q:Nat) (e:Int),resN o=nm n p m q e→e=resE o:=by
  intro o n p m q e h
  have:=congrArg (fun l=>l[66]?) h
  unfold resN nm at this;have hl:(resR o).length=66:=by cases o<;>exact qbE _ _ _ _
  try simp only at this
  rw [List.getElem?_append_right (by rw [hl];omega),hl,List.getElem?_append_right (by rw [qbE];omega),qbE] at this;simp at this
  exact this.symm
 have he1:=ee a _ _ _ _ _ (by rw [←h1];exact hca);have he2:=ee b _ _ _ _ _ (by rw [←h2];exact hcb);clear ee
 have hbad:∀ (hn:opt2 mulQ a b=none∧r=10),CB 29 #[.agg ca.toArray,.agg cb.toArray] (.agg cN.toArray) w:=by
  rintro ⟨hn,hr10⟩;have V_cN:=hid (show cN=nm false 0 false 0 10 by rw [hN,hn];rfl);subst hr10;clear hn hN h1 h2 ha hb hca hcb he1 he2 hr;obtain ⟨B0,B1,B2,w0,hw0,hB0,hB1,hB2,AB0,AB1,AB2,FR,FR0,HB0,hZB0,l01,hZB1,l12,hZB2⟩:=en3 w 70 70 70 (bxq ca) (bxq cb) (zQN V_cz);go_enter Tryz.func29,Tryz.ntmps29
  go_upto_region 1 with fail
  rw [←hw0,←hB2,←hB1,←hB0];clear hw0 hB0 hB1 hB2;refine wE [(8,aT ca),(9,aT cb),(10,iT 10),(5,iT 10)] (by simp only [zu];rfl) (by kernel_rfl) ?_ ?_
  ·intro W' hW';refine fxl (abl AB0 hW') (qdG V_ca.out) Tryz.underlying70 rfl rfl<|fxl (abl AB1 hW') (qdG V_cb.out) Tryz.underlying70 rfl rfl<|fo2 ?_ ?_<|fxn;all_goals (go_big_quiet_step (exact qaA (HF.out _));exact wqn rfl)
  intro β wx1 E;replace FR:=fnf FR E rfl;replace AB2:=fnh AB2 E rfl;simp only [nP,zu];go_upto_region 3 with fail
  refine wF [⟨false,0,4,2,B2,0,70,14,cN,0,cN,[]⟩] [(13,iT 10),(14,aT cN)] (by simp only [zu];rfl) (by kernel_rfl) ?_ ?_ (fP1 bnC) ?_ uno ?_ ?_
  ·intro W' hW';refine fxo ?_<|fxb (qpG V_cN.out) rfl<|fxs rfl<|fxn
   go_big_quiet_step (fail);exact wqn rfl
  ·intro W' hK';refine fxi ?_<|fxb (qpG V_cN.out) rfl<|fxs (by kernel_rfl)<|fxn
   first|(refine .inr ?_;go_big_quiet_step (fail);exact wqn rfl)|exact .inl (by kernel_rfl)
  ·exact fP1 (fun _=>rmh AB2 (qdG V_cz.out) (qdG V_cN.out) rfl)
  ·exact fP1 (stw rfl (qdG V_cN.out) (jgF V_cN.out) (fun _=>rfl))
  intro β wx2 E;replace FR:=ffh FR E (by omega);replace AB2:=aoh E AB2 mms;simp only [nP,zu];go_wp2_with fail
  have hld:=AB2.out.read (P:=Tryz.prog) Tryz.underlying70 rfl (qdG V_cN.out);refine bodyPost_ret (v:=.agg cN.toArray) (by simp [results,Tryz.results29,asAddr,hld]) rfl ?_;exact ⟨rfl,qbL HB0 FR⟩
 cases a with
 | none=>exact hbad ⟨rfl,by rw [hr,he1];rfl⟩
 | some x =>
  cases b with
  | none=>exact hbad ⟨rfl,by rw [hr,he1,he2];rfl⟩
  | some y =>
   have hr0:r=0:=by rw [hr,he1,he2];rfl
   subst hr0;have e1z:e1=0:=he1;have e2z:e2=0:=he2;clear hbad hr hca hcb he1 he2;obtain ⟨cR,hR⟩:=nqx (resR (mulQ x y));obtain ⟨code,hc⟩:=nqx (resE (mulQ x y))
   obtain ⟨rn,rp,rm,rq,hcR⟩:∃ rn rp rm rq,cR=rat rn rp rm rq:=by
    rw [hR]
    cases mulQ x y with
    | none=>exact ⟨_,_,_,_,rfl⟩
    | some r=>exact ⟨_,_,_,_,rfl⟩
   have V_cR:=hid hcR;have V_cN:=hid (show cN=nm rn rp rm rq code by rw [hN];unfold resN nm;rw [show opt2 mulQ (some x) (some y)=mulQ x y from rfl,←hR,←hc,hcR]);have V_cx:=hid h1;have V_cy:=hid h2;obtain ⟨va,V_va⟩:=nvx (rat (decide (x.1<0)) x.1.natAbs false x.2);obtain ⟨vb,V_vb⟩:=nvx (rat (decide (y.1<0)) y.1.natAbs false y.2);have HM:=hid (rmulQ (ca:=va) (cb:=vb) (cR:=cR) (code:=code) V_va.out V_vb.out (ha x rfl) (hb y rfl) hR hc);clear hN h1 h2 ha hb hR hc hcR e1z e2z;obtain ⟨B0,B1,B2,w0,hw0,hB0,hB1,hB2,AB0,AB1,AB2,FR,FR0,HB0,hZB0,l01,hZB1,l12,hZB2⟩:=en3 w 70 70 70 (bxq ca) (bxq cb) (zQN V_cz);go_enter Tryz.func29,Tryz.ntmps29
   go_upto_region 1 with fail
   rw [←hw0,←hB2,←hB1,←hB0];clear hw0 hB0 hB1 hB2;refine wE [(8,aT ca),(9,aT cb),(10,iT 0),(5,iT 0)] (by simp only [zu];rfl) (by kernel_rfl) ?_ ?_
   ·intro W' hW';refine fxl (abl AB0 hW') (qdG V_ca.out) Tryz.underlying70 rfl rfl<|fxl (abl AB1 hW') (qdG V_cb.out) Tryz.underlying70 rfl rfl<|fo2 ?_ ?_<|fxn;all_goals (go_big_quiet_step (exact qaA (HF.out _));exact wqn rfl)
   intro β wx1 E;replace FR:=fnf FR E rfl;replace AB0:=fnh AB0 E rfl;replace AB1:=fnh AB1 E rfl;replace AB2:=fnh AB2 E rfl;simp only [nP,zu];replace FR0:=hid FR.out.le;go_upto_region 4 with fail
   have AB0_v:=hid (AB0.out.val (e:=0) V_cx.out V_va.out);have AB1_v:=hid (AB1.out.val (e:=0) V_cy.out V_vb.out);refine wT [⟨true,8,6,9,0,0,27,21,cR,0,cR,[]⟩] [(16,pT B0 0),(17,aT va),(18,pT B1 0),(19,aT vb),(20,.tuple #[aT cR,iT code]),(15,.tuple #[aT cR,iT code]),(21,aT cR),(22,iT code),(7,iT code)] (by simp only [zu];rfl) (by kernel_rfl) rfl ?_ ?_ ?_ ?_
   ·intro W' hW';refine fxo ?_<|lhR AB0_v hW' V_va rfl<|fxo ?_<|lhR AB1_v hW' V_vb rfl<|fo4 ?_ ?_ ?_ ?_<|fxs rfl<|fxs rfl<|fxo ?_<|fxn;all_goals (go_big_quiet_step (exact qaA (HM.out _));exact wqn rfl)
   ·exact fP1 (Tryz.alR (qR V_cR.out))
   ·exact fP1 (sR V_cR (fun _=>rfl) rfl)
   intro β wx2 E;replace FR:=fnf FR E rfl;obtain ⟨b6,hb6,eb6⟩:=nwb E mms;have lB0_b6:B0<b6:=ltb AB0 eb6.1;have lB1_b6:B1<b6:=ltb AB1 eb6.1;have lB2_b6:B2<b6:=ltb AB2 eb6.1;have hZb6:B0≤b6:=Nat.le_trans FR0.out eb6.1;replace AB2:=fnh AB2 E rfl;have Ab6:=hid eb6.2;simp only [nP,zu];rw [←hb6];clear E eb6 hb6;go_upto_region 5 with fail
   refine wF [⟨false,0,4,3,B2,0,70,25,cN,0,cN,[]⟩] [(23,aT cR),(24,iT code),(25,aT cN)] (by simp only [zu];rfl) (by kernel_rfl) ?_ ?_ (fP1 bnC) ?_ uno ?_ ?_
   ·intro W' hW';refine lhR Ab6 hW' V_cR rfl<|fxo ?_<|fxb (qiN V_cR.out V_cN.out) rfl<|fxs rfl<|fxn
    go_big_quiet_step (fail);exact wqn rfl
   ·intro W' hK';have rd0:=akh Ab6 hK' (by omega);refine ldR rd0 V_cR rfl<|fxi ?_<|fxb (qiN V_cR.out V_cN.out) rfl<|fxs (by kernel_rfl)<|fxn
    first|(refine .inr ?_;go_big_quiet_step (fail);exact wqn rfl)|exact .inl (by kernel_rfl)
   ·exact fP1 (fun _=>rmh AB2 (qdG V_cz.out) (qdG V_cN.out) rfl)
   ·exact fP1 (stw rfl (qdG V_cN.out) (jgF V_cN.out) (fun _=>rfl))
   intro β wx3 E;replace FR:=ffh FR E (by omega);replace AB2:=aoh E AB2 mms;simp only [nP,zu];go_wp2_with fail
   have hld:=AB2.out.read (P:=Tryz.prog) Tryz.underlying70 rfl (qdG V_cN.out);refine bodyPost_ret (v:=.agg cN.toArray) (by simp [results,Tryz.results29,asAddr,hld]) rfl ?_;exact ⟨rfl,qbL HB0 FR⟩
set_option maxHeartbeats 8000000
theorem jaL {c d:List Value} (hc:c.length=66) (w:World):(Instr.field 70 (.agg (c++d).toArray) 0).run Tryz.prog w=.ok (.agg c.toArray) w:=by
 have hx:List.take 66 (c++d)=c:=by rw [←hc];exact List.take_left
 unfold Instr.field;simp only [Sem.run_bind,run_underlying Tryz.underlying70,Result.andThen_ok];show (do let x ←asAgg (Value.agg (c++d).toArray);part 27 x 0:Sem Value).run Tryz.prog w=_
 obtain ⟨i,hi,hs⟩:∃ i,Tryz.prog.info? 27=some i∧i.size=66:=by
  have:=Tryz.infoR
  cases h:Tryz.prog.info? 27 with
  | none=>rw [h] at this;cases this
  | some i=>rw [h] at this;injection this with this;exact ⟨i,rfl,this⟩
 simp [asAgg,part,isAgg,Sem.run_bind,run_underlying Tryz.underlying27,run_sizeOf w hi,Program.cellsOf,hi,hs,hx]
set_option maxRecDepth 1000000 in
theorem qpR {ops:Array Oper} {op:Oper} {a:Act} {w:World} {rest:List Oper} {Q:Exit→Act→World→Prop} (hgd:op.guard=none) (x:Operand) (ho:op.op=.field 70 x 0) {r c:List Value} {n m:Bool} {p q:Nat} {e:Int} (hx:a.eval x=.agg r.toArray) (hr:r=nm n p m q e) (hc:c=rat n p m q)
  (h:wpList Tryz.prog ops Q rest (a.put op.dst (.agg c.toArray)) w):wpList Tryz.prog ops Q (op::rest) a w:=by
 subst hr hc;refine wpList_plain hgd fun K' hK'=>?_
 unfold Oper.wp execOp;unfold nm at hx;obtain ⟨C,hC⟩:=nqx (rat n p m q)
 have:=jaL (c:=C) (d:=[.int .i64 e]) (by rw [hC];exact qbE _ _ _ _) w
 rw [←hC] at hx h;clear hC;simp only [ho,hx,Sem.run_bind,this,Result.andThen_ok,Sem.run_pure];exact hK' _ _ h
theorem qrF {cR:List Value} {x y:Int} {d:Nat} (hy:y=(d:Int)) (hd:d≠0) (hR:cR=resR (mkQ x d)) (h1:-9223372036854775808≤x) (h2:x≤9223372036854775807) (h3:y≤9223372036854775807) (w:World) :
  CB 24 #[.int .i64 x,.int .i64 y] (.agg cR.toArray) w:=by
 obtain ⟨code,hc⟩:=nqx (resE (mkQ x d))
 obtain ⟨rn,rp,rm,rq,hcR⟩:∃ rn rp rm rq,cR=rat rn rp rm rq:=by
  rw [hR]
  cases mkQ x d with
  | none=>exact ⟨_,_,_,_,rfl⟩
  | some r=>exact ⟨_,_,_,_,rfl⟩
 have V_cR:=hid hcR;obtain ⟨cN,V_cN⟩:=nvx (nm rn rp rm rq code);obtain ⟨cz,V_cz⟩:=nvx (rat false 0 false 0);have HO:=hid (jfT (cN:=cN) hy hd (by rw [V_cN.out];unfold resN nm;rw [←hR,←hc,hcR]) h1 h2 h3);have HMX:=hid (show max y 1=y by omega);clear hy hd hR h1 h2 h3 hc hcR;obtain ⟨B0,w0,hw0,hB0,AB0,FR,FR0,HB0,hZB0⟩:=en1 w 27 (zQR V_cz);go_enter Tryz.func24,Tryz.ntmps24
 go_upto_region 1 with fail
 rw [←hw0,←hB0];clear hw0 hB0;have HTH:=hid (fun W (hb:Below w0.heap.size w0 W)=>(show W.there B0 0 cR.toArray.size by have:=(AB0.out.below hb).there;rw [V_cz.out,qbE] at this;rw [List.size_toArray,V_cR.out,qbE];exact this));have HSA:=hid (show (Tryz.prog.info? 27).map (·.size)=some cR.toArray.size by rw [List.size_toArray];exact qR V_cR.out);have HONE:=hid (quG V_cR.out);go_wp2_with (first|(refine qsS rfl _ _ _ rfl .i64 y 1 rfl rfl ?_;rw [HMX.out])|(go_at_call 39;refine (HO.out _).mono ?_;rintro e w1 ⟨rfl,hb1⟩;have HB1:=hid hb1;clear hb1)|(refine qpR rfl _ rfl rfl V_cN.out V_cR.out ?_)|(refine wpList_store_mid rfl _ _ _ rfl B0 0 _ rfl rfl (HTH.out _ HB1.out) HSA.out HONE.out ?_))
 try simp only [zq]
 try simp only [List.toList_toArray]
 have AF:=hid ((AB0.out.below HB1.out).stored (ds:=cR) (by rw [V_cR.out,V_cz.out,qbE,qbE]));have FF:=hid (qaC hZB0 cR 0 _ (FR.out.step HB1.out).below);have hld:=rdR AF V_cR;refine bodyPost_ret (v:=.agg cR.toArray) (by simp [results,Tryz.results24,asAddr,hld]) rfl ?_;exact ⟨rfl,by have h:=FF.out;rw [HB0.out] at h ⊢;exact h⟩
end Go.Proofs.YtemoddmadfoaiaaGreat
namespace Go.Proofs.YtemoddmadfoaiaaGreat
open Go.RowKit Big Reg Al Ap Ga
namespace Ga
end Ga
end Go.Proofs.YtemoddmadfoaiaaGreat
