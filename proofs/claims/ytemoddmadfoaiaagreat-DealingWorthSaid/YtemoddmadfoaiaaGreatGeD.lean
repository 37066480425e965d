import Derived.Test.YtemoddmadfoaiaaGreatGaC
import Derived.Test.YtemoddmadfoaiaaGreatGaD
import Derived.Test.YtemoddmadfoaiaaGreatApI
import Derived.Lib.MinMax
import Derived.BigFrame
import Derived.Test.YtemoddmadfoaiaaGreatCpA
import Derived.Test.YtemoddmadfoaiaaGreatRcE
import Derived.Test.YtemoddmadfoaiaaGreatToA
import Derived.Great.BuildSlice
set_option linter.unusedVariables false
set_option linter.unusedSimpArgs false
set_option maxRecDepth 100000
namespace Go.Proofs.YtemoddmadfoaiaaGreat
open Go.RowKit Big Reg Al Ap Ga
namespace Ga
end Ga
theorem qrC {P:Program} {ops:Array Oper} {rest:List Oper} {o:Oper} {a:Act} {w:World} {Q:Exit→Act→World→Prop} (hg:o.guard=none) (x y:Operand) (ats:Array TypeId) (ho:o.op=.call { callee:=.builtin .max,args:=#[x,y],argTypes:=ats })
  (k:IntKind) (X Y:Int) (hx:a.eval x=.int k X) (hy:a.eval y=.int k Y) (h:wpList P ops Q rest (a.put o.dst (.int k (max X Y))) w):wpList P ops Q (o::rest) a w:=by
 refine wpList_plain hg fun K' hK'=>?_
 unfold Oper.wp execOp;simp [Act.eval] at hx hy;simp [ho,hx,hy,resolve,invoke,go_sem,BigFrame.builtin_max,Go.Lib.run_max_ints];exact hK' _ _ h
theorem At.cell0 {w:World} {b:Nat} {v:Value} {cs:List Value} (h:At w b 0 (v::cs)):w.cell? ⟨b,0,none⟩=some v:=h.cell (j:=0) rfl
end Go.Proofs.YtemoddmadfoaiaaGreat
set_option maxHeartbeats 8000000
namespace Go.Proofs.YtemoddmadfoaiaaGreat
open Go.RowKit Big
open Lib (hid)
theorem rmulQ {ca cb cR:List Value} {a b:Qn} {code:Int} (h1:ca=ratZ a.1 a.2) (h2:cb=ratZ b.1 b.2) (ha:VQ a) (hb:VQ b) (hR:cR=resR (mulQ a b)) (hc:code=resE (mulQ a b)) (w:World) :
  Calls Tryz.prog 66 #[.agg ca.toArray,.agg cb.toArray] w fun e w'=>e=.returned (.tuple #[.agg cR.toArray,.int .i64 code])∧Below w.heap.size w w':=by
 have V_ca:=hid h1;have V_cb:=hid h2;obtain ⟨B1,B2,B3⟩:=quU ha hb;have hd:((a.2:Int)*(b.2:Int)).natAbs<BB^30:=by rw [Int.natAbs_mul];exact quV (by simpa using ha.den) (by simpa using hb.den)
 obtain ⟨rn,rp,rm,rq,hcR⟩:∃ rn rp rm rq,cR=rat rn rp rm rq:=by
  rw [hR]
  cases mulQ a b with
  | none=>exact ⟨_,_,_,_,rfl⟩
  | some r=>exact ⟨_,_,_,_,rfl⟩
 have V_cR:=hid hcR;obtain ⟨cz,V_cz⟩:∃ c:List Value,Hid (c=rat false 0 false 0):=⟨_,hid rfl⟩;obtain ⟨cna,V_cna⟩:∃ c:List Value,Hid (c=iZ a.1):=⟨_,hid rfl⟩;obtain ⟨cnb,V_cnb⟩:∃ c:List Value,Hid (c=iZ b.1):=⟨_,hid rfl⟩;obtain ⟨cx,V_cx⟩:∃ c:List Value,Hid (c=iZ (a.1*b.1)):=⟨_,hid rfl⟩;obtain ⟨ce,V_ce⟩:∃ c:List Value,Hid (c=iZ ((a.2:Int)*(b.2:Int))):=⟨_,hid rfl⟩;obtain ⟨cda,V_cda⟩:∃ c:List Value,Hid (c=.bool false::lv 32 a.2):=⟨_,hid rfl⟩;obtain ⟨cdb,V_cdb⟩:∃ c:List Value,Hid (c=.bool false::lv 32 b.2):=⟨_,hid rfl⟩;have hda:cda=iZ (a.2:Int):=by rw [V_cda.out,qvJ]
 have hdb:cdb=iZ (b.2:Int):=by rw [V_cdb.out,qvJ]
 have HVA:=hid (qjZ V_ca.out ha);have HVB:=hid (qjZ V_cb.out hb);have HX:=hid (jaQ V_cna.out V_cnb.out V_cx.out (qaO ha.num) (qaO hb.num) B1);have HD:=hid (jaQ hda hdb V_ce.out (qaO (by simpa using ha.den)) (qaO (by simpa using hb.den)) (b30 hd));have HM:=hid (jaR V_cx.out (show ce=iZ ((a.2*b.2:Nat):Int) by rw [V_ce.out,Int.natCast_mul]) hR hc B1 B2 B3);clear h1 h2 ha hb hR hc hd hcR hda hdb B1 B2 B3;obtain ⟨B0,B1,B2,w0,hw0,hB0,hB1,hB2,AB0,AB1,AB2,FR,FR0,HB0,hZB0,l01,hZB1,l12,hZB2⟩:=en3 w 27 27 27 (bxq ca) (bxq cb) (zQR V_cz);go_enter Tryz.func66,Tryz.ntmps66
 go_upto_region 1 with fail
 rw [←hw0,←hB2,←hB1,←hB0];clear hw0 hB0 hB1 hB2;refine wT [] [(6,.agg ca.toArray),(7,.bool true),(8,.bool false),(9,.bool false),(10,.agg cb.toArray),(11,.bool true),(12,.bool false),(13,.bool false)] (by simp only [zr,zq];rfl) (by kernel_rfl) rfl ?_ oN oN ?_
 ·intro W' hW';refine ldR (abl AB0 hW') V_ca rfl<|fo3 ?_ ?_ ?_<|ldR (abl AB1 hW') V_cb rfl<|fxo (by go_big_quiet_step ((go_at_call 98;exact qaA (HVB.out _)));exact wqn rfl)<|fo2 ?_ ?_<|fxn;all_goals (go_big_quiet_step ((go_at_call 98;exact qaA (HVA.out _)));exact wqn rfl)
 intro β wx1 E;replace FR:=fnf FR E rfl;replace AB0:=fnh AB0 E rfl;replace AB1:=fnh AB1 E rfl;replace AB2:=fnh AB2 E rfl;simp only [nP,zr,zq];clear E;go_upto_region 3 with fail
 have AB0_n:=hid (AB0.out.num V_ca.out V_cna.out);have AB0_d:=hid (AB0.out.den V_ca.out V_cda.out);have AB1_n:=hid (AB1.out.num V_cb.out V_cnb.out);have AB1_d:=hid (AB1.out.den V_cb.out V_cdb.out);refine wF [⟨false,0,4,13,B2,0,27,26,cR,0,cR,[]⟩] [(15,.pointer (some ⟨B0,0,none⟩)),(16,.agg cna.toArray),(17,.pointer (some ⟨B1,0,none⟩)),(18,.agg cnb.toArray),(19,.agg cx.toArray),(20,.pointer (some ⟨B0,33,none⟩)),(21,.agg cda.toArray),(22,.pointer (some ⟨B1,33,none⟩)),(23,.agg cdb.toArray),(24,.agg ce.toArray),(25,.tuple #[.agg cR.toArray,.int .i64 code]),(26,.agg cR.toArray),(27,.int .i64 code),(5,.int .i64 code)] (by simp only [zr,zq];rfl) (by kernel_rfl) ?_ ?_ (fP1 bnC) ?_ uno ?_ ?_
 ·intro W' hW';refine fxo ?_<|ldI (abl AB0_n hW') V_cna rfl<|fxo ?_<|ldI (abl AB1_n hW') V_cnb rfl<|fo2 ?_ ?_<|ldI (abl AB0_d hW') V_cda rfl<|fxo ?_<|ldI (abl AB1_d hW') V_cdb rfl<|fxo (by go_big_quiet_step ((go_at_call 100;exact qaA (HD.out _)));exact wqn rfl)<|fxo (by go_big_quiet_step ((go_at_call 99;exact qaA (HM.out _)));exact wqn rfl)<|fo2 ?_ ?_<|fxs rfl<|fxo ?_<|fxn;all_goals (go_big_quiet_step ((go_at_call 100;exact qaA (HX.out _)));exact wqn rfl)
 ·intro W' hK';have rd0:=akh AB0_n hK' (by show B2≠B0;omega);have rd1:=akh AB1_n hK' (by show B2≠B1;omega);have rd2:=akh AB0_d hK' (by show B2≠B0;omega);have rd3:=akh AB1_d hK' (by show B2≠B1;omega);refine fxi ?_<|ldI rd0 V_cna rfl<|fxi ?_<|ldI rd1 V_cnb rfl<|fxs (by kernel_rfl)<|fxi ?_<|ldI rd2 V_cda rfl<|fxi ?_<|ldI rd3 V_cdb rfl<|fxs (by kernel_rfl)<|fxs (by kernel_rfl)<|fxi ?_<|fxi ?_<|fxs (by kernel_rfl)<|fxi ?_<|fxn;all_goals (first|(refine .inr ?_;go_big_quiet_step (fail);exact wqn rfl)|exact .inl (by kernel_rfl))
 ·exact fP1 (fun _=>⟨AB2.out.lt,rfl,At.room AB2.out (qR V_cz.out) (qR V_cR.out)⟩)
 ·exact fP1 (sR V_cR (fun _=>rfl) rfl)
 intro β wx2 E;replace FR:=ffh FR E (by show B0≤B2;omega);replace AB0:=afh AB0 E (by show B2≠B0;omega);replace AB1:=afh AB1 E (by show B2≠B1;omega);replace AB2:=hid (show At wx2 B2 0 cR from E.atOld mms rfl AB2.out.lt);replace AB0_n:=afh AB0_n E (by show B2≠B0;omega);replace AB0_d:=afh AB0_d E (by show B2≠B0;omega);replace AB1_n:=afh AB1_n E (by show B2≠B1;omega);replace AB1_d:=afh AB1_d E (by show B2≠B1;omega);simp only [nP,zr,zq];clear E;go_wp2_with fail
 have hld:=AB2.out.read (P:=Tryz.prog) Tryz.underlying27 rfl (qR V_cR.out);refine bodyPost_ret (v:=.tuple #[.agg cR.toArray,.int .i64 code]) (by simp [results,Tryz.results66,asAddr,hld]) rfl ?_;exact ⟨rfl,fend HB0 FR⟩
theorem jdS {ca:List Value} {a:Qn} {s:Int} (h1:ca=ratZ a.1 a.2) (ha:VQ a) (hs:s=a.1.sign) (w:World) :
  Calls Tryz.prog 69 #[.agg ca.toArray] w fun e w'=>e=.returned (.tuple #[.int .i64 s,.int .i64 0])∧Below w.heap.size w w':=by
 have V_ca:=hid (show ca=rat (decide (a.1<0)) a.1.natAbs false a.2 from h1);obtain ⟨cn,V_cn⟩:∃ c:List Value,Hid (c=.bool (decide (a.1<0))::lv 32 a.1.natAbs):=⟨_,hid rfl⟩;obtain ⟨cd,V_cd⟩:∃ c:List Value,Hid (c=.bool false::lv 32 a.2):=⟨_,hid rfl⟩;have HV:=hid (qjZ h1 ha);have HS:=hid (qcS V_cn.out (show s=sgnI (decide (a.1<0)) a.1.natAbs by rw [jaP];exact hs) (qaO ha.num));clear h1 ha hs;obtain ⟨B0,w0,hw0,hB0,AB0,FR,FR0,HB0,hZB0⟩:=en1 w 27 (bxq ca);go_enter Tryz.func69,Tryz.ntmps69
 go_upto_region 1 with fail
 rw [←hw0,←hB0];clear hw0 hB0;have AB0_n:=hid (AB0.out.num V_ca.out V_cn.out);have AB0_d:=hid (AB0.out.den V_ca.out V_cd.out);refine wT [] [(4,.agg ca.toArray),(5,.bool true),(6,.bool false)] (by simp only [zr,zq];rfl) (by kernel_rfl) rfl ?_ oN oN ?_
 ·intro W' hW';refine ldR (abl AB0 hW') V_ca rfl<|fo2 ?_ ?_<|fxn;all_goals (go_big_quiet_step ((go_at_call 98;exact qaA (HV.out _)));exact wqn rfl)
 intro β wx1 E;replace FR:=fnf FR E rfl;replace AB0:=fnh AB0 E rfl;replace AB0_n:=fnh AB0_n E rfl;replace AB0_d:=fnh AB0_d E rfl;simp only [nP,zr,zq];clear E;go_upto_region 3 with fail
 refine wT [] [(7,.pointer (some ⟨B0,0,none⟩)),(8,.agg cn.toArray),(9,.int .i64 s),(2,.int .i64 s),(3,.int .i64 0)] (by simp only [zr,zq];rfl) (by kernel_rfl) rfl ?_ oN oN ?_
 ·intro W' hW';refine fxo ?_<|ldI (abl AB0_n hW') V_cn rfl<|fo3 ?_ ?_ ?_<|fxn;all_goals (go_big_quiet_step ((go_at_call 103;exact qaA (HS.out _)));exact wqn rfl)
 intro β wx2 E;replace FR:=fnf FR E rfl;replace AB0:=fnh AB0 E rfl;replace AB0_n:=fnh AB0_n E rfl;replace AB0_d:=fnh AB0_d E rfl;simp only [nP,zr,zq];clear E;go_wp2
 go_ret2
 exact ⟨rfl,fend HB0 FR⟩
def nm (n:Bool) (p:Nat) (m:Bool) (q:Nat) (e:Int):List Value:=rat n p m q++[.int .i64 e]
theorem jaU (n m:Bool) (p q:Nat) (e:Int):(nm n p m q e).length=67:=by simp [nm,qcB]
theorem jeF (n m:Bool) (p q:Nat) (e:Int):∀ v∈nm n p m q e,v.oneCell'=true:=by
 intro v hv;rcases List.mem_append.1 hv with h|h
 ·exact qtZ n p m q v h
 ·rw [List.mem_singleton.1 h];rfl
theorem Tryz.infoN:(Tryz.prog.info? 70).map (·.size)=some 67:=by kernel_rfl
theorem qcO {cs:List Value} {n m:Bool} {p q:Nat} {e:Int} (h:cs=nm n p m q e):(Tryz.prog.info? 70).map (·.size)=some cs.length:=by rw [h,jaU];exact Tryz.infoN
theorem jdK {cs:List Value} {n m:Bool} {p q:Nat} {e:Int} (h:cs=nm n p m q e):cs.toArray.all (·.oneCell')=true:=by rw [h];exact all_oneCell_toArray (jeF n m p q e)
theorem qhM {c r:List Value} {n m:Bool} {p q:Nat} {e:Int} (hc:c=rat n p m q) (hr:r=nm n p m q e):Tryz.prog.built 70 [(0,.agg c.toArray),(1,.int .i64 e)]=some r.toArray:=by
 subst hc hr;unfold nm rat;kernel_rfl
theorem qoC {c r:List Value} {n m:Bool} {p q:Nat} (hc:c=rat n p m q) (hr:r=nm n p m q 0):Tryz.prog.built 70 [(0,.agg c.toArray)]=some r.toArray:=by
 subst hc hr;unfold nm rat;kernel_rfl
theorem qoB {r:List Value} {e:Int} (hr:r=nm false 0 false 0 e):Tryz.prog.built 70 [(1,.int .i64 e)]=some r.toArray:=by
 subst hr;unfold nm rat;rw [qbP];kernel_rfl
theorem Tryz.zeroN:Tryz.zeroCells70=(nm false 0 false 0 0).toArray:=by unfold nm rat;rw [qbP];rfl
theorem zQN {c:List Value} (h:Hid (c=nm false 0 false 0 0)):Tryz.zeroCells70=c.toArray:=by rw [h.out];exact Tryz.zeroN
theorem At.val {w:World} {b:Nat} {c d:List Value} {n m:Bool} {p q:Nat} {e:Int} (h:At w b 0 c) (hc:c=nm n p m q e) (hd:d=rat n p m q):At w b 0 d:=by
 subst hc hd;exact At.head h
theorem At.err {w:World} {b:Nat} {c:List Value} {n m:Bool} {p q:Nat} {e:Int} (h:At w b 0 c) (hc:c=nm n p m q e):w.cell? ⟨b,66,none⟩=some (.int .i64 e):=by
 subst hc
 have:=h.cell (j:=66) (v:=.int .i64 e) (by unfold nm;rw [List.getElem?_append_right (by rw [qcB];omega),qcB];rfl)
 simpa using this
set_option maxHeartbeats 8000000
def resN (o:Option Qn):List Value:=resR o++[.int .i64 (resE o)]
def opt2 (f:Qn→Qn→Option Qn) (a b:Option Qn):Option Qn:=match a,b with|some x,some y=>f x y|_,_=>none
def okN (o:Option Qn):Prop:=∀ r,o=some r→VQ r
theorem qoV (o:Option Qn):∃ n p m q e,resN o=nm n p m q e:=by
 cases o with
 | none=>exact ⟨_,_,_,_,_,rfl⟩
 | some r=>exact ⟨_,_,_,_,_,rfl⟩
theorem eOf {cr cN:List Value} {n m:Bool} {p q:Nat} (h:cr=rat n p m q) (hN:cN=nm n p m q 0) (w:World) :
  Calls Tryz.prog 32 #[.agg cr.toArray] w fun e w'=>e=.returned (.agg cN.toArray)∧Below w.heap.size w w':=by
 have V_cr:=hid h;have V_cN:=hid hN;obtain ⟨cz,V_cz⟩:∃ c:List Value,Hid (c=nm false 0 false 0 0):=⟨_,hid rfl⟩;clear h hN;obtain ⟨B0,B1,w0,hw0,hB0,hB1,AB0,AB1,FR,FR0,HB0,hZB0,l01,hZB1⟩:=en2 w 27 70 (bxq cr) (zQN V_cz);go_enter Tryz.func32,Tryz.ntmps32
 go_upto_region 1 with fail
 rw [←hw0,←hB1,←hB0];clear hw0 hB0 hB1;refine wF [⟨false,0,2,2,B1,0,70,4,cN,0,cN,[]⟩] [(3,.agg cr.toArray),(4,.agg cN.toArray)] (by simp only [zr,zq];rfl) (by kernel_rfl) ?_ ?_ (fP1 bnC) ?_ uno ?_ ?_
 ·intro W' hW';exact ldR (abl AB0 hW') V_cr rfl<|fxb (qoC V_cr.out V_cN.out) rfl<|fxs rfl<|fxn
 ·intro W' hK';have rd0:=akh AB0 hK' (by show B1≠B0;omega);exact ldR rd0 V_cr rfl<|fxb (qoC V_cr.out V_cN.out) rfl<|fxs (by kernel_rfl)<|fxn
 ·exact fP1 (fun _=>⟨AB1.out.lt,rfl,At.room AB1.out (qcO V_cz.out) (qcO V_cN.out)⟩)
 ·exact fP1 (stw rfl (qcO V_cN.out) (jdK V_cN.out) (fun _=>rfl))
 intro β wx1 E;replace FR:=ffh FR E (by show B0≤B1;omega);replace AB0:=afh AB0 E (by show B1≠B0;omega);replace AB1:=hid (show At wx1 B1 0 cN from E.atOld mms rfl AB1.out.lt);simp only [nP,zr,zq];clear E;go_wp2_with fail
 have hld:=AB1.out.read (P:=Tryz.prog) Tryz.underlying70 rfl (qcO V_cN.out);refine bodyPost_ret (v:=.agg cN.toArray) (by simp [results,Tryz.results32,asAddr,hld]) rfl ?_;exact ⟨rfl,fend HB0 FR⟩
theorem jeO {cN:List Value} {x y:Int} {d:Nat} (hy:y=(d:Int)) (hd:d≠0) (hN:cN=resN (mkQ x d)) (h1:-9223372036854775808≤x) (h2:x≤9223372036854775807) (h3:y≤9223372036854775807) (w:World) :
  Calls Tryz.prog 39 #[.int .i64 x,.int .i64 y] w fun e w'=>e=.returned (.agg cN.toArray)∧Below w.heap.size w w':=by
 obtain ⟨cR,hR⟩:∃ c,c=resR (mkQ x d):=⟨_,rfl⟩;obtain ⟨code,hc⟩:∃ c,c=resE (mkQ x d):=⟨_,rfl⟩
 obtain ⟨rn,rp,rm,rq,hcR⟩:∃ rn rp rm rq,cR=rat rn rp rm rq:=by
  rw [hR]
  cases mkQ x d with
  | none=>exact ⟨_,_,_,_,rfl⟩
  | some r=>exact ⟨_,_,_,_,rfl⟩
 have V_cR:=hid hcR;have V_cN:=hid (show cN=nm rn rp rm rq code by rw [hN];unfold resN nm;rw [←hR,←hc,hcR]);obtain ⟨cz,V_cz⟩:∃ c:List Value,Hid (c=nm false 0 false 0 0):=⟨_,hid rfl⟩;have HO:=hid (rofQ (cR:=cR) (code:=code) hy hd hR hc h1 h2 h3);clear hy hd hN h1 h2 h3 hR hc hcR;obtain ⟨B0,w0,hw0,hB0,AB0,FR,FR0,HB0,hZB0⟩:=en1 w 70 (zQN V_cz);go_enter Tryz.func39,Tryz.ntmps39
 go_upto_region 1 with fail
 rw [←hw0,←hB0];clear hw0 hB0;refine wT [⟨true,6,5,7,0,0,27,11,cR,0,cR,[]⟩] [(8,.int .i64 x),(9,.int .i64 y),(10,.tuple #[.agg cR.toArray,.int .i64 code]),(7,.tuple #[.agg cR.toArray,.int .i64 code]),(11,.agg cR.toArray),(12,.int .i64 code),(6,.int .i64 code)] (by simp only [zr,zq];rfl) (by kernel_rfl) rfl ?_ ?_ ?_ ?_
 ·intro W' hW';refine fo4 ?_ ?_ ?_ ?_<|fo2 ?_ ?_<|fxs rfl<|fxs rfl<|fxo ?_<|fxn;all_goals (go_big_quiet_step ((go_at_call 73;exact qaA (HO.out _)));exact wqn rfl)
 ·exact fP1 (Tryz.alR (qR V_cR.out))
 ·exact fP1 (sR V_cR (fun _=>rfl) rfl)
 intro β wx1 E;replace FR:=fnf FR E rfl;obtain ⟨b5,hb5,eb5⟩:=nwb E mms;have lB0_b5:B0<b5:=ltb AB0 eb5.1;have hZb5:B0≤b5:=Nat.le_trans FR0.out eb5.1;replace AB0:=fnh AB0 E rfl;have Ab5:=hid eb5.2;simp only [nP,zr,zq];rw [←hb5];replace FR0:=hid FR.out.le;clear E eb5 hb5;go_upto_region 2 with fail
 refine wF [⟨false,0,4,3,B0,0,70,15,cN,0,cN,[]⟩] [(13,.agg cR.toArray),(14,.int .i64 code),(15,.agg cN.toArray)] (by simp only [zr,zq];rfl) (by kernel_rfl) ?_ ?_ (fP1 bnC) ?_ uno ?_ ?_
 ·intro W' hW';refine ldR (abl Ab5 hW') V_cR rfl<|fxo ?_<|fxb (qhM V_cR.out V_cN.out) rfl<|fxs rfl<|fxn
  go_big_quiet_step (fail);exact wqn rfl
 ·intro W' hK';have rd0:=akh Ab5 hK' (by show B0≠b5;omega);refine ldR rd0 V_cR rfl<|fxi ?_<|fxb (qhM V_cR.out V_cN.out) rfl<|fxs (by kernel_rfl)<|fxn
  first|(refine .inr ?_;go_big_quiet_step (fail);exact wqn rfl)|exact .inl (by kernel_rfl)
 ·exact fP1 (fun _=>⟨AB0.out.lt,rfl,At.room AB0.out (qcO V_cz.out) (qcO V_cN.out)⟩)
 ·exact fP1 (stw rfl (qcO V_cN.out) (jdK V_cN.out) (fun _=>rfl))
 intro β wx2 E;replace FR:=ffh FR E (by show B0≤B0;omega);replace AB0:=hid (show At wx2 B0 0 cN from E.atOld mms rfl AB0.out.lt);replace Ab5:=afh Ab5 E (by show B0≠b5;omega);simp only [nP,zr,zq];replace FR0:=hid FR.out.le;clear E;go_wp2_with fail
 have hld:=AB0.out.read (P:=Tryz.prog) Tryz.underlying70 rfl (qcO V_cN.out);refine bodyPost_ret (v:=.agg cN.toArray) (by simp [results,Tryz.results39,asAddr,hld]) rfl ?_;exact ⟨rfl,fend HB0 FR⟩
theorem jeP {ca cb:List Value} {n1 m1 n2 m2:Bool} {p1 q1 p2 q2:Nat} {e1 e2 r:Int} (ha:ca=nm n1 p1 m1 q1 e1) (hb:cb=nm n2 p2 m2 q2 e2) (hr:r=if e1=0 then e2 else e1) (w:World) :
  Calls Tryz.prog 65 #[.agg ca.toArray,.agg cb.toArray] w fun e w'=>e=.returned (.int .i64 r)∧Below w.heap.size w w':=by
 have V_ca:=hid ha;have V_cb:=hid hb;clear ha hb;obtain ⟨B0,B1,w0,hw0,hB0,hB1,AB0,AB1,FR,FR0,HB0,hZB0,l01,hZB1⟩:=en2 w 70 70 (bxq ca) (bxq cb);go_enter Tryz.func65,Tryz.ntmps65
 go_upto_region 1 with fail
 rw [←hw0,←hB1,←hB0];clear hw0 hB0 hB1;have c0:=AB0.out.err V_ca.out;have c1:=AB1.out.err V_cb.out;by_cases h:e1=0
 ·rw [if_pos h] at hr;subst hr;subst h;go_wp2
  go_ret
  exact ⟨rfl,fend HB0 FR⟩
 ·rw [if_neg h] at hr;subst hr;have hne:(r==0)=false:=beq_eq_false_iff_ne.2 h;go_wp2
  go_ret
  exact ⟨rfl,fend HB0 FR⟩
theorem eMul {ca cb cN:List Value} {a b:Option Qn} (h1:ca=resN a) (h2:cb=resN b) (ha:okN a) (hb:okN b) (hN:cN=resN (opt2 mulQ a b)) (w:World) :
  Calls Tryz.prog 29 #[.agg ca.toArray,.agg cb.toArray] w fun e w'=>e=.returned (.agg cN.toArray)∧Below w.heap.size w w':=by
 obtain ⟨n1,p1,m1,q1,e1,hca⟩:∃ n p m q e,ca=nm n p m q e:=by rw [h1];exact qoV a
 obtain ⟨n2,p2,m2,q2,e2,hcb⟩:∃ n p m q e,cb=nm n p m q e:=by rw [h2];exact qoV b
 have V_ca:=hid hca;have V_cb:=hid hcb;obtain ⟨cz,V_cz⟩:∃ c:List Value,Hid (c=nm false 0 false 0 0):=⟨_,hid rfl⟩;obtain ⟨r,hr⟩:∃ r:Int,r=if e1=0 then e2 else e1:=⟨_,rfl⟩
 have HF:=hid (jeP V_ca.out V_cb.out hr)
 have ee:∀ (o:Option Qn) (n:Bool) (p:Nat) (m:Bool) (q:Nat) (e:Int),resN o=nm n p m q e→e=resE o:=by
  intro o n p m q e h
  have:=congrArg (fun l=>l[66]?) h
  unfold resN nm at this;have hl:(resR o).length=66:=by cases o<;>exact qcB _ _ _ _
  try simp only at this
  rw [List.getElem?_append_right (by rw [hl];omega),hl,List.getElem?_append_right (by rw [qcB];omega),qcB] at this;simp at this
  exact this.symm
 have he1:=ee a _ _ _ _ _ (by rw [←h1];exact hca);have he2:=ee b _ _ _ _ _ (by rw [←h2];exact hcb);clear ee
 have hbad:∀ (hn:opt2 mulQ a b=none∧r=10),Calls Tryz.prog 29 #[.agg ca.toArray,.agg cb.toArray] w (fun e w'=>e=.returned (.agg cN.toArray)∧Below w.heap.size w w'):=by
  rintro ⟨hn,hr10⟩;have V_cN:=hid (show cN=nm false 0 false 0 10 by rw [hN,hn];rfl);subst hr10;clear hn hN h1 h2 ha hb hca hcb he1 he2 hr;obtain ⟨B0,B1,B2,w0,hw0,hB0,hB1,hB2,AB0,AB1,AB2,FR,FR0,HB0,hZB0,l01,hZB1,l12,hZB2⟩:=en3 w 70 70 70 (bxq ca) (bxq cb) (zQN V_cz);go_enter Tryz.func29,Tryz.ntmps29
  go_upto_region 1 with fail
  rw [←hw0,←hB2,←hB1,←hB0];clear hw0 hB0 hB1 hB2;refine wT [] [(8,.agg ca.toArray),(9,.agg cb.toArray),(10,.int .i64 10),(5,.int .i64 10)] (by simp only [zr,zq];rfl) (by kernel_rfl) rfl ?_ oN oN ?_
  ·intro W' hW';refine fxl (abl AB0 hW') (qcO V_ca.out) Tryz.underlying70 rfl rfl<|fxl (abl AB1 hW') (qcO V_cb.out) Tryz.underlying70 rfl rfl<|fo2 ?_ ?_<|fxn;all_goals (go_big_quiet_step ((go_at_call 65;exact qaA (HF.out _)));exact wqn rfl)
  intro β wx1 E;replace FR:=fnf FR E rfl;replace AB0:=fnh AB0 E rfl;replace AB1:=fnh AB1 E rfl;replace AB2:=fnh AB2 E rfl;simp only [nP,zr,zq];replace FR0:=hid FR.out.le;clear E;go_upto_region 3 with fail
  refine wF [⟨false,0,4,2,B2,0,70,14,cN,0,cN,[]⟩] [(13,.int .i64 10),(14,.agg cN.toArray)] (by simp only [zr,zq];rfl) (by kernel_rfl) ?_ ?_ (fP1 bnC) ?_ uno ?_ ?_
  ·intro W' hW';refine fxo ?_<|fxb (qoB V_cN.out) rfl<|fxs rfl<|fxn
   go_big_quiet_step (fail);exact wqn rfl
  ·intro W' hK';refine fxi ?_<|fxb (qoB V_cN.out) rfl<|fxs (by kernel_rfl)<|fxn
   first|(refine .inr ?_;go_big_quiet_step (fail);exact wqn rfl)|exact .inl (by kernel_rfl)
  ·exact fP1 (fun _=>⟨AB2.out.lt,rfl,At.room AB2.out (qcO V_cz.out) (qcO V_cN.out)⟩)
  ·exact fP1 (stw rfl (qcO V_cN.out) (jdK V_cN.out) (fun _=>rfl))
  intro β wx2 E;replace FR:=ffh FR E (by show B0≤B2;omega);replace AB0:=afh AB0 E (by show B2≠B0;omega);replace AB1:=afh AB1 E (by show B2≠B1;omega);replace AB2:=hid (show At wx2 B2 0 cN from E.atOld mms rfl AB2.out.lt);simp only [nP,zr,zq];replace FR0:=hid FR.out.le;clear E;go_wp2_with fail
  have hld:=AB2.out.read (P:=Tryz.prog) Tryz.underlying70 rfl (qcO V_cN.out);refine bodyPost_ret (v:=.agg cN.toArray) (by simp [results,Tryz.results29,asAddr,hld]) rfl ?_;exact ⟨rfl,fend HB0 FR⟩
 cases a with
 | none=>exact hbad ⟨rfl,by rw [hr,he1];rfl⟩
 | some x =>
  cases b with
  | none=>exact hbad ⟨rfl,by rw [hr,he1,he2];rfl⟩
  | some y =>
   have hr0:r=0:=by rw [hr,he1,he2];rfl
   subst hr0;have e1z:e1=0:=he1;have e2z:e2=0:=he2;clear hbad hr hca hcb he1 he2;obtain ⟨cR,hR⟩:∃ c,c=resR (mulQ x y):=⟨_,rfl⟩;obtain ⟨code,hc⟩:∃ c,c=resE (mulQ x y):=⟨_,rfl⟩
   obtain ⟨rn,rp,rm,rq,hcR⟩:∃ rn rp rm rq,cR=rat rn rp rm rq:=by
    rw [hR]
    cases mulQ x y with
    | none=>exact ⟨_,_,_,_,rfl⟩
    | some r=>exact ⟨_,_,_,_,rfl⟩
   have V_cR:=hid hcR;have V_cN:=hid (show cN=nm rn rp rm rq code by rw [hN];unfold resN nm;rw [show opt2 mulQ (some x) (some y)=mulQ x y from rfl,←hR,←hc,hcR]);have V_cx:=hid h1;have V_cy:=hid h2;obtain ⟨va,V_va⟩:∃ c:List Value,Hid (c=rat (decide (x.1<0)) x.1.natAbs false x.2):=⟨_,hid rfl⟩;obtain ⟨vb,V_vb⟩:∃ c:List Value,Hid (c=rat (decide (y.1<0)) y.1.natAbs false y.2):=⟨_,hid rfl⟩;have HM:=hid (rmulQ (ca:=va) (cb:=vb) (cR:=cR) (code:=code) V_va.out V_vb.out (ha x rfl) (hb y rfl) hR hc);clear hN h1 h2 ha hb hR hc hcR e1z e2z;obtain ⟨B0,B1,B2,w0,hw0,hB0,hB1,hB2,AB0,AB1,AB2,FR,FR0,HB0,hZB0,l01,hZB1,l12,hZB2⟩:=en3 w 70 70 70 (bxq ca) (bxq cb) (zQN V_cz);go_enter Tryz.func29,Tryz.ntmps29
   go_upto_region 1 with fail
   rw [←hw0,←hB2,←hB1,←hB0];clear hw0 hB0 hB1 hB2;refine wT [] [(8,.agg ca.toArray),(9,.agg cb.toArray),(10,.int .i64 0),(5,.int .i64 0)] (by simp only [zr,zq];rfl) (by kernel_rfl) rfl ?_ oN oN ?_
   ·intro W' hW';refine fxl (abl AB0 hW') (qcO V_ca.out) Tryz.underlying70 rfl rfl<|fxl (abl AB1 hW') (qcO V_cb.out) Tryz.underlying70 rfl rfl<|fo2 ?_ ?_<|fxn;all_goals (go_big_quiet_step ((go_at_call 65;exact qaA (HF.out _)));exact wqn rfl)
   intro β wx1 E;replace FR:=fnf FR E rfl;replace AB0:=fnh AB0 E rfl;replace AB1:=fnh AB1 E rfl;replace AB2:=fnh AB2 E rfl;simp only [nP,zr,zq];replace FR0:=hid FR.out.le;clear E;go_upto_region 4 with fail
   have AB0_v:=hid (AB0.out.val (e:=0) V_cx.out V_va.out);have AB1_v:=hid (AB1.out.val (e:=0) V_cy.out V_vb.out);refine wT [⟨true,8,6,9,0,0,27,21,cR,0,cR,[]⟩] [(16,.pointer (some ⟨B0,0,none⟩)),(17,.agg va.toArray),(18,.pointer (some ⟨B1,0,none⟩)),(19,.agg vb.toArray),(20,.tuple #[.agg cR.toArray,.int .i64 code]),(15,.tuple #[.agg cR.toArray,.int .i64 code]),(21,.agg cR.toArray),(22,.int .i64 code),(7,.int .i64 code)] (by simp only [zr,zq];rfl) (by kernel_rfl) rfl ?_ ?_ ?_ ?_
   ·intro W' hW';refine fxo ?_<|ldR (abl AB0_v hW') V_va rfl<|fxo ?_<|ldR (abl AB1_v hW') V_vb rfl<|fo4 ?_ ?_ ?_ ?_<|fxs rfl<|fxs rfl<|fxo ?_<|fxn;all_goals (go_big_quiet_step ((go_at_call 66;exact qaA (HM.out _)));exact wqn rfl)
   ·exact fP1 (Tryz.alR (qR V_cR.out))
   ·exact fP1 (sR V_cR (fun _=>rfl) rfl)
   intro β wx2 E;replace FR:=fnf FR E rfl;obtain ⟨b6,hb6,eb6⟩:=nwb E mms;have lB0_b6:B0<b6:=ltb AB0 eb6.1;have lB1_b6:B1<b6:=ltb AB1 eb6.1;have lB2_b6:B2<b6:=ltb AB2 eb6.1;have hZb6:B0≤b6:=Nat.le_trans FR0.out eb6.1;replace AB0:=fnh AB0 E rfl;replace AB1:=fnh AB1 E rfl;replace AB2:=fnh AB2 E rfl;replace AB0_v:=fnh AB0_v E rfl;replace AB1_v:=fnh AB1_v E rfl;have Ab6:=hid eb6.2;simp only [nP,zr,zq];rw [←hb6];replace FR0:=hid FR.out.le;clear E eb6 hb6;go_upto_region 5 with fail
   refine wF [⟨false,0,4,3,B2,0,70,25,cN,0,cN,[]⟩] [(23,.agg cR.toArray),(24,.int .i64 code),(25,.agg cN.toArray)] (by simp only [zr,zq];rfl) (by kernel_rfl) ?_ ?_ (fP1 bnC) ?_ uno ?_ ?_
   ·intro W' hW';refine ldR (abl Ab6 hW') V_cR rfl<|fxo ?_<|fxb (qhM V_cR.out V_cN.out) rfl<|fxs rfl<|fxn
    go_big_quiet_step (fail);exact wqn rfl
   ·intro W' hK';have rd0:=akh Ab6 hK' (by show B2≠b6;omega);refine ldR rd0 V_cR rfl<|fxi ?_<|fxb (qhM V_cR.out V_cN.out) rfl<|fxs (by kernel_rfl)<|fxn
    first|(refine .inr ?_;go_big_quiet_step (fail);exact wqn rfl)|exact .inl (by kernel_rfl)
   ·exact fP1 (fun _=>⟨AB2.out.lt,rfl,At.room AB2.out (qcO V_cz.out) (qcO V_cN.out)⟩)
   ·exact fP1 (stw rfl (qcO V_cN.out) (jdK V_cN.out) (fun _=>rfl))
   intro β wx3 E;replace FR:=ffh FR E (by show B0≤B2;omega);replace AB0:=afh AB0 E (by show B2≠B0;omega);replace AB1:=afh AB1 E (by show B2≠B1;omega);replace AB2:=hid (show At wx3 B2 0 cN from E.atOld mms rfl AB2.out.lt);replace AB0_v:=afh AB0_v E (by show B2≠B0;omega);replace AB1_v:=afh AB1_v E (by show B2≠B1;omega);replace Ab6:=afh Ab6 E (by show B2≠b6;omega);simp only [nP,zr,zq];replace FR0:=hid FR.out.le;clear E;go_wp2_with fail
   have hld:=AB2.out.read (P:=Tryz.prog) Tryz.underlying70 rfl (qcO V_cN.out);refine bodyPost_ret (v:=.agg cN.toArray) (by simp [results,Tryz.results29,asAddr,hld]) rfl ?_;exact ⟨rfl,fend HB0 FR⟩
set_option maxHeartbeats 8000000
theorem qxX {c d:List Value} (hc:c.length=66) (w:World):(Instr.field 70 (.agg (c++d).toArray) 0).run Tryz.prog w=.ok (.agg c.toArray) w:=by
 have hx:List.take 66 (c++d)=c:=by rw [←hc];exact List.take_left
 unfold Instr.field;simp only [Sem.run_bind,run_underlying Tryz.underlying70,Result.andThen_ok];show (do let x ←asAgg (Value.agg (c++d).toArray);part 27 x 0:Sem Value).run Tryz.prog w=_
 obtain ⟨i,hi,hs⟩:∃ i,Tryz.prog.info? 27=some i∧i.size=66:=by
  have:=Tryz.infoR
  cases h:Tryz.prog.info? 27 with
  | none=>rw [h] at this;cases this
  | some i=>rw [h] at this;injection this with this;exact ⟨i,rfl,this⟩
 simp [asAgg,part,isAgg,Sem.run_bind,run_underlying Tryz.underlying27,run_sizeOf w hi,Program.cellsOf,hi,hs,hx]
set_option maxRecDepth 1000000 in
theorem qoL {ops:Array Oper} {op:Oper} {a:Act} {w:World} {rest:List Oper} {Q:Exit→Act→World→Prop} (hgd:op.guard=none) (x:Operand) (ho:op.op=.field 70 x 0) {r c:List Value} {n m:Bool} {p q:Nat} {e:Int} (hx:a.eval x=.agg r.toArray) (hr:r=nm n p m q e) (hc:c=rat n p m q)
  (h:wpList Tryz.prog ops Q rest (a.put op.dst (.agg c.toArray)) w):wpList Tryz.prog ops Q (op::rest) a w:=by
 subst hr hc;refine wpList_plain hgd fun K' hK'=>?_
 unfold Oper.wp execOp;unfold nm at hx;obtain ⟨C,hC⟩:∃ C,C=rat n p m q:=⟨_,rfl⟩
 have:=qxX (c:=C) (d:=[.int .i64 e]) (by rw [hC];exact qcB _ _ _ _) w
 rw [←hC] at hx h;clear hC;simp only [ho,hx,Sem.run_bind,this,Result.andThen_ok,Sem.run_pure];exact hK' _ _ h
theorem jdQ {cR:List Value} {x y:Int} {d:Nat} (hy:y=(d:Int)) (hd:d≠0) (hR:cR=resR (mkQ x d)) (h1:-9223372036854775808≤x) (h2:x≤9223372036854775807) (h3:y≤9223372036854775807) (w:World) :
  Calls Tryz.prog 24 #[.int .i64 x,.int .i64 y] w fun e w'=>e=.returned (.agg cR.toArray)∧Below w.heap.size w w':=by
 obtain ⟨code,hc⟩:∃ c,c=resE (mkQ x d):=⟨_,rfl⟩
 obtain ⟨rn,rp,rm,rq,hcR⟩:∃ rn rp rm rq,cR=rat rn rp rm rq:=by
  rw [hR]
  cases mkQ x d with
  | none=>exact ⟨_,_,_,_,rfl⟩
  | some r=>exact ⟨_,_,_,_,rfl⟩
 have V_cR:=hid hcR;obtain ⟨cN,V_cN⟩:∃ c:List Value,Hid (c=nm rn rp rm rq code):=⟨_,hid rfl⟩;obtain ⟨cz,V_cz⟩:∃ c:List Value,Hid (c=rat false 0 false 0):=⟨_,hid rfl⟩;have HO:=hid (jeO (cN:=cN) hy hd (by rw [V_cN.out];unfold resN nm;rw [←hR,←hc,hcR]) h1 h2 h3);have HMX:=hid (show max y 1=y by omega);clear hy hd hR h1 h2 h3 hc hcR;obtain ⟨B0,w0,hw0,hB0,AB0,FR,FR0,HB0,hZB0⟩:=en1 w 27 (zQR V_cz);go_enter Tryz.func24,Tryz.ntmps24
 go_upto_region 1 with fail
 rw [←hw0,←hB0];clear hw0 hB0;have HTH:=hid (fun W (hb:Below w0.heap.size w0 W)=>(show W.there B0 0 cR.toArray.size by have:=(AB0.out.below hb).there;rw [V_cz.out,qcB] at this;rw [List.size_toArray,V_cR.out,qcB];exact this));have HSA:=hid (show (Tryz.prog.info? 27).map (·.size)=some cR.toArray.size by rw [List.size_toArray];exact qR V_cR.out);have HONE:=hid (oneR V_cR.out);go_wp2_with (first|(refine qrC rfl _ _ _ rfl .i64 y 1 rfl rfl ?_;rw [HMX.out])|(go_at_call 39;refine (HO.out _).mono ?_;rintro e w1 ⟨rfl,hb1⟩;have HB1:=hid hb1;clear hb1)|(refine qoL rfl _ rfl rfl V_cN.out V_cR.out ?_)|(refine wpList_store_mid rfl _ _ _ rfl B0 0 _ rfl rfl (HTH.out _ HB1.out) HSA.out HONE.out ?_))
 try simp only [zq]
 try simp only [List.toList_toArray]
 have AF:=hid ((AB0.out.below HB1.out).stored (ds:=cR) (by rw [V_cR.out,V_cz.out,qcB,qcB]));have FF:=hid (qaB hZB0 cR 0 _ (FR.out.step HB1.out).below);have hld:=AF.out.read (P:=Tryz.prog) Tryz.underlying27 rfl (qR V_cR.out);refine bodyPost_ret (v:=.agg cR.toArray) (by simp [results,Tryz.results24,asAddr,hld]) rfl ?_;exact ⟨rfl,by have h:=FF.out;rw [HB0.out] at h ⊢;exact h⟩
end Go.Proofs.YtemoddmadfoaiaaGreat
namespace Go.Proofs.YtemoddmadfoaiaaGreat
open Go.RowKit Big Reg Al Ap Ga
namespace Ga
end Ga
end Go.Proofs.YtemoddmadfoaiaaGreat
