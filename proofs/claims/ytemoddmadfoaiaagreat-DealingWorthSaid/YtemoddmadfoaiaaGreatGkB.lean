import Derived.Test.YtemoddmadfoaiaaGreatGkA
import Derived.Test.YtemoddmadfoaiaaGreatGaA
set_option linter.unusedVariables false
set_option linter.unusedSimpArgs false
set_option maxRecDepth 100000
set_option maxHeartbeats 8000000
namespace Go.Proofs.YtemoddmadfoaiaaGreat
open Go.RowKit Big Reg Al Ga
open Lib (hid)
theorem jeW (nm hl:ByteArray) (b:Bool) (h:acctB nm hl=b) (w:World):Calls Tryz.prog 114 #[.agg #[.string nm,.string hl]] w fun e w'=>e=.returned (.bool b)∧Below w.heap.size w w':=by rw [←h];exact qmE nm hl w
namespace Ga
def voidB (o:Od):Bool:=decide (o.nom.toList=[]∧o.hol.toList=[]∧o.fund.toList=[]∧o.cls.toList=[]∧o.kind=0∧o.amount=0∧o.units=0)
def okA (o:Od):Bool:=if o.void=true then headO o&&voidB o else okO o
end Ga
theorem jbN (o:Od) (w:World):(binOp .eql 58 (.agg #[.string o.key,.string o.nom,.string o.hol,.string o.fund,.string o.cls,.int .i64 o.kind,.int .i64 o.amount,.int .i64 o.units,.int .i64 o.at_,.int .i64 o.known,.bool true]) (.agg #[.string o.key,.string ⟨#[]⟩,.string ⟨#[]⟩,.string ⟨#[]⟩,.string ⟨#[]⟩,.int .i64 0,.int .i64 0,.int .i64 0,.int .i64 o.at_,.int .i64 o.known,.bool true])).run Tryz.prog w=.ok (.bool (voidB o)) w:=by
 obtain ⟨b,hb⟩:∃ b,b=voidB o:=⟨_,rfl⟩;rw [←hb];simp [go_sem];unfold voidB at hb;subst hb
 repeat' split
 all_goals simp_all
theorem qoK {ops:Array Oper} {C:World→Prop} {Q:Act→Prop} {a:Act} {op:Oper} {rest:List Oper} {x y:Operand} {t:TypeId} {c d:Array Value} {r:Bool} (hgd:Region.wanted op (yielded ops a.tmps)=true) (ho:op.op=.binOp .eql 58 x y t) (hx:a.eval x=.agg c) (hy:a.eval y=.agg d)
  (he:∀ W,(binOp .eql 58 (.agg c) (.agg d)).run Tryz.prog W=.ok (.bool r) W) (h:wpQuiet Tryz.prog ops C Q rest (a.put op.dst (.bool r))):wpQuiet Tryz.prog ops C Q (op::rest) a:=by
 refine wpQuiet_step (fun K hK=>?_);rw [if_pos hgd];refine ⟨.bool r,fun W hW=>?_,hK _ h⟩;have hg:=run_eqGuard_agg (P:=Tryz.prog) W .eql 58 x y c d (by kernel_rfl);unfold Oper.quietAt execOp;simp [ho,hx,hy,hg,he W,Oper.quietUpon]
theorem qrU (o:Od) (c:Int) (hc:c=if okO o=true then 0 else 230) (w:World) (hv:o.void=false):Calls Tryz.prog 86 #[.agg #[.string o.key,.string o.nom,.string o.hol,.string o.fund,.string o.cls,.int .i64 o.kind,.int .i64 o.amount,.int .i64 o.units,.int .i64 o.at_,.int .i64 o.known,.bool o.void]] w fun e w'=>e=.returned (.int .i64 c)∧Below w.heap.size w w':=by
 have HCC:=hid hc;clear hc;have hF:=okO.eq_1 o;have hF2:=headO.eq_1 o;obtain ⟨B,hB⟩:∃ B,B=w.heap.size:=⟨_,rfl⟩;obtain ⟨w0,hw0⟩:∃ w0,w0=w.alloc (.cells #[.string o.key,.string o.nom,.string o.hol,.string o.fund,.string o.cls,.int .i64 o.kind,.int .i64 o.amount,.int .i64 o.units,.int .i64 o.at_,.int .i64 o.known,.bool o.void] 58):=⟨_,rfl⟩;rw [hv] at hw0;have hb0:Below w.heap.size w w0:=by rw [hw0];exact (Below.refl _ _).alloc (Nat.le_refl _) _
 have x0:w0.cell? ⟨B,0,none⟩=some (.string o.key):=by rw [hw0,hB];go_cell
 have x1:w0.cell? ⟨B,1,none⟩=some (.string o.nom):=by rw [hw0,hB];go_cell
 have x2:w0.cell? ⟨B,2,none⟩=some (.string o.hol):=by rw [hw0,hB];go_cell
 have x3:w0.cell? ⟨B,3,none⟩=some (.string o.fund):=by rw [hw0,hB];go_cell
 have x4:w0.cell? ⟨B,4,none⟩=some (.string o.cls):=by rw [hw0,hB];go_cell
 have x5:w0.cell? ⟨B,5,none⟩=some (.int .i64 o.kind):=by rw [hw0,hB];go_cell
 have x6:w0.cell? ⟨B,6,none⟩=some (.int .i64 o.amount):=by rw [hw0,hB];go_cell
 have x7:w0.cell? ⟨B,7,none⟩=some (.int .i64 o.units):=by rw [hw0,hB];go_cell
 have x8:w0.cell? ⟨B,8,none⟩=some (.int .i64 o.at_):=by rw [hw0,hB];go_cell
 have x9:w0.cell? ⟨B,9,none⟩=some (.int .i64 o.known):=by rw [hw0,hB];go_cell
 have x10:w0.cell? ⟨B,10,none⟩=some (.bool false):=by rw [hw0,hB];go_cell
 have HAT0:=hid (show At w0 B 0 ([.string o.key,.string o.nom,.string o.hol,.string o.fund,.string o.cls,.int .i64 o.kind,.int .i64 o.amount,.int .i64 o.units,.int .i64 o.at_,.int .i64 o.known,.bool false]:List Value) by rw [hw0];exact At.fresh w _ _ hB);have HB0:=hid hb0;have FR:=hid (Fr.start w0);have FR0:=hid FR.out.le;have HHD:=hid hF2;have HOK:=hid hF;clear hb0 hF hF2
 cases hh:headO o with
 | false =>
  have HC:=hid (show (230:Int)=c by rw [HCC.out,show okO o=false by rw [HOK.out,hh];rfl];rfl)
  cases h0:nameB o.key with
  | false =>
   have HN:=hid (qfF o.key false h0);go_enter Tryz.func86,Tryz.ntmps86
   go_upto_region 1 with fail
   rw [←hw0,←hB];clear hw0 hB;refine wT [] [(4,.pointer (some ⟨B,0,none⟩)),(5,.string o.key),(6,.bool false),(7,.bool false),(8,undef),(9,undef),(10,undef),(11,.bool false),(12,.bool false),(13,undef),(14,undef),(15,undef),(16,.bool false),(17,.bool false),(18,undef),(19,undef),(20,undef),(21,.bool false),(3,.bool false)] (by simp only [zr,zq];rfl) (by kernel_rfl) rfl ?_ oN oN ?_
   ·intro W' hW';have z0:=qcU x0 hW';refine fxo ?_<|fxo (wcg (by rfl) rfl rfl (fun W h=>by simp [loadVar,h,go_sem]) z0 (wqn (by simp only [zq])))<|fo4 ?_ ?_ ?_ ?_<|fo4 ?_ ?_ ?_ ?_<|fo4 ?_ ?_ ?_ ?_<|fo4 ?_ ?_ ?_ ?_<|fxo ?_<|fxn;all_goals (go_big_quiet_step ((go_at_call 118;exact qaA (HN.out _)));exact wqn rfl)
   intro β wx1 E;replace FR:=fnf FR E rfl;simp only [nP,zr,zq];replace FR0:=hid FR.out.le;clear E;have x10:=qcU x10 FR.out.below;go_wp2
   go_ret
   exact ⟨qaI HC.out,HB0.out.trans (FR.out.below.mono HB0.out.size)⟩
  | true =>
   have HN:=hid (qfF o.key true h0);by_cases a1:0≤o.at_
   ·by_cases a2:o.at_≤105190559
    ·have HK:=hid (show inR o.known 1 2147483647=false by
      cases hk:inR o.known 1 2147483647 with
      | false=>rfl
      | true=>rw [HHD.out,h0,hk,jaZ a1 a2] at hh;cases hh)
     go_enter Tryz.func86,Tryz.ntmps86
     go_upto_region 1 with fail
     rw [←hw0,←hB];clear hw0 hB;refine wT [] [(4,.pointer (some ⟨B,0,none⟩)),(5,.string o.key),(6,.bool true),(7,.bool true),(8,.pointer (some ⟨B,8,none⟩)),(9,.int .i64 o.at_),(10,.bool true),(11,.bool true),(12,.bool true),(13,.pointer (some ⟨B,8,none⟩)),(14,.int .i64 o.at_),(15,.bool true),(16,.bool true),(17,.bool true),(18,.pointer (some ⟨B,9,none⟩)),(19,.int .i64 o.known),(20,.bool false),(21,.bool false),(3,.bool false)] (by simp only [zr,zq];rfl) (by kernel_rfl) rfl ?_ oN oN ?_
     ·intro W' hW';have z0:=qcU x0 hW';have z8:=qcU x8 hW';have z9:=qcU x9 hW';refine fxo ?_<|fxo (wcg (by rfl) rfl rfl (fun W h=>by simp [loadVar,h,go_sem]) z0 (wqn (by simp only [zq])))<|fo3 ?_ ?_ ?_<|fxo (wcg (by rfl) rfl rfl (fun W h=>by simp [loadVar,h,go_sem]) z8 (wqn (by simp only [zq])))<|fo4 ?_ ?_ ?_ ?_<|fxo (wcg (by rfl) rfl rfl (fun W h=>by simp [loadVar,h,go_sem]) z8 (wqn (by simp only [zq])))<|fo4 ?_ ?_ ?_ ?_<|fxo (wcg (by rfl) rfl rfl (fun W h=>by simp [loadVar,h,go_sem]) z9 (wqn (by simp only [zq])))<|fxo (by go_big_quiet_step ((go_at_call 119;exact qaG ((qaN _ _ _ HK.out _))));exact wqn rfl)<|fo2 ?_ ?_<|fxn;all_goals (go_big_quiet_step ((go_at_call 118;exact qaA (HN.out _)));exact wqn rfl)
     intro β wx1 E;replace FR:=fnf FR E rfl;simp only [nP,zr,zq];replace FR0:=hid FR.out.le;clear E;have x10:=qcU x10 FR.out.below;go_wp2
     go_ret
     exact ⟨qaI HC.out,HB0.out.trans (FR.out.below.mono HB0.out.size)⟩
    ·go_enter Tryz.func86,Tryz.ntmps86
     go_upto_region 1 with fail
     rw [←hw0,←hB];clear hw0 hB;refine wT [] [(4,.pointer (some ⟨B,0,none⟩)),(5,.string o.key),(6,.bool true),(7,.bool true),(8,.pointer (some ⟨B,8,none⟩)),(9,.int .i64 o.at_),(10,.bool true),(11,.bool true),(12,.bool true),(13,.pointer (some ⟨B,8,none⟩)),(14,.int .i64 o.at_),(15,.bool false),(16,.bool false),(17,.bool false),(18,undef),(19,undef),(20,undef),(21,.bool false),(3,.bool false)] (by simp only [zr,zq];rfl) (by kernel_rfl) rfl ?_ oN oN ?_
     ·intro W' hW';have z0:=qcU x0 hW';have z8:=qcU x8 hW';refine fxo ?_<|fxo (wcg (by rfl) rfl rfl (fun W h=>by simp [loadVar,h,go_sem]) z0 (wqn (by simp only [zq])))<|fo3 ?_ ?_ ?_<|fxo (wcg (by rfl) rfl rfl (fun W h=>by simp [loadVar,h,go_sem]) z8 (wqn (by simp only [zq])))<|fo4 ?_ ?_ ?_ ?_<|fxo (wcg (by rfl) rfl rfl (fun W h=>by simp [loadVar,h,go_sem]) z8 (wqn (by simp only [zq])))<|fo4 ?_ ?_ ?_ ?_<|fo4 ?_ ?_ ?_ ?_<|fxn;all_goals (go_big_quiet_step ((go_at_call 118;exact qaA (HN.out _)));exact wqn rfl)
     intro β wx1 E;replace FR:=fnf FR E rfl;simp only [nP,zr,zq];replace FR0:=hid FR.out.le;clear E;have x10:=qcU x10 FR.out.below;go_wp2
     go_ret
     exact ⟨qaI HC.out,HB0.out.trans (FR.out.below.mono HB0.out.size)⟩
   ·go_enter Tryz.func86,Tryz.ntmps86
    go_upto_region 1 with fail
    rw [←hw0,←hB];clear hw0 hB;refine wT [] [(4,.pointer (some ⟨B,0,none⟩)),(5,.string o.key),(6,.bool true),(7,.bool true),(8,.pointer (some ⟨B,8,none⟩)),(9,.int .i64 o.at_),(10,.bool false),(11,.bool false),(12,.bool false),(13,undef),(14,undef),(15,undef),(16,.bool false),(17,.bool false),(18,undef),(19,undef),(20,undef),(21,.bool false),(3,.bool false)] (by simp only [zr,zq];rfl) (by kernel_rfl) rfl ?_ oN oN ?_
    ·intro W' hW';have z0:=qcU x0 hW';have z8:=qcU x8 hW';refine fxo ?_<|fxo (wcg (by rfl) rfl rfl (fun W h=>by simp [loadVar,h,go_sem]) z0 (wqn (by simp only [zq])))<|fo3 ?_ ?_ ?_<|fxo (wcg (by rfl) rfl rfl (fun W h=>by simp [loadVar,h,go_sem]) z8 (wqn (by simp only [zq])))<|fo4 ?_ ?_ ?_ ?_<|fo4 ?_ ?_ ?_ ?_<|fo4 ?_ ?_ ?_ ?_<|fxo ?_<|fxn;all_goals (go_big_quiet_step ((go_at_call 118;exact qaA (HN.out _)));exact wqn rfl)
    intro β wx1 E;replace FR:=fnf FR E rfl;simp only [nP,zr,zq];replace FR0:=hid FR.out.le;clear E;have x10:=qcU x10 FR.out.below;go_wp2
    go_ret
    exact ⟨qaI HC.out,HB0.out.trans (FR.out.below.mono HB0.out.size)⟩
 | true =>
  have hh2:=hh;rw [HHD.out] at hh2;simp only [Bool.and_eq_true] at hh2;obtain ⟨⟨h0,h8⟩,h9⟩:=hh2;have a12:=qkO h8;obtain ⟨a1,a2⟩:=a12;have k12:=qkO h9;obtain ⟨k1,k2⟩:=k12;have HN:=hid (qfF o.key true h0);have HK:=hid h9;have HOK2:=hid (show okO o=(acctB o.nom o.hol&&nameB o.fund&&nameB o.cls&&askO o) by rw [HOK.out,hh,Bool.true_and]);clear hh h9;go_enter Tryz.func86,Tryz.ntmps86
  go_upto_region 1 with fail
  rw [←hw0,←hB];clear hw0 hB;refine wT [] [(4,.pointer (some ⟨B,0,none⟩)),(5,.string o.key),(6,.bool true),(7,.bool true),(8,.pointer (some ⟨B,8,none⟩)),(9,.int .i64 o.at_),(10,.bool true),(11,.bool true),(12,.bool true),(13,.pointer (some ⟨B,8,none⟩)),(14,.int .i64 o.at_),(15,.bool true),(16,.bool true),(17,.bool true),(18,.pointer (some ⟨B,9,none⟩)),(19,.int .i64 o.known),(20,.bool true),(21,.bool true),(3,.bool true)] (by simp only [zr,zq];rfl) (by kernel_rfl) rfl ?_ oN oN ?_
  ·intro W' hW';have z0:=qcU x0 hW';have z8:=qcU x8 hW';have z9:=qcU x9 hW';refine fxo ?_<|fxo (wcg (by rfl) rfl rfl (fun W h=>by simp [loadVar,h,go_sem]) z0 (wqn (by simp only [zq])))<|fo3 ?_ ?_ ?_<|fxo (wcg (by rfl) rfl rfl (fun W h=>by simp [loadVar,h,go_sem]) z8 (wqn (by simp only [zq])))<|fo4 ?_ ?_ ?_ ?_<|fxo (wcg (by rfl) rfl rfl (fun W h=>by simp [loadVar,h,go_sem]) z8 (wqn (by simp only [zq])))<|fo4 ?_ ?_ ?_ ?_<|fxo (wcg (by rfl) rfl rfl (fun W h=>by simp [loadVar,h,go_sem]) z9 (wqn (by simp only [zq])))<|fxo (by go_big_quiet_step ((go_at_call 119;exact qaG ((qaN _ _ _ HK.out _))));exact wqn rfl)<|fo2 ?_ ?_<|fxn;all_goals (go_big_quiet_step ((go_at_call 118;exact qaA (HN.out _)));exact wqn rfl)
  intro β wx1 E;replace FR:=fnf FR E rfl;simp only [nP,zr,zq];replace FR0:=hid FR.out.le;clear E;replace x0:=qcU x0 FR.out.below;replace x1:=qcU x1 FR.out.below;replace x2:=qcU x2 FR.out.below;replace x3:=qcU x3 FR.out.below;replace x4:=qcU x4 FR.out.below;replace x5:=qcU x5 FR.out.below;replace x6:=qcU x6 FR.out.below;replace x7:=qcU x7 FR.out.below;replace x8:=qcU x8 FR.out.below;replace x9:=qcU x9 FR.out.below;replace x10:=qcU x10 FR.out.below;go_upto_region 2 with fail
  obtain ⟨w1,hw1⟩:∃ w1,w1=wx1:=⟨_,rfl⟩;rw [←hw1] at x0 x1 x2 x3 x4 x5 x6 x7 x8 x9 x10 ⊢;have HB1:=hid (show Below w.heap.size w w1 by rw [hw1];exact HB0.out.trans (FR.out.below.mono HB0.out.size));obtain ⟨ca,hca⟩:∃ c:List Value,c=[.string o.nom,.string o.hol]:=⟨_,rfl⟩;obtain ⟨co,hco⟩:∃ c:List Value,c=[.string o.key,.string o.nom,.string o.hol,.string o.fund,.string o.cls,.int .i64 o.kind,.int .i64 o.amount,.int .i64 o.units,.int .i64 o.at_,.int .i64 o.known,.bool false]:=⟨_,rfl⟩;have HATO:=hid (show At w1 B 0 co by rw [hw1];exact (by rw [hco];exact HAT0.out:At w0 B 0 co).below FR.out.below);have HATA:=hid (show At w1 B 1 ca by have h:=HATO.out;rw [hco] at h;rw [hca];exact At.sub (xs:=[.string o.key]) (zs:=_) h rfl);have eca:(Value.agg #[.string o.nom,.string o.hol])=.agg ca.toArray:=by rw [hca]
  have eco:(Value.agg #[.string o.key,.string o.nom,.string o.hol,.string o.fund,.string o.cls,.int .i64 o.kind,.int .i64 o.amount,.int .i64 o.units,.int .i64 o.at_,.int .i64 o.known,.bool false])=.agg co.toArray:=by rw [hco]
  have SCA:=hid (show (Tryz.prog.info? 54).map (·.size)=some ca.length by rw [hca];kernel_rfl);have SCO:=hid (show (Tryz.prog.info? 58).map (·.size)=some co.length by rw [hco];kernel_rfl);have ECA:=hid eca;have ECO:=hid eco;clear hw1 FR FR0 a1 a2 k1 k2 hca hco eca eco;have FR:=hid (Fr.start w1);have FR0:=hid FR.out.le
  cases c0:acctB o.nom o.hol with
  | false =>
   have HAC:=hid ((fun W=>(show Calls Tryz.prog 114 #[.agg ca.toArray] W (fun e w'=>e=.returned (.bool false)∧Below W.heap.size W w') by rw [←ECA.out];exact jeW o.nom o.hol false c0 W)));have HC:=hid (show (230:Int)=c by rw [HCC.out,show okO o=false by rw [HOK2.out,c0];rfl];rfl);clear c0;refine wT [] [(22,.pointer (some ⟨B,1,none⟩)),(23,.agg ca.toArray),(24,.bool false),(25,.bool false),(26,undef),(27,undef),(28,undef),(29,.bool false),(30,.bool false),(31,undef),(32,undef),(33,undef),(34,.bool false),(35,.bool false),(36,undef),(37,undef),(38,.bool false),(3,.bool false)] (by simp only [zr,zq];rfl) (by kernel_rfl) rfl ?_ oN oN ?_
   ·intro W' hW';have ra:=HATA.out.below hW';refine fxo ?_<|fxl ra SCA.out Tryz.underlying54 rfl rfl<|fo4 ?_ ?_ ?_ ?_<|fo4 ?_ ?_ ?_ ?_<|fo4 ?_ ?_ ?_ ?_<|fo4 ?_ ?_ ?_ ?_<|fxn;all_goals (go_big_quiet_step ((go_at_call 114;exact qaA (HAC.out _)));exact wqn rfl)
   intro β wx1 E;replace FR:=fnf FR E rfl;simp only [nP,zr,zq];replace FR0:=hid FR.out.le;clear E;go_wp2
   go_ret
   exact ⟨qaI HC.out,HB1.out.trans (FR.out.below.mono HB1.out.size)⟩
  | true =>
   have HAC:=hid ((fun W=>(show Calls Tryz.prog 114 #[.agg ca.toArray] W (fun e w'=>e=.returned (.bool true)∧Below W.heap.size W w') by rw [←ECA.out];exact jeW o.nom o.hol true c0 W)))
   cases c1:nameB o.fund with
   | false =>
    have HFU:=hid (qfF o.fund false c1);have HC:=hid (show (230:Int)=c by rw [HCC.out,show okO o=false by rw [HOK2.out,c0,c1];rfl];rfl);clear c0 c1;refine wT [] [(22,.pointer (some ⟨B,1,none⟩)),(23,.agg ca.toArray),(24,.bool true),(25,.bool true),(26,.pointer (some ⟨B,3,none⟩)),(27,.string o.fund),(28,.bool false),(29,.bool false),(30,.bool false),(31,undef),(32,undef),(33,undef),(34,.bool false),(35,.bool false),(36,undef),(37,undef),(38,.bool false),(3,.bool false)] (by simp only [zr,zq];rfl) (by kernel_rfl) rfl ?_ oN oN ?_
    ·intro W' hW';have ra:=HATA.out.below hW';have z3:=qcU x3 hW';refine fxo ?_<|fxl ra SCA.out Tryz.underlying54 rfl rfl<|fo3 ?_ ?_ ?_<|fxo (wcg (by rfl) rfl rfl (fun W h=>by simp [loadVar,h,go_sem]) z3 (wqn (by simp only [zq])))<|fxo (by go_big_quiet_step ((go_at_call 118;exact qaA (HFU.out _)));exact wqn rfl)<|fo4 ?_ ?_ ?_ ?_<|fo4 ?_ ?_ ?_ ?_<|fo3 ?_ ?_ ?_<|fxn;all_goals (go_big_quiet_step ((go_at_call 114;exact qaA (HAC.out _)));exact wqn rfl)
    intro β wx1 E;replace FR:=fnf FR E rfl;simp only [nP,zr,zq];replace FR0:=hid FR.out.le;clear E;go_wp2
    go_ret
    exact ⟨qaI HC.out,HB1.out.trans (FR.out.below.mono HB1.out.size)⟩
   | true =>
    have HFU:=hid (qfF o.fund true c1)
    cases c2:nameB o.cls with
    | false =>
     have HCL:=hid (qfF o.cls false c2);have HC:=hid (show (230:Int)=c by rw [HCC.out,show okO o=false by rw [HOK2.out,c0,c1,c2];rfl];rfl);clear c0 c1 c2;refine wT [] [(22,.pointer (some ⟨B,1,none⟩)),(23,.agg ca.toArray),(24,.bool true),(25,.bool true),(26,.pointer (some ⟨B,3,none⟩)),(27,.string o.fund),(28,.bool true),(29,.bool true),(30,.bool true),(31,.pointer (some ⟨B,4,none⟩)),(32,.string o.cls),(33,.bool false),(34,.bool false),(35,.bool false),(36,undef),(37,undef),(38,.bool false),(3,.bool false)] (by simp only [zr,zq];rfl) (by kernel_rfl) rfl ?_ oN oN ?_
     ·intro W' hW';have ra:=HATA.out.below hW';have z3:=qcU x3 hW';have z4:=qcU x4 hW';refine fxo ?_<|fxl ra SCA.out Tryz.underlying54 rfl rfl<|fo3 ?_ ?_ ?_<|fxo (wcg (by rfl) rfl rfl (fun W h=>by simp [loadVar,h,go_sem]) z3 (wqn (by simp only [zq])))<|fxo (by go_big_quiet_step ((go_at_call 118;exact qaA (HFU.out _)));exact wqn rfl)<|fo3 ?_ ?_ ?_<|fxo (wcg (by rfl) rfl rfl (fun W h=>by simp [loadVar,h,go_sem]) z4 (wqn (by simp only [zq])))<|fxo (by go_big_quiet_step ((go_at_call 118;exact qaA (HCL.out _)));exact wqn rfl)<|fo4 ?_ ?_ ?_ ?_<|fo2 ?_ ?_<|fxn;all_goals (go_big_quiet_step ((go_at_call 114;exact qaA (HAC.out _)));exact wqn rfl)
     intro β wx1 E;replace FR:=fnf FR E rfl;simp only [nP,zr,zq];replace FR0:=hid FR.out.le;clear E;go_wp2
     go_ret
     exact ⟨qaI HC.out,HB1.out.trans (FR.out.below.mono HB1.out.size)⟩
    | true =>
     have HCL:=hid (qfF o.cls true c2)
     cases c3:askO o with
     | false =>
      have HAS:=hid ((fun W=>(show Calls Tryz.prog 120 #[.agg co.toArray] W (fun e w'=>e=.returned (.bool false)∧Below W.heap.size W w') by rw [←ECO.out];have:=qjG o false c3 W;rwa [hv] at this)));have HC:=hid (show (230:Int)=c by rw [HCC.out,show okO o=false by rw [HOK2.out,c0,c1,c2,c3];rfl];rfl);clear c0 c1 c2 c3;refine wT [] [(22,.pointer (some ⟨B,1,none⟩)),(23,.agg ca.toArray),(24,.bool true),(25,.bool true),(26,.pointer (some ⟨B,3,none⟩)),(27,.string o.fund),(28,.bool true),(29,.bool true),(30,.bool true),(31,.pointer (some ⟨B,4,none⟩)),(32,.string o.cls),(33,.bool true),(34,.bool true),(35,.bool true),(36,.agg co.toArray),(37,.bool false),(38,.bool false),(3,.bool false)] (by simp only [zr,zq];rfl) (by kernel_rfl) rfl ?_ oN oN ?_
      ·intro W' hW';have ra:=HATA.out.below hW';have z3:=qcU x3 hW';have z4:=qcU x4 hW';have ro:=HATO.out.below hW';refine fxo ?_<|fxl ra SCA.out Tryz.underlying54 rfl rfl<|fo3 ?_ ?_ ?_<|fxo (wcg (by rfl) rfl rfl (fun W h=>by simp [loadVar,h,go_sem]) z3 (wqn (by simp only [zq])))<|fxo (by go_big_quiet_step ((go_at_call 118;exact qaA (HFU.out _)));exact wqn rfl)<|fo3 ?_ ?_ ?_<|fxo (wcg (by rfl) rfl rfl (fun W h=>by simp [loadVar,h,go_sem]) z4 (wqn (by simp only [zq])))<|fxo (by go_big_quiet_step ((go_at_call 118;exact qaA (HCL.out _)));exact wqn rfl)<|fo2 ?_ ?_<|fxl ro SCO.out Tryz.underlying58 rfl rfl<|fxo (by go_big_quiet_step ((go_at_call 120;exact qaA (HAS.out _)));exact wqn rfl)<|fo2 ?_ ?_<|fxn;all_goals (go_big_quiet_step ((go_at_call 114;exact qaA (HAC.out _)));exact wqn rfl)
      intro β wx1 E;replace FR:=fnf FR E rfl;simp only [nP,zr,zq];replace FR0:=hid FR.out.le;clear E;go_wp2
      go_ret
      exact ⟨qaI HC.out,HB1.out.trans (FR.out.below.mono HB1.out.size)⟩
     | true =>
      have HAS:=hid ((fun W=>(show Calls Tryz.prog 120 #[.agg co.toArray] W (fun e w'=>e=.returned (.bool true)∧Below W.heap.size W w') by rw [←ECO.out];have:=qjG o true c3 W;rwa [hv] at this)));have HC:=hid (show (0:Int)=c by rw [HCC.out,show okO o=true by rw [HOK2.out,c0,c1,c2,c3];rfl];rfl);clear c0 c1 c2 c3;refine wT [] [(22,.pointer (some ⟨B,1,none⟩)),(23,.agg ca.toArray),(24,.bool true),(25,.bool true),(26,.pointer (some ⟨B,3,none⟩)),(27,.string o.fund),(28,.bool true),(29,.bool true),(30,.bool true),(31,.pointer (some ⟨B,4,none⟩)),(32,.string o.cls),(33,.bool true),(34,.bool true),(35,.bool true),(36,.agg co.toArray),(37,.bool true),(38,.bool true),(3,.bool true)] (by simp only [zr,zq];rfl) (by kernel_rfl) rfl ?_ oN oN ?_
      ·intro W' hW';have ra:=HATA.out.below hW';have z3:=qcU x3 hW';have z4:=qcU x4 hW';have ro:=HATO.out.below hW';refine fxo ?_<|fxl ra SCA.out Tryz.underlying54 rfl rfl<|fo3 ?_ ?_ ?_<|fxo (wcg (by rfl) rfl rfl (fun W h=>by simp [loadVar,h,go_sem]) z3 (wqn (by simp only [zq])))<|fxo (by go_big_quiet_step ((go_at_call 118;exact qaA (HFU.out _)));exact wqn rfl)<|fo3 ?_ ?_ ?_<|fxo (wcg (by rfl) rfl rfl (fun W h=>by simp [loadVar,h,go_sem]) z4 (wqn (by simp only [zq])))<|fxo (by go_big_quiet_step ((go_at_call 118;exact qaA (HCL.out _)));exact wqn rfl)<|fo2 ?_ ?_<|fxl ro SCO.out Tryz.underlying58 rfl rfl<|fxo (by go_big_quiet_step ((go_at_call 120;exact qaA (HAS.out _)));exact wqn rfl)<|fo2 ?_ ?_<|fxn;all_goals (go_big_quiet_step ((go_at_call 114;exact qaA (HAC.out _)));exact wqn rfl)
      intro β wx1 E;replace FR:=fnf FR E rfl;simp only [nP,zr,zq];replace FR0:=hid FR.out.le;clear E;go_wp2
      go_ret
      exact ⟨qaI HC.out,HB1.out.trans (FR.out.below.mono HB1.out.size)⟩
theorem qoO (o:Od) (c:Int) (hc:c=if (headO o&&voidB o)=true then 0 else 230) (w:World) (hv:o.void=true):Calls Tryz.prog 86 #[.agg #[.string o.key,.string o.nom,.string o.hol,.string o.fund,.string o.cls,.int .i64 o.kind,.int .i64 o.amount,.int .i64 o.units,.int .i64 o.at_,.int .i64 o.known,.bool o.void]] w fun e w'=>e=.returned (.int .i64 c)∧Below w.heap.size w w':=by
 have HCC:=hid hc;clear hc;have hF:=okO.eq_1 o;have hF2:=headO.eq_1 o;obtain ⟨B,hB⟩:∃ B,B=w.heap.size:=⟨_,rfl⟩;obtain ⟨w0,hw0⟩:∃ w0,w0=w.alloc (.cells #[.string o.key,.string o.nom,.string o.hol,.string o.fund,.string o.cls,.int .i64 o.kind,.int .i64 o.amount,.int .i64 o.units,.int .i64 o.at_,.int .i64 o.known,.bool o.void] 58):=⟨_,rfl⟩;rw [hv] at hw0;have hb0:Below w.heap.size w w0:=by rw [hw0];exact (Below.refl _ _).alloc (Nat.le_refl _) _
 have x0:w0.cell? ⟨B,0,none⟩=some (.string o.key):=by rw [hw0,hB];go_cell
 have x1:w0.cell? ⟨B,1,none⟩=some (.string o.nom):=by rw [hw0,hB];go_cell
 have x2:w0.cell? ⟨B,2,none⟩=some (.string o.hol):=by rw [hw0,hB];go_cell
 have x3:w0.cell? ⟨B,3,none⟩=some (.string o.fund):=by rw [hw0,hB];go_cell
 have x4:w0.cell? ⟨B,4,none⟩=some (.string o.cls):=by rw [hw0,hB];go_cell
 have x5:w0.cell? ⟨B,5,none⟩=some (.int .i64 o.kind):=by rw [hw0,hB];go_cell
 have x6:w0.cell? ⟨B,6,none⟩=some (.int .i64 o.amount):=by rw [hw0,hB];go_cell
 have x7:w0.cell? ⟨B,7,none⟩=some (.int .i64 o.units):=by rw [hw0,hB];go_cell
 have x8:w0.cell? ⟨B,8,none⟩=some (.int .i64 o.at_):=by rw [hw0,hB];go_cell
 have x9:w0.cell? ⟨B,9,none⟩=some (.int .i64 o.known):=by rw [hw0,hB];go_cell
 have x10:w0.cell? ⟨B,10,none⟩=some (.bool true):=by rw [hw0,hB];go_cell
 have HAT0:=hid (show At w0 B 0 ([.string o.key,.string o.nom,.string o.hol,.string o.fund,.string o.cls,.int .i64 o.kind,.int .i64 o.amount,.int .i64 o.units,.int .i64 o.at_,.int .i64 o.known,.bool true]:List Value) by rw [hw0];exact At.fresh w _ _ hB);have HB0:=hid hb0;have FR:=hid (Fr.start w0);have FR0:=hid FR.out.le;have HHD:=hid hF2;have HOK:=hid hF;clear hb0 hF hF2
 cases hh:headO o with
 | false =>
  have HC:=hid (show (230:Int)=c by rw [HCC.out,show (headO o&&voidB o)=false by rw [hh];rfl];rfl)
  cases h0:nameB o.key with
  | false =>
   have HN:=hid (qfF o.key false h0);go_enter Tryz.func86,Tryz.ntmps86
   go_upto_region 1 with fail
   rw [←hw0,←hB];clear hw0 hB;refine wT [] [(4,.pointer (some ⟨B,0,none⟩)),(5,.string o.key),(6,.bool false),(7,.bool false),(8,undef),(9,undef),(10,undef),(11,.bool false),(12,.bool false),(13,undef),(14,undef),(15,undef),(16,.bool false),(17,.bool false),(18,undef),(19,undef),(20,undef),(21,.bool false),(3,.bool false)] (by simp only [zr,zq];rfl) (by kernel_rfl) rfl ?_ oN oN ?_
   ·intro W' hW';have z0:=qcU x0 hW';refine fxo ?_<|fxo (wcg (by rfl) rfl rfl (fun W h=>by simp [loadVar,h,go_sem]) z0 (wqn (by simp only [zq])))<|fo4 ?_ ?_ ?_ ?_<|fo4 ?_ ?_ ?_ ?_<|fo4 ?_ ?_ ?_ ?_<|fo4 ?_ ?_ ?_ ?_<|fxo ?_<|fxn;all_goals (go_big_quiet_step ((go_at_call 118;exact qaA (HN.out _)));exact wqn rfl)
   intro β wx1 E;replace FR:=fnf FR E rfl;simp only [nP,zr,zq];replace FR0:=hid FR.out.le;clear E;have x10:=qcU x10 FR.out.below;go_wp2
   go_ret
   exact ⟨qaI HC.out,HB0.out.trans (FR.out.below.mono HB0.out.size)⟩
  | true =>
   have HN:=hid (qfF o.key true h0);by_cases a1:0≤o.at_
   ·by_cases a2:o.at_≤105190559
    ·have HK:=hid (show inR o.known 1 2147483647=false by
      cases hk:inR o.known 1 2147483647 with
      | false=>rfl
      | true=>rw [HHD.out,h0,hk,jaZ a1 a2] at hh;cases hh)
     go_enter Tryz.func86,Tryz.ntmps86
     go_upto_region 1 with fail
     rw [←hw0,←hB];clear hw0 hB;refine wT [] [(4,.pointer (some ⟨B,0,none⟩)),(5,.string o.key),(6,.bool true),(7,.bool true),(8,.pointer (some ⟨B,8,none⟩)),(9,.int .i64 o.at_),(10,.bool true),(11,.bool true),(12,.bool true),(13,.pointer (some ⟨B,8,none⟩)),(14,.int .i64 o.at_),(15,.bool true),(16,.bool true),(17,.bool true),(18,.pointer (some ⟨B,9,none⟩)),(19,.int .i64 o.known),(20,.bool false),(21,.bool false),(3,.bool false)] (by simp only [zr,zq];rfl) (by kernel_rfl) rfl ?_ oN oN ?_
     ·intro W' hW';have z0:=qcU x0 hW';have z8:=qcU x8 hW';have z9:=qcU x9 hW';refine fxo ?_<|fxo (wcg (by rfl) rfl rfl (fun W h=>by simp [loadVar,h,go_sem]) z0 (wqn (by simp only [zq])))<|fo3 ?_ ?_ ?_<|fxo (wcg (by rfl) rfl rfl (fun W h=>by simp [loadVar,h,go_sem]) z8 (wqn (by simp only [zq])))<|fo4 ?_ ?_ ?_ ?_<|fxo (wcg (by rfl) rfl rfl (fun W h=>by simp [loadVar,h,go_sem]) z8 (wqn (by simp only [zq])))<|fo4 ?_ ?_ ?_ ?_<|fxo (wcg (by rfl) rfl rfl (fun W h=>by simp [loadVar,h,go_sem]) z9 (wqn (by simp only [zq])))<|fxo (by go_big_quiet_step ((go_at_call 119;exact qaG ((qaN _ _ _ HK.out _))));exact wqn rfl)<|fo2 ?_ ?_<|fxn;all_goals (go_big_quiet_step ((go_at_call 118;exact qaA (HN.out _)));exact wqn rfl)
     intro β wx1 E;replace FR:=fnf FR E rfl;simp only [nP,zr,zq];replace FR0:=hid FR.out.le;clear E;have x10:=qcU x10 FR.out.below;go_wp2
     go_ret
     exact ⟨qaI HC.out,HB0.out.trans (FR.out.below.mono HB0.out.size)⟩
    ·go_enter Tryz.func86,Tryz.ntmps86
     go_upto_region 1 with fail
     rw [←hw0,←hB];clear hw0 hB;refine wT [] [(4,.pointer (some ⟨B,0,none⟩)),(5,.string o.key),(6,.bool true),(7,.bool true),(8,.pointer (some ⟨B,8,none⟩)),(9,.int .i64 o.at_),(10,.bool true),(11,.bool true),(12,.bool true),(13,.pointer (some ⟨B,8,none⟩)),(14,.int .i64 o.at_),(15,.bool false),(16,.bool false),(17,.bool false),(18,undef),(19,undef),(20,undef),(21,.bool false),(3,.bool false)] (by simp only [zr,zq];rfl) (by kernel_rfl) rfl ?_ oN oN ?_
     ·intro W' hW';have z0:=qcU x0 hW';have z8:=qcU x8 hW';refine fxo ?_<|fxo (wcg (by rfl) rfl rfl (fun W h=>by simp [loadVar,h,go_sem]) z0 (wqn (by simp only [zq])))<|fo3 ?_ ?_ ?_<|fxo (wcg (by rfl) rfl rfl (fun W h=>by simp [loadVar,h,go_sem]) z8 (wqn (by simp only [zq])))<|fo4 ?_ ?_ ?_ ?_<|fxo (wcg (by rfl) rfl rfl (fun W h=>by simp [loadVar,h,go_sem]) z8 (wqn (by simp only [zq])))<|fo4 ?_ ?_ ?_ ?_<|fo4 ?_ ?_ ?_ ?_<|fxn;all_goals (go_big_quiet_step ((go_at_call 118;exact qaA (HN.out _)));exact wqn rfl)
     intro β wx1 E;replace FR:=fnf FR E rfl;simp only [nP,zr,zq];replace FR0:=hid FR.out.le;clear E;have x10:=qcU x10 FR.out.below;go_wp2
     go_ret
     exact ⟨qaI HC.out,HB0.out.trans (FR.out.below.mono HB0.out.size)⟩
   ·go_enter Tryz.func86,Tryz.ntmps86
    go_upto_region 1 with fail
    rw [←hw0,←hB];clear hw0 hB;refine wT [] [(4,.pointer (some ⟨B,0,none⟩)),(5,.string o.key),(6,.bool true),(7,.bool true),(8,.pointer (some ⟨B,8,none⟩)),(9,.int .i64 o.at_),(10,.bool false),(11,.bool false),(12,.bool false),(13,undef),(14,undef),(15,undef),(16,.bool false),(17,.bool false),(18,undef),(19,undef),(20,undef),(21,.bool false),(3,.bool false)] (by simp only [zr,zq];rfl) (by kernel_rfl) rfl ?_ oN oN ?_
    ·intro W' hW';have z0:=qcU x0 hW';have z8:=qcU x8 hW';refine fxo ?_<|fxo (wcg (by rfl) rfl rfl (fun W h=>by simp [loadVar,h,go_sem]) z0 (wqn (by simp only [zq])))<|fo3 ?_ ?_ ?_<|fxo (wcg (by rfl) rfl rfl (fun W h=>by simp [loadVar,h,go_sem]) z8 (wqn (by simp only [zq])))<|fo4 ?_ ?_ ?_ ?_<|fo4 ?_ ?_ ?_ ?_<|fo4 ?_ ?_ ?_ ?_<|fxo ?_<|fxn;all_goals (go_big_quiet_step ((go_at_call 118;exact qaA (HN.out _)));exact wqn rfl)
    intro β wx1 E;replace FR:=fnf FR E rfl;simp only [nP,zr,zq];replace FR0:=hid FR.out.le;clear E;have x10:=qcU x10 FR.out.below;go_wp2
    go_ret
    exact ⟨qaI HC.out,HB0.out.trans (FR.out.below.mono HB0.out.size)⟩
 | true =>
  have hh2:=hh;rw [HHD.out] at hh2;simp only [Bool.and_eq_true] at hh2;obtain ⟨⟨h0,h8⟩,h9⟩:=hh2;have a12:=qkO h8;obtain ⟨a1,a2⟩:=a12;have k12:=qkO h9;obtain ⟨k1,k2⟩:=k12;have HN:=hid (qfF o.key true h0);have HK:=hid h9;clear hh h9;go_enter Tryz.func86,Tryz.ntmps86
  go_upto_region 1 with fail
  rw [←hw0,←hB];clear hw0 hB;refine wT [] [(4,.pointer (some ⟨B,0,none⟩)),(5,.string o.key),(6,.bool true),(7,.bool true),(8,.pointer (some ⟨B,8,none⟩)),(9,.int .i64 o.at_),(10,.bool true),(11,.bool true),(12,.bool true),(13,.pointer (some ⟨B,8,none⟩)),(14,.int .i64 o.at_),(15,.bool true),(16,.bool true),(17,.bool true),(18,.pointer (some ⟨B,9,none⟩)),(19,.int .i64 o.known),(20,.bool true),(21,.bool true),(3,.bool true)] (by simp only [zr,zq];rfl) (by kernel_rfl) rfl ?_ oN oN ?_
  ·intro W' hW';have z0:=qcU x0 hW';have z8:=qcU x8 hW';have z9:=qcU x9 hW';refine fxo ?_<|fxo (wcg (by rfl) rfl rfl (fun W h=>by simp [loadVar,h,go_sem]) z0 (wqn (by simp only [zq])))<|fo3 ?_ ?_ ?_<|fxo (wcg (by rfl) rfl rfl (fun W h=>by simp [loadVar,h,go_sem]) z8 (wqn (by simp only [zq])))<|fo4 ?_ ?_ ?_ ?_<|fxo (wcg (by rfl) rfl rfl (fun W h=>by simp [loadVar,h,go_sem]) z8 (wqn (by simp only [zq])))<|fo4 ?_ ?_ ?_ ?_<|fxo (wcg (by rfl) rfl rfl (fun W h=>by simp [loadVar,h,go_sem]) z9 (wqn (by simp only [zq])))<|fxo (by go_big_quiet_step ((go_at_call 119;exact qaG ((qaN _ _ _ HK.out _))));exact wqn rfl)<|fo2 ?_ ?_<|fxn;all_goals (go_big_quiet_step ((go_at_call 118;exact qaA (HN.out _)));exact wqn rfl)
  intro β wx1 E;replace FR:=fnf FR E rfl;simp only [nP,zr,zq];replace FR0:=hid FR.out.le;clear E;replace x0:=qcU x0 FR.out.below;replace x1:=qcU x1 FR.out.below;replace x2:=qcU x2 FR.out.below;replace x3:=qcU x3 FR.out.below;replace x4:=qcU x4 FR.out.below;replace x5:=qcU x5 FR.out.below;replace x6:=qcU x6 FR.out.below;replace x7:=qcU x7 FR.out.below;replace x8:=qcU x8 FR.out.below;replace x9:=qcU x9 FR.out.below;replace x10:=qcU x10 FR.out.below;go_upto_region 5 with fail
  obtain ⟨w1,hw1⟩:∃ w1,w1=wx1:=⟨_,rfl⟩;have HAT1:=hid (HAT0.out.below FR.out.below);rw [←hw1] at HAT1 x0 x1 x2 x3 x4 x5 x6 x7 x8 x9 x10 ⊢;have HB1:=hid (show Below w.heap.size w w1 by rw [hw1];exact HB0.out.trans (FR.out.below.mono HB0.out.size));have SCO:=hid (show (Tryz.prog.info? 58).map (·.size)=some ([.string o.key,.string o.nom,.string o.hol,.string o.fund,.string o.cls,.int .i64 o.kind,.int .i64 o.amount,.int .i64 o.units,.int .i64 o.at_,.int .i64 o.known,.bool true]:List Value).length by kernel_rfl);obtain ⟨vb,hvb⟩:∃ b,b=voidB o:=⟨_,rfl⟩;have hq:=jbN o;rw [←hvb] at hq;have HVB:=hid hvb;have HH:=hid (show headO o=true by rw [HHD.out,h0,h8,HK.out];rfl);clear hw1 FR FR0 a1 a2 k1 k2 hvb h0 h8;have FR:=hid (Fr.start w1);have FR0:=hid FR.out.le;refine wT [] [(45,.agg #[.string o.key,.string o.nom,.string o.hol,.string o.fund,.string o.cls,.int .i64 o.kind,.int .i64 o.amount,.int .i64 o.units,.int .i64 o.at_,.int .i64 o.known,.bool true]),(46,.pointer (some ⟨B,0,none⟩)),(47,.string o.key),(48,.pointer (some ⟨B,8,none⟩)),(49,.int .i64 o.at_),(50,.pointer (some ⟨B,9,none⟩)),(51,.int .i64 o.known),(52,.agg #[.string o.key,.string ⟨#[]⟩,.string ⟨#[]⟩,.string ⟨#[]⟩,.string ⟨#[]⟩,.int .i64 0,.int .i64 0,.int .i64 0,.int .i64 o.at_,.int .i64 o.known,.bool true]),(53,.bool vb),(3,.bool vb)] (by simp only [zr,zq];rfl) (by kernel_rfl) rfl ?_ oN oN ?_
  ·intro W' hW';have ro:=HAT1.out.below hW';have z0:=qcU x0 hW';have z8:=qcU x8 hW';have z9:=qcU x9 hW';refine fxl ro SCO.out Tryz.underlying58 rfl rfl<|fxo ?_<|fxo (wcg (by rfl) rfl rfl (fun W h=>by simp [loadVar,h,go_sem]) z0 (wqn (by simp only [zq])))<|fxo ?_<|fxo (wcg (by rfl) rfl rfl (fun W h=>by simp [loadVar,h,go_sem]) z8 (wqn (by simp only [zq])))<|fxo ?_<|fxo (wcg (by rfl) rfl rfl (fun W h=>by simp [loadVar,h,go_sem]) z9 (wqn (by simp only [zq])))<|fxo (qbJ (by rfl) _ _ rfl [(0,.string o.key),(7,.int .i64 o.at_),(8,.int .i64 o.known),(9,.bool true)] rfl #[.string o.key,.string ⟨#[]⟩,.string ⟨#[]⟩,.string ⟨#[]⟩,.string ⟨#[]⟩,.int .i64 0,.int .i64 0,.int .i64 0,.int .i64 o.at_,.int .i64 o.known,.bool true] (by kernel_rfl) (wqn (by simp only [zq])))<|fxo (qoK (by rfl) rfl rfl rfl hq (wqn (by simp only [zq])))<|fxo ?_<|fxn;all_goals (go_big_quiet_step (fail);exact wqn rfl)
  intro β wx1 E;replace FR:=fnf FR E rfl;simp only [nP,zr,zq];replace FR0:=hid FR.out.le;clear E
  cases vb with
  | false =>
   have HC:=hid (show (230:Int)=c by rw [HCC.out,HH.out,←HVB.out];rfl);go_wp2
   go_ret
   exact ⟨qaI HC.out,HB1.out.trans (FR.out.below.mono HB1.out.size)⟩
  | true =>
   have HC:=hid (show (0:Int)=c by rw [HCC.out,HH.out,←HVB.out];rfl);go_wp2
   go_ret
   exact ⟨qaI HC.out,HB1.out.trans (FR.out.below.mono HB1.out.size)⟩
end Go.Proofs.YtemoddmadfoaiaaGreat
