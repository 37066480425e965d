import Derived.Test.YtemoddmadfoaiaaGreatGkA
import Derived.Test.YtemoddmadfoaiaaGreatGaA
set_option linter.unusedVariables false
set_option linter.unusedSimpArgs false
set_option maxRecDepth 100000
set_option maxHeartbeats 8000000
namespace Go.Proofs.YtemoddmadfoaiaaGreat
open Go.RowKit Big Reg Al Ga
open Lib (hid)
theorem jhO (nm hl:ByteArray) (b:Bool) (h:acctB nm hl=b) (w:World):CB 114 #[.agg #[.string nm,.string hl]] (.bool b) w:=by rw [←h];exact qnJ nm hl w
namespace Ga
def voidB (o:Od):Bool:=decide (o.nom.toList=[]∧o.hol.toList=[]∧o.fund.toList=[]∧o.cls.toList=[]∧o.kind=0∧o.amount=0∧o.units=0)
def okA (o:Od):Bool:=if o.void=true then headO o&&voidB o else okO o
end Ga
theorem jeA (o:Od) (w:World):(binOp .eql 58 (.agg #[.string o.key,.string o.nom,.string o.hol,.string o.fund,.string o.cls,.int .i64 o.kind,.int .i64 o.amount,.int .i64 o.units,.int .i64 o.at_,.int .i64 o.known,.bool true]) (.agg #[.string o.key,.string ⟨#[]⟩,.string ⟨#[]⟩,.string ⟨#[]⟩,.string ⟨#[]⟩,.int .i64 0,.int .i64 0,.int .i64 0,.int .i64 o.at_,.int .i64 o.known,.bool true])).run Tryz.prog w=.ok (.bool (voidB o)) w:=by
 obtain ⟨b,hb⟩:=nqx (voidB o);rw [←hb];simp [go_sem];unfold voidB at hb;subst hb
 repeat' split
 all_goals simp_all
theorem qpQ {ops:Array Oper} {C:World→Prop} {Q:Act→Prop} {a:Act} {op:Oper} {rest:List Oper} {x y:Operand} {t:TypeId} {c d:Array Value} {r:Bool} (hgd:Region.wanted op (yielded ops a.tmps)=true) (ho:op.op=.binOp .eql 58 x y t) (hx:a.eval x=.agg c) (hy:a.eval y=.agg d)
  (he:∀ W,(binOp .eql 58 (.agg c) (.agg d)).run Tryz.prog W=.ok (.bool r) W) (h:wpQuiet Tryz.prog ops C Q rest (a.put op.dst (.bool r))):wpQuiet Tryz.prog ops C Q (op::rest) a:=by
 refine wpQuiet_step (fun K hK=>?_);rw [if_pos hgd];refine ⟨.bool r,fun W hW=>?_,hK _ h⟩;have hg:=run_eqGuard_agg (P:=Tryz.prog) W .eql 58 x y c d (by kernel_rfl);unfold Oper.quietAt execOp;simp [ho,hx,hy,hg,he W,Oper.quietUpon]
theorem qtL (o:Od) (c:Int) (hc:c=if okO o=true then 0 else 230) (w:World) (hv:o.void=false):CB 86 #[.agg #[.string o.key,.string o.nom,.string o.hol,.string o.fund,.string o.cls,.int .i64 o.kind,.int .i64 o.amount,.int .i64 o.units,.int .i64 o.at_,.int .i64 o.known,.bool o.void]] (.int .i64 c) w:=by
 have HCC:=hid hc;clear hc;have hF:=okO.eq_1 o;have hF2:=headO.eq_1 o;obtain ⟨B,hB⟩:=nqx (w.heap.size);obtain ⟨w0,hw0⟩:=nqx (w.alloc (.cells #[.string o.key,.string o.nom,.string o.hol,.string o.fund,.string o.cls,.int .i64 o.kind,.int .i64 o.amount,.int .i64 o.units,.int .i64 o.at_,.int .i64 o.known,.bool o.void] 58));rw [hv] at hw0;have hb0:Below w.heap.size w w0:=by rw [hw0];exact (Below.refl _ _).alloc (Nat.le_refl _) _
 have x0:w0.cell? ⟨B,0,none⟩=some (.string o.key):=by rw [hw0,hB];go_cell
 have x1:w0.cell? ⟨B,1,none⟩=some (.string o.nom):=by rw [hw0,hB];go_cell
 have x2:w0.cell? ⟨B,2,none⟩=some (.string o.hol):=by rw [hw0,hB];go_cell
 have x3:w0.cell? ⟨B,3,none⟩=some (.string o.fund):=by rw [hw0,hB];go_cell
 have x4:w0.cell? ⟨B,4,none⟩=some (.string o.cls):=by rw [hw0,hB];go_cell
 have x5:w0.cell? ⟨B,5,none⟩=some (.int .i64 o.kind):=by rw [hw0,hB];go_cell
 have x6:w0.cell? ⟨B,6,none⟩=some (.int .i64 o.amount):=by rw [hw0,hB];go_cell
 have x7:w0.cell? ⟨B,7,none⟩=some (.int .i64 o.units):=by rw [hw0,hB];go_cell
 have x8:w0.cell? ⟨B,8,none⟩=some (.int .i64 o.at_):=by rw [hw0,hB];go_cell
 have x9:w0.cell? ⟨B,9,none⟩=some (.int .i64 o.known):=by rw [hw0,hB];go_cell
 have x10:w0.cell? ⟨B,10,none⟩=some (.bool false):=by rw [hw0,hB];go_cell
 have HAT0:=hid (show At w0 B 0 ([.string o.key,.string o.nom,.string o.hol,.string o.fund,.string o.cls,.int .i64 o.kind,.int .i64 o.amount,.int .i64 o.units,.int .i64 o.at_,.int .i64 o.known,.bool false]:List Value) by rw [hw0];exact At.fresh w _ _ hB);have HB0:=hid hb0;have FR:=hid (Fr.start w0);have FR0:=hid FR.out.le;have HHD:=hid hF2;have HOK:=hid hF;clear hb0 hF hF2
 cases hh:headO o with
 | false =>
  have HC:=hid (show (230:Int)=c by rw [HCC.out,show okO o=false by rw [HOK.out,hh];rfl];rfl)
  cases h0:nameB o.key with
  | false =>
   have HN:=hid (qfX o.key false h0);go_enter Tryz.func86,Tryz.ntmps86
   go_upto_region 1 with fail
   rw [←hw0,←hB];clear hw0 hB;refine wE [(4,pT B 0),(5,.string o.key),(6,bF),(7,bF),(8,undef),(9,undef),(10,undef),(11,bF),(12,bF),(13,undef),(14,undef),(15,undef),(16,bF),(17,bF),(18,undef),(19,undef),(20,undef),(21,bF),(3,bF)] (by simp only [zu];rfl) (by kernel_rfl) ?_ ?_
   ·intro W' hW';have z0:=qcU x0 hW';refine fxo ?_<|fxc z0 (fun W h=>by simp [loadVar,h,go_sem]) rfl<|fo4 ?_ ?_ ?_ ?_<|fo4 ?_ ?_ ?_ ?_<|fo4 ?_ ?_ ?_ ?_<|fo4 ?_ ?_ ?_ ?_<|fxo ?_<|fxn;all_goals (go_big_quiet_step (exact qaA (HN.out _));exact wqn rfl)
   intro β wx1 E;replace FR:=fnf FR E rfl;simp only [nP,zu];have x10:=qcU x10 FR.out.below;go_wp2
   go_ret
   exact ⟨qaK HC.out,HB0.out.trans (FR.out.below.mono HB0.out.size)⟩
  | true =>
   have HN:=hid (qfX o.key true h0);by_cases a1:0≤o.at_
   ·by_cases a2:o.at_≤105190559
    ·have HK:=hid (show inR o.known 1 2147483647=false by
      cases hk:inR o.known 1 2147483647 with
      | false=>rfl
      | true=>rw [HHD.out,h0,hk,qrZ a1 a2] at hh;cases hh)
     go_enter Tryz.func86,Tryz.ntmps86
     go_upto_region 1 with fail
     rw [←hw0,←hB];clear hw0 hB;refine wE [(4,pT B 0),(5,.string o.key),(6,bT),(7,bT),(8,pT B 8),(9,iT o.at_),(10,bT),(11,bT),(12,bT),(13,pT B 8),(14,iT o.at_),(15,bT),(16,bT),(17,bT),(18,pT B 9),(19,iT o.known),(20,bF),(21,bF),(3,bF)] (by simp only [zu];rfl) (by kernel_rfl) ?_ ?_
     ·intro W' hW';have z0:=qcU x0 hW';have z8:=qcU x8 hW';have z9:=qcU x9 hW';refine fxo ?_<|fxc z0 (fun W h=>by simp [loadVar,h,go_sem]) rfl<|fo3 ?_ ?_ ?_<|fxc z8 (fun W h=>by simp [loadVar,h,go_sem]) rfl<|fo4 ?_ ?_ ?_ ?_<|fxc z8 (fun W h=>by simp [loadVar,h,go_sem]) rfl<|fo4 ?_ ?_ ?_ ?_<|fxc z9 (fun W h=>by simp [loadVar,h,go_sem]) rfl<|fxo (by go_big_quiet_step (exact qaJ ((qaP _ _ _ HK.out _)));exact wqn rfl)<|fo2 ?_ ?_<|fxn;all_goals (go_big_quiet_step (exact qaA (HN.out _));exact wqn rfl)
     intro β wx1 E;replace FR:=fnf FR E rfl;simp only [nP,zu];have x10:=qcU x10 FR.out.below;go_wp2
     go_ret
     exact ⟨qaK HC.out,HB0.out.trans (FR.out.below.mono HB0.out.size)⟩
    ·go_enter Tryz.func86,Tryz.ntmps86
     go_upto_region 1 with fail
     rw [←hw0,←hB];clear hw0 hB;refine wE [(4,pT B 0),(5,.string o.key),(6,bT),(7,bT),(8,pT B 8),(9,iT o.at_),(10,bT),(11,bT),(12,bT),(13,pT B 8),(14,iT o.at_),(15,bF),(16,bF),(17,bF),(18,undef),(19,undef),(20,undef),(21,bF),(3,bF)] (by simp only [zu];rfl) (by kernel_rfl) ?_ ?_
     ·intro W' hW';have z0:=qcU x0 hW';have z8:=qcU x8 hW';refine fxo ?_<|fxc z0 (fun W h=>by simp [loadVar,h,go_sem]) rfl<|fo3 ?_ ?_ ?_<|fxc z8 (fun W h=>by simp [loadVar,h,go_sem]) rfl<|fo4 ?_ ?_ ?_ ?_<|fxc z8 (fun W h=>by simp [loadVar,h,go_sem]) rfl<|fo4 ?_ ?_ ?_ ?_<|fo4 ?_ ?_ ?_ ?_<|fxn;all_goals (go_big_quiet_step (exact qaA (HN.out _));exact wqn rfl)
     intro β wx1 E;replace FR:=fnf FR E rfl;simp only [nP,zu];have x10:=qcU x10 FR.out.below;go_wp2
     go_ret
     exact ⟨qaK HC.out,HB0.out.trans (FR.out.below.mono HB0.out.size)⟩
   ·go_enter Tryz.func86,Tryz.ntmps86
    go_upto_region 1 with fail
    rw [←hw0,←hB];clear hw0 hB;refine wE [(4,pT B 0),(5,.string o.key),(6,bT),(7,bT),(8,pT B 8),(9,iT o.at_),(10,bF),(11,bF),(12,bF),(13,undef),(14,undef),(15,undef),(16,bF),(17,bF),(18,undef),(19,undef),(20,undef),(21,bF),(3,bF)] (by simp only [zu];rfl) (by kernel_rfl) ?_ ?_
    ·intro W' hW';have z0:=qcU x0 hW';have z8:=qcU x8 hW';refine fxo ?_<|fxc z0 (fun W h=>by simp [loadVar,h,go_sem]) rfl<|fo3 ?_ ?_ ?_<|fxc z8 (fun W h=>by simp [loadVar,h,go_sem]) rfl<|fo4 ?_ ?_ ?_ ?_<|fo4 ?_ ?_ ?_ ?_<|fo4 ?_ ?_ ?_ ?_<|fxo ?_<|fxn;all_goals (go_big_quiet_step (exact qaA (HN.out _));exact wqn rfl)
    intro β wx1 E;replace FR:=fnf FR E rfl;simp only [nP,zu];have x10:=qcU x10 FR.out.below;go_wp2
    go_ret
    exact ⟨qaK HC.out,HB0.out.trans (FR.out.below.mono HB0.out.size)⟩
 | true =>
  have hh2:=hh;rw [HHD.out] at hh2;simp only [Bool.and_eq_true] at hh2;obtain ⟨⟨h0,h8⟩,h9⟩:=hh2;have a12:=qmT h8;obtain ⟨a1,a2⟩:=a12;have k12:=qmT h9;obtain ⟨k1,k2⟩:=k12;have HN:=hid (qfX o.key true h0);have HK:=hid h9;have HOK2:=hid (show okO o=(acctB o.nom o.hol&&nameB o.fund&&nameB o.cls&&askO o) by rw [HOK.out,hh,Bool.true_and]);clear hh h9;go_enter Tryz.func86,Tryz.ntmps86
  go_upto_region 1 with fail
  rw [←hw0,←hB];clear hw0 hB;refine wE [(4,pT B 0),(5,.string o.key),(6,bT),(7,bT),(8,pT B 8),(9,iT o.at_),(10,bT),(11,bT),(12,bT),(13,pT B 8),(14,iT o.at_),(15,bT),(16,bT),(17,bT),(18,pT B 9),(19,iT o.known),(20,bT),(21,bT),(3,bT)] (by simp only [zu];rfl) (by kernel_rfl) ?_ ?_
  ·intro W' hW';have z0:=qcU x0 hW';have z8:=qcU x8 hW';have z9:=qcU x9 hW';refine fxo ?_<|fxc z0 (fun W h=>by simp [loadVar,h,go_sem]) rfl<|fo3 ?_ ?_ ?_<|fxc z8 (fun W h=>by simp [loadVar,h,go_sem]) rfl<|fo4 ?_ ?_ ?_ ?_<|fxc z8 (fun W h=>by simp [loadVar,h,go_sem]) rfl<|fo4 ?_ ?_ ?_ ?_<|fxc z9 (fun W h=>by simp [loadVar,h,go_sem]) rfl<|fxo (by go_big_quiet_step (exact qaJ ((qaP _ _ _ HK.out _)));exact wqn rfl)<|fo2 ?_ ?_<|fxn;all_goals (go_big_quiet_step (exact qaA (HN.out _));exact wqn rfl)
  intro β wx1 E;replace FR:=fnf FR E rfl;simp only [nP,zu];replace FR0:=hid FR.out.le;replace x0:=qcU x0 FR.out.below;replace x1:=qcU x1 FR.out.below;replace x2:=qcU x2 FR.out.below;replace x3:=qcU x3 FR.out.below;replace x4:=qcU x4 FR.out.below;replace x5:=qcU x5 FR.out.below;replace x6:=qcU x6 FR.out.below;replace x7:=qcU x7 FR.out.below;replace x8:=qcU x8 FR.out.below;replace x9:=qcU x9 FR.out.below;replace x10:=qcU x10 FR.out.below;go_upto_region 2 with fail
  obtain ⟨w1,hw1⟩:=nqx wx1;rw [←hw1] at x0 x1 x2 x3 x4 x5 x6 x7 x8 x9 x10 ⊢;have HB1:=hid (show Below w.heap.size w w1 by rw [hw1];exact HB0.out.trans (FR.out.below.mono HB0.out.size));obtain ⟨ca,hca⟩:=nqx ([.string o.nom,.string o.hol]:List Value);obtain ⟨co,hco⟩:=nqx ([.string o.key,.string o.nom,.string o.hol,.string o.fund,.string o.cls,.int .i64 o.kind,.int .i64 o.amount,.int .i64 o.units,.int .i64 o.at_,.int .i64 o.known,.bool false]:List Value);have HATO:=hid (show At w1 B 0 co by rw [hw1];exact (by rw [hco];exact HAT0.out:At w0 B 0 co).below FR.out.below);have HATA:=hid (show At w1 B 1 ca by have h:=HATO.out;rw [hco] at h;rw [hca];exact At.sub (xs:=[.string o.key]) (zs:=_) h rfl);have eca:(Value.agg #[.string o.nom,.string o.hol])=.agg ca.toArray:=by rw [hca]
  have eco:(Value.agg #[.string o.key,.string o.nom,.string o.hol,.string o.fund,.string o.cls,.int .i64 o.kind,.int .i64 o.amount,.int .i64 o.units,.int .i64 o.at_,.int .i64 o.known,.bool false])=.agg co.toArray:=by rw [hco]
  have SCA:=hid (show (Tryz.prog.info? 54).map (·.size)=some ca.length by rw [hca];kernel_rfl);have SCO:=hid (show (Tryz.prog.info? 58).map (·.size)=some co.length by rw [hco];kernel_rfl);have ECA:=hid eca;have ECO:=hid eco;clear hw1 FR FR0 a1 a2 k1 k2 hca hco eca eco;have FR:=hid (Fr.start w1)
  cases c0:acctB o.nom o.hol with
  | false =>
   have HAC:=hid ((fun W=>(show CB 114 #[.agg ca.toArray] (.bool false) W by rw [←ECA.out];exact jhO o.nom o.hol false c0 W)));have HC:=hid (show (230:Int)=c by rw [HCC.out,show okO o=false by rw [HOK2.out,c0];rfl];rfl);clear c0;refine wE [(22,pT B 1),(23,aT ca),(24,bF),(25,bF),(26,undef),(27,undef),(28,undef),(29,bF),(30,bF),(31,undef),(32,undef),(33,undef),(34,bF),(35,bF),(36,undef),(37,undef),(38,bF),(3,bF)] (by simp only [zu];rfl) (by kernel_rfl) ?_ ?_
   ·intro W' hW';have ra:=HATA.out.below hW';refine fxo ?_<|fxl ra SCA.out Tryz.underlying54 rfl rfl<|fo4 ?_ ?_ ?_ ?_<|fo4 ?_ ?_ ?_ ?_<|fo4 ?_ ?_ ?_ ?_<|fo4 ?_ ?_ ?_ ?_<|fxn;all_goals (go_big_quiet_step (exact qaA (HAC.out _));exact wqn rfl)
   intro β wx1 E;replace FR:=fnf FR E rfl;simp only [nP,zu];go_wp2
   go_ret
   exact ⟨qaK HC.out,HB1.out.trans (FR.out.below.mono HB1.out.size)⟩
  | true =>
   have HAC:=hid ((fun W=>(show CB 114 #[.agg ca.toArray] (.bool true) W by rw [←ECA.out];exact jhO o.nom o.hol true c0 W)))
   cases c1:nameB o.fund with
   | false =>
    have HFU:=hid (qfX o.fund false c1);have HC:=hid (show (230:Int)=c by rw [HCC.out,show okO o=false by rw [HOK2.out,c0,c1];rfl];rfl);clear c0 c1;refine wE [(22,pT B 1),(23,aT ca),(24,bT),(25,bT),(26,pT B 3),(27,.string o.fund),(28,bF),(29,bF),(30,bF),(31,undef),(32,undef),(33,undef),(34,bF),(35,bF),(36,undef),(37,undef),(38,bF),(3,bF)] (by simp only [zu];rfl) (by kernel_rfl) ?_ ?_
    ·intro W' hW';have ra:=HATA.out.below hW';have z3:=qcU x3 hW';refine fxo ?_<|fxl ra SCA.out Tryz.underlying54 rfl rfl<|fo3 ?_ ?_ ?_<|fxc z3 (fun W h=>by simp [loadVar,h,go_sem]) rfl<|fxo (by go_big_quiet_step (exact qaA (HFU.out _));exact wqn rfl)<|fo4 ?_ ?_ ?_ ?_<|fo4 ?_ ?_ ?_ ?_<|fo3 ?_ ?_ ?_<|fxn;all_goals (go_big_quiet_step (exact qaA (HAC.out _));exact wqn rfl)
    intro β wx1 E;replace FR:=fnf FR E rfl;simp only [nP,zu];go_wp2
    go_ret
    exact ⟨qaK HC.out,HB1.out.trans (FR.out.below.mono HB1.out.size)⟩
   | true =>
    have HFU:=hid (qfX o.fund true c1)
    cases c2:nameB o.cls with
    | false =>
     have HCL:=hid (qfX o.cls false c2);have HC:=hid (show (230:Int)=c by rw [HCC.out,show okO o=false by rw [HOK2.out,c0,c1,c2];rfl];rfl);clear c0 c1 c2;refine wE [(22,pT B 1),(23,aT ca),(24,bT),(25,bT),(26,pT B 3),(27,.string o.fund),(28,bT),(29,bT),(30,bT),(31,pT B 4),(32,.string o.cls),(33,bF),(34,bF),(35,bF),(36,undef),(37,undef),(38,bF),(3,bF)] (by simp only [zu];rfl) (by kernel_rfl) ?_ ?_
     ·intro W' hW';have ra:=HATA.out.below hW';have z3:=qcU x3 hW';have z4:=qcU x4 hW';refine fxo ?_<|fxl ra SCA.out Tryz.underlying54 rfl rfl<|fo3 ?_ ?_ ?_<|fxc z3 (fun W h=>by simp [loadVar,h,go_sem]) rfl<|fxo (by go_big_quiet_step (exact qaA (HFU.out _));exact wqn rfl)<|fo3 ?_ ?_ ?_<|fxc z4 (fun W h=>by simp [loadVar,h,go_sem]) rfl<|fxo (by go_big_quiet_step (exact qaA (HCL.out _));exact wqn rfl)<|fo4 ?_ ?_ ?_ ?_<|fo2 ?_ ?_<|fxn;all_goals (go_big_quiet_step (exact qaA (HAC.out _));exact wqn rfl)
     intro β wx1 E;replace FR:=fnf FR E rfl;simp only [nP,zu];go_wp2
     go_ret
     exact ⟨qaK HC.out,HB1.out.trans (FR.out.below.mono HB1.out.size)⟩
    | true =>
     have HCL:=hid (qfX o.cls true c2)
     cases c3:askO o with
     | false =>
      have HAS:=hid ((fun W=>(show CB 120 #[.agg co.toArray] (.bool false) W by rw [←ECO.out];have:=qkJ o false c3 W;rwa [hv] at this)));have HC:=hid (show (230:Int)=c by rw [HCC.out,show okO o=false by rw [HOK2.out,c0,c1,c2,c3];rfl];rfl);clear c0 c1 c2 c3;refine wE [(22,pT B 1),(23,aT ca),(24,bT),(25,bT),(26,pT B 3),(27,.string o.fund),(28,bT),(29,bT),(30,bT),(31,pT B 4),(32,.string o.cls),(33,bT),(34,bT),(35,bT),(36,aT co),(37,bF),(38,bF),(3,bF)] (by simp only [zu];rfl) (by kernel_rfl) ?_ ?_
      ·intro W' hW';have ra:=HATA.out.below hW';have z3:=qcU x3 hW';have z4:=qcU x4 hW';have ro:=HATO.out.below hW';refine fxo ?_<|fxl ra SCA.out Tryz.underlying54 rfl rfl<|fo3 ?_ ?_ ?_<|fxc z3 (fun W h=>by simp [loadVar,h,go_sem]) rfl<|fxo (by go_big_quiet_step (exact qaA (HFU.out _));exact wqn rfl)<|fo3 ?_ ?_ ?_<|fxc z4 (fun W h=>by simp [loadVar,h,go_sem]) rfl<|fxo (by go_big_quiet_step (exact qaA (HCL.out _));exact wqn rfl)<|fo2 ?_ ?_<|fxl ro SCO.out Tryz.underlying58 rfl rfl<|fxo (by go_big_quiet_step (exact qaA (HAS.out _));exact wqn rfl)<|fo2 ?_ ?_<|fxn;all_goals (go_big_quiet_step (exact qaA (HAC.out _));exact wqn rfl)
      intro β wx1 E;replace FR:=fnf FR E rfl;simp only [nP,zu];go_wp2
      go_ret
      exact ⟨qaK HC.out,HB1.out.trans (FR.out.below.mono HB1.out.size)⟩
     | true =>
      have HAS:=hid ((fun W=>(show CB 120 #[.agg co.toArray] (.bool true) W by rw [←ECO.out];have:=qkJ o true c3 W;rwa [hv] at this)));have HC:=hid (show (0:Int)=c by rw [HCC.out,show okO o=true by rw [HOK2.out,c0,c1,c2,c3];rfl];rfl);clear c0 c1 c2 c3;refine wE [(22,pT B 1),(23,aT ca),(24,bT),(25,bT),(26,pT B 3),(27,.string o.fund),(28,bT),(29,bT),(30,bT),(31,pT B 4),(32,.string o.cls),(33,bT),(34,bT),(35,bT),(36,aT co),(37,bT),(38,bT),(3,bT)] (by simp only [zu];rfl) (by kernel_rfl) ?_ ?_
      ·intro W' hW';have ra:=HATA.out.below hW';have z3:=qcU x3 hW';have z4:=qcU x4 hW';have ro:=HATO.out.below hW';refine fxo ?_<|fxl ra SCA.out Tryz.underlying54 rfl rfl<|fo3 ?_ ?_ ?_<|fxc z3 (fun W h=>by simp [loadVar,h,go_sem]) rfl<|fxo (by go_big_quiet_step (exact qaA (HFU.out _));exact wqn rfl)<|fo3 ?_ ?_ ?_<|fxc z4 (fun W h=>by simp [loadVar,h,go_sem]) rfl<|fxo (by go_big_quiet_step (exact qaA (HCL.out _));exact wqn rfl)<|fo2 ?_ ?_<|fxl ro SCO.out Tryz.underlying58 rfl rfl<|fxo (by go_big_quiet_step (exact qaA (HAS.out _));exact wqn rfl)<|fo2 ?_ ?_<|fxn;all_goals (go_big_quiet_step (exact qaA (HAC.out _));exact wqn rfl)
      intro β wx1 E;replace FR:=fnf FR E rfl;simp only [nP,zu];go_wp2
      go_ret
      exact ⟨qaK HC.out,HB1.out.trans (FR.out.below.mono HB1.out.size)⟩
theorem qpU (o:Od) (c:Int) (hc:c=if (headO o&&voidB o)=true then 0 else 230) (w:World) (hv:o.void=true):CB 86 #[.agg #[.string o.key,.string o.nom,.string o.hol,.string o.fund,.string o.cls,.int .i64 o.kind,.int .i64 o.amount,.int .i64 o.units,.int .i64 o.at_,.int .i64 o.known,.bool o.void]] (.int .i64 c) w:=by
 have HCC:=hid hc;clear hc;have hF:=okO.eq_1 o;have hF2:=headO.eq_1 o;obtain ⟨B,hB⟩:=nqx (w.heap.size);obtain ⟨w0,hw0⟩:=nqx (w.alloc (.cells #[.string o.key,.string o.nom,.string o.hol,.string o.fund,.string o.cls,.int .i64 o.kind,.int .i64 o.amount,.int .i64 o.units,.int .i64 o.at_,.int .i64 o.known,.bool o.void] 58));rw [hv] at hw0;have hb0:Below w.heap.size w w0:=by rw [hw0];exact (Below.refl _ _).alloc (Nat.le_refl _) _
 have x0:w0.cell? ⟨B,0,none⟩=some (.string o.key):=by rw [hw0,hB];go_cell
 have x1:w0.cell? ⟨B,1,none⟩=some (.string o.nom):=by rw [hw0,hB];go_cell
 have x2:w0.cell? ⟨B,2,none⟩=some (.string o.hol):=by rw [hw0,hB];go_cell
 have x3:w0.cell? ⟨B,3,none⟩=some (.string o.fund):=by rw [hw0,hB];go_cell
 have x4:w0.cell? ⟨B,4,none⟩=some (.string o.cls):=by rw [hw0,hB];go_cell
 have x5:w0.cell? ⟨B,5,none⟩=some (.int .i64 o.kind):=by rw [hw0,hB];go_cell
 have x6:w0.cell? ⟨B,6,none⟩=some (.int .i64 o.amount):=by rw [hw0,hB];go_cell
 have x7:w0.cell? ⟨B,7,none⟩=some (.int .i64 o.units):=by rw [hw0,hB];go_cell
 have x8:w0.cell? ⟨B,8,none⟩=some (.int .i64 o.at_):=by rw [hw0,hB];go_cell
 have x9:w0.cell? ⟨B,9,none⟩=some (.int .i64 o.known):=by rw [hw0,hB];go_cell
 have x10:w0.cell? ⟨B,10,none⟩=some (.bool true):=by rw [hw0,hB];go_cell
 have HAT0:=hid (show At w0 B 0 ([.string o.key,.string o.nom,.string o.hol,.string o.fund,.string o.cls,.int .i64 o.kind,.int .i64 o.amount,.int .i64 o.units,.int .i64 o.at_,.int .i64 o.known,.bool true]:List Value) by rw [hw0];exact At.fresh w _ _ hB);have HB0:=hid hb0;have FR:=hid (Fr.start w0);have FR0:=hid FR.out.le;have HHD:=hid hF2;clear hb0 hF hF2
 cases hh:headO o with
 | false =>
  have HC:=hid (show (230:Int)=c by rw [HCC.out,show (headO o&&voidB o)=false by rw [hh];rfl];rfl)
  cases h0:nameB o.key with
  | false =>
   have HN:=hid (qfX o.key false h0);go_enter Tryz.func86,Tryz.ntmps86
   go_upto_region 1 with fail
   rw [←hw0,←hB];clear hw0 hB;refine wE [(4,pT B 0),(5,.string o.key),(6,bF),(7,bF),(8,undef),(9,undef),(10,undef),(11,bF),(12,bF),(13,undef),(14,undef),(15,undef),(16,bF),(17,bF),(18,undef),(19,undef),(20,undef),(21,bF),(3,bF)] (by simp only [zu];rfl) (by kernel_rfl) ?_ ?_
   ·intro W' hW';have z0:=qcU x0 hW';refine fxo ?_<|fxc z0 (fun W h=>by simp [loadVar,h,go_sem]) rfl<|fo4 ?_ ?_ ?_ ?_<|fo4 ?_ ?_ ?_ ?_<|fo4 ?_ ?_ ?_ ?_<|fo4 ?_ ?_ ?_ ?_<|fxo ?_<|fxn;all_goals (go_big_quiet_step (exact qaA (HN.out _));exact wqn rfl)
   intro β wx1 E;replace FR:=fnf FR E rfl;simp only [nP,zu];have x10:=qcU x10 FR.out.below;go_wp2
   go_ret
   exact ⟨qaK HC.out,HB0.out.trans (FR.out.below.mono HB0.out.size)⟩
  | true =>
   have HN:=hid (qfX o.key true h0);by_cases a1:0≤o.at_
   ·by_cases a2:o.at_≤105190559
    ·have HK:=hid (show inR o.known 1 2147483647=false by
      cases hk:inR o.known 1 2147483647 with
      | false=>rfl
      | true=>rw [HHD.out,h0,hk,qrZ a1 a2] at hh;cases hh)
     go_enter Tryz.func86,Tryz.ntmps86
     go_upto_region 1 with fail
     rw [←hw0,←hB];clear hw0 hB;refine wE [(4,pT B 0),(5,.string o.key),(6,bT),(7,bT),(8,pT B 8),(9,iT o.at_),(10,bT),(11,bT),(12,bT),(13,pT B 8),(14,iT o.at_),(15,bT),(16,bT),(17,bT),(18,pT B 9),(19,iT o.known),(20,bF),(21,bF),(3,bF)] (by simp only [zu];rfl) (by kernel_rfl) ?_ ?_
     ·intro W' hW';have z0:=qcU x0 hW';have z8:=qcU x8 hW';have z9:=qcU x9 hW';refine fxo ?_<|fxc z0 (fun W h=>by simp [loadVar,h,go_sem]) rfl<|fo3 ?_ ?_ ?_<|fxc z8 (fun W h=>by simp [loadVar,h,go_sem]) rfl<|fo4 ?_ ?_ ?_ ?_<|fxc z8 (fun W h=>by simp [loadVar,h,go_sem]) rfl<|fo4 ?_ ?_ ?_ ?_<|fxc z9 (fun W h=>by simp [loadVar,h,go_sem]) rfl<|fxo (by go_big_quiet_step (exact qaJ ((qaP _ _ _ HK.out _)));exact wqn rfl)<|fo2 ?_ ?_<|fxn;all_goals (go_big_quiet_step (exact qaA (HN.out _));exact wqn rfl)
     intro β wx1 E;replace FR:=fnf FR E rfl;simp only [nP,zu];have x10:=qcU x10 FR.out.below;go_wp2
     go_ret
     exact ⟨qaK HC.out,HB0.out.trans (FR.out.below.mono HB0.out.size)⟩
    ·go_enter Tryz.func86,Tryz.ntmps86
     go_upto_region 1 with fail
     rw [←hw0,←hB];clear hw0 hB;refine wE [(4,pT B 0),(5,.string o.key),(6,bT),(7,bT),(8,pT B 8),(9,iT o.at_),(10,bT),(11,bT),(12,bT),(13,pT B 8),(14,iT o.at_),(15,bF),(16,bF),(17,bF),(18,undef),(19,undef),(20,undef),(21,bF),(3,bF)] (by simp only [zu];rfl) (by kernel_rfl) ?_ ?_
     ·intro W' hW';have z0:=qcU x0 hW';have z8:=qcU x8 hW';refine fxo ?_<|fxc z0 (fun W h=>by simp [loadVar,h,go_sem]) rfl<|fo3 ?_ ?_ ?_<|fxc z8 (fun W h=>by simp [loadVar,h,go_sem]) rfl<|fo4 ?_ ?_ ?_ ?_<|fxc z8 (fun W h=>by simp [loadVar,h,go_sem]) rfl<|fo4 ?_ ?_ ?_ ?_<|fo4 ?_ ?_ ?_ ?_<|fxn;all_goals (go_big_quiet_step (exact qaA (HN.out _));exact wqn rfl)
     intro β wx1 E;replace FR:=fnf FR E rfl;simp only [nP,zu];have x10:=qcU x10 FR.out.below;go_wp2
     go_ret
     exact ⟨qaK HC.out,HB0.out.trans (FR.out.below.mono HB0.out.size)⟩
   ·go_enter Tryz.func86,Tryz.ntmps86
    go_upto_region 1 with fail
    rw [←hw0,←hB];clear hw0 hB;refine wE [(4,pT B 0),(5,.string o.key),(6,bT),(7,bT),(8,pT B 8),(9,iT o.at_),(10,bF),(11,bF),(12,bF),(13,undef),(14,undef),(15,undef),(16,bF),(17,bF),(18,undef),(19,undef),(20,undef),(21,bF),(3,bF)] (by simp only [zu];rfl) (by kernel_rfl) ?_ ?_
    ·intro W' hW';have z0:=qcU x0 hW';have z8:=qcU x8 hW';refine fxo ?_<|fxc z0 (fun W h=>by simp [loadVar,h,go_sem]) rfl<|fo3 ?_ ?_ ?_<|fxc z8 (fun W h=>by simp [loadVar,h,go_sem]) rfl<|fo4 ?_ ?_ ?_ ?_<|fo4 ?_ ?_ ?_ ?_<|fo4 ?_ ?_ ?_ ?_<|fxo ?_<|fxn;all_goals (go_big_quiet_step (exact qaA (HN.out _));exact wqn rfl)
    intro β wx1 E;replace FR:=fnf FR E rfl;simp only [nP,zu];have x10:=qcU x10 FR.out.below;go_wp2
    go_ret
    exact ⟨qaK HC.out,HB0.out.trans (FR.out.below.mono HB0.out.size)⟩
 | true =>
  have hh2:=hh;rw [HHD.out] at hh2;simp only [Bool.and_eq_true] at hh2;obtain ⟨⟨h0,h8⟩,h9⟩:=hh2;have a12:=qmT h8;obtain ⟨a1,a2⟩:=a12;have k12:=qmT h9;obtain ⟨k1,k2⟩:=k12;have HN:=hid (qfX o.key true h0);have HK:=hid h9;clear hh h9;go_enter Tryz.func86,Tryz.ntmps86
  go_upto_region 1 with fail
  rw [←hw0,←hB];clear hw0 hB;refine wE [(4,pT B 0),(5,.string o.key),(6,bT),(7,bT),(8,pT B 8),(9,iT o.at_),(10,bT),(11,bT),(12,bT),(13,pT B 8),(14,iT o.at_),(15,bT),(16,bT),(17,bT),(18,pT B 9),(19,iT o.known),(20,bT),(21,bT),(3,bT)] (by simp only [zu];rfl) (by kernel_rfl) ?_ ?_
  ·intro W' hW';have z0:=qcU x0 hW';have z8:=qcU x8 hW';have z9:=qcU x9 hW';refine fxo ?_<|fxc z0 (fun W h=>by simp [loadVar,h,go_sem]) rfl<|fo3 ?_ ?_ ?_<|fxc z8 (fun W h=>by simp [loadVar,h,go_sem]) rfl<|fo4 ?_ ?_ ?_ ?_<|fxc z8 (fun W h=>by simp [loadVar,h,go_sem]) rfl<|fo4 ?_ ?_ ?_ ?_<|fxc z9 (fun W h=>by simp [loadVar,h,go_sem]) rfl<|fxo (by go_big_quiet_step (exact qaJ ((qaP _ _ _ HK.out _)));exact wqn rfl)<|fo2 ?_ ?_<|fxn;all_goals (go_big_quiet_step (exact qaA (HN.out _));exact wqn rfl)
  intro β wx1 E;replace FR:=fnf FR E rfl;simp only [nP,zu];replace FR0:=hid FR.out.le;replace x0:=qcU x0 FR.out.below;replace x1:=qcU x1 FR.out.below;replace x2:=qcU x2 FR.out.below;replace x3:=qcU x3 FR.out.below;replace x4:=qcU x4 FR.out.below;replace x5:=qcU x5 FR.out.below;replace x6:=qcU x6 FR.out.below;replace x7:=qcU x7 FR.out.below;replace x8:=qcU x8 FR.out.below;replace x9:=qcU x9 FR.out.below;replace x10:=qcU x10 FR.out.below;go_upto_region 5 with fail
  obtain ⟨w1,hw1⟩:=nqx wx1;have HAT1:=hid (HAT0.out.below FR.out.below);rw [←hw1] at HAT1 x0 x1 x2 x3 x4 x5 x6 x7 x8 x9 x10 ⊢;have HB1:=hid (show Below w.heap.size w w1 by rw [hw1];exact HB0.out.trans (FR.out.below.mono HB0.out.size));have SCO:=hid (show (Tryz.prog.info? 58).map (·.size)=some ([.string o.key,.string o.nom,.string o.hol,.string o.fund,.string o.cls,.int .i64 o.kind,.int .i64 o.amount,.int .i64 o.units,.int .i64 o.at_,.int .i64 o.known,.bool true]:List Value).length by kernel_rfl);obtain ⟨vb,hvb⟩:=nqx (voidB o);have hq:=jeA o;rw [←hvb] at hq;have HVB:=hid hvb;have HH:=hid (show headO o=true by rw [HHD.out,h0,h8,HK.out];rfl);clear hw1 FR FR0 a1 a2 k1 k2 hvb h0 h8;have FR:=hid (Fr.start w1);refine wE [(45,.agg #[.string o.key,.string o.nom,.string o.hol,.string o.fund,.string o.cls,iT o.kind,iT o.amount,iT o.units,iT o.at_,iT o.known,bT]),(46,pT B 0),(47,.string o.key),(48,pT B 8),(49,iT o.at_),(50,pT B 9),(51,iT o.known),(52,.agg #[.string o.key,.string ⟨#[]⟩,.string ⟨#[]⟩,.string ⟨#[]⟩,.string ⟨#[]⟩,iT 0,iT 0,iT 0,iT o.at_,iT o.known,bT]),(53,.bool vb),(3,.bool vb)] (by simp only [zu];rfl) (by kernel_rfl) ?_ ?_
  ·intro W' hW';have ro:=HAT1.out.below hW';have z0:=qcU x0 hW';have z8:=qcU x8 hW';have z9:=qcU x9 hW';refine fxl ro SCO.out Tryz.underlying58 rfl rfl<|fxo ?_<|fxc z0 (fun W h=>by simp [loadVar,h,go_sem]) rfl<|fxo ?_<|fxc z8 (fun W h=>by simp [loadVar,h,go_sem]) rfl<|fxo ?_<|fxc z9 (fun W h=>by simp [loadVar,h,go_sem]) rfl<|fxo (qbO (by rfl) _ _ rfl [(0,.string o.key),(7,.int .i64 o.at_),(8,.int .i64 o.known),(9,.bool true)] rfl #[.string o.key,.string ⟨#[]⟩,.string ⟨#[]⟩,.string ⟨#[]⟩,.string ⟨#[]⟩,.int .i64 0,.int .i64 0,.int .i64 0,.int .i64 o.at_,.int .i64 o.known,.bool true] (by kernel_rfl) (wqn (by simp only [zq])))<|fxo (qpQ (by rfl) rfl rfl rfl hq (wqn (by simp only [zq])))<|fxo ?_<|fxn;all_goals (go_big_quiet_step (fail);exact wqn rfl)
  intro β wx1 E;replace FR:=fnf FR E rfl;simp only [nP,zu]
  cases vb with
  | false =>
   have HC:=hid (show (230:Int)=c by rw [HCC.out,HH.out,←HVB.out];rfl);go_wp2
   go_ret
   exact ⟨qaK HC.out,HB1.out.trans (FR.out.below.mono HB1.out.size)⟩
  | true =>
   have HC:=hid (show (0:Int)=c by rw [HCC.out,HH.out,←HVB.out];rfl);go_wp2
   go_ret
   exact ⟨qaK HC.out,HB1.out.trans (FR.out.below.mono HB1.out.size)⟩
end Go.Proofs.YtemoddmadfoaiaaGreat
