import Derived.Test.YtemoddmadfoaiaaGreatBkH
import Derived.Test.YtemoddmadfoaiaaGreatPcA
set_option linter.unusedVariables false
set_option linter.unusedSimpArgs false
set_option maxRecDepth 100000
set_option maxHeartbeats 8000000
namespace Go.Proofs.YtemoddmadfoaiaaGreat
open Go.RowKit Big
open Lib (hid)
theorem qdY {cx:List Value} {s:Bool} {v:Nat} {r:Int} (h:cx=.bool s::lv 32 v) (hr:r=sgnI s v) (hv:v<BB^32) (w:World) :
  Calls Tryz.prog 107 #[.agg cx.toArray] w fun e w'=>e=.returned (.int .i64 r)∧Below w.heap.size w w':=by
 have V_cx:=hid h;obtain ⟨n,hn⟩:∃ n,n=cs1 s v:=⟨_,rfl⟩;obtain ⟨cm,V_cm⟩:∃ c:List Value,Hid (c=lv 32 v):=⟨_,hid rfl⟩;obtain ⟨cz,V_cz⟩:∃ c:List Value,Hid (c=lv 32 0):=⟨_,hid rfl⟩;have HS:=hid (qbL V_cx.out V_cm.out hn hv);have HV:=hid (And.intro hv (And.intro hn hr));clear h hn hr hv;obtain ⟨B0,w0,hw0,hB0,AB0,FR,FR0,HB0,hZB0⟩:=en1 w 25 (bxq cx);go_enter Tryz.func107,Tryz.ntmps107
 go_upto_region 1 with fail
 rw [←hw0,←hB0];clear hw0 hB0;refine wT [⟨true,5,4,7,0,0,140,9,cm,0,cm,[]⟩] [(6,.agg cx.toArray),(7,.tuple #[.bool n,.agg cm.toArray]),(5,.tuple #[.bool n,.agg cm.toArray]),(8,.bool n),(9,.agg cm.toArray),(3,.bool n)] (by simp only [zr,zq];rfl) (by kernel_rfl) rfl ?_ ?_ ?_ ?_
 ·intro W' hW';refine ldI (abl AB0 hW') V_cx rfl<|fo4 ?_ ?_ ?_ ?_<|fxs rfl<|fxo ?_<|fxs rfl<|fxn;all_goals (go_big_quiet_step ((go_at_call 144;exact qaA (HS.out _)));exact wqn rfl)
 ·exact fP1 (Tryz.alG (qG V_cm.out))
 ·exact fP1 (sG V_cm (fun _=>rfl) rfl)
 intro β wx1 E;replace FR:=fnf FR E rfl;obtain ⟨b4,hb4,eb4⟩:=nwb E mms;have lB0_b4:B0<b4:=ltb AB0 eb4.1;have hZb4:B0≤b4:=Nat.le_trans FR0.out eb4.1;replace AB0:=fnh AB0 E rfl;have Ab4:=hid eb4.2;simp only [nP,zr,zq];rw [←hb4];replace FR0:=hid FR.out.le;clear E eb4 hb4
 cases n with
 | true =>
  have hr:r=-1:=by
   have h1:=HV.out.2.1;have h2:=HV.out.2.2;rw [h2];unfold sgnI;unfold cs1 at h1
   cases s<;>simp at h1 ⊢
   simp [h1]
  subst hr;go_wp2
  go_ret
  exact ⟨rfl,fend HB0 FR⟩
 | false =>
  obtain ⟨z,hz⟩:∃ z,z=decide (v=0):=⟨_,rfl⟩;have HZ:=hid hz;clear hz;go_upto_region 4 with fail
  refine wT [] [(13,.agg cm.toArray),(14,.agg cz.toArray),(15,.bool z),(12,.bool z)] (by simp only [zr,zq];rfl) (by kernel_rfl) rfl ?_ oN oN ?_
  ·intro W' hW';refine ldG (abl Ab4 hW') V_cm rfl<|fxb (qbT V_cz.out) rfl<|fxo (qdG (r:=z) (by rfl) rfl rfl rfl V_cm.out V_cz.out HV.out.1 qcC HZ.out (wqn (by simp only [zq])))<|fxo ?_<|fxn
   go_big_quiet_step (fail);exact wqn rfl
  intro β wx2 E;replace FR:=fnf FR E rfl;replace AB0:=fnh AB0 E rfl;replace Ab4:=fnh Ab4 E rfl;simp only [nP,zr,zq];replace FR0:=hid FR.out.le;clear E
  cases z with
  | true =>
   have hr:r=0:=by rw [HV.out.2.2];have:=HZ.out;simp at this;simp [sgnI,this]
   subst hr;go_wp2
   go_ret
   exact ⟨rfl,fend HB0 FR⟩
  | false =>
   have hr:r=1:=by
    have h1:=HV.out.2.1;have h3:=HZ.out;simp at h3;rw [HV.out.2.2];unfold sgnI;unfold cs1 at h1
    cases s<;>simp [h3] at h1 ⊢
   subst hr;go_wp2
   go_ret
   exact ⟨rfl,fend HB0 FR⟩
theorem qqF {cx:List Value} {s:Bool} {v k:Nat} (h:cx=.bool s::lv 32 v) (hk:IsBits v k) (hv:v<BB^32) (w:World) :
  Calls Tryz.prog 147 #[.agg cx.toArray] w fun e w'=>e=.returned (.int .i64 (k:Int))∧Below w.heap.size w w':=by
 have V_cx:=hid h;obtain ⟨n,hn⟩:∃ n,n=cs1 s v:=⟨_,rfl⟩;obtain ⟨cm,V_cm⟩:∃ c:List Value,Hid (c=lv 32 v):=⟨_,hid rfl⟩;have HS:=hid (qbL V_cx.out V_cm.out hn hv);have HV:=hid (And.intro hv hk);clear h hn hk hv;obtain ⟨B0,w0,hw0,hB0,AB0,FR,FR0,HB0,hZB0⟩:=en1 w 25 (bxq cx);go_enter Tryz.func147,Tryz.ntmps147
 go_upto_region 1 with fail
 rw [←hw0,←hB0];clear hw0 hB0;refine wT [⟨true,5,4,7,0,0,140,9,cm,0,cm,[]⟩] [(6,.agg cx.toArray),(7,.tuple #[.bool n,.agg cm.toArray]),(5,.tuple #[.bool n,.agg cm.toArray]),(8,.bool n),(9,.agg cm.toArray),(3,.bool n)] (by simp only [zr,zq];rfl) (by kernel_rfl) rfl ?_ ?_ ?_ ?_
 ·intro W' hW';refine ldI (abl AB0 hW') V_cx rfl<|fo4 ?_ ?_ ?_ ?_<|fxs rfl<|fxo ?_<|fxs rfl<|fxn;all_goals (go_big_quiet_step ((go_at_call 144;exact qaA (HS.out _)));exact wqn rfl)
 ·exact fP1 (Tryz.alG (qG V_cm.out))
 ·exact fP1 (sG V_cm (fun _=>rfl) rfl)
 intro β wx1 E;replace FR:=fnf FR E rfl;obtain ⟨b4,hb4,eb4⟩:=nwb E mms;have lB0_b4:B0<b4:=ltb AB0 eb4.1;have hZb4:B0≤b4:=Nat.le_trans FR0.out eb4.1;replace AB0:=fnh AB0 E rfl;have Ab4:=hid eb4.2;simp only [nP,zr,zq];rw [←hb4];replace FR0:=hid FR.out.le;clear E eb4 hb4;have HB:=hid (qhN v k b4 0 wx1 (by have:=Ab4.out;rwa [V_cm.out] at this) HV.out.1 HV.out.2);go_wp2_with (go_at_call 172;refine HB.out.mono ?_;rintro e w' ⟨rfl,rfl⟩)
 go_ret
 exact ⟨rfl,fend HB0 FR⟩
theorem qwN {c:List Value} {v:Nat} (hc:c=lv 32 v) (hv:v<BB^2):Tryz.prog.built 140 [(0,.int .u32 (lim v 0:Nat)),(1,.int .u32 (lim v 1:Nat))]=some c.toArray:=by
 subst hc;rw [qnG hv];generalize lim v 0=x
 generalize lim v 1=y
 kernel_rfl
theorem qhJ {cr:List Value} {z:Int} {n:Bool} {v:Nat} (h:cr=.bool n::lv 32 v) (hn:n=decide (z<0)) (hv:v=z.natAbs) (h1:-9223372036854775808≤z) (h2:z≤9223372036854775807) (w:World) :
  Calls Tryz.prog 76 #[.int .i64 z] w fun e w'=>e=.returned (.agg cr.toArray)∧Below w.heap.size w w':=by
 have V_cr:=hid h;have hvb:v<18446744073709551616:=by omega
 have hv2:v<BB^2:=qmK hvb;have hvB:v<BB^32:=Nat.lt_of_lt_of_le hv2 (Nat.pow_le_pow_right qaX (by omega));obtain ⟨l0,hl0⟩:∃ l,l=lim v 0:=⟨_,rfl⟩;obtain ⟨l1,hl1⟩:∃ l,l=lim v 1:=⟨_,rfl⟩;have htwo:=qdQ hv2;rw [←hl0,←hl1] at htwo;have hl0B:l0<BB:=hl0 ▸ qaD v 0;have hl1B:l1<BB:=hl1 ▸ qaD v 1;obtain ⟨U,hU⟩:∃ U:Int,U=IntKind.u64.wrap z:=⟨_,rfl⟩;have e1:IntKind.u32.wrap (v:Int)=(l0:Int):=by unfold BB at *;rw [IntKind.wrap_u32];omega
 have e2:(v:Int) / 4294967296=(l1:Int):=by unfold BB at *;omega
 have e3:IntKind.u32.wrap (l1:Int)=(l1:Int):=by unfold BB at *;rw [IntKind.wrap_u32];omega
 obtain ⟨cm,V_cm⟩:∃ c:List Value,Hid (c=lv 32 v):=⟨_,hid rfl⟩;obtain ⟨cy,V_cy⟩:∃ c:List Value,Hid (c=.bool false::lv 32 0):=⟨_,hid rfl⟩;have HM:=hid (qeB (neg:=n) V_cm.out V_cr.out (show n=cs1 n v by rw [hn];unfold cs1;by_cases hz:z<0<;>simp [hz];omega) hvB);have HBT:=hid (show Tryz.prog.built 140 [(0,.int .u32 (l0:Nat)),(1,.int .u32 (l1:Nat))]=some cm.toArray by rw [hl0,hl1];exact qwN V_cm.out hv2);have HUN:=hid (show IntKind.u64.wrap z=U from hU.symm);have hneg:z<0→IntKind.u64.wrap (-U)=(v:Int):=fun hz=>by rw [hU,IntKind.wrap_u64,IntKind.wrap_u64];omega
 have hpos:¬z<0→U=(v:Int):=fun hz=>by rw [hU,IntKind.wrap_u64];omega
 clear h hvb hv2 hvB hl0 hl1 htwo hl0B hl1B hU hv h1 h2;obtain ⟨B0,w0,hw0,hB0,AB0,FR,FR0,HB0,hZB0⟩:=en1 w 25 (zQI V_cy);unfold zero33 at hw0;go_enter Tryz.func76,Tryz.ntmps76
 go_upto_region 1 with fail
 rw [←hw0,←hB0];clear hw0 hB0;have hun:=HUN.out;by_cases hz:z<0
 ·have hn1:n=true:=by rw [hn];simp [hz]
  have hw:=hneg hz;subst hn1;clear hn hneg hpos;go_upto_region 4 with fail
  refine wF [⟨false,0,2,9,B0,0,25,18,cr,0,cr,[]⟩] [(10,.int .i64 z),(11,.bool true),(12,.int .u64 (v:Int)),(13,.int .u32 (l0:Int)),(14,.int .u64 (v:Int)),(15,.int .u64 (l1:Int)),(16,.int .u32 (l1:Int)),(17,.agg cm.toArray),(18,.agg cr.toArray)] (by simp only [zr,zq];rfl) (by kernel_rfl) ?_ ?_ (fP1 bnC) ?_ uno ?_ ?_
  ·intro W' hW';refine fo4 ?_ ?_ ?_ ?_<|fo3 ?_ ?_ ?_<|fxb HBT.out rfl<|fxo ?_<|fxs rfl<|fxn;all_goals (go_big_quiet_step ((go_at_call 112;exact qaA (HM.out _)));exact wqn rfl)
  ·intro W' hK';refine fxi ?_<|fxi ?_<|fxi ?_<|fxi ?_<|fxi ?_<|fxi ?_<|fxi ?_<|fxb HBT.out rfl<|fxs (by kernel_rfl)<|fxs (by kernel_rfl)<|fxn;all_goals (first|(refine .inr ?_;go_big_quiet_step (fail);exact wqn rfl)|exact .inl (by kernel_rfl))
  ·exact fP1 (fun _=>⟨AB0.out.lt,rfl,At.room AB0.out (qI V_cy.out) (qI V_cr.out)⟩)
  ·exact fP1 (sI V_cr (fun _=>rfl) rfl)
  intro β wx1 E;replace FR:=ffh FR E (by show B0≤B0;omega);replace AB0:=hid (show At wx1 B0 0 cr from E.atOld mms rfl AB0.out.lt);simp only [nP,zr,zq];clear E;go_wp2_with fail
  have hld:=AB0.out.read (P:=Tryz.prog) Tryz.underlying25 rfl (qI V_cr.out);refine bodyPost_ret (v:=.agg cr.toArray) (by simp [results,Tryz.results76,asAddr,hld]) rfl ?_;exact ⟨rfl,fend HB0 FR⟩
 ·have hn1:n=false:=by rw [hn];simp [hz]
  have hw:=hpos hz;subst hn1;clear hn hneg hpos;rw [hw] at hun;go_upto_region 4 with fail
  refine wF [⟨false,0,2,9,B0,0,25,18,cr,0,cr,[]⟩] [(10,.int .i64 z),(11,.bool false),(12,.int .u64 (v:Int)),(13,.int .u32 (l0:Int)),(14,.int .u64 (v:Int)),(15,.int .u64 (l1:Int)),(16,.int .u32 (l1:Int)),(17,.agg cm.toArray),(18,.agg cr.toArray)] (by simp only [zr,zq];rfl) (by kernel_rfl) ?_ ?_ (fP1 bnC) ?_ uno ?_ ?_
  ·intro W' hW';refine fo4 ?_ ?_ ?_ ?_<|fo3 ?_ ?_ ?_<|fxb HBT.out rfl<|fxo ?_<|fxs rfl<|fxn;all_goals (go_big_quiet_step ((go_at_call 112;exact qaA (HM.out _)));exact wqn rfl)
  ·intro W' hK';refine fxi ?_<|fxi ?_<|fxi ?_<|fxi ?_<|fxi ?_<|fxi ?_<|fxi ?_<|fxb HBT.out rfl<|fxs (by kernel_rfl)<|fxs (by kernel_rfl)<|fxn;all_goals (first|(refine .inr ?_;go_big_quiet_step (fail);exact wqn rfl)|exact .inl (by kernel_rfl))
  ·exact fP1 (fun _=>⟨AB0.out.lt,rfl,At.room AB0.out (qI V_cy.out) (qI V_cr.out)⟩)
  ·exact fP1 (sI V_cr (fun _=>rfl) rfl)
  intro β wx1 E;replace FR:=ffh FR E (by show B0≤B0;omega);replace AB0:=hid (show At wx1 B0 0 cr from E.atOld mms rfl AB0.out.lt);simp only [nP,zr,zq];clear E;go_wp2_with fail
  have hld:=AB0.out.read (P:=Tryz.prog) Tryz.underlying25 rfl (qI V_cr.out);refine bodyPost_ret (v:=.agg cr.toArray) (by simp [results,Tryz.results76,asAddr,hld]) rfl ?_;exact ⟨rfl,fend HB0 FR⟩
theorem jbY {ca cr:List Value} {na n:Bool} {a:Nat} (h:ca=.bool na::lv 32 a) (hr:cr=.bool n::lv 32 a) (hn:n=cs1 (!cs1 na a) a) (ha:a<BB^32) (w:World) :
  Calls Tryz.prog 109 #[.agg ca.toArray] w fun e w'=>e=.returned (.agg cr.toArray)∧Below w.heap.size w w':=by
 have V_ca:=hid h;have V_cr:=hid hr;obtain ⟨sa,hsa⟩:∃ n,n=cs1 na a:=⟨_,rfl⟩;rw [←hsa] at hn;obtain ⟨cm,V_cm⟩:∃ c:List Value,Hid (c=lv 32 a):=⟨_,hid rfl⟩;obtain ⟨cy,V_cy⟩:∃ c:List Value,Hid (c=.bool false::lv 32 0):=⟨_,hid rfl⟩;have HS:=hid (qbL V_ca.out V_cm.out hsa ha);have HM:=hid (qeB (neg:=!sa) V_cm.out V_cr.out hn ha);clear h hr hn ha hsa;obtain ⟨B0,B1,w0,hw0,hB0,hB1,AB0,AB1,FR,FR0,HB0,hZB0,l01,hZB1⟩:=en2 w 25 25 (bxq ca) (zQI V_cy);unfold zero33 at hw0;go_enter Tryz.func109,Tryz.ntmps109
 go_upto_region 1 with fail
 rw [←hw0,←hB1,←hB0];clear hw0 hB0 hB1;refine wT [⟨true,5,4,7,0,0,140,9,cm,0,cm,[]⟩] [(6,.agg ca.toArray),(7,.tuple #[.bool sa,.agg cm.toArray]),(5,.tuple #[.bool sa,.agg cm.toArray]),(8,.bool sa),(9,.agg cm.toArray),(3,.bool sa)] (by simp only [zr,zq];rfl) (by kernel_rfl) rfl ?_ ?_ ?_ ?_
 ·intro W' hW';refine ldI (abl AB0 hW') V_ca rfl<|fo4 ?_ ?_ ?_ ?_<|fxs rfl<|fxo ?_<|fxs rfl<|fxn;all_goals (go_big_quiet_step ((go_at_call 144;exact qaA (HS.out _)));exact wqn rfl)
 ·exact fP1 (Tryz.alG (qG V_cm.out))
 ·exact fP1 (sG V_cm (fun _=>rfl) rfl)
 intro β wx1 E;replace FR:=fnf FR E rfl;obtain ⟨b4,hb4,eb4⟩:=nwb E mms;have lB0_b4:B0<b4:=ltb AB0 eb4.1;have lB1_b4:B1<b4:=ltb AB1 eb4.1;have hZb4:B0≤b4:=Nat.le_trans FR0.out eb4.1;replace AB0:=fnh AB0 E rfl;replace AB1:=fnh AB1 E rfl;have Ab4:=hid eb4.2;simp only [nP,zr,zq];rw [←hb4];replace FR0:=hid FR.out.le;clear E eb4 hb4;go_upto_region 2 with fail
 refine wF [⟨false,0,2,4,B1,0,25,13,cr,0,cr,[]⟩] [(10,.bool sa),(11,.bool (!sa)),(12,.agg cm.toArray),(13,.agg cr.toArray)] (by simp only [zr,zq];rfl) (by kernel_rfl) ?_ ?_ (fP1 bnC) ?_ uno ?_ ?_
 ·intro W' hW';refine fo2 ?_ ?_<|ldG (abl Ab4 hW') V_cm rfl<|fxo ?_<|fxs rfl<|fxn;all_goals (go_big_quiet_step ((go_at_call 112;exact qaA (HM.out _)));exact wqn rfl)
 ·intro W' hK';have rd0:=akh Ab4 hK' (by show B1≠b4;omega);refine fxi ?_<|fxi ?_<|ldG rd0 V_cm rfl<|fxs (by kernel_rfl)<|fxs (by kernel_rfl)<|fxn;all_goals (first|(refine .inr ?_;go_big_quiet_step (fail);exact wqn rfl)|exact .inl (by kernel_rfl))
 ·exact fP1 (fun _=>⟨AB1.out.lt,rfl,At.room AB1.out (qI V_cy.out) (qI V_cr.out)⟩)
 ·exact fP1 (sI V_cr (fun _=>rfl) rfl)
 intro β wx2 E;replace FR:=ffh FR E (by show B0≤B1;omega);replace AB0:=afh AB0 E (by show B1≠B0;omega);replace AB1:=hid (show At wx2 B1 0 cr from E.atOld mms rfl AB1.out.lt);replace Ab4:=afh Ab4 E (by show B1≠b4;omega);simp only [nP,zr,zq];replace FR0:=hid FR.out.le;clear E;go_wp2_with fail
 have hld:=AB1.out.read (P:=Tryz.prog) Tryz.underlying25 rfl (qI V_cr.out);refine bodyPost_ret (v:=.agg cr.toArray) (by simp [results,Tryz.results109,asAddr,hld]) rfl ?_;exact ⟨rfl,fend HB0 FR⟩
theorem quH {ca cb cr:List Value} {na nb n:Bool} {a b v:Nat} (h1:ca=.bool na::lv 32 a) (h2:cb=.bool nb::lv 32 b) (hr:cr=.bool n::lv 32 v) (hv:v=a*b) (hn:n=cs1 (na != nb) v) (ha:a<BB^32) (hb:b<BB^32) (hvb:v<BB^32) (w:World) :
  Calls Tryz.prog 113 #[.agg ca.toArray,.agg cb.toArray] w fun e w'=>e=.returned (.tuple #[.agg cr.toArray,.int .i64 0])∧Below w.heap.size w w':=by
 have V_ca:=hid h1;have V_cb:=hid h2;have V_cr:=hid hr;obtain ⟨sa,hsa⟩:∃ n,n=cs1 na a:=⟨_,rfl⟩;obtain ⟨sb,hsb⟩:∃ n,n=cs1 nb b:=⟨_,rfl⟩;obtain ⟨ma,V_ma⟩:∃ c:List Value,Hid (c=lv 32 a):=⟨_,hid rfl⟩;obtain ⟨mb,V_mb⟩:∃ c:List Value,Hid (c=lv 32 b):=⟨_,hid rfl⟩;obtain ⟨mv,V_mv⟩:∃ c:List Value,Hid (c=lv 32 v):=⟨_,hid rfl⟩;obtain ⟨cy,V_cy⟩:∃ c:List Value,Hid (c=.bool false::lv 32 0):=⟨_,hid rfl⟩;have HSA:=hid (qbL V_ca.out V_ma.out hsa ha);have HSB:=hid (qbL V_cb.out V_mb.out hsb hb);have HT:=hid (fun (W:World) (p q:Nat) (hp:At W p 0 ma) (hq:At W q 0 mb)=>qxG (r:=true) W hp hq V_ma.out V_mb.out V_mv.out ha hb (by rw [←hv];exact (Nat.mod_eq_of_lt hvb).symm) (by rw [←hv];simp [hvb]))
 have HM:=hid (qeB (neg:=sa != sb) V_mv.out V_cr.out (show n=cs1 (sa != sb) v by
  rw [hn,hsa,hsb];unfold cs1;by_cases hz:v=0
  ·simp [hz]
  ·have ha0:a≠0:=fun h=>hz (by rw [hv,h,Nat.zero_mul])
   have hb0:b≠0:=fun h=>hz (by rw [hv,h,Nat.mul_zero])
   simp [ha0,hb0]) hvb)
 clear h1 h2 hr hn ha hb hsa hsb hv hvb;obtain ⟨B0,B1,B2,w0,hw0,hB0,hB1,hB2,AB0,AB1,AB2,FR,FR0,HB0,hZB0,l01,hZB1,l12,hZB2⟩:=en3 w 25 25 25 (bxq ca) (bxq cb) (zQI V_cy);unfold zero33 at hw0;go_enter Tryz.func113,Tryz.ntmps113
 go_upto_region 1 with fail
 rw [←hw0,←hB2,←hB1,←hB0];clear hw0 hB0 hB1 hB2;refine wT [⟨true,5,7,7,0,0,140,16,ma,0,ma,[]⟩] [(13,.agg ca.toArray),(14,.tuple #[.bool sa,.agg ma.toArray]),(12,.tuple #[.bool sa,.agg ma.toArray]),(15,.bool sa),(16,.agg ma.toArray),(6,.bool sa)] (by simp only [zr,zq];rfl) (by kernel_rfl) rfl ?_ ?_ ?_ ?_
 ·intro W' hW';refine ldI (abl AB0 hW') V_ca rfl<|fo4 ?_ ?_ ?_ ?_<|fxs rfl<|fxo ?_<|fxs rfl<|fxn;all_goals (go_big_quiet_step ((go_at_call 144;exact qaA (HSA.out _)));exact wqn rfl)
 ·exact fP1 (Tryz.alG (qG V_ma.out))
 ·exact fP1 (sG V_ma (fun _=>rfl) rfl)
 intro β wx1 E;replace FR:=fnf FR E rfl;obtain ⟨b7,hb7,eb7⟩:=nwb E mms;have lB0_b7:B0<b7:=ltb AB0 eb7.1;have lB1_b7:B1<b7:=ltb AB1 eb7.1;have lB2_b7:B2<b7:=ltb AB2 eb7.1;have hZb7:B0≤b7:=Nat.le_trans FR0.out eb7.1;replace AB0:=fnh AB0 E rfl;replace AB1:=fnh AB1 E rfl;replace AB2:=fnh AB2 E rfl;have Ab7:=hid eb7.2;simp only [nP,zr,zq];rw [←hb7];replace FR0:=hid FR.out.le;clear E eb7 hb7;go_upto_region 2 with fail
 refine wT [⟨true,5,9,7,0,0,140,21,mb,0,mb,[]⟩] [(18,.agg cb.toArray),(19,.tuple #[.bool sb,.agg mb.toArray]),(17,.tuple #[.bool sb,.agg mb.toArray]),(20,.bool sb),(21,.agg mb.toArray),(8,.bool sb)] (by simp only [zr,zq];rfl) (by kernel_rfl) rfl ?_ ?_ ?_ ?_
 ·intro W' hW';refine ldI (abl AB1 hW') V_cb rfl<|fo4 ?_ ?_ ?_ ?_<|fxs rfl<|fxo ?_<|fxs rfl<|fxn;all_goals (go_big_quiet_step ((go_at_call 144;exact qaA (HSB.out _)));exact wqn rfl)
 ·exact fP1 (Tryz.alG (qG V_mb.out))
 ·exact fP1 (sG V_mb (fun _=>rfl) rfl)
 intro β wx2 E;replace FR:=fnf FR E rfl;obtain ⟨b9,hb9,eb9⟩:=nwb E mms;have lB0_b9:B0<b9:=ltb AB0 eb9.1;have lB1_b9:B1<b9:=ltb AB1 eb9.1;have lB2_b9:B2<b9:=ltb AB2 eb9.1;have lb7_b9:b7<b9:=ltb Ab7 eb9.1;have hZb9:B0≤b9:=Nat.le_trans FR0.out eb9.1;replace AB0:=fnh AB0 E rfl;replace AB1:=fnh AB1 E rfl;replace AB2:=fnh AB2 E rfl;replace Ab7:=fnh Ab7 E rfl;have Ab9:=hid eb9.2;simp only [nP,zr,zq];rw [←hb9];replace FR0:=hid FR.out.le;clear E eb9 hb9;go_upto_region 3 with fail
 refine wT [⟨true,4,10,5,0,0,140,24,mv,0,mv,[]⟩] [(23,.tuple #[.agg mv.toArray,.bool true]),(22,.tuple #[.agg mv.toArray,.bool true]),(24,.agg mv.toArray),(25,.bool true),(11,.bool true)] (by simp only [zr,zq];rfl) (by kernel_rfl) rfl ?_ ?_ ?_ ?_
 ·intro W' hW';refine fo4 ?_ ?_ ?_ ?_<|fxs rfl<|fxs rfl<|fxo ?_<|fxn;all_goals (go_big_quiet_step ((go_at_call 148;exact qaA (HT.out _ _ _ ((Ab7.out.below hW').below (qbG _ _ _)) ((Ab9.out.below hW').below (qbG _ _ _)))));exact wqn rfl)
 ·exact fP1 (Tryz.alG (qG V_mv.out))
 ·exact fP1 (sG V_mv (fun _=>rfl) rfl)
 intro β wx3 E;replace FR:=fnf FR E rfl;obtain ⟨b10,hb10,eb10⟩:=nwb E mms;have lB0_b10:B0<b10:=ltb AB0 eb10.1;have lB1_b10:B1<b10:=ltb AB1 eb10.1;have lB2_b10:B2<b10:=ltb AB2 eb10.1;have lb7_b10:b7<b10:=ltb Ab7 eb10.1;have lb9_b10:b9<b10:=ltb Ab9 eb10.1;have hZb10:B0≤b10:=Nat.le_trans FR0.out eb10.1;replace AB0:=fnh AB0 E rfl;replace AB1:=fnh AB1 E rfl;replace AB2:=fnh AB2 E rfl;replace Ab7:=fnh Ab7 E rfl;replace Ab9:=fnh Ab9 E rfl;have Ab10:=hid eb10.2;simp only [nP,zr,zq];rw [←hb10];replace FR0:=hid FR.out.le;clear E eb10 hb10;go_upto_region 6 with fail
 refine wF [⟨false,0,4,5,B2,0,25,33,cr,0,cr,[]⟩] [(29,.bool sa),(30,.bool sb),(31,.bool (sa != sb)),(32,.agg mv.toArray),(33,.agg cr.toArray),(5,.int .i64 0)] (by simp only [zr,zq];rfl) (by kernel_rfl) ?_ ?_ (fP1 bnC) ?_ uno ?_ ?_
 ·intro W' hW';refine fo3 ?_ ?_ ?_<|ldG (abl Ab10 hW') V_mv rfl<|fxo ?_<|fxs rfl<|fxo ?_<|fxn;all_goals (go_big_quiet_step ((go_at_call 112;exact qaA (HM.out _)));exact wqn rfl)
 ·intro W' hK';have rd0:=akh Ab10 hK' (by show B2≠b10;omega);refine fxi ?_<|fxi ?_<|fxi ?_<|ldG rd0 V_mv rfl<|fxs (by kernel_rfl)<|fxs (by kernel_rfl)<|fxi ?_<|fxn;all_goals (first|(refine .inr ?_;go_big_quiet_step (fail);exact wqn rfl)|exact .inl (by kernel_rfl))
 ·exact fP1 (fun _=>⟨AB2.out.lt,rfl,At.room AB2.out (qI V_cy.out) (qI V_cr.out)⟩)
 ·exact fP1 (sI V_cr (fun _=>rfl) rfl)
 intro β wx4 E;replace FR:=ffh FR E (by show B0≤B2;omega);replace AB0:=afh AB0 E (by show B2≠B0;omega);replace AB1:=afh AB1 E (by show B2≠B1;omega);replace AB2:=hid (show At wx4 B2 0 cr from E.atOld mms rfl AB2.out.lt);replace Ab7:=afh Ab7 E (by show B2≠b7;omega);replace Ab9:=afh Ab9 E (by show B2≠b9;omega);replace Ab10:=afh Ab10 E (by show B2≠b10;omega);simp only [nP,zr,zq];replace FR0:=hid FR.out.le;clear E;go_wp2_with fail
 have hld:=AB2.out.read (P:=Tryz.prog) Tryz.underlying25 rfl (qI V_cr.out);refine bodyPost_ret (v:=.tuple #[.agg cr.toArray,.int .i64 0]) (by simp [results,Tryz.results113,asAddr,hld]) rfl ?_;exact ⟨rfl,fend HB0 FR⟩
theorem jbZ {ca cb cr:List Value} {na nb n:Bool} {a b v:Nat} (h1:ca=.bool na::lv 32 a) (h2:cb=.bool nb::lv 32 b) (hr:cr=.bool n::lv 32 v) (hn:n=decide (zI na a+zI nb b<0)) (hve:v=(zI na a+zI nb b).natAbs) (ha:a<BB^32) (hb:b<BB^32) (hv:v<BB^32) (w:World) :
  Calls Tryz.prog 177 #[.agg ca.toArray,.agg cb.toArray] w fun e w'=>e=.returned (.tuple #[.agg cr.toArray,.int .i64 0])∧Below w.heap.size w w':=by
 have V_ca:=hid h1;have V_cb:=hid h2;have V_cr:=hid hr;obtain ⟨sa,hsa⟩:∃ n,n=cs1 na a:=⟨_,rfl⟩;obtain ⟨sb,hsb⟩:∃ n,n=cs1 nb b:=⟨_,rfl⟩;obtain ⟨ma,V_ma⟩:∃ c:List Value,Hid (c=lv 32 a):=⟨_,hid rfl⟩;obtain ⟨mb,V_mb⟩:∃ c:List Value,Hid (c=lv 32 b):=⟨_,hid rfl⟩;obtain ⟨mv,V_mv⟩:∃ c:List Value,Hid (c=lv 32 v):=⟨_,hid rfl⟩;obtain ⟨cy,V_cy⟩:∃ c:List Value,Hid (c=.bool false::lv 32 0):=⟨_,hid rfl⟩;have HSA:=hid (qbL V_ca.out V_ma.out hsa ha);have HSB:=hid (qbL V_cb.out V_mb.out hsb hb);have HM:=hid (fun (s:Bool) (hs:n=cs1 s v)=>qeB (neg:=s) V_mv.out V_cr.out hs hv);have HP:=hid (And.intro hsa (And.intro hsb (And.intro hn hve)));have HL:=hid (And.intro ha (And.intro hb hv));clear h1 h2 hr hn ha hb hsa hsb hv hve;obtain ⟨B0,B1,B2,w0,hw0,hB0,hB1,hB2,AB0,AB1,AB2,FR,FR0,HB0,hZB0,l01,hZB1,l12,hZB2⟩:=en3 w 25 25 25 (bxq ca) (bxq cb) (zQI V_cy);unfold zero33 at hw0;go_enter Tryz.func177,Tryz.ntmps177
 go_upto_region 1 with fail
 rw [←hw0,←hB2,←hB1,←hB0];clear hw0 hB0 hB1 hB2;refine wT [⟨true,5,7,7,0,0,140,16,ma,0,ma,[]⟩] [(13,.agg ca.toArray),(14,.tuple #[.bool sa,.agg ma.toArray]),(12,.tuple #[.bool sa,.agg ma.toArray]),(15,.bool sa),(16,.agg ma.toArray),(6,.bool sa)] (by simp only [zr,zq];rfl) (by kernel_rfl) rfl ?_ ?_ ?_ ?_
 ·intro W' hW';refine ldI (abl AB0 hW') V_ca rfl<|fo4 ?_ ?_ ?_ ?_<|fxs rfl<|fxo ?_<|fxs rfl<|fxn;all_goals (go_big_quiet_step ((go_at_call 144;exact qaA (HSA.out _)));exact wqn rfl)
 ·exact fP1 (Tryz.alG (qG V_ma.out))
 ·exact fP1 (sG V_ma (fun _=>rfl) rfl)
 intro β wx1 E;replace FR:=fnf FR E rfl;obtain ⟨b7,hb7,eb7⟩:=nwb E mms;have lB0_b7:B0<b7:=ltb AB0 eb7.1;have lB1_b7:B1<b7:=ltb AB1 eb7.1;have lB2_b7:B2<b7:=ltb AB2 eb7.1;have hZb7:B0≤b7:=Nat.le_trans FR0.out eb7.1;replace AB0:=fnh AB0 E rfl;replace AB1:=fnh AB1 E rfl;replace AB2:=fnh AB2 E rfl;have Ab7:=hid eb7.2;simp only [nP,zr,zq];rw [←hb7];replace FR0:=hid FR.out.le;clear E eb7 hb7;go_upto_region 2 with fail
 refine wT [⟨true,5,9,7,0,0,140,21,mb,0,mb,[]⟩] [(18,.agg cb.toArray),(19,.tuple #[.bool sb,.agg mb.toArray]),(17,.tuple #[.bool sb,.agg mb.toArray]),(20,.bool sb),(21,.agg mb.toArray),(8,.bool sb)] (by simp only [zr,zq];rfl) (by kernel_rfl) rfl ?_ ?_ ?_ ?_
 ·intro W' hW';refine ldI (abl AB1 hW') V_cb rfl<|fo4 ?_ ?_ ?_ ?_<|fxs rfl<|fxo ?_<|fxs rfl<|fxn;all_goals (go_big_quiet_step ((go_at_call 144;exact qaA (HSB.out _)));exact wqn rfl)
 ·exact fP1 (Tryz.alG (qG V_mb.out))
 ·exact fP1 (sG V_mb (fun _=>rfl) rfl)
 intro β wx2 E;replace FR:=fnf FR E rfl;obtain ⟨b9,hb9,eb9⟩:=nwb E mms;have lB0_b9:B0<b9:=ltb AB0 eb9.1;have lB1_b9:B1<b9:=ltb AB1 eb9.1;have lB2_b9:B2<b9:=ltb AB2 eb9.1;have lb7_b9:b7<b9:=ltb Ab7 eb9.1;have hZb9:B0≤b9:=Nat.le_trans FR0.out eb9.1;replace AB0:=fnh AB0 E rfl;replace AB1:=fnh AB1 E rfl;replace AB2:=fnh AB2 E rfl;replace Ab7:=fnh Ab7 E rfl;have Ab9:=hid eb9.2;simp only [nP,zr,zq];rw [←hb9];replace FR0:=hid FR.out.le;clear E eb9 hb9;by_cases hs:sa=sb
 ·have hsum:v=a+b∧n=cs1 sa (a+b):=by
   have:=jaL na nb a b (by rw [←HP.out.1,←HP.out.2.1];exact hs)
   exact ⟨by rw [HP.out.2.2.2,this.2],by rw [HP.out.2.2.1,this.1,HP.out.1]⟩
  have he:(sa==sb)=true:=by simp [hs]
  have HMM:=hid (HM.out sa (by rw [hsum.1];exact hsum.2));have HPL:=hid (fun (W:World) (p q:Nat) (hp:At W p 0 ma) (hq:At W q 0 mb)=>quJ (c2:=0) W hp hq V_ma.out V_mb.out V_mv.out HL.out.1 HL.out.2.1 HL.out.2.2 (by rw [hsum.1];simp));simp only [decide_true] at HPL;clear hsum hs;go_upto_region 7 with fail
  refine wT [⟨true,4,10,5,0,0,140,35,mv,0,mv,[]⟩] [(34,.tuple #[.agg mv.toArray,.bool true]),(33,.tuple #[.agg mv.toArray,.bool true]),(35,.agg mv.toArray),(36,.bool true),(11,.bool true)] (by simp only [zr,zq];rfl) (by kernel_rfl) rfl ?_ ?_ ?_ ?_
  ·intro W' hW';refine fo4 ?_ ?_ ?_ ?_<|fxs rfl<|fxs rfl<|fxo ?_<|fxn;all_goals (go_big_quiet_step ((go_at_call 170;exact qaA (HPL.out _ _ _ ((Ab7.out.below hW').below (qbG _ _ _)) ((Ab9.out.below hW').below (qbG _ _ _)))));exact wqn rfl)
  ·exact fP1 (Tryz.alG (qG V_mv.out))
  ·exact fP1 (sG V_mv (fun _=>rfl) rfl)
  intro β wx3 E;replace FR:=fnf FR E rfl;obtain ⟨b10,hb10,eb10⟩:=nwb E mms;have lB0_b10:B0<b10:=ltb AB0 eb10.1;have lB1_b10:B1<b10:=ltb AB1 eb10.1;have lB2_b10:B2<b10:=ltb AB2 eb10.1;have lb7_b10:b7<b10:=ltb Ab7 eb10.1;have lb9_b10:b9<b10:=ltb Ab9 eb10.1;have hZb10:B0≤b10:=Nat.le_trans FR0.out eb10.1;replace AB0:=fnh AB0 E rfl;replace AB1:=fnh AB1 E rfl;replace AB2:=fnh AB2 E rfl;replace Ab7:=fnh Ab7 E rfl;replace Ab9:=fnh Ab9 E rfl;have Ab10:=hid eb10.2;simp only [nP,zr,zq];rw [←hb10];replace FR0:=hid FR.out.le;clear E eb10 hb10;go_upto_region 10 with fail
  refine wF [⟨false,0,4,3,B2,0,25,42,cr,0,cr,[]⟩] [(40,.bool sa),(41,.agg mv.toArray),(42,.agg cr.toArray),(5,.int .i64 0)] (by simp only [zr,zq];rfl) (by kernel_rfl) ?_ ?_ (fP1 bnC) ?_ uno ?_ ?_
  ·intro W' hW';refine fxo ?_<|ldG (abl Ab10 hW') V_mv rfl<|fxo ?_<|fxs rfl<|fxo ?_<|fxn;all_goals (go_big_quiet_step ((go_at_call 112;exact qaA (HMM.out _)));exact wqn rfl)
  ·intro W' hK';have rd0:=akh Ab10 hK' (by show B2≠b10;omega);refine fxi ?_<|ldG rd0 V_mv rfl<|fxs (by kernel_rfl)<|fxs (by kernel_rfl)<|fxi ?_<|fxn;all_goals (first|(refine .inr ?_;go_big_quiet_step (fail);exact wqn rfl)|exact .inl (by kernel_rfl))
  ·exact fP1 (fun _=>⟨AB2.out.lt,rfl,At.room AB2.out (qI V_cy.out) (qI V_cr.out)⟩)
  ·exact fP1 (sI V_cr (fun _=>rfl) rfl)
  intro β wx4 E;replace FR:=ffh FR E (by show B0≤B2;omega);replace AB0:=afh AB0 E (by show B2≠B0;omega);replace AB1:=afh AB1 E (by show B2≠B1;omega);replace AB2:=hid (show At wx4 B2 0 cr from E.atOld mms rfl AB2.out.lt);replace Ab7:=afh Ab7 E (by show B2≠b7;omega);replace Ab9:=afh Ab9 E (by show B2≠b9;omega);replace Ab10:=afh Ab10 E (by show B2≠b10;omega);simp only [nP,zr,zq];replace FR0:=hid FR.out.le;clear E;go_wp2_with fail
  have hld:=AB2.out.read (P:=Tryz.prog) Tryz.underlying25 rfl (qI V_cr.out);refine bodyPost_ret (v:=.tuple #[.agg cr.toArray,.int .i64 0]) (by simp [results,Tryz.results177,asAddr,hld]) rfl ?_;exact ⟨rfl,fend HB0 FR⟩
 ·have HS:=hid hs;have he:(sa==sb)=false:=by simp [hs]
  clear hs;obtain ⟨x,hx⟩:∃ x,x=cmpI a b:=⟨_,rfl⟩;have HCM:=hid (fun (W:World) (p q:Nat) (hp:At W p 0 ma) (hq:At W q 0 mb)=>show Calls Tryz.prog 165 #[.pointer (some ⟨p,0,none⟩),.pointer (some ⟨q,0,none⟩)] W (fun e w'=>e=.returned (.int .i64 x)∧Below W.heap.size W w') by rw [hx];exact qkV a b p 0 q 0 W (V_ma.out ▸ hp) (V_mb.out ▸ hq) HL.out.1 HL.out.2.1);go_upto_region 4 with fail
  by_cases hl:a<b
  ·have hx0:x<0:=by rw [hx];unfold cmpI;rw [if_pos hl];decide
   have hd:v=b - a∧n=cs1 sb (b - a):=by
    have:=jaN na nb a b (by rw [←HP.out.1,←HP.out.2.1];exact HS.out) hl
    exact ⟨by rw [HP.out.2.2.2,this.2],by rw [HP.out.2.2.1,this.1,HP.out.2.1]⟩
   have HMM:=hid (HM.out sb (by rw [hd.1];exact hd.2));have HMN:=hid (fun (W:World) (p q:Nat) (hp:At W p 0 mb) (hq:At W q 0 ma)=>qkJ (c2:=0) W hp hq V_mb.out V_ma.out V_mv.out HL.out.2.1 HL.out.1 HL.out.2.2 (by rw [Nat.zero_mul];omega));clear hx hl hd;refine wT [] [(25,.int .i64 x),(26,.bool true)] (by simp only [zr,zq];rfl) (by kernel_rfl) rfl ?_ oN oN ?_
   ·intro W' hW';refine fo2 ?_ ?_<|fxn;all_goals (go_big_quiet_step ((go_at_call 165;exact qaA (HCM.out _ _ _ ((Ab7.out.below hW').below (qbG _ _ _)) ((Ab9.out.below hW').below (qbG _ _ _)))));exact wqn rfl)
   intro β wx3 E;replace FR:=fnf FR E rfl;replace AB0:=fnh AB0 E rfl;replace AB1:=fnh AB1 E rfl;replace AB2:=fnh AB2 E rfl;replace Ab7:=fnh Ab7 E rfl;replace Ab9:=fnh Ab9 E rfl;simp only [nP,zr,zq];replace FR0:=hid FR.out.le;clear E;clear hx0;go_upto_region 5 with fail
   refine wF [⟨false,0,4,3,B2,0,25,29,cr,0,cr,[]⟩] [(27,.bool sb),(28,.agg mv.toArray),(29,.agg cr.toArray),(5,.int .i64 0)] (by simp only [zr,zq];rfl) (by kernel_rfl) ?_ ?_ (fP1 bnC) ?_ uno ?_ ?_
   ·intro W' hW';refine fo2 ?_ ?_<|fxo (by go_big_quiet_step ((go_at_call 112;exact qaA (HMM.out _)));exact wqn rfl)<|fxs rfl<|fxo ?_<|fxn;all_goals (go_big_quiet_step ((go_at_call 171;exact qaA (HMN.out _ _ _ ((Ab9.out.below hW').below (qbG _ _ _)) ((Ab7.out.below hW').below (qbG _ _ _)))));exact wqn rfl)
   ·intro W' hK';refine fxi ?_<|fxs (by kernel_rfl)<|fxs (by kernel_rfl)<|fxs (by kernel_rfl)<|fxi ?_<|fxn;all_goals (first|(refine .inr ?_;go_big_quiet_step (fail);exact wqn rfl)|exact .inl (by kernel_rfl))
   ·exact fP1 (fun _=>⟨AB2.out.lt,rfl,At.room AB2.out (qI V_cy.out) (qI V_cr.out)⟩)
   ·exact fP1 (sI V_cr (fun _=>rfl) rfl)
   intro β wx4 E;replace FR:=ffh FR E (by show B0≤B2;omega);replace AB0:=afh AB0 E (by show B2≠B0;omega);replace AB1:=afh AB1 E (by show B2≠B1;omega);replace AB2:=hid (show At wx4 B2 0 cr from E.atOld mms rfl AB2.out.lt);replace Ab7:=afh Ab7 E (by show B2≠b7;omega);replace Ab9:=afh Ab9 E (by show B2≠b9;omega);simp only [nP,zr,zq];replace FR0:=hid FR.out.le;clear E;go_wp2_with fail
   have hld:=AB2.out.read (P:=Tryz.prog) Tryz.underlying25 rfl (qI V_cr.out);refine bodyPost_ret (v:=.tuple #[.agg cr.toArray,.int .i64 0]) (by simp [results,Tryz.results177,asAddr,hld]) rfl ?_;exact ⟨rfl,fend HB0 FR⟩
  ·have hx0:¬x<0:=by rw [hx];unfold cmpI;rw [if_neg hl];split<;>omega
   have hd:v=a - b∧n=cs1 sa (a - b):=by
    have:=jaM na nb a b (by rw [←HP.out.1,←HP.out.2.1];exact HS.out) hl
    exact ⟨by rw [HP.out.2.2.2,this.2],by rw [HP.out.2.2.1,this.1,HP.out.1]⟩
   have HMM:=hid (HM.out sa (by rw [hd.1];exact hd.2));have HMN:=hid (fun (W:World) (p q:Nat) (hp:At W p 0 ma) (hq:At W q 0 mb)=>qkJ (c2:=0) W hp hq V_ma.out V_mb.out V_mv.out HL.out.1 HL.out.2.1 HL.out.2.2 (by rw [Nat.zero_mul];omega));clear hx hl hd;refine wT [] [(25,.int .i64 x),(26,.bool false)] (by simp only [zr,zq];rfl) (by kernel_rfl) rfl ?_ oN oN ?_
   ·intro W' hW';refine fo2 ?_ ?_<|fxn;all_goals (go_big_quiet_step ((go_at_call 165;exact qaA (HCM.out _ _ _ ((Ab7.out.below hW').below (qbG _ _ _)) ((Ab9.out.below hW').below (qbG _ _ _)))));exact wqn rfl)
   intro β wx3 E;replace FR:=fnf FR E rfl;replace AB0:=fnh AB0 E rfl;replace AB1:=fnh AB1 E rfl;replace AB2:=fnh AB2 E rfl;replace Ab7:=fnh Ab7 E rfl;replace Ab9:=fnh Ab9 E rfl;simp only [nP,zr,zq];replace FR0:=hid FR.out.le;clear E;clear hx0;go_upto_region 6 with fail
   refine wF [⟨false,0,4,3,B2,0,25,32,cr,0,cr,[]⟩] [(30,.bool sa),(31,.agg mv.toArray),(32,.agg cr.toArray),(5,.int .i64 0)] (by simp only [zr,zq];rfl) (by kernel_rfl) ?_ ?_ (fP1 bnC) ?_ uno ?_ ?_
   ·intro W' hW';refine fo2 ?_ ?_<|fxo (by go_big_quiet_step ((go_at_call 112;exact qaA (HMM.out _)));exact wqn rfl)<|fxs rfl<|fxo ?_<|fxn;all_goals (go_big_quiet_step ((go_at_call 171;exact qaA (HMN.out _ _ _ ((Ab7.out.below hW').below (qbG _ _ _)) ((Ab9.out.below hW').below (qbG _ _ _)))));exact wqn rfl)
   ·intro W' hK';refine fxi ?_<|fxs (by kernel_rfl)<|fxs (by kernel_rfl)<|fxs (by kernel_rfl)<|fxi ?_<|fxn;all_goals (first|(refine .inr ?_;go_big_quiet_step (fail);exact wqn rfl)|exact .inl (by kernel_rfl))
   ·exact fP1 (fun _=>⟨AB2.out.lt,rfl,At.room AB2.out (qI V_cy.out) (qI V_cr.out)⟩)
   ·exact fP1 (sI V_cr (fun _=>rfl) rfl)
   intro β wx4 E;replace FR:=ffh FR E (by show B0≤B2;omega);replace AB0:=afh AB0 E (by show B2≠B0;omega);replace AB1:=afh AB1 E (by show B2≠B1;omega);replace AB2:=hid (show At wx4 B2 0 cr from E.atOld mms rfl AB2.out.lt);replace Ab7:=afh Ab7 E (by show B2≠b7;omega);replace Ab9:=afh Ab9 E (by show B2≠b9;omega);simp only [nP,zr,zq];replace FR0:=hid FR.out.le;clear E;go_wp2_with fail
   have hld:=AB2.out.read (P:=Tryz.prog) Tryz.underlying25 rfl (qI V_cr.out);refine bodyPost_ret (v:=.tuple #[.agg cr.toArray,.int .i64 0]) (by simp [results,Tryz.results177,asAddr,hld]) rfl ?_;exact ⟨rfl,fend HB0 FR⟩
end Go.Proofs.YtemoddmadfoaiaaGreat
