import Derived.Test.YtemoddmadfoaiaaGreatBkH
import Derived.Test.YtemoddmadfoaiaaGreatPcA
set_option linter.unusedVariables false
set_option linter.unusedSimpArgs false
set_option maxRecDepth 100000
set_option maxHeartbeats 8000000
namespace Go.Proofs.YtemoddmadfoaiaaGreat
open Go.RowKit Big
open Lib (hid)
theorem qdT {cx:List Value} {s:Bool} {v:Nat} {r:Int} (h:cx=.bool s::lv 32 v) (hr:r=sgnI s v) (hv:v<BB^32) (w:World) :
  Calls Tryz.prog 107 #[.agg cx.toArray] w fun e w'=>e=.returned (.int .i64 r)∧Below w.heap.size w w':=by
 have V_cx:=hid h
 obtain ⟨n,hn⟩:∃ n,n=cs1 s v:=⟨_,rfl⟩
 obtain ⟨cm,V_cm⟩:∃ c:List Value,Hid (c=lv 32 v):=⟨_,hid rfl⟩
 obtain ⟨cz,V_cz⟩:∃ c:List Value,Hid (c=lv 32 0):=⟨_,hid rfl⟩
 have HS:=hid (qbK V_cx.out V_cm.out hn hv)
 have HV:=hid (And.intro hv (And.intro hn hr))
 clear h hn hr hv
 obtain ⟨B0,hB0⟩:∃ B,B=w.heap.size:=⟨_,rfl⟩
 obtain ⟨w0,hw0⟩:∃ w0,w0=(w.alloc (.cells cx.toArray 25)):=⟨_,rfl⟩
 have AB0:=hid (show At w0 B0 0 cx by rw [hw0];exact (show At (w.alloc (.cells cx.toArray 25)) B0 0 cx from At.fresh _ cx _ (by simp [hB0])))
 have FR:=hid (show Fr B0 w w0 by rw [hw0,hB0];exact (Fr.start w).alloc _)
 have FR0:=hid FR.out.le
 have hZB0:B0≤B0:=Nat.le_refl _
 have HB0:=hid hB0
 go_enter Tryz.func107,Tryz.ntmps107
 go_upto_region 1 with fail
 rw [←hw0,←hB0]
 clear hw0 hB0
 refine wfn [⟨true,5,4,7,0,0,140,9,cm,0,cm,[]⟩] [(6,.agg cx.toArray),(7,.tuple #[.bool n,.agg cm.toArray]),(5,.tuple #[.bool n,.agg cm.toArray]),(8,.bool n),(9,.agg cm.toArray),(3,.bool n)] _ (by simp only [zz4,zz5,zq];rfl) (by kernel_rfl) (by kernel_rfl) rfl ?_ ?_ ?_ ?_
 ·intro W' hW'
  have rd0:=AB0.out.below hW'
  refine fxo (wlg (by rfl) rfl rfl rd0 Tryz.underlying25 rfl (qI V_cx.out) (wqn (by simp only [zq]))) ?_
  refine fxo ?_ ?_;(go_big_quiet_step ((go_at_call 144;exact qaA (HS.out _)));(try simp only [zq]);exact wqn rfl)
  iterate 3 (refine fxo ?_ ?_;(go_big_quiet_step (fail);(try simp only [zq]);exact wqn rfl))
  refine fxs (by rfl) ?_
  refine fxo ?_ ?_;(go_big_quiet_step (fail);(try simp only [zq]);exact wqn rfl)
  refine fxs (by rfl) ?_
  exact fxn
 ·exact oP _ _ (Tryz.alG (qG V_cm.out)) (oN)
 ·exact oP _ _ (stw rfl (qG V_cm.out) (qdK V_cm.out) (fun _=>rfl)) (oN)
 intro β wx1 E
 replace FR:=hid (FR.out.fnw E rfl)
 obtain ⟨b4,hb4⟩:∃ b,b=β 5:=⟨_,rfl⟩
 have eb4:=E.atNew mms rfl
 simp only at eb4
 rw [←hb4] at eb4
 have lB0_b4:B0<b4:=by have h1:=eb4.1;have h2:=AB0.out.lt;omega
 have hZb4:B0≤b4:=by have h1:=eb4.1;have h2:=FR0.out;omega
 replace AB0:=hid (AB0.out.fnw E rfl)
 have Ab4:=hid eb4.2
 simp only [nP,zr,zq]
 rw [←hb4]
 replace FR0:=hid FR.out.le
 clear E eb4 hb4
 cases n with
 | true =>
  have hr:r=-1:=by
   have h1:=HV.out.2.1;have h2:=HV.out.2.2
   rw [h2];unfold sgnI;unfold cs1 at h1
   cases s<;>simp at h1 ⊢
   simp [h1]
  subst hr
  go_wp2
  go_ret
  exact ⟨rfl,fend HB0 FR⟩
 | false =>
  obtain ⟨z,hz⟩:∃ z,z=decide (v=0):=⟨_,rfl⟩
  have HZ:=hid hz
  clear hz
  go_upto_region 4 with fail
  refine wfn [] [(13,.agg cm.toArray),(14,.agg cz.toArray),(15,.bool z),(12,.bool z)] _ (by simp only [zz4,zz5,zq];rfl) (by kernel_rfl) (by kernel_rfl) rfl ?_ ?_ ?_ ?_
  ·intro W' hW'
   have rd0:=Ab4.out.below hW'
   refine fxo (wlg (by rfl) rfl rfl rd0 Tryz.underlying140 rfl (qG V_cm.out) (wqn (by simp only [zq]))) ?_
   refine fxo (wqB rfl _ _ rfl _ rfl _ (qbQ V_cz.out) (wqn (by simp only [zq]))) ?_
   refine fxo (qdD (r:=z) (by rfl) rfl rfl rfl V_cm.out V_cz.out HV.out.1 qbY HZ.out (wqn (by simp only [zq]))) ?_
   refine fxo ?_ ?_;(go_big_quiet_step (fail);(try simp only [zq]);exact wqn rfl)
   exact fxn
  ·exact oN
  ·exact oN
  intro β wx2 E
  replace FR:=hid (FR.out.fnw E rfl)
  replace AB0:=hid (AB0.out.fnw E rfl)
  replace Ab4:=hid (Ab4.out.fnw E rfl)
  have hE:=E.below rfl
  simp only [nP,zr,zq]
  replace FR0:=hid FR.out.le
  clear E
  cases z with
  | true =>
   have hr:r=0:=by rw [HV.out.2.2];have:=HZ.out;simp at this;simp [sgnI,this]
   subst hr
   go_wp2
   go_ret
   exact ⟨rfl,fend HB0 FR⟩
  | false =>
   have hr:r=1:=by
    have h1:=HV.out.2.1;have h3:=HZ.out;simp at h3
    rw [HV.out.2.2];unfold sgnI;unfold cs1 at h1
    cases s<;>simp [h3] at h1 ⊢
   subst hr
   go_wp2
   go_ret
   exact ⟨rfl,fend HB0 FR⟩
theorem qpR {cx:List Value} {s:Bool} {v k:Nat} (h:cx=.bool s::lv 32 v) (hk:IsBits v k) (hv:v<BB^32) (w:World) :
  Calls Tryz.prog 147 #[.agg cx.toArray] w fun e w'=>e=.returned (.int .i64 (k:Int))∧Below w.heap.size w w':=by
 have V_cx:=hid h
 obtain ⟨n,hn⟩:∃ n,n=cs1 s v:=⟨_,rfl⟩
 obtain ⟨cm,V_cm⟩:∃ c:List Value,Hid (c=lv 32 v):=⟨_,hid rfl⟩
 have HS:=hid (qbK V_cx.out V_cm.out hn hv)
 have HV:=hid (And.intro hv hk)
 clear h hn hk hv
 obtain ⟨B0,hB0⟩:∃ B,B=w.heap.size:=⟨_,rfl⟩
 obtain ⟨w0,hw0⟩:∃ w0,w0=(w.alloc (.cells cx.toArray 25)):=⟨_,rfl⟩
 have AB0:=hid (show At w0 B0 0 cx by rw [hw0];exact (show At (w.alloc (.cells cx.toArray 25)) B0 0 cx from At.fresh _ cx _ (by simp [hB0])))
 have FR:=hid (show Fr B0 w w0 by rw [hw0,hB0];exact (Fr.start w).alloc _)
 have FR0:=hid FR.out.le
 have hZB0:B0≤B0:=Nat.le_refl _
 have HB0:=hid hB0
 go_enter Tryz.func147,Tryz.ntmps147
 go_upto_region 1 with fail
 rw [←hw0,←hB0]
 clear hw0 hB0
 refine wfn [⟨true,5,4,7,0,0,140,9,cm,0,cm,[]⟩] [(6,.agg cx.toArray),(7,.tuple #[.bool n,.agg cm.toArray]),(5,.tuple #[.bool n,.agg cm.toArray]),(8,.bool n),(9,.agg cm.toArray),(3,.bool n)] _ (by simp only [zz4,zz5,zq];rfl) (by kernel_rfl) (by kernel_rfl) rfl ?_ ?_ ?_ ?_
 ·intro W' hW'
  have rd0:=AB0.out.below hW'
  refine fxo (wlg (by rfl) rfl rfl rd0 Tryz.underlying25 rfl (qI V_cx.out) (wqn (by simp only [zq]))) ?_
  refine fxo ?_ ?_;(go_big_quiet_step ((go_at_call 144;exact qaA (HS.out _)));(try simp only [zq]);exact wqn rfl)
  iterate 3 (refine fxo ?_ ?_;(go_big_quiet_step (fail);(try simp only [zq]);exact wqn rfl))
  refine fxs (by rfl) ?_
  refine fxo ?_ ?_;(go_big_quiet_step (fail);(try simp only [zq]);exact wqn rfl)
  refine fxs (by rfl) ?_
  exact fxn
 ·exact oP _ _ (Tryz.alG (qG V_cm.out)) (oN)
 ·exact oP _ _ (stw rfl (qG V_cm.out) (qdK V_cm.out) (fun _=>rfl)) (oN)
 intro β wx1 E
 replace FR:=hid (FR.out.fnw E rfl)
 obtain ⟨b4,hb4⟩:∃ b,b=β 5:=⟨_,rfl⟩
 have eb4:=E.atNew mms rfl
 simp only at eb4
 rw [←hb4] at eb4
 have lB0_b4:B0<b4:=by have h1:=eb4.1;have h2:=AB0.out.lt;omega
 have hZb4:B0≤b4:=by have h1:=eb4.1;have h2:=FR0.out;omega
 replace AB0:=hid (AB0.out.fnw E rfl)
 have Ab4:=hid eb4.2
 simp only [nP,zr,zq]
 rw [←hb4]
 replace FR0:=hid FR.out.le
 clear E eb4 hb4
 have HB:=hid (qhH v k b4 0 wx1 (by have:=Ab4.out;rwa [V_cm.out] at this) HV.out.1 HV.out.2)
 go_wp2_with (go_at_call 172;refine HB.out.mono ?_;rintro e w' ⟨rfl,rfl⟩)
 go_ret
 exact ⟨rfl,fend HB0 FR⟩
theorem qwA {c:List Value} {v:Nat} (hc:c=lv 32 v) (hv:v<BB^2):Tryz.prog.built 140 [(0,.int .u32 (lim v 0:Nat)),(1,.int .u32 (lim v 1:Nat))]=some c.toArray:=by
 subst hc;rw [qnB hv]
 generalize lim v 0=x
 generalize lim v 1=y
 kernel_rfl
theorem qhE {cr:List Value} {z:Int} {n:Bool} {v:Nat} (h:cr=.bool n::lv 32 v) (hn:n=decide (z<0)) (hv:v=z.natAbs) (h1:-9223372036854775808≤z) (h2:z≤9223372036854775807) (w:World) :
  Calls Tryz.prog 76 #[.int .i64 z] w fun e w'=>e=.returned (.agg cr.toArray)∧Below w.heap.size w w':=by
 have V_cr:=hid h
 have hvb:v<18446744073709551616:=by omega
 have hv2:v<BB^2:=qmD hvb
 have hvB:v<BB^32:=Nat.lt_of_lt_of_le hv2 (Nat.pow_le_pow_right qaY (by omega))
 obtain ⟨l0,hl0⟩:∃ l,l=lim v 0:=⟨_,rfl⟩
 obtain ⟨l1,hl1⟩:∃ l,l=lim v 1:=⟨_,rfl⟩
 have htwo:=qdN hv2
 rw [←hl0,←hl1] at htwo
 have hl0B:l0<BB:=hl0 ▸ qaE v 0
 have hl1B:l1<BB:=hl1 ▸ qaE v 1
 obtain ⟨U,hU⟩:∃ U:Int,U=IntKind.u64.wrap z:=⟨_,rfl⟩
 have e1:IntKind.u32.wrap (v:Int)=(l0:Int):=by unfold BB at *;rw [IntKind.wrap_u32];omega
 have e2:(v:Int) / 4294967296=(l1:Int):=by unfold BB at *;omega
 have e3:IntKind.u32.wrap (l1:Int)=(l1:Int):=by unfold BB at *;rw [IntKind.wrap_u32];omega
 obtain ⟨cm,V_cm⟩:∃ c:List Value,Hid (c=lv 32 v):=⟨_,hid rfl⟩
 obtain ⟨cy,V_cy⟩:∃ c:List Value,Hid (c=.bool false::lv 32 0):=⟨_,hid rfl⟩
 have HM:=hid (qdW (neg:=n) V_cm.out V_cr.out (show n=cs1 n v by rw [hn];unfold cs1;by_cases hz:z<0<;>simp [hz];omega) hvB)
 have HBT:=hid (show Tryz.prog.built 140 [(0,.int .u32 (l0:Nat)),(1,.int .u32 (l1:Nat))]=some cm.toArray by rw [hl0,hl1];exact qwA V_cm.out hv2)
 have HUN:=hid (show IntKind.u64.wrap z=U from hU.symm)
 have hneg:z<0→IntKind.u64.wrap (-U)=(v:Int):=fun hz=>by rw [hU,IntKind.wrap_u64,IntKind.wrap_u64];omega
 have hpos:¬z<0→U=(v:Int):=fun hz=>by rw [hU,IntKind.wrap_u64];omega
 clear h hvb hv2 hvB hl0 hl1 htwo hl0B hl1B hU hv h1 h2
 obtain ⟨B0,hB0⟩:∃ B,B=w.heap.size:=⟨_,rfl⟩
 obtain ⟨w0,hw0⟩:∃ w0,w0=(w.alloc (.cells zero33 25)):=⟨_,rfl⟩
 have AB0:=hid (show At w0 B0 0 cy by rw [hw0];exact (show At (w.alloc (.cells zero33 25)) B0 0 cy from (by rw [V_cy.out];exact At.zero _ _ (by simp [hB0]))))
 have FR:=hid (show Fr B0 w w0 by rw [hw0,hB0];exact (Fr.start w).alloc _)
 have FR0:=hid FR.out.le
 have hZB0:B0≤B0:=Nat.le_refl _
 unfold zero33 at hw0
 have HB0:=hid hB0
 go_enter Tryz.func76,Tryz.ntmps76
 go_upto_region 1 with fail
 rw [←hw0,←hB0]
 clear hw0 hB0
 have hun:=HUN.out
 by_cases hz:z<0
 ·have hn1:n=true:=by rw [hn];simp [hz]
  have hw:=hneg hz
  subst hn1
  clear hn hneg hpos
  go_upto_region 4 with fail
  refine qwf [⟨false,0,2,9,B0,0,25,18,cr,0,cr,[]⟩] [(10,.int .i64 z),(11,.bool true),(12,.int .u64 (v:Int)),(13,.int .u32 (l0:Int)),(14,.int .u64 (v:Int)),(15,.int .u64 (l1:Int)),(16,.int .u32 (l1:Int)),(17,.agg cm.toArray),(18,.agg cr.toArray)] _ (by simp only [zz4,zz5,zq];rfl) (by kernel_rfl) (by kernel_rfl) ?_ ?_ ?_ ?_ ?_ ?_ ?_
  ·intro W' hW'
   iterate 7 (refine fxo ?_ ?_;(go_big_quiet_step (fail);(try simp only [zq]);exact wqn rfl))
   refine fxo (wqB rfl _ _ rfl _ rfl _ HBT.out (wqn (by simp only [zq]))) ?_
   refine fxo ?_ ?_;(go_big_quiet_step ((go_at_call 112;exact qaA (HM.out _)));(try simp only [zq]);exact wqn rfl)
   refine fxs (by rfl) ?_
   exact fxn
  ·intro W' hK'
   iterate 7 (first|(refine fxo ?_ ?_;(go_big_quiet_step (fail);(try simp only [zq]);exact wqn rfl))|(refine fxs (by kernel_rfl) ?_))
   refine fxo (wqB rfl _ _ rfl _ rfl _ HBT.out (wqn (by simp only [zq]))) ?_
   iterate 2 (refine fxs (by kernel_rfl) ?_)
   exact fxn
  ·exact oP _ _ (bnc) (oN)
  ·exact oP _ _ (fun _=>⟨AB0.out.lt,rfl,At.room AB0.out (qI V_cy.out) (qI V_cr.out)⟩) (oN)
  ·exact uno
  ·exact oP _ _ (stw rfl (qI V_cr.out) (qbZ V_cr.out) (fun _=>rfl)) (oN)
  intro β wx1 E
  replace FR:=hid (FR.out.flow E (oP _ _ (fun _=>(by show B0≤B0;omega)) (oN)))
  replace AB0:=hid (show At wx1 B0 0 cr from E.atOld mms rfl AB0.out.lt)
  simp only [nP,zr,zq]
  replace FR0:=hid FR.out.le
  clear E
  go_wp2_with fail
  have hld:=AB0.out.read (P:=Tryz.prog) Tryz.underlying25 rfl (qI V_cr.out)
  refine bodyPost_ret (v:=.agg cr.toArray) (by simp [results,Tryz.results76,asAddr,hld]) rfl ?_
  exact ⟨rfl,fend HB0 FR⟩
 ·have hn1:n=false:=by rw [hn];simp [hz]
  have hw:=hpos hz
  subst hn1
  clear hn hneg hpos
  rw [hw] at hun
  go_upto_region 4 with fail
  refine qwf [⟨false,0,2,9,B0,0,25,18,cr,0,cr,[]⟩] [(10,.int .i64 z),(11,.bool false),(12,.int .u64 (v:Int)),(13,.int .u32 (l0:Int)),(14,.int .u64 (v:Int)),(15,.int .u64 (l1:Int)),(16,.int .u32 (l1:Int)),(17,.agg cm.toArray),(18,.agg cr.toArray)] _ (by simp only [zz4,zz5,zq];rfl) (by kernel_rfl) (by kernel_rfl) ?_ ?_ ?_ ?_ ?_ ?_ ?_
  ·intro W' hW'
   iterate 7 (refine fxo ?_ ?_;(go_big_quiet_step (fail);(try simp only [zq]);exact wqn rfl))
   refine fxo (wqB rfl _ _ rfl _ rfl _ HBT.out (wqn (by simp only [zq]))) ?_
   refine fxo ?_ ?_;(go_big_quiet_step ((go_at_call 112;exact qaA (HM.out _)));(try simp only [zq]);exact wqn rfl)
   refine fxs (by rfl) ?_
   exact fxn
  ·intro W' hK'
   iterate 7 (first|(refine fxo ?_ ?_;(go_big_quiet_step (fail);(try simp only [zq]);exact wqn rfl))|(refine fxs (by kernel_rfl) ?_))
   refine fxo (wqB rfl _ _ rfl _ rfl _ HBT.out (wqn (by simp only [zq]))) ?_
   iterate 2 (refine fxs (by kernel_rfl) ?_)
   exact fxn
  ·exact oP _ _ (bnc) (oN)
  ·exact oP _ _ (fun _=>⟨AB0.out.lt,rfl,At.room AB0.out (qI V_cy.out) (qI V_cr.out)⟩) (oN)
  ·exact uno
  ·exact oP _ _ (stw rfl (qI V_cr.out) (qbZ V_cr.out) (fun _=>rfl)) (oN)
  intro β wx1 E
  replace FR:=hid (FR.out.flow E (oP _ _ (fun _=>(by show B0≤B0;omega)) (oN)))
  replace AB0:=hid (show At wx1 B0 0 cr from E.atOld mms rfl AB0.out.lt)
  simp only [nP,zr,zq]
  replace FR0:=hid FR.out.le
  clear E
  go_wp2_with fail
  have hld:=AB0.out.read (P:=Tryz.prog) Tryz.underlying25 rfl (qI V_cr.out)
  refine bodyPost_ret (v:=.agg cr.toArray) (by simp [results,Tryz.results76,asAddr,hld]) rfl ?_
  exact ⟨rfl,fend HB0 FR⟩
theorem jbF {ca cr:List Value} {na n:Bool} {a:Nat} (h:ca=.bool na::lv 32 a) (hr:cr=.bool n::lv 32 a) (hn:n=cs1 (!cs1 na a) a) (ha:a<BB^32) (w:World) :
  Calls Tryz.prog 109 #[.agg ca.toArray] w fun e w'=>e=.returned (.agg cr.toArray)∧Below w.heap.size w w':=by
 have V_ca:=hid h
 have V_cr:=hid hr
 obtain ⟨sa,hsa⟩:∃ n,n=cs1 na a:=⟨_,rfl⟩
 rw [←hsa] at hn
 obtain ⟨cm,V_cm⟩:∃ c:List Value,Hid (c=lv 32 a):=⟨_,hid rfl⟩
 obtain ⟨cy,V_cy⟩:∃ c:List Value,Hid (c=.bool false::lv 32 0):=⟨_,hid rfl⟩
 have HS:=hid (qbK V_ca.out V_cm.out hsa ha)
 have HM:=hid (qdW (neg:=!sa) V_cm.out V_cr.out hn ha)
 clear h hr hn ha hsa
 obtain ⟨B0,hB0⟩:∃ B,B=w.heap.size:=⟨_,rfl⟩
 obtain ⟨B1,hB1⟩:∃ B,B=w.heap.size+1:=⟨_,rfl⟩
 obtain ⟨w0,hw0⟩:∃ w0,w0=((w.alloc (.cells ca.toArray 25)).alloc (.cells zero33 25)):=⟨_,rfl⟩
 have AB0:=hid (show At w0 B0 0 ca by rw [hw0];exact ((show At (w.alloc (.cells ca.toArray 25)) B0 0 ca from At.fresh _ ca _ (by simp [hB0])).alloc _))
 have AB1:=hid (show At w0 B1 0 cy by rw [hw0];exact (show At ((w.alloc (.cells ca.toArray 25)).alloc (.cells zero33 25)) B1 0 cy from (by rw [V_cy.out];exact At.zero _ _ (by simp [hB1]))))
 have FR:=hid (show Fr B0 w w0 by rw [hw0,hB0];exact ((Fr.start w).alloc _).alloc _)
 have FR0:=hid FR.out.le
 have l01:B0<B1:=by omega
 have hZB1:B0≤B1:=by omega
 have hZB0:B0≤B0:=Nat.le_refl _
 unfold zero33 at hw0
 have HB0:=hid hB0
 go_enter Tryz.func109,Tryz.ntmps109
 go_upto_region 1 with fail
 rw [←hw0,←hB1,←hB0]
 clear hw0 hB0 hB1
 refine wfn [⟨true,5,4,7,0,0,140,9,cm,0,cm,[]⟩] [(6,.agg ca.toArray),(7,.tuple #[.bool sa,.agg cm.toArray]),(5,.tuple #[.bool sa,.agg cm.toArray]),(8,.bool sa),(9,.agg cm.toArray),(3,.bool sa)] _ (by simp only [zz4,zz5,zq];rfl) (by kernel_rfl) (by kernel_rfl) rfl ?_ ?_ ?_ ?_
 ·intro W' hW'
  have rd0:=AB0.out.below hW'
  refine fxo (wlg (by rfl) rfl rfl rd0 Tryz.underlying25 rfl (qI V_ca.out) (wqn (by simp only [zq]))) ?_
  refine fxo ?_ ?_;(go_big_quiet_step ((go_at_call 144;exact qaA (HS.out _)));(try simp only [zq]);exact wqn rfl)
  iterate 3 (refine fxo ?_ ?_;(go_big_quiet_step (fail);(try simp only [zq]);exact wqn rfl))
  refine fxs (by rfl) ?_
  refine fxo ?_ ?_;(go_big_quiet_step (fail);(try simp only [zq]);exact wqn rfl)
  refine fxs (by rfl) ?_
  exact fxn
 ·exact oP _ _ (Tryz.alG (qG V_cm.out)) (oN)
 ·exact oP _ _ (stw rfl (qG V_cm.out) (qdK V_cm.out) (fun _=>rfl)) (oN)
 intro β wx1 E
 replace FR:=hid (FR.out.fnw E rfl)
 obtain ⟨b4,hb4⟩:∃ b,b=β 5:=⟨_,rfl⟩
 have eb4:=E.atNew mms rfl
 simp only at eb4
 rw [←hb4] at eb4
 have lB0_b4:B0<b4:=by have h1:=eb4.1;have h2:=AB0.out.lt;omega
 have lB1_b4:B1<b4:=by have h1:=eb4.1;have h2:=AB1.out.lt;omega
 have hZb4:B0≤b4:=by have h1:=eb4.1;have h2:=FR0.out;omega
 replace AB0:=hid (AB0.out.fnw E rfl)
 replace AB1:=hid (AB1.out.fnw E rfl)
 have Ab4:=hid eb4.2
 simp only [nP,zr,zq]
 rw [←hb4]
 replace FR0:=hid FR.out.le
 clear E eb4 hb4
 go_upto_region 2 with fail
 refine qwf [⟨false,0,2,4,B1,0,25,13,cr,0,cr,[]⟩] [(10,.bool sa),(11,.bool (!sa)),(12,.agg cm.toArray),(13,.agg cr.toArray)] _ (by simp only [zz4,zz5,zq];rfl) (by kernel_rfl) (by kernel_rfl) ?_ ?_ ?_ ?_ ?_ ?_ ?_
 ·intro W' hW'
  have rd0:=Ab4.out.below hW'
  iterate 2 (refine fxo ?_ ?_;(go_big_quiet_step (fail);(try simp only [zq]);exact wqn rfl))
  refine fxo (wlg (by rfl) rfl rfl rd0 Tryz.underlying140 rfl (qG V_cm.out) (wqn (by simp only [zq]))) ?_
  refine fxo ?_ ?_;(go_big_quiet_step ((go_at_call 112;exact qaA (HM.out _)));(try simp only [zq]);exact wqn rfl)
  refine fxs (by rfl) ?_
  exact fxn
 ·intro W' hK'
  have rd0:=At.keep hK' Ab4.out (oP _ _ (fun _=>(by show B1≠b4;omega)) (oN))
  iterate 2 (first|(refine fxo ?_ ?_;(go_big_quiet_step (fail);(try simp only [zq]);exact wqn rfl))|(refine fxs (by kernel_rfl) ?_))
  refine fxo (wlg (by rfl) rfl rfl rd0 Tryz.underlying140 rfl (qG V_cm.out) (wqn (by simp only [zq]))) ?_
  iterate 2 (refine fxs (by kernel_rfl) ?_)
  exact fxn
 ·exact oP _ _ (bnc) (oN)
 ·exact oP _ _ (fun _=>⟨AB1.out.lt,rfl,At.room AB1.out (qI V_cy.out) (qI V_cr.out)⟩) (oN)
 ·exact uno
 ·exact oP _ _ (stw rfl (qI V_cr.out) (qbZ V_cr.out) (fun _=>rfl)) (oN)
 intro β wx2 E
 replace FR:=hid (FR.out.flow E (oP _ _ (fun _=>(by show B0≤B1;omega)) (oN)))
 replace AB0:=hid (At.flow E AB0.out (oP _ _ (fun _=>(by show B1≠B0;omega)) (oN)))
 replace AB1:=hid (show At wx2 B1 0 cr from E.atOld mms rfl AB1.out.lt)
 replace Ab4:=hid (At.flow E Ab4.out (oP _ _ (fun _=>(by show B1≠b4;omega)) (oN)))
 simp only [nP,zr,zq]
 replace FR0:=hid FR.out.le
 clear E
 go_wp2_with fail
 have hld:=AB1.out.read (P:=Tryz.prog) Tryz.underlying25 rfl (qI V_cr.out)
 refine bodyPost_ret (v:=.agg cr.toArray) (by simp [results,Tryz.results109,asAddr,hld]) rfl ?_
 exact ⟨rfl,fend HB0 FR⟩
theorem qtX {ca cb cr:List Value} {na nb n:Bool} {a b v:Nat} (h1:ca=.bool na::lv 32 a) (h2:cb=.bool nb::lv 32 b) (hr:cr=.bool n::lv 32 v) (hv:v=a*b) (hn:n=cs1 (na != nb) v) (ha:a<BB^32) (hb:b<BB^32) (hvb:v<BB^32) (w:World) :
  Calls Tryz.prog 113 #[.agg ca.toArray,.agg cb.toArray] w fun e w'=>e=.returned (.tuple #[.agg cr.toArray,.int .i64 0])∧Below w.heap.size w w':=by
 have V_ca:=hid h1
 have V_cb:=hid h2
 have V_cr:=hid hr
 obtain ⟨sa,hsa⟩:∃ n,n=cs1 na a:=⟨_,rfl⟩
 obtain ⟨sb,hsb⟩:∃ n,n=cs1 nb b:=⟨_,rfl⟩
 obtain ⟨ma,V_ma⟩:∃ c:List Value,Hid (c=lv 32 a):=⟨_,hid rfl⟩
 obtain ⟨mb,V_mb⟩:∃ c:List Value,Hid (c=lv 32 b):=⟨_,hid rfl⟩
 obtain ⟨mv,V_mv⟩:∃ c:List Value,Hid (c=lv 32 v):=⟨_,hid rfl⟩
 obtain ⟨cy,V_cy⟩:∃ c:List Value,Hid (c=.bool false::lv 32 0):=⟨_,hid rfl⟩
 have HSA:=hid (qbK V_ca.out V_ma.out hsa ha)
 have HSB:=hid (qbK V_cb.out V_mb.out hsb hb)
 have HT:=hid (fun (W:World) (p q:Nat) (hp:At W p 0 ma) (hq:At W q 0 mb)=>qwS (r:=true) W hp hq V_ma.out V_mb.out V_mv.out ha hb (by rw [←hv];exact (Nat.mod_eq_of_lt hvb).symm) (by rw [←hv];simp [hvb]))
 have HM:=hid (qdW (neg:=sa != sb) V_mv.out V_cr.out (show n=cs1 (sa != sb) v by
  rw [hn,hsa,hsb];unfold cs1
  by_cases hz:v=0
  ·simp [hz]
  ·have ha0:a≠0:=fun h=>hz (by rw [hv,h,Nat.zero_mul])
   have hb0:b≠0:=fun h=>hz (by rw [hv,h,Nat.mul_zero])
   simp [ha0,hb0]) hvb)
 clear h1 h2 hr hn ha hb hsa hsb hv hvb
 obtain ⟨B0,hB0⟩:∃ B,B=w.heap.size:=⟨_,rfl⟩
 obtain ⟨B1,hB1⟩:∃ B,B=w.heap.size+1:=⟨_,rfl⟩
 obtain ⟨B2,hB2⟩:∃ B,B=w.heap.size+1+1:=⟨_,rfl⟩
 obtain ⟨w0,hw0⟩:∃ w0,w0=(((w.alloc (.cells ca.toArray 25)).alloc (.cells cb.toArray 25)).alloc (.cells zero33 25)):=⟨_,rfl⟩
 have AB0:=hid (show At w0 B0 0 ca by rw [hw0];exact (((show At (w.alloc (.cells ca.toArray 25)) B0 0 ca from At.fresh _ ca _ (by simp [hB0])).alloc _).alloc _))
 have AB1:=hid (show At w0 B1 0 cb by rw [hw0];exact ((show At ((w.alloc (.cells ca.toArray 25)).alloc (.cells cb.toArray 25)) B1 0 cb from At.fresh _ cb _ (by simp [hB1])).alloc _))
 have AB2:=hid (show At w0 B2 0 cy by rw [hw0];exact (show At (((w.alloc (.cells ca.toArray 25)).alloc (.cells cb.toArray 25)).alloc (.cells zero33 25)) B2 0 cy from (by rw [V_cy.out];exact At.zero _ _ (by simp [hB2]))))
 have FR:=hid (show Fr B0 w w0 by rw [hw0,hB0];exact (((Fr.start w).alloc _).alloc _).alloc _)
 have FR0:=hid FR.out.le
 have l01:B0<B1:=by omega
 have hZB1:B0≤B1:=by omega
 have l12:B1<B2:=by omega
 have hZB2:B0≤B2:=by omega
 have hZB0:B0≤B0:=Nat.le_refl _
 unfold zero33 at hw0
 have HB0:=hid hB0
 go_enter Tryz.func113,Tryz.ntmps113
 go_upto_region 1 with fail
 rw [←hw0,←hB2,←hB1,←hB0]
 clear hw0 hB0 hB1 hB2
 refine wfn [⟨true,5,7,7,0,0,140,16,ma,0,ma,[]⟩] [(13,.agg ca.toArray),(14,.tuple #[.bool sa,.agg ma.toArray]),(12,.tuple #[.bool sa,.agg ma.toArray]),(15,.bool sa),(16,.agg ma.toArray),(6,.bool sa)] _ (by simp only [zz4,zz5,zq];rfl) (by kernel_rfl) (by kernel_rfl) rfl ?_ ?_ ?_ ?_
 ·intro W' hW'
  have rd0:=AB0.out.below hW'
  refine fxo (wlg (by rfl) rfl rfl rd0 Tryz.underlying25 rfl (qI V_ca.out) (wqn (by simp only [zq]))) ?_
  refine fxo ?_ ?_;(go_big_quiet_step ((go_at_call 144;exact qaA (HSA.out _)));(try simp only [zq]);exact wqn rfl)
  iterate 3 (refine fxo ?_ ?_;(go_big_quiet_step (fail);(try simp only [zq]);exact wqn rfl))
  refine fxs (by rfl) ?_
  refine fxo ?_ ?_;(go_big_quiet_step (fail);(try simp only [zq]);exact wqn rfl)
  refine fxs (by rfl) ?_
  exact fxn
 ·exact oP _ _ (Tryz.alG (qG V_ma.out)) (oN)
 ·exact oP _ _ (stw rfl (qG V_ma.out) (qdK V_ma.out) (fun _=>rfl)) (oN)
 intro β wx1 E
 replace FR:=hid (FR.out.fnw E rfl)
 obtain ⟨b7,hb7⟩:∃ b,b=β 5:=⟨_,rfl⟩
 have eb7:=E.atNew mms rfl
 simp only at eb7
 rw [←hb7] at eb7
 have lB0_b7:B0<b7:=by have h1:=eb7.1;have h2:=AB0.out.lt;omega
 have lB1_b7:B1<b7:=by have h1:=eb7.1;have h2:=AB1.out.lt;omega
 have lB2_b7:B2<b7:=by have h1:=eb7.1;have h2:=AB2.out.lt;omega
 have hZb7:B0≤b7:=by have h1:=eb7.1;have h2:=FR0.out;omega
 replace AB0:=hid (AB0.out.fnw E rfl)
 replace AB1:=hid (AB1.out.fnw E rfl)
 replace AB2:=hid (AB2.out.fnw E rfl)
 have Ab7:=hid eb7.2
 simp only [nP,zr,zq]
 rw [←hb7]
 replace FR0:=hid FR.out.le
 clear E eb7 hb7
 go_upto_region 2 with fail
 refine wfn [⟨true,5,9,7,0,0,140,21,mb,0,mb,[]⟩] [(18,.agg cb.toArray),(19,.tuple #[.bool sb,.agg mb.toArray]),(17,.tuple #[.bool sb,.agg mb.toArray]),(20,.bool sb),(21,.agg mb.toArray),(8,.bool sb)] _ (by simp only [zz4,zz5,zq];rfl) (by kernel_rfl) (by kernel_rfl) rfl ?_ ?_ ?_ ?_
 ·intro W' hW'
  have rd0:=AB1.out.below hW'
  refine fxo (wlg (by rfl) rfl rfl rd0 Tryz.underlying25 rfl (qI V_cb.out) (wqn (by simp only [zq]))) ?_
  refine fxo ?_ ?_;(go_big_quiet_step ((go_at_call 144;exact qaA (HSB.out _)));(try simp only [zq]);exact wqn rfl)
  iterate 3 (refine fxo ?_ ?_;(go_big_quiet_step (fail);(try simp only [zq]);exact wqn rfl))
  refine fxs (by rfl) ?_
  refine fxo ?_ ?_;(go_big_quiet_step (fail);(try simp only [zq]);exact wqn rfl)
  refine fxs (by rfl) ?_
  exact fxn
 ·exact oP _ _ (Tryz.alG (qG V_mb.out)) (oN)
 ·exact oP _ _ (stw rfl (qG V_mb.out) (qdK V_mb.out) (fun _=>rfl)) (oN)
 intro β wx2 E
 replace FR:=hid (FR.out.fnw E rfl)
 obtain ⟨b9,hb9⟩:∃ b,b=β 5:=⟨_,rfl⟩
 have eb9:=E.atNew mms rfl
 simp only at eb9
 rw [←hb9] at eb9
 have lB0_b9:B0<b9:=by have h1:=eb9.1;have h2:=AB0.out.lt;omega
 have lB1_b9:B1<b9:=by have h1:=eb9.1;have h2:=AB1.out.lt;omega
 have lB2_b9:B2<b9:=by have h1:=eb9.1;have h2:=AB2.out.lt;omega
 have lb7_b9:b7<b9:=by have h1:=eb9.1;have h2:=Ab7.out.lt;omega
 have hZb9:B0≤b9:=by have h1:=eb9.1;have h2:=FR0.out;omega
 replace AB0:=hid (AB0.out.fnw E rfl)
 replace AB1:=hid (AB1.out.fnw E rfl)
 replace AB2:=hid (AB2.out.fnw E rfl)
 replace Ab7:=hid (Ab7.out.fnw E rfl)
 have Ab9:=hid eb9.2
 simp only [nP,zr,zq]
 rw [←hb9]
 replace FR0:=hid FR.out.le
 clear E eb9 hb9
 go_upto_region 3 with fail
 refine wfn [⟨true,4,10,5,0,0,140,24,mv,0,mv,[]⟩] [(23,.tuple #[.agg mv.toArray,.bool true]),(22,.tuple #[.agg mv.toArray,.bool true]),(24,.agg mv.toArray),(25,.bool true),(11,.bool true)] _ (by simp only [zz4,zz5,zq];rfl) (by kernel_rfl) (by kernel_rfl) rfl ?_ ?_ ?_ ?_
 ·intro W' hW'
  refine fxo ?_ ?_;(go_big_quiet_step ((go_at_call 148;exact qaA (HT.out _ _ _ ((Ab7.out.below hW').below (qbG _ _ _)) ((Ab9.out.below hW').below (qbG _ _ _)))));(try simp only [zq]);exact wqn rfl)
  iterate 3 (refine fxo ?_ ?_;(go_big_quiet_step (fail);(try simp only [zq]);exact wqn rfl))
  iterate 2 (refine fxs (by rfl) ?_)
  refine fxo ?_ ?_;(go_big_quiet_step (fail);(try simp only [zq]);exact wqn rfl)
  exact fxn
 ·exact oP _ _ (Tryz.alG (qG V_mv.out)) (oN)
 ·exact oP _ _ (stw rfl (qG V_mv.out) (qdK V_mv.out) (fun _=>rfl)) (oN)
 intro β wx3 E
 replace FR:=hid (FR.out.fnw E rfl)
 obtain ⟨b10,hb10⟩:∃ b,b=β 4:=⟨_,rfl⟩
 have eb10:=E.atNew mms rfl
 simp only at eb10
 rw [←hb10] at eb10
 have lB0_b10:B0<b10:=by have h1:=eb10.1;have h2:=AB0.out.lt;omega
 have lB1_b10:B1<b10:=by have h1:=eb10.1;have h2:=AB1.out.lt;omega
 have lB2_b10:B2<b10:=by have h1:=eb10.1;have h2:=AB2.out.lt;omega
 have lb7_b10:b7<b10:=by have h1:=eb10.1;have h2:=Ab7.out.lt;omega
 have lb9_b10:b9<b10:=by have h1:=eb10.1;have h2:=Ab9.out.lt;omega
 have hZb10:B0≤b10:=by have h1:=eb10.1;have h2:=FR0.out;omega
 replace AB0:=hid (AB0.out.fnw E rfl)
 replace AB1:=hid (AB1.out.fnw E rfl)
 replace AB2:=hid (AB2.out.fnw E rfl)
 replace Ab7:=hid (Ab7.out.fnw E rfl)
 replace Ab9:=hid (Ab9.out.fnw E rfl)
 have Ab10:=hid eb10.2
 simp only [nP,zr,zq]
 rw [←hb10]
 replace FR0:=hid FR.out.le
 clear E eb10 hb10
 go_upto_region 6 with fail
 refine qwf [⟨false,0,4,5,B2,0,25,33,cr,0,cr,[]⟩] [(29,.bool sa),(30,.bool sb),(31,.bool (sa != sb)),(32,.agg mv.toArray),(33,.agg cr.toArray),(5,.int .i64 0)] _ (by simp only [zz4,zz5,zq];rfl) (by kernel_rfl) (by kernel_rfl) ?_ ?_ ?_ ?_ ?_ ?_ ?_
 ·intro W' hW'
  have rd0:=Ab10.out.below hW'
  iterate 3 (refine fxo ?_ ?_;(go_big_quiet_step (fail);(try simp only [zq]);exact wqn rfl))
  refine fxo (wlg (by rfl) rfl rfl rd0 Tryz.underlying140 rfl (qG V_mv.out) (wqn (by simp only [zq]))) ?_
  refine fxo ?_ ?_;(go_big_quiet_step ((go_at_call 112;exact qaA (HM.out _)));(try simp only [zq]);exact wqn rfl)
  refine fxs (by rfl) ?_
  refine fxo ?_ ?_;(go_big_quiet_step (fail);(try simp only [zq]);exact wqn rfl)
  exact fxn
 ·intro W' hK'
  have rd0:=At.keep hK' Ab10.out (oP _ _ (fun _=>(by show B2≠b10;omega)) (oN))
  iterate 3 (first|(refine fxo ?_ ?_;(go_big_quiet_step (fail);(try simp only [zq]);exact wqn rfl))|(refine fxs (by kernel_rfl) ?_))
  refine fxo (wlg (by rfl) rfl rfl rd0 Tryz.underlying140 rfl (qG V_mv.out) (wqn (by simp only [zq]))) ?_
  iterate 2 (refine fxs (by kernel_rfl) ?_)
  first|(refine fxo ?_ ?_;(go_big_quiet_step (fail);(try simp only [zq]);exact wqn rfl))|(refine fxs (by kernel_rfl) ?_)
  exact fxn
 ·exact oP _ _ (bnc) (oN)
 ·exact oP _ _ (fun _=>⟨AB2.out.lt,rfl,At.room AB2.out (qI V_cy.out) (qI V_cr.out)⟩) (oN)
 ·exact uno
 ·exact oP _ _ (stw rfl (qI V_cr.out) (qbZ V_cr.out) (fun _=>rfl)) (oN)
 intro β wx4 E
 replace FR:=hid (FR.out.flow E (oP _ _ (fun _=>(by show B0≤B2;omega)) (oN)))
 replace AB0:=hid (At.flow E AB0.out (oP _ _ (fun _=>(by show B2≠B0;omega)) (oN)))
 replace AB1:=hid (At.flow E AB1.out (oP _ _ (fun _=>(by show B2≠B1;omega)) (oN)))
 replace AB2:=hid (show At wx4 B2 0 cr from E.atOld mms rfl AB2.out.lt)
 replace Ab7:=hid (At.flow E Ab7.out (oP _ _ (fun _=>(by show B2≠b7;omega)) (oN)))
 replace Ab9:=hid (At.flow E Ab9.out (oP _ _ (fun _=>(by show B2≠b9;omega)) (oN)))
 replace Ab10:=hid (At.flow E Ab10.out (oP _ _ (fun _=>(by show B2≠b10;omega)) (oN)))
 simp only [nP,zr,zq]
 replace FR0:=hid FR.out.le
 clear E
 go_wp2_with fail
 have hld:=AB2.out.read (P:=Tryz.prog) Tryz.underlying25 rfl (qI V_cr.out)
 refine bodyPost_ret (v:=.tuple #[.agg cr.toArray,.int .i64 0]) (by simp [results,Tryz.results113,asAddr,hld]) rfl ?_
 exact ⟨rfl,fend HB0 FR⟩
theorem jbG {ca cb cr:List Value} {na nb n:Bool} {a b v:Nat} (h1:ca=.bool na::lv 32 a) (h2:cb=.bool nb::lv 32 b) (hr:cr=.bool n::lv 32 v) (hn:n=decide (zI na a+zI nb b<0)) (hve:v=(zI na a+zI nb b).natAbs) (ha:a<BB^32) (hb:b<BB^32) (hv:v<BB^32) (w:World) :
  Calls Tryz.prog 177 #[.agg ca.toArray,.agg cb.toArray] w fun e w'=>e=.returned (.tuple #[.agg cr.toArray,.int .i64 0])∧Below w.heap.size w w':=by
 have V_ca:=hid h1
 have V_cb:=hid h2
 have V_cr:=hid hr
 obtain ⟨sa,hsa⟩:∃ n,n=cs1 na a:=⟨_,rfl⟩
 obtain ⟨sb,hsb⟩:∃ n,n=cs1 nb b:=⟨_,rfl⟩
 obtain ⟨ma,V_ma⟩:∃ c:List Value,Hid (c=lv 32 a):=⟨_,hid rfl⟩
 obtain ⟨mb,V_mb⟩:∃ c:List Value,Hid (c=lv 32 b):=⟨_,hid rfl⟩
 obtain ⟨mv,V_mv⟩:∃ c:List Value,Hid (c=lv 32 v):=⟨_,hid rfl⟩
 obtain ⟨cy,V_cy⟩:∃ c:List Value,Hid (c=.bool false::lv 32 0):=⟨_,hid rfl⟩
 have HSA:=hid (qbK V_ca.out V_ma.out hsa ha)
 have HSB:=hid (qbK V_cb.out V_mb.out hsb hb)
 have HM:=hid (fun (s:Bool) (hs:n=cs1 s v)=>qdW (neg:=s) V_mv.out V_cr.out hs hv)
 have HP:=hid (And.intro hsa (And.intro hsb (And.intro hn hve)))
 have HL:=hid (And.intro ha (And.intro hb hv))
 clear h1 h2 hr hn ha hb hsa hsb hv hve
 obtain ⟨B0,hB0⟩:∃ B,B=w.heap.size:=⟨_,rfl⟩
 obtain ⟨B1,hB1⟩:∃ B,B=w.heap.size+1:=⟨_,rfl⟩
 obtain ⟨B2,hB2⟩:∃ B,B=w.heap.size+1+1:=⟨_,rfl⟩
 obtain ⟨w0,hw0⟩:∃ w0,w0=(((w.alloc (.cells ca.toArray 25)).alloc (.cells cb.toArray 25)).alloc (.cells zero33 25)):=⟨_,rfl⟩
 have AB0:=hid (show At w0 B0 0 ca by rw [hw0];exact (((show At (w.alloc (.cells ca.toArray 25)) B0 0 ca from At.fresh _ ca _ (by simp [hB0])).alloc _).alloc _))
 have AB1:=hid (show At w0 B1 0 cb by rw [hw0];exact ((show At ((w.alloc (.cells ca.toArray 25)).alloc (.cells cb.toArray 25)) B1 0 cb from At.fresh _ cb _ (by simp [hB1])).alloc _))
 have AB2:=hid (show At w0 B2 0 cy by rw [hw0];exact (show At (((w.alloc (.cells ca.toArray 25)).alloc (.cells cb.toArray 25)).alloc (.cells zero33 25)) B2 0 cy from (by rw [V_cy.out];exact At.zero _ _ (by simp [hB2]))))
 have FR:=hid (show Fr B0 w w0 by rw [hw0,hB0];exact (((Fr.start w).alloc _).alloc _).alloc _)
 have FR0:=hid FR.out.le
 have l01:B0<B1:=by omega
 have hZB1:B0≤B1:=by omega
 have l12:B1<B2:=by omega
 have hZB2:B0≤B2:=by omega
 have hZB0:B0≤B0:=Nat.le_refl _
 unfold zero33 at hw0
 have HB0:=hid hB0
 go_enter Tryz.func177,Tryz.ntmps177
 go_upto_region 1 with fail
 rw [←hw0,←hB2,←hB1,←hB0]
 clear hw0 hB0 hB1 hB2
 refine wfn [⟨true,5,7,7,0,0,140,16,ma,0,ma,[]⟩] [(13,.agg ca.toArray),(14,.tuple #[.bool sa,.agg ma.toArray]),(12,.tuple #[.bool sa,.agg ma.toArray]),(15,.bool sa),(16,.agg ma.toArray),(6,.bool sa)] _ (by simp only [zz4,zz5,zq];rfl) (by kernel_rfl) (by kernel_rfl) rfl ?_ ?_ ?_ ?_
 ·intro W' hW'
  have rd0:=AB0.out.below hW'
  refine fxo (wlg (by rfl) rfl rfl rd0 Tryz.underlying25 rfl (qI V_ca.out) (wqn (by simp only [zq]))) ?_
  refine fxo ?_ ?_;(go_big_quiet_step ((go_at_call 144;exact qaA (HSA.out _)));(try simp only [zq]);exact wqn rfl)
  iterate 3 (refine fxo ?_ ?_;(go_big_quiet_step (fail);(try simp only [zq]);exact wqn rfl))
  refine fxs (by rfl) ?_
  refine fxo ?_ ?_;(go_big_quiet_step (fail);(try simp only [zq]);exact wqn rfl)
  refine fxs (by rfl) ?_
  exact fxn
 ·exact oP _ _ (Tryz.alG (qG V_ma.out)) (oN)
 ·exact oP _ _ (stw rfl (qG V_ma.out) (qdK V_ma.out) (fun _=>rfl)) (oN)
 intro β wx1 E
 replace FR:=hid (FR.out.fnw E rfl)
 obtain ⟨b7,hb7⟩:∃ b,b=β 5:=⟨_,rfl⟩
 have eb7:=E.atNew mms rfl
 simp only at eb7
 rw [←hb7] at eb7
 have lB0_b7:B0<b7:=by have h1:=eb7.1;have h2:=AB0.out.lt;omega
 have lB1_b7:B1<b7:=by have h1:=eb7.1;have h2:=AB1.out.lt;omega
 have lB2_b7:B2<b7:=by have h1:=eb7.1;have h2:=AB2.out.lt;omega
 have hZb7:B0≤b7:=by have h1:=eb7.1;have h2:=FR0.out;omega
 replace AB0:=hid (AB0.out.fnw E rfl)
 replace AB1:=hid (AB1.out.fnw E rfl)
 replace AB2:=hid (AB2.out.fnw E rfl)
 have Ab7:=hid eb7.2
 simp only [nP,zr,zq]
 rw [←hb7]
 replace FR0:=hid FR.out.le
 clear E eb7 hb7
 go_upto_region 2 with fail
 refine wfn [⟨true,5,9,7,0,0,140,21,mb,0,mb,[]⟩] [(18,.agg cb.toArray),(19,.tuple #[.bool sb,.agg mb.toArray]),(17,.tuple #[.bool sb,.agg mb.toArray]),(20,.bool sb),(21,.agg mb.toArray),(8,.bool sb)] _ (by simp only [zz4,zz5,zq];rfl) (by kernel_rfl) (by kernel_rfl) rfl ?_ ?_ ?_ ?_
 ·intro W' hW'
  have rd0:=AB1.out.below hW'
  refine fxo (wlg (by rfl) rfl rfl rd0 Tryz.underlying25 rfl (qI V_cb.out) (wqn (by simp only [zq]))) ?_
  refine fxo ?_ ?_;(go_big_quiet_step ((go_at_call 144;exact qaA (HSB.out _)));(try simp only [zq]);exact wqn rfl)
  iterate 3 (refine fxo ?_ ?_;(go_big_quiet_step (fail);(try simp only [zq]);exact wqn rfl))
  refine fxs (by rfl) ?_
  refine fxo ?_ ?_;(go_big_quiet_step (fail);(try simp only [zq]);exact wqn rfl)
  refine fxs (by rfl) ?_
  exact fxn
 ·exact oP _ _ (Tryz.alG (qG V_mb.out)) (oN)
 ·exact oP _ _ (stw rfl (qG V_mb.out) (qdK V_mb.out) (fun _=>rfl)) (oN)
 intro β wx2 E
 replace FR:=hid (FR.out.fnw E rfl)
 obtain ⟨b9,hb9⟩:∃ b,b=β 5:=⟨_,rfl⟩
 have eb9:=E.atNew mms rfl
 simp only at eb9
 rw [←hb9] at eb9
 have lB0_b9:B0<b9:=by have h1:=eb9.1;have h2:=AB0.out.lt;omega
 have lB1_b9:B1<b9:=by have h1:=eb9.1;have h2:=AB1.out.lt;omega
 have lB2_b9:B2<b9:=by have h1:=eb9.1;have h2:=AB2.out.lt;omega
 have lb7_b9:b7<b9:=by have h1:=eb9.1;have h2:=Ab7.out.lt;omega
 have hZb9:B0≤b9:=by have h1:=eb9.1;have h2:=FR0.out;omega
 replace AB0:=hid (AB0.out.fnw E rfl)
 replace AB1:=hid (AB1.out.fnw E rfl)
 replace AB2:=hid (AB2.out.fnw E rfl)
 replace Ab7:=hid (Ab7.out.fnw E rfl)
 have Ab9:=hid eb9.2
 simp only [nP,zr,zq]
 rw [←hb9]
 replace FR0:=hid FR.out.le
 clear E eb9 hb9
 by_cases hs:sa=sb
 ·have hsum:v=a+b∧n=cs1 sa (a+b):=by
   have:=qzW na nb a b (by rw [←HP.out.1,←HP.out.2.1];exact hs)
   exact ⟨by rw [HP.out.2.2.2,this.2],by rw [HP.out.2.2.1,this.1,HP.out.1]⟩
  have he:(sa==sb)=true:=by simp [hs]
  have HMM:=hid (HM.out sa (by rw [hsum.1];exact hsum.2))
  have HPL:=hid (fun (W:World) (p q:Nat) (hp:At W p 0 ma) (hq:At W q 0 mb)=>qtZ (c2:=0) W hp hq V_ma.out V_mb.out V_mv.out HL.out.1 HL.out.2.1 HL.out.2.2 (by rw [hsum.1];simp))
  simp only [decide_true] at HPL
  clear hsum hs
  go_upto_region 7 with fail
  refine wfn [⟨true,4,10,5,0,0,140,35,mv,0,mv,[]⟩] [(34,.tuple #[.agg mv.toArray,.bool true]),(33,.tuple #[.agg mv.toArray,.bool true]),(35,.agg mv.toArray),(36,.bool true),(11,.bool true)] _ (by simp only [zz4,zz5,zq];rfl) (by kernel_rfl) (by kernel_rfl) rfl ?_ ?_ ?_ ?_
  ·intro W' hW'
   refine fxo ?_ ?_;(go_big_quiet_step ((go_at_call 170;exact qaA (HPL.out _ _ _ ((Ab7.out.below hW').below (qbG _ _ _)) ((Ab9.out.below hW').below (qbG _ _ _)))));(try simp only [zq]);exact wqn rfl)
   iterate 3 (refine fxo ?_ ?_;(go_big_quiet_step (fail);(try simp only [zq]);exact wqn rfl))
   iterate 2 (refine fxs (by rfl) ?_)
   refine fxo ?_ ?_;(go_big_quiet_step (fail);(try simp only [zq]);exact wqn rfl)
   exact fxn
  ·exact oP _ _ (Tryz.alG (qG V_mv.out)) (oN)
  ·exact oP _ _ (stw rfl (qG V_mv.out) (qdK V_mv.out) (fun _=>rfl)) (oN)
  intro β wx3 E
  replace FR:=hid (FR.out.fnw E rfl)
  obtain ⟨b10,hb10⟩:∃ b,b=β 4:=⟨_,rfl⟩
  have eb10:=E.atNew mms rfl
  simp only at eb10
  rw [←hb10] at eb10
  have lB0_b10:B0<b10:=by have h1:=eb10.1;have h2:=AB0.out.lt;omega
  have lB1_b10:B1<b10:=by have h1:=eb10.1;have h2:=AB1.out.lt;omega
  have lB2_b10:B2<b10:=by have h1:=eb10.1;have h2:=AB2.out.lt;omega
  have lb7_b10:b7<b10:=by have h1:=eb10.1;have h2:=Ab7.out.lt;omega
  have lb9_b10:b9<b10:=by have h1:=eb10.1;have h2:=Ab9.out.lt;omega
  have hZb10:B0≤b10:=by have h1:=eb10.1;have h2:=FR0.out;omega
  replace AB0:=hid (AB0.out.fnw E rfl)
  replace AB1:=hid (AB1.out.fnw E rfl)
  replace AB2:=hid (AB2.out.fnw E rfl)
  replace Ab7:=hid (Ab7.out.fnw E rfl)
  replace Ab9:=hid (Ab9.out.fnw E rfl)
  have Ab10:=hid eb10.2
  simp only [nP,zr,zq]
  rw [←hb10]
  replace FR0:=hid FR.out.le
  clear E eb10 hb10
  go_upto_region 10 with fail
  refine qwf [⟨false,0,4,3,B2,0,25,42,cr,0,cr,[]⟩] [(40,.bool sa),(41,.agg mv.toArray),(42,.agg cr.toArray),(5,.int .i64 0)] _ (by simp only [zz4,zz5,zq];rfl) (by kernel_rfl) (by kernel_rfl) ?_ ?_ ?_ ?_ ?_ ?_ ?_
  ·intro W' hW'
   have rd0:=Ab10.out.below hW'
   refine fxo ?_ ?_;(go_big_quiet_step (fail);(try simp only [zq]);exact wqn rfl)
   refine fxo (wlg (by rfl) rfl rfl rd0 Tryz.underlying140 rfl (qG V_mv.out) (wqn (by simp only [zq]))) ?_
   refine fxo ?_ ?_;(go_big_quiet_step ((go_at_call 112;exact qaA (HMM.out _)));(try simp only [zq]);exact wqn rfl)
   refine fxs (by rfl) ?_
   refine fxo ?_ ?_;(go_big_quiet_step (fail);(try simp only [zq]);exact wqn rfl)
   exact fxn
  ·intro W' hK'
   have rd0:=At.keep hK' Ab10.out (oP _ _ (fun _=>(by show B2≠b10;omega)) (oN))
   first|(refine fxo ?_ ?_;(go_big_quiet_step (fail);(try simp only [zq]);exact wqn rfl))|(refine fxs (by kernel_rfl) ?_)
   refine fxo (wlg (by rfl) rfl rfl rd0 Tryz.underlying140 rfl (qG V_mv.out) (wqn (by simp only [zq]))) ?_
   iterate 2 (refine fxs (by kernel_rfl) ?_)
   first|(refine fxo ?_ ?_;(go_big_quiet_step (fail);(try simp only [zq]);exact wqn rfl))|(refine fxs (by kernel_rfl) ?_)
   exact fxn
  ·exact oP _ _ (bnc) (oN)
  ·exact oP _ _ (fun _=>⟨AB2.out.lt,rfl,At.room AB2.out (qI V_cy.out) (qI V_cr.out)⟩) (oN)
  ·exact uno
  ·exact oP _ _ (stw rfl (qI V_cr.out) (qbZ V_cr.out) (fun _=>rfl)) (oN)
  intro β wx4 E
  replace FR:=hid (FR.out.flow E (oP _ _ (fun _=>(by show B0≤B2;omega)) (oN)))
  replace AB0:=hid (At.flow E AB0.out (oP _ _ (fun _=>(by show B2≠B0;omega)) (oN)))
  replace AB1:=hid (At.flow E AB1.out (oP _ _ (fun _=>(by show B2≠B1;omega)) (oN)))
  replace AB2:=hid (show At wx4 B2 0 cr from E.atOld mms rfl AB2.out.lt)
  replace Ab7:=hid (At.flow E Ab7.out (oP _ _ (fun _=>(by show B2≠b7;omega)) (oN)))
  replace Ab9:=hid (At.flow E Ab9.out (oP _ _ (fun _=>(by show B2≠b9;omega)) (oN)))
  replace Ab10:=hid (At.flow E Ab10.out (oP _ _ (fun _=>(by show B2≠b10;omega)) (oN)))
  simp only [nP,zr,zq]
  replace FR0:=hid FR.out.le
  clear E
  go_wp2_with fail
  have hld:=AB2.out.read (P:=Tryz.prog) Tryz.underlying25 rfl (qI V_cr.out)
  refine bodyPost_ret (v:=.tuple #[.agg cr.toArray,.int .i64 0]) (by simp [results,Tryz.results177,asAddr,hld]) rfl ?_
  exact ⟨rfl,fend HB0 FR⟩
 ·have HS:=hid hs
  have he:(sa==sb)=false:=by simp [hs]
  clear hs
  obtain ⟨x,hx⟩:∃ x,x=cmpI a b:=⟨_,rfl⟩
  have HCM:=hid (fun (W:World) (p q:Nat) (hp:At W p 0 ma) (hq:At W q 0 mb)=>show Calls Tryz.prog 165 #[.pointer (some ⟨p,0,none⟩),.pointer (some ⟨q,0,none⟩)] W (fun e w'=>e=.returned (.int .i64 x)∧Below W.heap.size W w') by rw [hx];exact qkP a b p 0 q 0 W (V_ma.out ▸ hp) (V_mb.out ▸ hq) HL.out.1 HL.out.2.1)
  go_upto_region 4 with fail
  by_cases hl:a<b
  ·have hx0:x<0:=by rw [hx];unfold cmpI;rw [if_pos hl];decide
   have hd:v=b - a∧n=cs1 sb (b - a):=by
    have:=qzY na nb a b (by rw [←HP.out.1,←HP.out.2.1];exact HS.out) hl
    exact ⟨by rw [HP.out.2.2.2,this.2],by rw [HP.out.2.2.1,this.1,HP.out.2.1]⟩
   have HMM:=hid (HM.out sb (by rw [hd.1];exact hd.2))
   have HMN:=hid (fun (W:World) (p q:Nat) (hp:At W p 0 mb) (hq:At W q 0 ma)=>qkB (c2:=0) W hp hq V_mb.out V_ma.out V_mv.out HL.out.2.1 HL.out.1 HL.out.2.2 (by rw [Nat.zero_mul];omega))
   clear hx hl hd
   refine wfn [] [(25,.int .i64 x),(26,.bool true)] _ (by simp only [zz4,zz5,zq];rfl) (by kernel_rfl) (by kernel_rfl) rfl ?_ ?_ ?_ ?_
   ·intro W' hW'
    refine fxo ?_ ?_;(go_big_quiet_step ((go_at_call 165;exact qaA (HCM.out _ _ _ ((Ab7.out.below hW').below (qbG _ _ _)) ((Ab9.out.below hW').below (qbG _ _ _)))));(try simp only [zq]);exact wqn rfl)
    refine fxo ?_ ?_;(go_big_quiet_step (fail);(try simp only [zq]);exact wqn rfl)
    exact fxn
   ·exact oN
   ·exact oN
   intro β wx3 E
   replace FR:=hid (FR.out.fnw E rfl)
   replace AB0:=hid (AB0.out.fnw E rfl)
   replace AB1:=hid (AB1.out.fnw E rfl)
   replace AB2:=hid (AB2.out.fnw E rfl)
   replace Ab7:=hid (Ab7.out.fnw E rfl)
   replace Ab9:=hid (Ab9.out.fnw E rfl)
   have hE:=E.below rfl
   simp only [nP,zr,zq]
   replace FR0:=hid FR.out.le
   clear E
   clear hx0
   go_upto_region 5 with fail
   refine qwf [⟨false,0,4,3,B2,0,25,29,cr,0,cr,[]⟩] [(27,.bool sb),(28,.agg mv.toArray),(29,.agg cr.toArray),(5,.int .i64 0)] _ (by simp only [zz4,zz5,zq];rfl) (by kernel_rfl) (by kernel_rfl) ?_ ?_ ?_ ?_ ?_ ?_ ?_
   ·intro W' hW'
    refine fxo ?_ ?_;(go_big_quiet_step (fail);(try simp only [zq]);exact wqn rfl)
    refine fxo ?_ ?_;(go_big_quiet_step ((go_at_call 171;exact qaA (HMN.out _ _ _ ((Ab9.out.below hW').below (qbG _ _ _)) ((Ab7.out.below hW').below (qbG _ _ _)))));(try simp only [zq]);exact wqn rfl)
    refine fxo ?_ ?_;(go_big_quiet_step ((go_at_call 112;exact qaA (HMM.out _)));(try simp only [zq]);exact wqn rfl)
    refine fxs (by rfl) ?_
    refine fxo ?_ ?_;(go_big_quiet_step (fail);(try simp only [zq]);exact wqn rfl)
    exact fxn
   ·intro W' hK'
    first|(refine fxo ?_ ?_;(go_big_quiet_step (fail);(try simp only [zq]);exact wqn rfl))|(refine fxs (by kernel_rfl) ?_)
    iterate 3 (refine fxs (by kernel_rfl) ?_)
    first|(refine fxo ?_ ?_;(go_big_quiet_step (fail);(try simp only [zq]);exact wqn rfl))|(refine fxs (by kernel_rfl) ?_)
    exact fxn
   ·exact oP _ _ (bnc) (oN)
   ·exact oP _ _ (fun _=>⟨AB2.out.lt,rfl,At.room AB2.out (qI V_cy.out) (qI V_cr.out)⟩) (oN)
   ·exact uno
   ·exact oP _ _ (stw rfl (qI V_cr.out) (qbZ V_cr.out) (fun _=>rfl)) (oN)
   intro β wx4 E
   replace FR:=hid (FR.out.flow E (oP _ _ (fun _=>(by show B0≤B2;omega)) (oN)))
   replace AB0:=hid (At.flow E AB0.out (oP _ _ (fun _=>(by show B2≠B0;omega)) (oN)))
   replace AB1:=hid (At.flow E AB1.out (oP _ _ (fun _=>(by show B2≠B1;omega)) (oN)))
   replace AB2:=hid (show At wx4 B2 0 cr from E.atOld mms rfl AB2.out.lt)
   replace Ab7:=hid (At.flow E Ab7.out (oP _ _ (fun _=>(by show B2≠b7;omega)) (oN)))
   replace Ab9:=hid (At.flow E Ab9.out (oP _ _ (fun _=>(by show B2≠b9;omega)) (oN)))
   simp only [nP,zr,zq]
   replace FR0:=hid FR.out.le
   clear E
   go_wp2_with fail
   have hld:=AB2.out.read (P:=Tryz.prog) Tryz.underlying25 rfl (qI V_cr.out)
   refine bodyPost_ret (v:=.tuple #[.agg cr.toArray,.int .i64 0]) (by simp [results,Tryz.results177,asAddr,hld]) rfl ?_
   exact ⟨rfl,fend HB0 FR⟩
  ·have hx0:¬x<0:=by rw [hx];unfold cmpI;rw [if_neg hl];split<;>omega
   have hd:v=a - b∧n=cs1 sa (a - b):=by
    have:=qzX na nb a b (by rw [←HP.out.1,←HP.out.2.1];exact HS.out) hl
    exact ⟨by rw [HP.out.2.2.2,this.2],by rw [HP.out.2.2.1,this.1,HP.out.1]⟩
   have HMM:=hid (HM.out sa (by rw [hd.1];exact hd.2))
   have HMN:=hid (fun (W:World) (p q:Nat) (hp:At W p 0 ma) (hq:At W q 0 mb)=>qkB (c2:=0) W hp hq V_ma.out V_mb.out V_mv.out HL.out.1 HL.out.2.1 HL.out.2.2 (by rw [Nat.zero_mul];omega))
   clear hx hl hd
   refine wfn [] [(25,.int .i64 x),(26,.bool false)] _ (by simp only [zz4,zz5,zq];rfl) (by kernel_rfl) (by kernel_rfl) rfl ?_ ?_ ?_ ?_
   ·intro W' hW'
    refine fxo ?_ ?_;(go_big_quiet_step ((go_at_call 165;exact qaA (HCM.out _ _ _ ((Ab7.out.below hW').below (qbG _ _ _)) ((Ab9.out.below hW').below (qbG _ _ _)))));(try simp only [zq]);exact wqn rfl)
    refine fxo ?_ ?_;(go_big_quiet_step (fail);(try simp only [zq]);exact wqn rfl)
    exact fxn
   ·exact oN
   ·exact oN
   intro β wx3 E
   replace FR:=hid (FR.out.fnw E rfl)
   replace AB0:=hid (AB0.out.fnw E rfl)
   replace AB1:=hid (AB1.out.fnw E rfl)
   replace AB2:=hid (AB2.out.fnw E rfl)
   replace Ab7:=hid (Ab7.out.fnw E rfl)
   replace Ab9:=hid (Ab9.out.fnw E rfl)
   have hE:=E.below rfl
   simp only [nP,zr,zq]
   replace FR0:=hid FR.out.le
   clear E
   clear hx0
   go_upto_region 6 with fail
   refine qwf [⟨false,0,4,3,B2,0,25,32,cr,0,cr,[]⟩] [(30,.bool sa),(31,.agg mv.toArray),(32,.agg cr.toArray),(5,.int .i64 0)] _ (by simp only [zz4,zz5,zq];rfl) (by kernel_rfl) (by kernel_rfl) ?_ ?_ ?_ ?_ ?_ ?_ ?_
   ·intro W' hW'
    refine fxo ?_ ?_;(go_big_quiet_step (fail);(try simp only [zq]);exact wqn rfl)
    refine fxo ?_ ?_;(go_big_quiet_step ((go_at_call 171;exact qaA (HMN.out _ _ _ ((Ab7.out.below hW').below (qbG _ _ _)) ((Ab9.out.below hW').below (qbG _ _ _)))));(try simp only [zq]);exact wqn rfl)
    refine fxo ?_ ?_;(go_big_quiet_step ((go_at_call 112;exact qaA (HMM.out _)));(try simp only [zq]);exact wqn rfl)
    refine fxs (by rfl) ?_
    refine fxo ?_ ?_;(go_big_quiet_step (fail);(try simp only [zq]);exact wqn rfl)
    exact fxn
   ·intro W' hK'
    first|(refine fxo ?_ ?_;(go_big_quiet_step (fail);(try simp only [zq]);exact wqn rfl))|(refine fxs (by kernel_rfl) ?_)
    iterate 3 (refine fxs (by kernel_rfl) ?_)
    first|(refine fxo ?_ ?_;(go_big_quiet_step (fail);(try simp only [zq]);exact wqn rfl))|(refine fxs (by kernel_rfl) ?_)
    exact fxn
   ·exact oP _ _ (bnc) (oN)
   ·exact oP _ _ (fun _=>⟨AB2.out.lt,rfl,At.room AB2.out (qI V_cy.out) (qI V_cr.out)⟩) (oN)
   ·exact uno
   ·exact oP _ _ (stw rfl (qI V_cr.out) (qbZ V_cr.out) (fun _=>rfl)) (oN)
   intro β wx4 E
   replace FR:=hid (FR.out.flow E (oP _ _ (fun _=>(by show B0≤B2;omega)) (oN)))
   replace AB0:=hid (At.flow E AB0.out (oP _ _ (fun _=>(by show B2≠B0;omega)) (oN)))
   replace AB1:=hid (At.flow E AB1.out (oP _ _ (fun _=>(by show B2≠B1;omega)) (oN)))
   replace AB2:=hid (show At wx4 B2 0 cr from E.atOld mms rfl AB2.out.lt)
   replace Ab7:=hid (At.flow E Ab7.out (oP _ _ (fun _=>(by show B2≠b7;omega)) (oN)))
   replace Ab9:=hid (At.flow E Ab9.out (oP _ _ (fun _=>(by show B2≠b9;omega)) (oN)))
   simp only [nP,zr,zq]
   replace FR0:=hid FR.out.le
   clear E
   go_wp2_with fail
   have hld:=AB2.out.read (P:=Tryz.prog) Tryz.underlying25 rfl (qI V_cr.out)
   refine bodyPost_ret (v:=.tuple #[.agg cr.toArray,.int .i64 0]) (by simp [results,Tryz.results177,asAddr,hld]) rfl ?_
   exact ⟨rfl,fend HB0 FR⟩
end Go.Proofs.YtemoddmadfoaiaaGreat
