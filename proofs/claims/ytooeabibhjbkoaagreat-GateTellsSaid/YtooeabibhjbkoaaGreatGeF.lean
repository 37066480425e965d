import Derived.Test.YtooeabibhjbkoaaGreatGeD
import Derived.Laws.Strings
set_option linter.unusedVariables false
set_option linter.unusedSimpArgs false
set_option maxRecDepth 100000
set_option maxHeartbeats 8000000
namespace Go.Proofs.YtooeabibhjbkoaaGreat
open Go.RowKit Big Reg Al Ap Ga
open Lib (hid)
theorem eSign {ca:List Value} {a:Qn} {s:Int} (h1:ca=resN (some a)) (ha:VQ a) (hs:s=a.1.sign) (w:World) :
  Calls Tryz.prog 105 #[.agg ca.toArray] w fun e w'=>e=.returned (.int .i64 s)∧Below w.heap.size w w':=by
 have V_ca:=hid (show ca=nm (decide (a.1<0)) a.1.natAbs false a.2 0 from h1)
 obtain ⟨va,V_va⟩:∃ c:List Value,Hid (c=rat (decide (a.1<0)) a.1.natAbs false a.2):=⟨_,hid rfl⟩
 have HC:=hid (rsignQ (ca:=va) V_va.out ha hs)
 clear h1 ha hs
 obtain ⟨B0,hB0⟩:∃ B,B=w.heap.size:=⟨_,rfl⟩
 obtain ⟨w0,hw0⟩:∃ w0,w0=(w.alloc (.cells ca.toArray 44)):=⟨_,rfl⟩
 have AB0:=hid (show At w0 B0 0 ca by rw [hw0];exact (show At (w.alloc (.cells ca.toArray 44)) B0 0 ca from At.fresh _ ca _ (by simp [hB0])))
 have FR:=hid (show Fr B0 w w0 by rw [hw0,hB0];exact (Fr.start w).alloc _)
 have FR0:=hid FR.out.le
 have hZB0:B0≤B0:=Nat.le_refl _
 have HB0:=hid hB0
 go_enter Tryz.func105,Tryz.ntmps105
 go_upto_region 1 with fail
 rw [←hw0,←hB0]
 clear hw0 hB0
 have AB0_v:=hid (AB0.out.val V_ca.out V_va.out)
 refine wfn [] [(6,.pointer (some ⟨B0,0,none⟩)),(7,.agg va.toArray),(8,.tuple #[.int .i64 s,.int .i64 0]),(5,.tuple #[.int .i64 s,.int .i64 0]),(9,.int .i64 s),(10,.int .i64 0),(3,.int .i64 s),(4,.int .i64 0)] _ (by simp only [zz4,zz5,zq];rfl) (by kernel_rfl) (by kernel_rfl) rfl ?_ ?_ ?_ ?_
 ·intro W' hW'
  have rd0:=AB0_v.out.below hW'
  refine fxo ?_ ?_;(go_big_quiet_step (fail);(try simp only [zq]);exact wqn rfl)
  refine fxo (wlg (by rfl) rfl rfl rd0 Tryz.underlying27 rfl (qR V_va.out) (wqn (by simp only [zq]))) ?_
  refine fxo ?_ ?_;(go_big_quiet_step ((go_at_call 144;exact Calls.below_of (HC.out _)));(try simp only [zq]);exact wqn rfl)
  iterate 5 (refine fxo ?_ ?_;(go_big_quiet_step (fail);(try simp only [zq]);exact wqn rfl))
  exact fxn
 ·exact oN
 ·exact oN
 intro β wx1 E
 replace FR:=hid (FR.out.fnw E rfl)
 replace AB0:=hid (AB0.out.fnw E rfl)
 replace AB0_v:=hid (AB0_v.out.fnw E rfl)
 have hE:=E.below rfl
 simp only [nP,zr,zq]
 replace FR0:=hid FR.out.le
 clear E
 go_wp2
 go_ret
 exact ⟨rfl,by rw [HB0.out] at FR;exact FR.out.below⟩
theorem rat_Z {n:Bool} {p q:Nat} (h:n=cs1 n p):rat n p false q=ratZ (zI n p) q:=by
 have:=zI_canon n p
 rw [←h] at this
 unfold ratZ
 rw [←this.1,←this.2]
theorem eAbove {cr:List Value} {a:Qn} {t:Bool} (h1:cr=ratZ a.1 a.2) (ha:VQ a) (ht:t=decide (0<a.1)) (w:World) :
  Calls Tryz.prog 68 #[.agg cr.toArray] w fun e w'=>e=.returned (.bool t)∧Below w.heap.size w w':=by
 have V_cr:=hid (show cr=rat (decide (a.1<0)) a.1.natAbs false a.2 from h1)
 obtain ⟨cN,V_cN⟩:∃ c:List Value,Hid (c=nm (decide (a.1<0)) a.1.natAbs false a.2 0):=⟨_,hid rfl⟩
 obtain ⟨s,hs⟩:∃ s,s=a.1.sign:=⟨_,rfl⟩
 have HV:=hid (rvalidQ h1 ha)
 have HO:=hid (eOf V_cr.out V_cN.out)
 have HS:=hid (eSign (ca:=cN) V_cN.out ha hs)
 have HT:=hid (show t=decide (0<s) by rw [ht,hs];congr 1;rw [Int.sign_pos_iff])
 clear h1 ha ht hs
 obtain ⟨B0,hB0⟩:∃ B,B=w.heap.size:=⟨_,rfl⟩
 obtain ⟨w0,hw0⟩:∃ w0,w0=(w.alloc (.cells cr.toArray 27)):=⟨_,rfl⟩
 have AB0:=hid (show At w0 B0 0 cr by rw [hw0];exact (show At (w.alloc (.cells cr.toArray 27)) B0 0 cr from At.fresh _ cr _ (by simp [hB0])))
 have FR:=hid (show Fr B0 w w0 by rw [hw0,hB0];exact (Fr.start w).alloc _)
 have FR0:=hid FR.out.le
 have hZB0:B0≤B0:=Nat.le_refl _
 have HB0:=hid hB0
 go_enter Tryz.func68,Tryz.ntmps68
 go_upto_region 1 with fail
 rw [←hw0,←hB0]
 clear hw0 hB0
 refine wfn [] [(3,.agg cr.toArray),(4,.bool true),(5,.bool true),(6,.agg cr.toArray),(7,.agg cN.toArray),(8,.int .i64 s),(9,.bool (decide (0<s))),(10,.bool (decide (0<s))),(2,.bool (decide (0<s)))] _ (by simp only [zz4,zz5,zq];rfl) (by kernel_rfl) (by kernel_rfl) rfl ?_ ?_ ?_ ?_
 ·intro W' hW'
  have rd0:=AB0.out.below hW'
  refine fxo (wlg (by rfl) rfl rfl rd0 Tryz.underlying27 rfl (qR V_cr.out) (wqn (by simp only [zq]))) ?_
  refine fxo ?_ ?_;(go_big_quiet_step ((go_at_call 77;exact Calls.below_of (HV.out _)));(try simp only [zq]);exact wqn rfl)
  refine fxo ?_ ?_;(go_big_quiet_step (fail);(try simp only [zq]);exact wqn rfl)
  refine fxo (wlg (by rfl) rfl rfl rd0 Tryz.underlying27 rfl (qR V_cr.out) (wqn (by simp only [zq]))) ?_
  refine fxo ?_ ?_;(go_big_quiet_step ((go_at_call 40;exact Calls.below_of (HO.out _)));(try simp only [zq]);exact wqn rfl)
  refine fxo ?_ ?_;(go_big_quiet_step ((go_at_call 105;exact Calls.below_of (HS.out _)));(try simp only [zq]);exact wqn rfl)
  iterate 3 (refine fxo ?_ ?_;(go_big_quiet_step (fail);(try simp only [zq]);exact wqn rfl))
  exact fxn
 ·exact oN
 ·exact oN
 intro β wx1 E
 replace FR:=hid (FR.out.fnw E rfl)
 replace AB0:=hid (AB0.out.fnw E rfl)
 have hE:=E.below rfl
 simp only [nP,zr,zq]
 replace FR0:=hid FR.out.le
 clear E
 go_wp2
 go_ret
 exact ⟨ret_bool HT.out.symm,by rw [HB0.out] at FR;exact FR.out.below⟩
theorem eAboveNo {cr:List Value} {n m:Bool} {p q:Nat} (hr:cr=rat n p m q) (hp:p<BB^32) (hq:q<BB^32) (hbad:¬(p<B480∧q<B480∧n=cs1 n p∧m=false∧q≠0∧Nat.gcd p q=1)) (w:World) :
  Calls Tryz.prog 68 #[.agg cr.toArray] w fun e w'=>e=.returned (.bool false)∧Below w.heap.size w w':=by
 have V_cr:=hid hr
 have HV:=hid (rvalid_no hr hp hq hbad)
 clear hr hp hq hbad
 obtain ⟨B0,hB0⟩:∃ B,B=w.heap.size:=⟨_,rfl⟩
 obtain ⟨w0,hw0⟩:∃ w0,w0=(w.alloc (.cells cr.toArray 27)):=⟨_,rfl⟩
 have AB0:=hid (show At w0 B0 0 cr by rw [hw0];exact (show At (w.alloc (.cells cr.toArray 27)) B0 0 cr from At.fresh _ cr _ (by simp [hB0])))
 have FR:=hid (show Fr B0 w w0 by rw [hw0,hB0];exact (Fr.start w).alloc _)
 have FR0:=hid FR.out.le
 have hZB0:B0≤B0:=Nat.le_refl _
 have HB0:=hid hB0
 go_enter Tryz.func68,Tryz.ntmps68
 go_upto_region 1 with fail
 rw [←hw0,←hB0]
 clear hw0 hB0
 refine wfn [] [(3,.agg cr.toArray),(4,.bool false),(5,.bool false),(6,undef),(7,undef),(8,undef),(9,undef),(10,.bool false),(2,.bool false)] _ (by simp only [zz4,zz5,zq];rfl) (by kernel_rfl) (by kernel_rfl) rfl ?_ ?_ ?_ ?_
 ·intro W' hW'
  have rd0:=AB0.out.below hW'
  refine fxo (wlg (by rfl) rfl rfl rd0 Tryz.underlying27 rfl (qR V_cr.out) (wqn (by simp only [zq]))) ?_
  refine fxo ?_ ?_;(go_big_quiet_step ((go_at_call 77;exact Calls.below_of (HV.out _)));(try simp only [zq]);exact wqn rfl)
  iterate 7 (refine fxo ?_ ?_;(go_big_quiet_step (fail);(try simp only [zq]);exact wqn rfl))
  exact fxn
 ·exact oN
 ·exact oN
 intro β wx1 E
 replace FR:=hid (FR.out.fnw E rfl)
 replace AB0:=hid (AB0.out.fnw E rfl)
 have hE:=E.below rfl
 simp only [nP,zr,zq]
 replace FR0:=hid FR.out.le
 clear E
 go_wp2
 go_ret
 exact ⟨rfl,by rw [HB0.out] at FR;exact FR.out.below⟩
theorem eValid01 {cr:List Value} {a:Qn} {t:Bool} (h1:cr=ratZ a.1 a.2) (ha:VQ a) (h0:0<a.1) (ht:t=decide (a.1≤(a.2:Int))) (w:World) :
  Calls Tryz.prog 69 #[.agg cr.toArray,.int .i64 0,.int .i64 1] w fun e w'=>e=.returned (.bool t)∧Below w.heap.size w w':=by
 have V_cr:=hid (show cr=rat (decide (a.1<0)) a.1.natAbs false a.2 from h1)
 obtain ⟨cN,V_cN⟩:∃ c:List Value,Hid (c=nm (decide (a.1<0)) a.1.natAbs false a.2 0):=⟨_,hid rfl⟩
 obtain ⟨c0,V_c0⟩:∃ c:List Value,Hid (c=nm false 0 false 1 0):=⟨_,hid rfl⟩
 obtain ⟨c1,V_c1⟩:∃ c:List Value,Hid (c=nm false 1 false 1 0):=⟨_,hid rfl⟩
 have hb:(1:Nat)<B480:=Nat.one_lt_pow (by decide) (by unfold BB;decide)
 have v0:VQ ((0:Int),1):=⟨by show (0:Nat)<B480;omega,hb,by decide,by decide⟩
 have v1:VQ ((1:Int),1):=⟨hb,hb,by decide,by decide⟩
 have HV:=hid (rvalidQ h1 ha)
 have HO:=hid (eOf V_cr.out V_cN.out)
 have HI0:=hid (eInt (cN:=c0) (z:=0) V_c0.out (by decide) (by decide))
 have HI1:=hid (eInt (cN:=c1) (z:=1) V_c1.out (by decide) (by decide))
 have HL0:=hid (eLess (ca:=cN) (cb:=c0) (a:=a) (b:=((0:Int),1)) (t:=false) V_cN.out V_c0.out ha v0 (by symm;apply decide_eq_false;simp;omega))
 obtain ⟨u,hu⟩:∃ u,u=!t:=⟨_,rfl⟩
 have HU:=hid (show (!u)=t by rw [hu,Bool.not_not])
 have HL1:=hid (eLess (ca:=c1) (cb:=cN) (a:=((1:Int),1)) (b:=a) (t:=u) V_c1.out V_cN.out v1 ha (by
  rw [hu,ht]
  by_cases h:a.1≤(a.2:Int)
  ·rw [decide_eq_true h,decide_eq_false];rfl;simp;omega
  ·rw [decide_eq_false h,decide_eq_true];rfl;simp;omega))
 clear h1 ha h0 ht hb v0 v1 hu
 obtain ⟨B0,hB0⟩:∃ B,B=w.heap.size:=⟨_,rfl⟩
 obtain ⟨w0,hw0⟩:∃ w0,w0=(w.alloc (.cells cr.toArray 27)):=⟨_,rfl⟩
 have AB0:=hid (show At w0 B0 0 cr by rw [hw0];exact (show At (w.alloc (.cells cr.toArray 27)) B0 0 cr from At.fresh _ cr _ (by simp [hB0])))
 have FR:=hid (show Fr B0 w w0 by rw [hw0,hB0];exact (Fr.start w).alloc _)
 have FR0:=hid FR.out.le
 have hZB0:B0≤B0:=Nat.le_refl _
 have HB0:=hid hB0
 go_enter Tryz.func69,Tryz.ntmps69
 go_upto_region 1 with fail
 rw [←hw0,←hB0]
 clear hw0 hB0
 refine wfn [] [(7,.agg cr.toArray),(8,.bool true),(9,.bool true),(10,.agg cr.toArray),(11,.agg cN.toArray),(12,.int .i64 0),(13,.agg c0.toArray),(14,.bool false),(15,.bool true),(16,.bool true),(17,.bool true),(18,.int .i64 1),(19,.agg c1.toArray),(20,.agg cr.toArray),(21,.agg cN.toArray),(22,.bool u),(23,.bool (!u)),(24,.bool (!u)),(6,.bool (!u))] _ (by simp only [zz4,zz5,zq];rfl) (by kernel_rfl) (by kernel_rfl) rfl ?_ ?_ ?_ ?_
 ·intro W' hW'
  have rd0:=AB0.out.below hW'
  refine fxo (wlg (by rfl) rfl rfl rd0 Tryz.underlying27 rfl (qR V_cr.out) (wqn (by simp only [zq]))) ?_
  refine fxo ?_ ?_;(go_big_quiet_step ((go_at_call 77;exact Calls.below_of (HV.out _)));(try simp only [zq]);exact wqn rfl)
  refine fxo ?_ ?_;(go_big_quiet_step (fail);(try simp only [zq]);exact wqn rfl)
  refine fxo (wlg (by rfl) rfl rfl rd0 Tryz.underlying27 rfl (qR V_cr.out) (wqn (by simp only [zq]))) ?_
  refine fxo ?_ ?_;(go_big_quiet_step ((go_at_call 40;exact Calls.below_of (HO.out _)));(try simp only [zq]);exact wqn rfl)
  refine fxo ?_ ?_;(go_big_quiet_step (fail);(try simp only [zq]);exact wqn rfl)
  refine fxo ?_ ?_;(go_big_quiet_step ((go_at_call 19;exact Calls.below_of (HI0.out _)));(try simp only [zq]);exact wqn rfl)
  refine fxo ?_ ?_;(go_big_quiet_step ((go_at_call 23;exact Calls.below_of (HL0.out _)));(try simp only [zq]);exact wqn rfl)
  iterate 4 (refine fxo ?_ ?_;(go_big_quiet_step (fail);(try simp only [zq]);exact wqn rfl))
  refine fxo ?_ ?_;(go_big_quiet_step ((go_at_call 19;exact Calls.below_of (HI1.out _)));(try simp only [zq]);exact wqn rfl)
  refine fxo (wlg (by rfl) rfl rfl rd0 Tryz.underlying27 rfl (qR V_cr.out) (wqn (by simp only [zq]))) ?_
  refine fxo ?_ ?_;(go_big_quiet_step ((go_at_call 40;exact Calls.below_of (HO.out _)));(try simp only [zq]);exact wqn rfl)
  refine fxo ?_ ?_;(go_big_quiet_step ((go_at_call 23;exact Calls.below_of (HL1.out _)));(try simp only [zq]);exact wqn rfl)
  iterate 3 (refine fxo ?_ ?_;(go_big_quiet_step (fail);(try simp only [zq]);exact wqn rfl))
  exact fxn
 ·exact oN
 ·exact oN
 intro β wx1 E
 replace FR:=hid (FR.out.fnw E rfl)
 replace AB0:=hid (AB0.out.fnw E rfl)
 have hE:=E.below rfl
 simp only [nP,zr,zq]
 replace FR0:=hid FR.out.le
 clear E
 go_wp2
 go_ret
 exact ⟨ret_bool HU.out,by rw [HB0.out] at FR;exact FR.out.below⟩
theorem rgate_any {cr:List Value} {n m:Bool} {p q:Nat} (h:cr=rat n p m q) (hp:p<BB^32) (hq:q<BB^32) (w:World) :
  Calls Tryz.prog 38 #[.agg cr.toArray] w fun e w'=>e=.returned (.bool (gtB n m p q))∧Below w.heap.size w w':=by
 have hG:=gtB.eq_1 n m p q
 have V_cr:=hid h
 by_cases hok:p<B480∧q<B480∧n=cs1 n p∧m=false∧q≠0∧Nat.gcd p q=1
 ·rw [decide_eq_true hok,Bool.true_and] at hG
  obtain ⟨b1,b2,b3,b4,b5,b6⟩:=hok
  subst b4
  have hz:cr=ratZ (zI n p) q:=by rw [h,rat_Z b3]
  have hc:=zI_canon n p
  rw [←b3] at hc
  have hV:VQ (zI n p,q):=⟨by show (zI n p).natAbs<B480;rw [←hc.2];exact b1,b2,b5,by show Nat.gcd (zI n p).natAbs q=1;rw [←hc.2];exact b6⟩
  by_cases h0:0<zI n p
  ·have hn:n=false:=by rw [hc.1];exact decide_eq_false (by omega)
   have HG:=hid (show gtB n false p q=decide (zI n p≤(q:Int)) by
    rw [hG];subst hn
    have:zI false p=(p:Int):=rfl
    rw [this] at h0 ⊢
    congr 1;apply propext;constructor
    ·intro h;omega
    ·intro h;exact ⟨rfl,by omega,by omega⟩)
   have HA:=hid (eAbove (a:=(zI n p,q)) (t:=true) hz hV (decide_eq_true h0).symm)
   have HW:=hid (eValid01 (a:=(zI n p,q)) (t:=decide (zI n p≤(q:Int))) hz hV h0 rfl)
   obtain ⟨t,ht⟩:∃ t,t=decide (zI n p≤(q:Int)):=⟨_,rfl⟩
   rw [←ht] at HG HW
   clear hG hz hc hV h0 hn b1 b2 b3 b5 b6 ht h hp hq
   obtain ⟨B0,hB0⟩:∃ B,B=w.heap.size:=⟨_,rfl⟩
   obtain ⟨w0,hw0⟩:∃ w0,w0=(w.alloc (.cells cr.toArray 27)):=⟨_,rfl⟩
   have AB0:=hid (show At w0 B0 0 cr by rw [hw0];exact (show At (w.alloc (.cells cr.toArray 27)) B0 0 cr from At.fresh _ cr _ (by simp [hB0])))
   have FR:=hid (show Fr B0 w w0 by rw [hw0,hB0];exact (Fr.start w).alloc _)
   have FR0:=hid FR.out.le
   have hZB0:B0≤B0:=Nat.le_refl _
   have HB0:=hid hB0
   go_enter Tryz.func38,Tryz.ntmps38
   go_upto_region 1 with fail
   rw [←hw0,←hB0]
   clear hw0 hB0
   refine wfn [] [(3,.agg cr.toArray),(4,.bool true),(5,.bool true),(6,.agg cr.toArray),(7,.bool t),(8,.bool t),(2,.bool t)] _ (by simp only [zz4,zz5,zq];rfl) (by kernel_rfl) (by kernel_rfl) rfl ?_ ?_ ?_ ?_
   ·intro W' hW'
    have rd0:=AB0.out.below hW'
    refine fxo (wlg (by rfl) rfl rfl rd0 Tryz.underlying27 rfl (qR V_cr.out) (wqn (by simp only [zq]))) ?_
    refine fxo ?_ ?_;(go_big_quiet_step ((go_at_call 68;exact Calls.below_of (HA.out _)));(try simp only [zq]);exact wqn rfl)
    refine fxo ?_ ?_;(go_big_quiet_step (fail);(try simp only [zq]);exact wqn rfl)
    refine fxo (wlg (by rfl) rfl rfl rd0 Tryz.underlying27 rfl (qR V_cr.out) (wqn (by simp only [zq]))) ?_
    refine fxo ?_ ?_;(go_big_quiet_step ((go_at_call 69;exact Calls.below_of (HW.out _)));(try simp only [zq]);exact wqn rfl)
    iterate 2 (refine fxo ?_ ?_;(go_big_quiet_step (fail);(try simp only [zq]);exact wqn rfl))
    exact fxn
   ·exact oN
   ·exact oN
   intro β wx1 E
   replace FR:=hid (FR.out.fnw E rfl)
   replace AB0:=hid (AB0.out.fnw E rfl)
   have hE:=E.below rfl
   simp only [nP,zr,zq]
   replace FR0:=hid FR.out.le
   clear E
   go_wp2
   go_ret
   exact ⟨ret_bool HG.out.symm,by rw [HB0.out] at FR;exact FR.out.below⟩
  ·have HG:=hid (show gtB n false p q=false by
    rw [hG];apply decide_eq_false
    rintro ⟨rfl,h1,_⟩
    exact h0 (show (0:Int)<(p:Int) by omega))
   have HA:=hid (eAbove (a:=(zI n p,q)) (t:=false) hz hV (decide_eq_false h0).symm)
   clear hG hz hc hV h0 b1 b2 b3 b5 b6 h hp hq
   obtain ⟨B0,hB0⟩:∃ B,B=w.heap.size:=⟨_,rfl⟩
   obtain ⟨w0,hw0⟩:∃ w0,w0=(w.alloc (.cells cr.toArray 27)):=⟨_,rfl⟩
   have AB0:=hid (show At w0 B0 0 cr by rw [hw0];exact (show At (w.alloc (.cells cr.toArray 27)) B0 0 cr from At.fresh _ cr _ (by simp [hB0])))
   have FR:=hid (show Fr B0 w w0 by rw [hw0,hB0];exact (Fr.start w).alloc _)
   have FR0:=hid FR.out.le
   have hZB0:B0≤B0:=Nat.le_refl _
   have HB0:=hid hB0
   go_enter Tryz.func38,Tryz.ntmps38
   go_upto_region 1 with fail
   rw [←hw0,←hB0]
   clear hw0 hB0
   refine wfn [] [(3,.agg cr.toArray),(4,.bool false),(5,.bool false),(6,undef),(7,undef),(8,.bool false),(2,.bool false)] _ (by simp only [zz4,zz5,zq];rfl) (by kernel_rfl) (by kernel_rfl) rfl ?_ ?_ ?_ ?_
   ·intro W' hW'
    have rd0:=AB0.out.below hW'
    refine fxo (wlg (by rfl) rfl rfl rd0 Tryz.underlying27 rfl (qR V_cr.out) (wqn (by simp only [zq]))) ?_
    refine fxo ?_ ?_;(go_big_quiet_step ((go_at_call 68;exact Calls.below_of (HA.out _)));(try simp only [zq]);exact wqn rfl)
    iterate 5 (refine fxo ?_ ?_;(go_big_quiet_step (fail);(try simp only [zq]);exact wqn rfl))
    exact fxn
   ·exact oN
   ·exact oN
   intro β wx1 E
   replace FR:=hid (FR.out.fnw E rfl)
   replace AB0:=hid (AB0.out.fnw E rfl)
   have hE:=E.below rfl
   simp only [nP,zr,zq]
   replace FR0:=hid FR.out.le
   clear E
   go_wp2
   go_ret
   exact ⟨ret_bool HG.out.symm,by rw [HB0.out] at FR;exact FR.out.below⟩
 ·have HG:=hid (show gtB n m p q=false by rw [hG,decide_eq_false hok];rfl)
  have HA:=hid (eAboveNo h hp hq hok)
  clear hG hok h hp hq
  obtain ⟨B0,hB0⟩:∃ B,B=w.heap.size:=⟨_,rfl⟩
  obtain ⟨w0,hw0⟩:∃ w0,w0=(w.alloc (.cells cr.toArray 27)):=⟨_,rfl⟩
  have AB0:=hid (show At w0 B0 0 cr by rw [hw0];exact (show At (w.alloc (.cells cr.toArray 27)) B0 0 cr from At.fresh _ cr _ (by simp [hB0])))
  have FR:=hid (show Fr B0 w w0 by rw [hw0,hB0];exact (Fr.start w).alloc _)
  have FR0:=hid FR.out.le
  have hZB0:B0≤B0:=Nat.le_refl _
  have HB0:=hid hB0
  go_enter Tryz.func38,Tryz.ntmps38
  go_upto_region 1 with fail
  rw [←hw0,←hB0]
  clear hw0 hB0
  refine wfn [] [(3,.agg cr.toArray),(4,.bool false),(5,.bool false),(6,undef),(7,undef),(8,.bool false),(2,.bool false)] _ (by simp only [zz4,zz5,zq];rfl) (by kernel_rfl) (by kernel_rfl) rfl ?_ ?_ ?_ ?_
  ·intro W' hW'
   have rd0:=AB0.out.below hW'
   refine fxo (wlg (by rfl) rfl rfl rd0 Tryz.underlying27 rfl (qR V_cr.out) (wqn (by simp only [zq]))) ?_
   refine fxo ?_ ?_;(go_big_quiet_step ((go_at_call 68;exact Calls.below_of (HA.out _)));(try simp only [zq]);exact wqn rfl)
   iterate 5 (refine fxo ?_ ?_;(go_big_quiet_step (fail);(try simp only [zq]);exact wqn rfl))
   exact fxn
  ·exact oN
  ·exact oN
  intro β wx1 E
  replace FR:=hid (FR.out.fnw E rfl)
  replace AB0:=hid (AB0.out.fnw E rfl)
  have hE:=E.below rfl
  simp only [nP,zr,zq]
  replace FR0:=hid FR.out.le
  clear E
  go_wp2
  go_ret
  exact ⟨ret_bool HG.out.symm,by rw [HB0.out] at FR;exact FR.out.below⟩
theorem mkQ_some {N:Int} {D:Nat} (h1:N.natAbs<B480) (h2:D<B480):∃ r,mkQ N D=some r:=by
 unfold mkQ
 rw [if_pos ⟨Nat.lt_of_le_of_lt (Nat.div_le_self _ _) h1,Nat.lt_of_le_of_lt (Nat.div_le_self _ _) h2⟩]
 exact ⟨_,rfl⟩
theorem b480_big:(1000000000000000000000000000000000:Nat)<B480:=by unfold B480 BB;decide
theorem vq_int {z:Int} (h:z.natAbs<1000000000000000000000000000000000):VQ (z,1):=⟨Nat.lt_trans h b480_big,Nat.lt_trans (show (1:Nat)<_ by decide) b480_big,Nat.one_ne_zero,by show Nat.gcd z.natAbs 1=1;simp⟩
theorem room_some {net:Int} {p q:Nat} {r:Qn} (hq:q≠0) (h:mulQ ((p:Int),q) (net,1)=some r):∃ r',mulQ ((p:Int),q) (max net 0,1)=some r':=by
 by_cases hn:0≤net
 ·rw [show max net 0=net by omega];exact ⟨r,h⟩
 ·rw [show max net 0=0 by omega]
  refine ⟨(0,1),?_⟩
  unfold mulQ mkQ
  simp only [Int.mul_zero,Int.natAbs_zero,Nat.gcd_zero_left,Nat.zero_div,Int.sign_zero,Int.zero_mul,Nat.mul_one]
  rw [Nat.div_self (Nat.pos_of_ne_zero hq),if_pos ⟨Nat.lt_trans (by decide) b480_big,Nat.lt_trans (by decide) b480_big⟩]
end Go.Proofs.YtooeabibhjbkoaaGreat
set_option maxHeartbeats 8000000
namespace Go.Proofs.YtooeabibhjbkoaaGreat
open Go.RowKit Big Reg Al Ap Ga
open Lib (hid)
theorem mul_one_vq {p q:Nat} {z:Int} {r:Qn} (hq:q≠0) (h:mulQ ((p:Int),q) (z,1)=some r):VQ r∧r.1 / (r.2:Int)=roomZ z p q:=by
 unfold mulQ at h
 refine ⟨mkQ_valid (by simpa using hq) h,?_⟩
 rw [mkQ_floor h (by simpa using hq)]
 unfold roomZ
 simp
theorem room_nat {net:Int} {p q:Nat} (hq:q≠0):roomZ (max net 0) p q=((roomZ net p q).toNat:Int):=by
 by_cases hn:0≤net
 ·rw [show max net 0=net by omega]
  have:0≤roomZ net p q:=Int.ediv_nonneg (Int.mul_nonneg (Int.natCast_nonneg _) hn) (Int.natCast_nonneg _)
  omega
 ·rw [show max net 0=0 by omega]
  have h1:roomZ net p q≤0:=by
   unfold roomZ
   have a:(p:Int)*net≤0:=Int.mul_nonpos_of_nonneg_of_nonpos (Int.natCast_nonneg _) (by omega)
   have b:=Int.ediv_le_ediv (c:=(q:Int)) (by omega) a
   rwa [Int.zero_ediv] at b
  unfold roomZ at h1 ⊢
  rw [Int.mul_zero,Int.zero_ediv]
  omega
theorem rroom_any {cr:List Value} {net:Int} {p q:Nat} {r:Qn} (h:cr=ratZ (p:Int) q) (hV:VQ ((p:Int),q)) (hpq:p≤q) (h1:-1000000000000000≤net) (h2:net≤1000000000000000) (hm:mulQ ((p:Int),q) (net,1)=some r) (w:World) :
  Calls Tryz.prog 18 #[.int .i64 net,.agg cr.toArray] w fun e w'=>e=.returned (.int .i64 ((roomZ net p q).toNat:Int))∧Below w.heap.size w w':=by
 have hq:q≠0:=hV.pos
 obtain ⟨r',hr'⟩:=room_some hq hm
 obtain ⟨M,hM⟩:∃ M,M=max net 0:=⟨_,rfl⟩
 have hMX:=hM.symm
 rw [←hM] at hr'
 obtain ⟨hVR,hfl⟩:=mul_one_vq hq hr'
 have hrn:=room_nat (net:=net) (p:=p) hq
 rw [←hM,←hfl] at hrn
 have hbd:=room_bd (net:=M) (p:=p) (q:=q) (by omega) (by omega) hpq (by omega)
 rw [←hfl,hrn] at hbd
 have V_cr:=hid (show cr=rat (decide ((p:Int)<0)) (p:Int).natAbs false q from h)
 obtain ⟨cN,V_cN⟩:∃ c:List Value,Hid (c=nm (decide ((p:Int)<0)) (p:Int).natAbs false q 0):=⟨_,hid rfl⟩
 obtain ⟨cM,V_cM⟩:∃ c:List Value,Hid (c=nm (decide (M<0)) M.natAbs false 1 0):=⟨_,hid rfl⟩
 obtain ⟨cP,V_cP⟩:∃ c:List Value,Hid (c=resN (some r')):=⟨_,hid rfl⟩
 obtain ⟨T,hT⟩:∃ T:Int,T=((roomZ net p q).toNat:Int):=⟨_,rfl⟩
 rw [←hT] at hrn hbd ⊢
 have hT0:0≤T:=by rw [hT];exact Int.natCast_nonneg _
 have HMX:=hid hMX
 have HO:=hid (eOf V_cr.out V_cN.out)
 have HI:=hid (eInt (cN:=cM) (z:=M) V_cM.out (by omega) (by omega))
 have HML:=hid (eMul (ca:=cN) (cb:=cM) (cN:=cP) (a:=some ((p:Int),q)) (b:=some (M,1)) V_cN.out V_cM.out (fun x hx=>by cases hx;exact hV) (fun x hx=>by cases hx;exact vq_int (by omega)) (by rw [V_cP.out];exact congrArg resN hr'.symm))
 have HRD:=hid (eRound (ca:=cP) (a:=r') (n:=T) (most:=1000000000000000) V_cP.out hVR hrn.symm hT0 hbd.2 (by decide))
 clear h hV hpq h1 h2 hm hq hr' hM hMX hVR hfl hrn hbd hT hT0
 obtain ⟨B0,hB0⟩:∃ B,B=w.heap.size:=⟨_,rfl⟩
 obtain ⟨w0,hw0⟩:∃ w0,w0=(w.alloc (.cells cr.toArray 27)):=⟨_,rfl⟩
 have AB0:=hid (show At w0 B0 0 cr by rw [hw0];exact (show At (w.alloc (.cells cr.toArray 27)) B0 0 cr from At.fresh _ cr _ (by simp [hB0])))
 have FR:=hid (show Fr B0 w w0 by rw [hw0,hB0];exact (Fr.start w).alloc _)
 have FR0:=hid FR.out.le
 have hZB0:B0≤B0:=Nat.le_refl _
 have HB0:=hid hB0
 go_enter Tryz.func18,Tryz.ntmps18
 go_upto_region 1 with fail
 rw [←hw0,←hB0]
 clear hw0 hB0
 go_wp2_with (first|(refine wpList_load_mid rfl _ _ rfl B0 0 rfl cr _ AB0.out.range Tryz.underlying27 rfl (qR V_cr.out) ?_)|(refine wpList_max rfl _ _ _ rfl .i64 net 0 rfl rfl ?_;rw [HMX.out])|(go_at_call 40;refine (HO.out _).mono ?_;rintro e w1 ⟨rfl,hb1⟩;have HB1:=hid (FR.out.step hb1);clear hb1)|(go_at_call 19;refine (HI.out _).mono ?_;rintro e w2 ⟨rfl,hb2⟩;have HB2:=hid (HB1.out.step hb2);clear hb2)|(go_at_call 21;refine (HML.out _).mono ?_;rintro e w3 ⟨rfl,hb3⟩;have HB3:=hid (HB2.out.step hb3);clear hb3)|(go_at_call 42;refine (HRD.out _).mono ?_;rintro e w4 ⟨rfl,hb4⟩;have HB4:=hid (HB3.out.step hb4);clear hb4))
 go_ret
 exact ⟨rfl,by have h:=HB4.out.below;rwa [HB0.out] at h⟩
theorem beqQ_false {a b:ByteArray} (h:¬a=b):(a.toList==b.toList)=false:=by
 rw [beq_eq_false_iff_ne]
 intro hq
 rw [ByteArray.toList_eq,ByteArray.toList_eq] at hq
 exact h (by cases a;cases b;exact congrArg ByteArray.mk (Array.toList_inj.1 hq))
theorem anyq_yes {l:List Rq} {k j:Nat} {x y:Rq} (hj:j<k) (hy:l[j]?=some y) (he:y.key=x.key):((l.take k).any fun c=>decide (c.key=x.key))=true:=by
 rw [List.any_eq_true]
 exact ⟨y,List.mem_of_getElem? (i:=j) (by rw [List.getElem?_take,if_pos hj];exact hy),by simp [he]⟩
theorem anyq_no {l:List Rq} {k:Nat} {s:ByteArray} (h:∀ j y,j<k→l[j]?=some y→y.key≠s):((l.take k).any fun c=>decide (c.key=s))=false:=by
 rw [List.any_eq_false]
 intro y hy
 obtain ⟨j,hj⟩:=List.mem_iff_getElem?.1 hy
 rw [List.getElem?_take] at hj
 split at hj
 ·rename_i hjk;simpa using h j y hjk hj
 ·cases hj
theorem rreq_any (v:Value) (l:List Rq) (w:World) (h:RqsAt w v l) :
  Calls Tryz.prog 39 #[v] w fun e w'=>e=.returned (.bool (checkQ l))∧Below w.heap.size w w':=by
 have hF:=checkQ.eq_1 l
 obtain ⟨A,cap,hv⟩:=Rd.form h
 have hmx:=h.2.1
 by_cases hlen:l.length≤64
 ·by_cases hnil:l.length=0
  ·have HF:=hid (show checkQ l=true by rw [hF,List.eq_nil_of_length_eq_zero hnil];rfl)
   subst hv
   rw [hnil]
   clear hF hlen h hmx hnil
   go_enter Tryz.func39,Tryz.ntmps39
   go_wp2
   go_loopg [3] 0 (fun m i wr=>i=.int .i64 0∧Below w.heap.size w wr)
   case atStart=>exact ⟨rfl,Below.refl _ _⟩
   case round =>
    obtain ⟨rfl,hbl⟩:=hrel
    go_wp2
    go_ret
    exact ⟨ret_bool HF.out.symm,hbl⟩
  ·obtain ⟨g,off,cap,rfl,hc⟩:=rqs_some h (by omega)
   have hglt:=rqs_lt hc (by omega)
   obtain ⟨n,hnn⟩:∃ n,n=l.length:=⟨_,rfl⟩
   rw [←hnn] at hlen h hmx hnil ⊢
   have HN:=hid hnn
   have HC:=hid hc
   have HF:=hid (show checkQ l=okLQ l by rw [hF,←hnn,decide_eq_true hlen];rfl)
   have p1:¬(64:Int)<(n:Int):=by omega
   clear hnn hc h hF
   go_enter Tryz.func39,Tryz.ntmps39
   go_wp2
   go_loopg [3] n (fun m i wr=>∃ (k:Nat),k≤n∧n - k≤m∧i=.int .i64 k∧(∀ j,j<k→okAtQ l j=true)∧Below w.heap.size w wr)
   case atStart=>exact ⟨0,by omega,by omega,rfl,fun j hj=>absurd hj (by omega),Below.refl _ _⟩
   case round =>
    obtain ⟨k,hk,hm,rfl,hok,hbl⟩:=hrel
    have HOK:=hid hok
    have HB0:=hid hbl
    have hsz:=hbl.size
    clear hok hbl
    by_cases hlt:k<n
    ·obtain ⟨x,hx⟩:∃ x,l[k]?=some x:=⟨l[k]'(by rw [←HN.out];exact hlt),by simp [←HN.out,hlt]⟩
     obtain ⟨c0,c1,c2⟩:=(HC.out k x hx).below HB0.out
     have HX:=hid hx
     clear hx
     go_upto_region 7 with fail
     obtain ⟨W1,hW1⟩:∃ W1,W1=wr.alloc (.cells #[.string x.key,.int .i64 x.units,.int .i64 x.value] 48):=⟨_,rfl⟩
     have hbW:Below wr.heap.size wr W1:=by rw [hW1];exact (Below.refl _ _).alloc (Nat.le_refl _) _
     obtain ⟨X,hX⟩:∃ X,X=wr.heap.size:=⟨_,rfl⟩
     have x0:W1.cell? ⟨X,0,none⟩=some (.string x.key):=by rw [hW1,hX];go_cell
     have x1:W1.cell? ⟨X,1,none⟩=some (.int .i64 x.units):=by rw [hW1,hX];go_cell
     have x2:W1.cell? ⟨X,2,none⟩=some (.int .i64 x.value):=by rw [hW1,hX];go_cell
     rw [←hW1,←hX]
     have HBW:=hid (HB0.out.trans (hbW.mono HB0.out.size))
     clear hW1 hbW c0 c1 c2 hX
     have FR:=hid (Fr.start W1)
     have FR0:=hid FR.out.le
     cases h1:nameB x.key with
     | false =>
      have H1:=hid (rnameQ x.key false h1)
      have HNO:=hid (show okAtQ l k=false by simp [okAtQ,HX.out,okQ,h1])
      refine wfn [] [(19,.pointer (some ⟨X,0,none⟩)),(20,.string x.key),(21,.bool false),(22,.bool true),(23,.bool true),(24,undef),(25,undef),(26,undef),(27,.bool true),(28,.bool true),(29,undef),(30,undef),(31,undef),(32,.bool true),(33,.bool true),(34,undef),(35,undef),(36,undef),(37,.bool true),(38,.bool true),(39,undef),(40,undef),(41,undef),(42,.bool true)] _ (by simp only [zz4,zz5,zq];rfl) (by kernel_rfl) (by kernel_rfl) rfl ?_ ?_ ?_ ?_
      ·intro W' hW'
       have z0:=cU x0 hW'
       refine fxo ?_ ?_;(go_big_quiet_step (fail);(try simp only [zq]);exact wqn rfl)
       refine fxo (wcg (by rfl) rfl rfl (fun W h=>by simp [loadVar,h,go_sem]) z0 (wqn (by simp only [zq]))) ?_
       refine fxo ?_ ?_;(go_big_quiet_step ((go_at_call 70;exact Calls.below_of (H1.out _)));(try simp only [zq]);exact wqn rfl)
       iterate 21 (refine fxo ?_ ?_;(go_big_quiet_step (fail);(try simp only [zq]);exact wqn rfl))
       exact fxn
      ·exact oN
      ·exact oN
      intro β wx1 E
      replace FR:=hid (FR.out.fnw E rfl)
      have hE:=E.below rfl
      simp only [nP,zr,zq]
      replace FR0:=hid FR.out.le
      clear E
      go_wp2
      go_ret
      exact ⟨ret_bool (by rw [HF.out,okLQ_no (by rw [←HN.out];exact hlt) HNO.out]),HBW.out.trans (FR.out.below.mono HBW.out.size)⟩
     | true =>
      have H1:=hid (rnameQ x.key true h1)
      cases h2:inR x.units 1 1000000000000000 with
      | false =>
       have hno:=inR_no h2
       by_cases q1:x.units<1
       ·clear hno
        have HNO:=hid (show okAtQ l k=false by simp [okAtQ,HX.out,okQ,h1,h2])
        refine wfn [] [(19,.pointer (some ⟨X,0,none⟩)),(20,.string x.key),(21,.bool true),(22,.bool false),(23,.bool false),(24,.pointer (some ⟨X,1,none⟩)),(25,.int .i64 x.units),(26,.bool true),(27,.bool true),(28,.bool true),(29,undef),(30,undef),(31,undef),(32,.bool true),(33,.bool true),(34,undef),(35,undef),(36,undef),(37,.bool true),(38,.bool true),(39,undef),(40,undef),(41,undef),(42,.bool true)] _ (by simp only [zz4,zz5,zq];rfl) (by kernel_rfl) (by kernel_rfl) rfl ?_ ?_ ?_ ?_
        ·intro W' hW'
         have z0:=cU x0 hW'
         have z1:=cU x1 hW'
         refine fxo ?_ ?_;(go_big_quiet_step (fail);(try simp only [zq]);exact wqn rfl)
         refine fxo (wcg (by rfl) rfl rfl (fun W h=>by simp [loadVar,h,go_sem]) z0 (wqn (by simp only [zq]))) ?_
         refine fxo ?_ ?_;(go_big_quiet_step ((go_at_call 70;exact Calls.below_of (H1.out _)));(try simp only [zq]);exact wqn rfl)
         iterate 3 (refine fxo ?_ ?_;(go_big_quiet_step (fail);(try simp only [zq]);exact wqn rfl))
         refine fxo (wcg (by rfl) rfl rfl (fun W h=>by simp [loadVar,h,go_sem]) z1 (wqn (by simp only [zq]))) ?_
         iterate 17 (refine fxo ?_ ?_;(go_big_quiet_step (fail);(try simp only [zq]);exact wqn rfl))
         exact fxn
        ·exact oN
        ·exact oN
        intro β wx1 E
        replace FR:=hid (FR.out.fnw E rfl)
        have hE:=E.below rfl
        simp only [nP,zr,zq]
        replace FR0:=hid FR.out.le
        clear E
        go_wp2
        go_ret
        exact ⟨ret_bool (by rw [HF.out,okLQ_no (by rw [←HN.out];exact hlt) HNO.out]),HBW.out.trans (FR.out.below.mono HBW.out.size)⟩
       ·have q2:(1000000000000000:Int)<x.units:=by omega
        clear hno
        have HNO:=hid (show okAtQ l k=false by simp [okAtQ,HX.out,okQ,h1,h2])
        refine wfn [] [(19,.pointer (some ⟨X,0,none⟩)),(20,.string x.key),(21,.bool true),(22,.bool false),(23,.bool false),(24,.pointer (some ⟨X,1,none⟩)),(25,.int .i64 x.units),(26,.bool false),(27,.bool false),(28,.bool false),(29,.pointer (some ⟨X,1,none⟩)),(30,.int .i64 x.units),(31,.bool true),(32,.bool true),(33,.bool true),(34,undef),(35,undef),(36,undef),(37,.bool true),(38,.bool true),(39,undef),(40,undef),(41,undef),(42,.bool true)] _ (by simp only [zz4,zz5,zq];rfl) (by kernel_rfl) (by kernel_rfl) rfl ?_ ?_ ?_ ?_
        ·intro W' hW'
         have z0:=cU x0 hW'
         have z1:=cU x1 hW'
         refine fxo ?_ ?_;(go_big_quiet_step (fail);(try simp only [zq]);exact wqn rfl)
         refine fxo (wcg (by rfl) rfl rfl (fun W h=>by simp [loadVar,h,go_sem]) z0 (wqn (by simp only [zq]))) ?_
         refine fxo ?_ ?_;(go_big_quiet_step ((go_at_call 70;exact Calls.below_of (H1.out _)));(try simp only [zq]);exact wqn rfl)
         iterate 3 (refine fxo ?_ ?_;(go_big_quiet_step (fail);(try simp only [zq]);exact wqn rfl))
         refine fxo (wcg (by rfl) rfl rfl (fun W h=>by simp [loadVar,h,go_sem]) z1 (wqn (by simp only [zq]))) ?_
         iterate 4 (refine fxo ?_ ?_;(go_big_quiet_step (fail);(try simp only [zq]);exact wqn rfl))
         refine fxo (wcg (by rfl) rfl rfl (fun W h=>by simp [loadVar,h,go_sem]) z1 (wqn (by simp only [zq]))) ?_
         iterate 12 (refine fxo ?_ ?_;(go_big_quiet_step (fail);(try simp only [zq]);exact wqn rfl))
         exact fxn
        ·exact oN
        ·exact oN
        intro β wx1 E
        replace FR:=hid (FR.out.fnw E rfl)
        have hE:=E.below rfl
        simp only [nP,zr,zq]
        replace FR0:=hid FR.out.le
        clear E
        go_wp2
        go_ret
        exact ⟨ret_bool (by rw [HF.out,okLQ_no (by rw [←HN.out];exact hlt) HNO.out]),HBW.out.trans (FR.out.below.mono HBW.out.size)⟩
      | true =>
       have bh2:=inR_yes h2
       have nh2:¬x.units<1:=by omega
       have mh2:¬(1000000000000000:Int)<x.units:=by omega
       cases h3:inR x.value 0 1000000000000000 with
       | false =>
        have hno:=inR_no h3
        by_cases q1:x.value<0
        ·clear hno
         have HNO:=hid (show okAtQ l k=false by simp [okAtQ,HX.out,okQ,h1,h2,h3])
         refine wfn [] [(19,.pointer (some ⟨X,0,none⟩)),(20,.string x.key),(21,.bool true),(22,.bool false),(23,.bool false),(24,.pointer (some ⟨X,1,none⟩)),(25,.int .i64 x.units),(26,.bool false),(27,.bool false),(28,.bool false),(29,.pointer (some ⟨X,1,none⟩)),(30,.int .i64 x.units),(31,.bool false),(32,.bool false),(33,.bool false),(34,.pointer (some ⟨X,2,none⟩)),(35,.int .i64 x.value),(36,.bool true),(37,.bool true),(38,.bool true),(39,undef),(40,undef),(41,undef),(42,.bool true)] _ (by simp only [zz4,zz5,zq];rfl) (by kernel_rfl) (by kernel_rfl) rfl ?_ ?_ ?_ ?_
         ·intro W' hW'
          have z0:=cU x0 hW'
          have z1:=cU x1 hW'
          have z2:=cU x2 hW'
          refine fxo ?_ ?_;(go_big_quiet_step (fail);(try simp only [zq]);exact wqn rfl)
          refine fxo (wcg (by rfl) rfl rfl (fun W h=>by simp [loadVar,h,go_sem]) z0 (wqn (by simp only [zq]))) ?_
          refine fxo ?_ ?_;(go_big_quiet_step ((go_at_call 70;exact Calls.below_of (H1.out _)));(try simp only [zq]);exact wqn rfl)
          iterate 3 (refine fxo ?_ ?_;(go_big_quiet_step (fail);(try simp only [zq]);exact wqn rfl))
          refine fxo (wcg (by rfl) rfl rfl (fun W h=>by simp [loadVar,h,go_sem]) z1 (wqn (by simp only [zq]))) ?_
          iterate 4 (refine fxo ?_ ?_;(go_big_quiet_step (fail);(try simp only [zq]);exact wqn rfl))
          refine fxo (wcg (by rfl) rfl rfl (fun W h=>by simp [loadVar,h,go_sem]) z1 (wqn (by simp only [zq]))) ?_
          iterate 4 (refine fxo ?_ ?_;(go_big_quiet_step (fail);(try simp only [zq]);exact wqn rfl))
          refine fxo (wcg (by rfl) rfl rfl (fun W h=>by simp [loadVar,h,go_sem]) z2 (wqn (by simp only [zq]))) ?_
          iterate 7 (refine fxo ?_ ?_;(go_big_quiet_step (fail);(try simp only [zq]);exact wqn rfl))
          exact fxn
         ·exact oN
         ·exact oN
         intro β wx1 E
         replace FR:=hid (FR.out.fnw E rfl)
         have hE:=E.below rfl
         simp only [nP,zr,zq]
         replace FR0:=hid FR.out.le
         clear E
         go_wp2
         go_ret
         exact ⟨ret_bool (by rw [HF.out,okLQ_no (by rw [←HN.out];exact hlt) HNO.out]),HBW.out.trans (FR.out.below.mono HBW.out.size)⟩
        ·have q2:(1000000000000000:Int)<x.value:=by omega
         clear hno
         have HNO:=hid (show okAtQ l k=false by simp [okAtQ,HX.out,okQ,h1,h2,h3])
         refine wfn [] [(19,.pointer (some ⟨X,0,none⟩)),(20,.string x.key),(21,.bool true),(22,.bool false),(23,.bool false),(24,.pointer (some ⟨X,1,none⟩)),(25,.int .i64 x.units),(26,.bool false),(27,.bool false),(28,.bool false),(29,.pointer (some ⟨X,1,none⟩)),(30,.int .i64 x.units),(31,.bool false),(32,.bool false),(33,.bool false),(34,.pointer (some ⟨X,2,none⟩)),(35,.int .i64 x.value),(36,.bool false),(37,.bool false),(38,.bool false),(39,.pointer (some ⟨X,2,none⟩)),(40,.int .i64 x.value),(41,.bool true),(42,.bool true)] _ (by simp only [zz4,zz5,zq];rfl) (by kernel_rfl) (by kernel_rfl) rfl ?_ ?_ ?_ ?_
         ·intro W' hW'
          have z0:=cU x0 hW'
          have z1:=cU x1 hW'
          have z2:=cU x2 hW'
          refine fxo ?_ ?_;(go_big_quiet_step (fail);(try simp only [zq]);exact wqn rfl)
          refine fxo (wcg (by rfl) rfl rfl (fun W h=>by simp [loadVar,h,go_sem]) z0 (wqn (by simp only [zq]))) ?_
          refine fxo ?_ ?_;(go_big_quiet_step ((go_at_call 70;exact Calls.below_of (H1.out _)));(try simp only [zq]);exact wqn rfl)
          iterate 3 (refine fxo ?_ ?_;(go_big_quiet_step (fail);(try simp only [zq]);exact wqn rfl))
          refine fxo (wcg (by rfl) rfl rfl (fun W h=>by simp [loadVar,h,go_sem]) z1 (wqn (by simp only [zq]))) ?_
          iterate 4 (refine fxo ?_ ?_;(go_big_quiet_step (fail);(try simp only [zq]);exact wqn rfl))
          refine fxo (wcg (by rfl) rfl rfl (fun W h=>by simp [loadVar,h,go_sem]) z1 (wqn (by simp only [zq]))) ?_
          iterate 4 (refine fxo ?_ ?_;(go_big_quiet_step (fail);(try simp only [zq]);exact wqn rfl))
          refine fxo (wcg (by rfl) rfl rfl (fun W h=>by simp [loadVar,h,go_sem]) z2 (wqn (by simp only [zq]))) ?_
          iterate 4 (refine fxo ?_ ?_;(go_big_quiet_step (fail);(try simp only [zq]);exact wqn rfl))
          refine fxo (wcg (by rfl) rfl rfl (fun W h=>by simp [loadVar,h,go_sem]) z2 (wqn (by simp only [zq]))) ?_
          iterate 2 (refine fxo ?_ ?_;(go_big_quiet_step (fail);(try simp only [zq]);exact wqn rfl))
          exact fxn
         ·exact oN
         ·exact oN
         intro β wx1 E
         replace FR:=hid (FR.out.fnw E rfl)
         have hE:=E.below rfl
         simp only [nP,zr,zq]
         replace FR0:=hid FR.out.le
         clear E
         go_wp2
         go_ret
         exact ⟨ret_bool (by rw [HF.out,okLQ_no (by rw [←HN.out];exact hlt) HNO.out]),HBW.out.trans (FR.out.below.mono HBW.out.size)⟩
       | true =>
        have bh3:=inR_yes h3
        have nh3:¬x.value<0:=by omega
        have mh3:¬(1000000000000000:Int)<x.value:=by omega
        have HEQ:=hid (show okAtQ l k=!((l.take k).any fun c=>decide (c.key=x.key)) by simp [okAtQ,HX.out,okQ,h1,h2,h3])
        clear h1
        refine wfn [] [(19,.pointer (some ⟨X,0,none⟩)),(20,.string x.key),(21,.bool true),(22,.bool false),(23,.bool false),(24,.pointer (some ⟨X,1,none⟩)),(25,.int .i64 x.units),(26,.bool false),(27,.bool false),(28,.bool false),(29,.pointer (some ⟨X,1,none⟩)),(30,.int .i64 x.units),(31,.bool false),(32,.bool false),(33,.bool false),(34,.pointer (some ⟨X,2,none⟩)),(35,.int .i64 x.value),(36,.bool false),(37,.bool false),(38,.bool false),(39,.pointer (some ⟨X,2,none⟩)),(40,.int .i64 x.value),(41,.bool false),(42,.bool false)] _ (by simp only [zz4,zz5,zq];rfl) (by kernel_rfl) (by kernel_rfl) rfl ?_ ?_ ?_ ?_
        ·intro W' hW'
         have z0:=cU x0 hW'
         have z1:=cU x1 hW'
         have z2:=cU x2 hW'
         refine fxo ?_ ?_;(go_big_quiet_step (fail);(try simp only [zq]);exact wqn rfl)
         refine fxo (wcg (by rfl) rfl rfl (fun W h=>by simp [loadVar,h,go_sem]) z0 (wqn (by simp only [zq]))) ?_
         refine fxo ?_ ?_;(go_big_quiet_step ((go_at_call 70;exact Calls.below_of (H1.out _)));(try simp only [zq]);exact wqn rfl)
         iterate 3 (refine fxo ?_ ?_;(go_big_quiet_step (fail);(try simp only [zq]);exact wqn rfl))
         refine fxo (wcg (by rfl) rfl rfl (fun W h=>by simp [loadVar,h,go_sem]) z1 (wqn (by simp only [zq]))) ?_
         iterate 4 (refine fxo ?_ ?_;(go_big_quiet_step (fail);(try simp only [zq]);exact wqn rfl))
         refine fxo (wcg (by rfl) rfl rfl (fun W h=>by simp [loadVar,h,go_sem]) z1 (wqn (by simp only [zq]))) ?_
         iterate 4 (refine fxo ?_ ?_;(go_big_quiet_step (fail);(try simp only [zq]);exact wqn rfl))
         refine fxo (wcg (by rfl) rfl rfl (fun W h=>by simp [loadVar,h,go_sem]) z2 (wqn (by simp only [zq]))) ?_
         iterate 4 (refine fxo ?_ ?_;(go_big_quiet_step (fail);(try simp only [zq]);exact wqn rfl))
         refine fxo (wcg (by rfl) rfl rfl (fun W h=>by simp [loadVar,h,go_sem]) z2 (wqn (by simp only [zq]))) ?_
         iterate 2 (refine fxo ?_ ?_;(go_big_quiet_step (fail);(try simp only [zq]);exact wqn rfl))
         exact fxn
        ·exact oN
        ·exact oN
        intro β wx1 E
        replace FR:=hid (FR.out.fnw E rfl)
        have hE:=E.below rfl
        simp only [nP,zr,zq]
        replace FR0:=hid FR.out.le
        clear E
        have z0:=cU x0 FR.out.below
        have HBN:=hid (HBW.out.trans (FR.out.below.mono HBW.out.size))
        obtain ⟨W2,hW2⟩:∃ W,W=wx1:=⟨_,rfl⟩
        rw [←hW2] at z0 HBN ⊢
        clear hW2 FR FR0
        go_upto_region 10 with fail
        clear bh2 bh3 nh2 nh3 mh2 mh3 x0 x1 x2
        obtain ⟨gk0,rfl⟩:∃ q,q=gk:=⟨gk,rfl⟩
        have HMM:=hid (And.intro hm hlt)
        clear hm
        go_loopg [5] k (fun m jv wq=>∃ j:Nat,jv=.int .i64 (j:Int)∧j≤k∧k≤m+j∧(∀ i y,i<j→l[i]?=some y→y.key≠x.key)∧Below W2.heap.size W2 wq)
        case atStart=>exact ⟨0,rfl,by omega,by omega,fun i y hi=>absurd hi (by omega),Below.refl _ _⟩
        case round =>
         obtain ⟨j,rfl,hj,hmj,hall,hbw⟩:=hrel
         have HALL:=hid hall
         clear hall
         have hbq:=hid (HBN.out.trans (hbw.mono HBN.out.size))
         have y0:=cU z0 hbw
         have HBW2:=hid hbw
         clear hbw
         by_cases hjk:j<k
         ·obtain ⟨y,hy⟩:∃ y,l[j]?=some y:=⟨l[j]'(by rw [←HN.out];omega),by simp [←HN.out,show j<n by omega]⟩
          have c0:=((HC.out j y hy).below hbq.out).1
          have HY:=hid hy
          clear hy
          by_cases he:y.key=x.key
          ·have HNO:=hid (show okAtQ l k=false by rw [HEQ.out,anyq_yes hjk HY.out he];rfl)
           rw [he] at c0
           clear he
           go_upto_region 12 with fail
           go_quiet (fail)
           go_wp2
           go_ret
           exact ⟨ret_bool (by rw [HF.out,okLQ_no (by rw [←HN.out];exact hlt) HNO.out]),below_drewN hbq.out _⟩
          ·have HNE:=hid he
           have hne:(y.key.toList==x.key.toList)=false:=beqQ_false he
           clear he
           go_upto_region 12 with fail
           go_quiet (fail)
           go_wp2
           go_roundg (gk - 1)
           case measure=>omega
           case rel=>exact ⟨j+1,by go_num,by omega,by omega,fun i z hi hz=>by
            by_cases hij:i=j
            ·subst hij;rw [HY.out] at hz;injection hz with hz;rw [←hz];exact HNE.out
            ·exact HALL.out i z (by omega) hz,below_drewN HBW2.out _⟩
         ·have HYES:=hid (show okAtQ l k=true by rw [HEQ.out,anyq_no (fun i y hi hy=>HALL.out i y (by omega) hy)];rfl)
          go_wp2
          go_roundg (gk0 - 1)
          case measure=>have:=HMM.out;omega
          case rel=>exact ⟨k+1,by omega,by have:=HMM.out;omega,by go_num,fun i hi=>by
           by_cases hik:i=k
           ·rw [hik,HYES.out]
           ·exact HOK.out i (by omega),hbq.out⟩
    ·go_wp2
     go_ret
     exact ⟨ret_bool (by rw [HF.out,okLQ_yes (l:=l) (fun j hj=>HOK.out j (by rw [←HN.out] at hj;omega))]),HB0.out⟩
 ·have HF:=hid (show checkQ l=false by rw [hF,decide_eq_false hlen];rfl)
  have p1:(64:Int)<(l.length:Int):=by omega
  subst hv
  clear hF h hlen
  go_enter Tryz.func39,Tryz.ntmps39
  go_wp2
  go_ret
  exact ⟨ret_bool HF.out.symm,Below.refl _ _⟩
end Go.Proofs.YtooeabibhjbkoaaGreat
