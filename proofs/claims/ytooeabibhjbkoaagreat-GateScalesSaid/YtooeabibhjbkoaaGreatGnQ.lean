import Derived.Test.YtooeabibhjbkoaaGreatGeD
import Derived.Laws.Strings
import Derived.Test.YtooeabibhjbkoaaGreatGmA
set_option linter.unusedVariables false
set_option linter.unusedSimpArgs false
set_option maxRecDepth 100000
set_option maxHeartbeats 8000000
namespace Go.Proofs.YtooeabibhjbkoaaGreat
open Go.RowKit Big Reg Al Ap Ga
open Lib (hid)
theorem eSign {ca:List Value} {a:Qn} {s:Int} (h1:ca=resN (some a)) (ha:VQ a) (hs:s=a.1.sign) (w:World) :
  Calls Tryz.prog 105 #[.agg ca.toArray] w fun e w'=>e=.returned (.int .i64 s)∧Below w.heap.size w w':=by
 have V_ca:=hid (show ca=nm (decide (a.1<0)) a.1.natAbs false a.2 0 from h1)
 obtain ⟨va,V_va⟩:∃ c:List Value,Hid (c=rat (decide (a.1<0)) a.1.natAbs false a.2):=⟨_,hid rfl⟩
 have HC:=hid (jaL (ca:=va) V_va.out ha hs)
 clear h1 ha hs
 obtain ⟨B0,hB0⟩:∃ B,B=w.heap.size:=⟨_,rfl⟩
 obtain ⟨w0,hw0⟩:∃ w0,w0=(w.alloc (.cells ca.toArray 44)):=⟨_,rfl⟩
 have AB0:=hid (show At w0 B0 0 ca by rw [hw0];exact (show At (w.alloc (.cells ca.toArray 44)) B0 0 ca from At.fresh _ ca _ (by simp [hB0])))
 have FR:=hid (show Fr B0 w w0 by rw [hw0,hB0];exact (Fr.start w).alloc _)
 have FR0:=hid FR.out.le
 have hZB0:B0≤B0:=Nat.le_refl _
 have HB0:=hid hB0
 go_enter Tryz.func105,Tryz.ntmps105
 go_upto_region 1 with fail
 rw [←hw0,←hB0]
 clear hw0 hB0
 have AB0_v:=hid (AB0.out.val V_ca.out V_va.out)
 refine wfn [] [(6,.pointer (some ⟨B0,0,none⟩)),(7,.agg va.toArray),(8,.tuple #[.int .i64 s,.int .i64 0]),(5,.tuple #[.int .i64 s,.int .i64 0]),(9,.int .i64 s),(10,.int .i64 0),(3,.int .i64 s),(4,.int .i64 0)] _ (by simp only [zz4,zz5,zq];rfl) (by kernel_rfl) (by kernel_rfl) rfl ?_ ?_ ?_ ?_
 ·intro W' hW'
  have rd0:=AB0_v.out.below hW'
  refine fxo ?_ ?_;(go_big_quiet_step (fail);(try simp only [zq]);exact wqn rfl)
  refine fxo (wlg (by rfl) rfl rfl rd0 Tryz.underlying27 rfl (qR V_va.out) (wqn (by simp only [zq]))) ?_
  refine fxo ?_ ?_;(go_big_quiet_step ((go_at_call 144;exact qaA (HC.out _)));(try simp only [zq]);exact wqn rfl)
  iterate 5 (refine fxo ?_ ?_;(go_big_quiet_step (fail);(try simp only [zq]);exact wqn rfl))
  exact fxn
 ·exact oN
 ·exact oN
 intro β wx1 E
 replace FR:=hid (FR.out.fnw E rfl)
 replace AB0:=hid (AB0.out.fnw E rfl)
 replace AB0_v:=hid (AB0_v.out.fnw E rfl)
 have hE:=E.below rfl
 simp only [nP,zr,zq]
 replace FR0:=hid FR.out.le
 clear E
 go_wp2
 go_ret
 exact ⟨rfl,fend HB0 FR⟩
theorem rat_Z {n:Bool} {p q:Nat} (h:n=cs1 n p):rat n p false q=ratZ (zI n p) q:=by
 have:=qiV n p
 rw [←h] at this
 unfold ratZ
 rw [←this.1,←this.2]
theorem qxW {cr:List Value} {a:Qn} {t:Bool} (h1:cr=ratZ a.1 a.2) (ha:VQ a) (ht:t=decide (0<a.1)) (w:World) :
  Calls Tryz.prog 68 #[.agg cr.toArray] w fun e w'=>e=.returned (.bool t)∧Below w.heap.size w w':=by
 have V_cr:=hid (show cr=rat (decide (a.1<0)) a.1.natAbs false a.2 from h1)
 obtain ⟨cN,V_cN⟩:∃ c:List Value,Hid (c=nm (decide (a.1<0)) a.1.natAbs false a.2 0):=⟨_,hid rfl⟩
 obtain ⟨s,hs⟩:∃ s,s=a.1.sign:=⟨_,rfl⟩
 have HV:=hid (qdV h1 ha)
 have HO:=hid (eOf V_cr.out V_cN.out)
 have HS:=hid (eSign (ca:=cN) V_cN.out ha hs)
 have HT:=hid (show t=decide (0<s) by rw [ht,hs];congr 1;rw [Int.sign_pos_iff])
 clear h1 ha ht hs
 obtain ⟨B0,hB0⟩:∃ B,B=w.heap.size:=⟨_,rfl⟩
 obtain ⟨w0,hw0⟩:∃ w0,w0=(w.alloc (.cells cr.toArray 27)):=⟨_,rfl⟩
 have AB0:=hid (show At w0 B0 0 cr by rw [hw0];exact (show At (w.alloc (.cells cr.toArray 27)) B0 0 cr from At.fresh _ cr _ (by simp [hB0])))
 have FR:=hid (show Fr B0 w w0 by rw [hw0,hB0];exact (Fr.start w).alloc _)
 have FR0:=hid FR.out.le
 have hZB0:B0≤B0:=Nat.le_refl _
 have HB0:=hid hB0
 go_enter Tryz.func68,Tryz.ntmps68
 go_upto_region 1 with fail
 rw [←hw0,←hB0]
 clear hw0 hB0
 refine wfn [] [(3,.agg cr.toArray),(4,.bool true),(5,.bool true),(6,.agg cr.toArray),(7,.agg cN.toArray),(8,.int .i64 s),(9,.bool (decide (0<s))),(10,.bool (decide (0<s))),(2,.bool (decide (0<s)))] _ (by simp only [zz4,zz5,zq];rfl) (by kernel_rfl) (by kernel_rfl) rfl ?_ ?_ ?_ ?_
 ·intro W' hW'
  have rd0:=AB0.out.below hW'
  refine fxo (wlg (by rfl) rfl rfl rd0 Tryz.underlying27 rfl (qR V_cr.out) (wqn (by simp only [zq]))) ?_
  refine fxo ?_ ?_;(go_big_quiet_step ((go_at_call 77;exact qaA (HV.out _)));(try simp only [zq]);exact wqn rfl)
  refine fxo ?_ ?_;(go_big_quiet_step (fail);(try simp only [zq]);exact wqn rfl)
  refine fxo (wlg (by rfl) rfl rfl rd0 Tryz.underlying27 rfl (qR V_cr.out) (wqn (by simp only [zq]))) ?_
  refine fxo ?_ ?_;(go_big_quiet_step ((go_at_call 40;exact qaA (HO.out _)));(try simp only [zq]);exact wqn rfl)
  refine fxo ?_ ?_;(go_big_quiet_step ((go_at_call 105;exact qaA (HS.out _)));(try simp only [zq]);exact wqn rfl)
  iterate 3 (refine fxo ?_ ?_;(go_big_quiet_step (fail);(try simp only [zq]);exact wqn rfl))
  exact fxn
 ·exact oN
 ·exact oN
 intro β wx1 E
 replace FR:=hid (FR.out.fnw E rfl)
 replace AB0:=hid (AB0.out.fnw E rfl)
 have hE:=E.below rfl
 simp only [nP,zr,zq]
 replace FR0:=hid FR.out.le
 clear E
 go_wp2
 go_ret
 exact ⟨qaI HT.out.symm,by rw [HB0.out] at FR;exact FR.out.below⟩
theorem qwD {cr:List Value} {n m:Bool} {p q:Nat} (hr:cr=rat n p m q) (hp:p<BB^32) (hq:q<BB^32) (hbad:¬(p<B480∧q<B480∧n=cs1 n p∧m=false∧q≠0∧Nat.gcd p q=1)) (w:World) :
  Calls Tryz.prog 68 #[.agg cr.toArray] w fun e w'=>e=.returned (.bool false)∧Below w.heap.size w w':=by
 have V_cr:=hid hr
 have HV:=hid (qrL hr hp hq hbad)
 clear hr hp hq hbad
 obtain ⟨B0,hB0⟩:∃ B,B=w.heap.size:=⟨_,rfl⟩
 obtain ⟨w0,hw0⟩:∃ w0,w0=(w.alloc (.cells cr.toArray 27)):=⟨_,rfl⟩
 have AB0:=hid (show At w0 B0 0 cr by rw [hw0];exact (show At (w.alloc (.cells cr.toArray 27)) B0 0 cr from At.fresh _ cr _ (by simp [hB0])))
 have FR:=hid (show Fr B0 w w0 by rw [hw0,hB0];exact (Fr.start w).alloc _)
 have FR0:=hid FR.out.le
 have hZB0:B0≤B0:=Nat.le_refl _
 have HB0:=hid hB0
 go_enter Tryz.func68,Tryz.ntmps68
 go_upto_region 1 with fail
 rw [←hw0,←hB0]
 clear hw0 hB0
 refine wfn [] [(3,.agg cr.toArray),(4,.bool false),(5,.bool false),(6,undef),(7,undef),(8,undef),(9,undef),(10,.bool false),(2,.bool false)] _ (by simp only [zz4,zz5,zq];rfl) (by kernel_rfl) (by kernel_rfl) rfl ?_ ?_ ?_ ?_
 ·intro W' hW'
  have rd0:=AB0.out.below hW'
  refine fxo (wlg (by rfl) rfl rfl rd0 Tryz.underlying27 rfl (qR V_cr.out) (wqn (by simp only [zq]))) ?_
  refine fxo ?_ ?_;(go_big_quiet_step ((go_at_call 77;exact qaA (HV.out _)));(try simp only [zq]);exact wqn rfl)
  iterate 7 (refine fxo ?_ ?_;(go_big_quiet_step (fail);(try simp only [zq]);exact wqn rfl))
  exact fxn
 ·exact oN
 ·exact oN
 intro β wx1 E
 replace FR:=hid (FR.out.fnw E rfl)
 replace AB0:=hid (AB0.out.fnw E rfl)
 have hE:=E.below rfl
 simp only [nP,zr,zq]
 replace FR0:=hid FR.out.le
 clear E
 go_wp2
 go_ret
 exact ⟨rfl,fend HB0 FR⟩
theorem qwC {cr:List Value} {a:Qn} {t:Bool} (h1:cr=ratZ a.1 a.2) (ha:VQ a) (h0:0<a.1) (ht:t=decide (a.1≤(a.2:Int))) (w:World) :
  Calls Tryz.prog 69 #[.agg cr.toArray,.int .i64 0,.int .i64 1] w fun e w'=>e=.returned (.bool t)∧Below w.heap.size w w':=by
 have V_cr:=hid (show cr=rat (decide (a.1<0)) a.1.natAbs false a.2 from h1)
 obtain ⟨cN,V_cN⟩:∃ c:List Value,Hid (c=nm (decide (a.1<0)) a.1.natAbs false a.2 0):=⟨_,hid rfl⟩
 obtain ⟨c0,V_c0⟩:∃ c:List Value,Hid (c=nm false 0 false 1 0):=⟨_,hid rfl⟩
 obtain ⟨c1,V_c1⟩:∃ c:List Value,Hid (c=nm false 1 false 1 0):=⟨_,hid rfl⟩
 have hb:(1:Nat)<B480:=Nat.one_lt_pow (by decide) (by unfold BB;decide)
 have v0:VQ ((0:Int),1):=⟨by show (0:Nat)<B480;omega,hb,by decide,by decide⟩
 have v1:VQ ((1:Int),1):=⟨hb,hb,by decide,by decide⟩
 have HV:=hid (qdV h1 ha)
 have HO:=hid (eOf V_cr.out V_cN.out)
 have HI0:=hid (qxU (cN:=c0) (z:=0) V_c0.out (by decide) (by decide))
 have HI1:=hid (qxU (cN:=c1) (z:=1) V_c1.out (by decide) (by decide))
 have HL0:=hid (qzQ (ca:=cN) (cb:=c0) (a:=a) (b:=((0:Int),1)) (t:=false) V_cN.out V_c0.out ha v0 (by symm;apply decide_eq_false;simp;omega))
 obtain ⟨u,hu⟩:∃ u,u=!t:=⟨_,rfl⟩
 have HU:=hid (show (!u)=t by rw [hu,Bool.not_not])
 have HL1:=hid (qzQ (ca:=c1) (cb:=cN) (a:=((1:Int),1)) (b:=a) (t:=u) V_c1.out V_cN.out v1 ha (by
  rw [hu,ht]
  by_cases h:a.1≤(a.2:Int)
  ·rw [decide_eq_true h,decide_eq_false];rfl;simp;omega
  ·rw [decide_eq_false h,decide_eq_true];rfl;simp;omega))
 clear h1 ha h0 ht hb v0 v1 hu
 obtain ⟨B0,hB0⟩:∃ B,B=w.heap.size:=⟨_,rfl⟩
 obtain ⟨w0,hw0⟩:∃ w0,w0=(w.alloc (.cells cr.toArray 27)):=⟨_,rfl⟩
 have AB0:=hid (show At w0 B0 0 cr by rw [hw0];exact (show At (w.alloc (.cells cr.toArray 27)) B0 0 cr from At.fresh _ cr _ (by simp [hB0])))
 have FR:=hid (show Fr B0 w w0 by rw [hw0,hB0];exact (Fr.start w).alloc _)
 have FR0:=hid FR.out.le
 have hZB0:B0≤B0:=Nat.le_refl _
 have HB0:=hid hB0
 go_enter Tryz.func69,Tryz.ntmps69
 go_upto_region 1 with fail
 rw [←hw0,←hB0]
 clear hw0 hB0
 refine wfn [] [(7,.agg cr.toArray),(8,.bool true),(9,.bool true),(10,.agg cr.toArray),(11,.agg cN.toArray),(12,.int .i64 0),(13,.agg c0.toArray),(14,.bool false),(15,.bool true),(16,.bool true),(17,.bool true),(18,.int .i64 1),(19,.agg c1.toArray),(20,.agg cr.toArray),(21,.agg cN.toArray),(22,.bool u),(23,.bool (!u)),(24,.bool (!u)),(6,.bool (!u))] _ (by simp only [zz4,zz5,zq];rfl) (by kernel_rfl) (by kernel_rfl) rfl ?_ ?_ ?_ ?_
 ·intro W' hW'
  have rd0:=AB0.out.below hW'
  refine fxo (wlg (by rfl) rfl rfl rd0 Tryz.underlying27 rfl (qR V_cr.out) (wqn (by simp only [zq]))) ?_
  refine fxo ?_ ?_;(go_big_quiet_step ((go_at_call 77;exact qaA (HV.out _)));(try simp only [zq]);exact wqn rfl)
  refine fxo ?_ ?_;(go_big_quiet_step (fail);(try simp only [zq]);exact wqn rfl)
  refine fxo (wlg (by rfl) rfl rfl rd0 Tryz.underlying27 rfl (qR V_cr.out) (wqn (by simp only [zq]))) ?_
  refine fxo ?_ ?_;(go_big_quiet_step ((go_at_call 40;exact qaA (HO.out _)));(try simp only [zq]);exact wqn rfl)
  refine fxo ?_ ?_;(go_big_quiet_step (fail);(try simp only [zq]);exact wqn rfl)
  refine fxo ?_ ?_;(go_big_quiet_step ((go_at_call 19;exact qaA (HI0.out _)));(try simp only [zq]);exact wqn rfl)
  refine fxo ?_ ?_;(go_big_quiet_step ((go_at_call 23;exact qaA (HL0.out _)));(try simp only [zq]);exact wqn rfl)
  iterate 4 (refine fxo ?_ ?_;(go_big_quiet_step (fail);(try simp only [zq]);exact wqn rfl))
  refine fxo ?_ ?_;(go_big_quiet_step ((go_at_call 19;exact qaA (HI1.out _)));(try simp only [zq]);exact wqn rfl)
  refine fxo (wlg (by rfl) rfl rfl rd0 Tryz.underlying27 rfl (qR V_cr.out) (wqn (by simp only [zq]))) ?_
  refine fxo ?_ ?_;(go_big_quiet_step ((go_at_call 40;exact qaA (HO.out _)));(try simp only [zq]);exact wqn rfl)
  refine fxo ?_ ?_;(go_big_quiet_step ((go_at_call 23;exact qaA (HL1.out _)));(try simp only [zq]);exact wqn rfl)
  iterate 3 (refine fxo ?_ ?_;(go_big_quiet_step (fail);(try simp only [zq]);exact wqn rfl))
  exact fxn
 ·exact oN
 ·exact oN
 intro β wx1 E
 replace FR:=hid (FR.out.fnw E rfl)
 replace AB0:=hid (AB0.out.fnw E rfl)
 have hE:=E.below rfl
 simp only [nP,zr,zq]
 replace FR0:=hid FR.out.le
 clear E
 go_wp2
 go_ret
 exact ⟨qaI HU.out,by rw [HB0.out] at FR;exact FR.out.below⟩
theorem qrQ {cr:List Value} {n m:Bool} {p q:Nat} (h:cr=rat n p m q) (hp:p<BB^32) (hq:q<BB^32) (w:World) :
  Calls Tryz.prog 38 #[.agg cr.toArray] w fun e w'=>e=.returned (.bool (gtB n m p q))∧Below w.heap.size w w':=by
 have hG:=gtB.eq_1 n m p q
 have V_cr:=hid h
 by_cases hok:p<B480∧q<B480∧n=cs1 n p∧m=false∧q≠0∧Nat.gcd p q=1
 ·rw [decide_eq_true hok,Bool.true_and] at hG
  obtain ⟨b1,b2,b3,b4,b5,b6⟩:=hok
  subst b4
  have hz:cr=ratZ (zI n p) q:=by rw [h,rat_Z b3]
  have hc:=qiV n p
  rw [←b3] at hc
  have hV:VQ (zI n p,q):=⟨by show (zI n p).natAbs<B480;rw [←hc.2];exact b1,b2,b5,by show Nat.gcd (zI n p).natAbs q=1;rw [←hc.2];exact b6⟩
  by_cases h0:0<zI n p
  ·have hn:n=false:=by rw [hc.1];exact decide_eq_false (by omega)
   have HG:=hid (show gtB n false p q=decide (zI n p≤(q:Int)) by
    rw [hG];subst hn
    have:zI false p=(p:Int):=rfl
    rw [this] at h0 ⊢
    congr 1;apply propext;constructor
    ·intro h;omega
    ·intro h;exact ⟨rfl,by omega,by omega⟩)
   have HA:=hid (qxW (a:=(zI n p,q)) (t:=true) hz hV (decide_eq_true h0).symm)
   have HW:=hid (qwC (a:=(zI n p,q)) (t:=decide (zI n p≤(q:Int))) hz hV h0 rfl)
   obtain ⟨t,ht⟩:∃ t,t=decide (zI n p≤(q:Int)):=⟨_,rfl⟩
   rw [←ht] at HG HW
   clear hG hz hc hV h0 hn b1 b2 b3 b5 b6 ht h hp hq
   obtain ⟨B0,hB0⟩:∃ B,B=w.heap.size:=⟨_,rfl⟩
   obtain ⟨w0,hw0⟩:∃ w0,w0=(w.alloc (.cells cr.toArray 27)):=⟨_,rfl⟩
   have AB0:=hid (show At w0 B0 0 cr by rw [hw0];exact (show At (w.alloc (.cells cr.toArray 27)) B0 0 cr from At.fresh _ cr _ (by simp [hB0])))
   have FR:=hid (show Fr B0 w w0 by rw [hw0,hB0];exact (Fr.start w).alloc _)
   have FR0:=hid FR.out.le
   have hZB0:B0≤B0:=Nat.le_refl _
   have HB0:=hid hB0
   go_enter Tryz.func38,Tryz.ntmps38
   go_upto_region 1 with fail
   rw [←hw0,←hB0]
   clear hw0 hB0
   refine wfn [] [(3,.agg cr.toArray),(4,.bool true),(5,.bool true),(6,.agg cr.toArray),(7,.bool t),(8,.bool t),(2,.bool t)] _ (by simp only [zz4,zz5,zq];rfl) (by kernel_rfl) (by kernel_rfl) rfl ?_ ?_ ?_ ?_
   ·intro W' hW'
    have rd0:=AB0.out.below hW'
    refine fxo (wlg (by rfl) rfl rfl rd0 Tryz.underlying27 rfl (qR V_cr.out) (wqn (by simp only [zq]))) ?_
    refine fxo ?_ ?_;(go_big_quiet_step ((go_at_call 68;exact qaA (HA.out _)));(try simp only [zq]);exact wqn rfl)
    refine fxo ?_ ?_;(go_big_quiet_step (fail);(try simp only [zq]);exact wqn rfl)
    refine fxo (wlg (by rfl) rfl rfl rd0 Tryz.underlying27 rfl (qR V_cr.out) (wqn (by simp only [zq]))) ?_
    refine fxo ?_ ?_;(go_big_quiet_step ((go_at_call 69;exact qaA (HW.out _)));(try simp only [zq]);exact wqn rfl)
    iterate 2 (refine fxo ?_ ?_;(go_big_quiet_step (fail);(try simp only [zq]);exact wqn rfl))
    exact fxn
   ·exact oN
   ·exact oN
   intro β wx1 E
   replace FR:=hid (FR.out.fnw E rfl)
   replace AB0:=hid (AB0.out.fnw E rfl)
   have hE:=E.below rfl
   simp only [nP,zr,zq]
   replace FR0:=hid FR.out.le
   clear E
   go_wp2
   go_ret
   exact ⟨qaI HG.out.symm,by rw [HB0.out] at FR;exact FR.out.below⟩
  ·have HG:=hid (show gtB n false p q=false by
    rw [hG];apply decide_eq_false
    rintro ⟨rfl,h1,_⟩
    exact h0 (show (0:Int)<(p:Int) by omega))
   have HA:=hid (qxW (a:=(zI n p,q)) (t:=false) hz hV (decide_eq_false h0).symm)
   clear hG hz hc hV h0 b1 b2 b3 b5 b6 h hp hq
   obtain ⟨B0,hB0⟩:∃ B,B=w.heap.size:=⟨_,rfl⟩
   obtain ⟨w0,hw0⟩:∃ w0,w0=(w.alloc (.cells cr.toArray 27)):=⟨_,rfl⟩
   have AB0:=hid (show At w0 B0 0 cr by rw [hw0];exact (show At (w.alloc (.cells cr.toArray 27)) B0 0 cr from At.fresh _ cr _ (by simp [hB0])))
   have FR:=hid (show Fr B0 w w0 by rw [hw0,hB0];exact (Fr.start w).alloc _)
   have FR0:=hid FR.out.le
   have hZB0:B0≤B0:=Nat.le_refl _
   have HB0:=hid hB0
   go_enter Tryz.func38,Tryz.ntmps38
   go_upto_region 1 with fail
   rw [←hw0,←hB0]
   clear hw0 hB0
   refine wfn [] [(3,.agg cr.toArray),(4,.bool false),(5,.bool false),(6,undef),(7,undef),(8,.bool false),(2,.bool false)] _ (by simp only [zz4,zz5,zq];rfl) (by kernel_rfl) (by kernel_rfl) rfl ?_ ?_ ?_ ?_
   ·intro W' hW'
    have rd0:=AB0.out.below hW'
    refine fxo (wlg (by rfl) rfl rfl rd0 Tryz.underlying27 rfl (qR V_cr.out) (wqn (by simp only [zq]))) ?_
    refine fxo ?_ ?_;(go_big_quiet_step ((go_at_call 68;exact qaA (HA.out _)));(try simp only [zq]);exact wqn rfl)
    iterate 5 (refine fxo ?_ ?_;(go_big_quiet_step (fail);(try simp only [zq]);exact wqn rfl))
    exact fxn
   ·exact oN
   ·exact oN
   intro β wx1 E
   replace FR:=hid (FR.out.fnw E rfl)
   replace AB0:=hid (AB0.out.fnw E rfl)
   have hE:=E.below rfl
   simp only [nP,zr,zq]
   replace FR0:=hid FR.out.le
   clear E
   go_wp2
   go_ret
   exact ⟨qaI HG.out.symm,by rw [HB0.out] at FR;exact FR.out.below⟩
 ·have HG:=hid (show gtB n m p q=false by rw [hG,decide_eq_false hok];rfl)
  have HA:=hid (qwD h hp hq hok)
  clear hG hok h hp hq
  obtain ⟨B0,hB0⟩:∃ B,B=w.heap.size:=⟨_,rfl⟩
  obtain ⟨w0,hw0⟩:∃ w0,w0=(w.alloc (.cells cr.toArray 27)):=⟨_,rfl⟩
  have AB0:=hid (show At w0 B0 0 cr by rw [hw0];exact (show At (w.alloc (.cells cr.toArray 27)) B0 0 cr from At.fresh _ cr _ (by simp [hB0])))
  have FR:=hid (show Fr B0 w w0 by rw [hw0,hB0];exact (Fr.start w).alloc _)
  have FR0:=hid FR.out.le
  have hZB0:B0≤B0:=Nat.le_refl _
  have HB0:=hid hB0
  go_enter Tryz.func38,Tryz.ntmps38
  go_upto_region 1 with fail
  rw [←hw0,←hB0]
  clear hw0 hB0
  refine wfn [] [(3,.agg cr.toArray),(4,.bool false),(5,.bool false),(6,undef),(7,undef),(8,.bool false),(2,.bool false)] _ (by simp only [zz4,zz5,zq];rfl) (by kernel_rfl) (by kernel_rfl) rfl ?_ ?_ ?_ ?_
  ·intro W' hW'
   have rd0:=AB0.out.below hW'
   refine fxo (wlg (by rfl) rfl rfl rd0 Tryz.underlying27 rfl (qR V_cr.out) (wqn (by simp only [zq]))) ?_
   refine fxo ?_ ?_;(go_big_quiet_step ((go_at_call 68;exact qaA (HA.out _)));(try simp only [zq]);exact wqn rfl)
   iterate 5 (refine fxo ?_ ?_;(go_big_quiet_step (fail);(try simp only [zq]);exact wqn rfl))
   exact fxn
  ·exact oN
  ·exact oN
  intro β wx1 E
  replace FR:=hid (FR.out.fnw E rfl)
  replace AB0:=hid (AB0.out.fnw E rfl)
  have hE:=E.below rfl
  simp only [nP,zr,zq]
  replace FR0:=hid FR.out.le
  clear E
  go_wp2
  go_ret
  exact ⟨qaI HG.out.symm,by rw [HB0.out] at FR;exact FR.out.below⟩
theorem qdY {N:Int} {D:Nat} (h1:N.natAbs<B480) (h2:D<B480):∃ r,mkQ N D=some r:=by
 unfold mkQ
 rw [if_pos ⟨Nat.lt_of_le_of_lt (Nat.div_le_self _ _) h1,Nat.lt_of_le_of_lt (Nat.div_le_self _ _) h2⟩]
 exact ⟨_,rfl⟩
theorem qbU:(1000000000000000000000000000000000:Nat)<B480:=by unfold B480 BB;decide
theorem qiG {z:Int} (h:z.natAbs<1000000000000000000000000000000000):VQ (z,1):=⟨Nat.lt_trans h qbU,Nat.lt_trans (show (1:Nat)<_ by decide) qbU,Nat.one_ne_zero,by show Nat.gcd z.natAbs 1=1;simp⟩
theorem qrM {net:Int} {p q:Nat} {r:Qn} (hq:q≠0) (h:mulQ ((p:Int),q) (net,1)=some r):∃ r',mulQ ((p:Int),q) (max net 0,1)=some r':=by
 by_cases hn:0≤net
 ·rw [show max net 0=net by omega];exact ⟨r,h⟩
 ·rw [show max net 0=0 by omega]
  refine ⟨(0,1),?_⟩
  unfold mulQ mkQ
  simp only [Int.mul_zero,Int.natAbs_zero,Nat.gcd_zero_left,Nat.zero_div,Int.sign_zero,Int.zero_mul,Nat.mul_one]
  rw [Nat.div_self (Nat.pos_of_ne_zero hq),if_pos ⟨Nat.lt_trans (by decide) qbU,Nat.lt_trans (by decide) qbU⟩]
end Go.Proofs.YtooeabibhjbkoaaGreat
namespace Go.Proofs.YtooeabibhjbkoaaGreat
open Go.RowKit Big Reg Al Ap Ga
theorem jaT {N:Int} {D:Nat} (h:D≠0):(N.sign*(N.natAbs / Nat.gcd N.natAbs D:Nat))*(D:Int)=N*(D / Nat.gcd N.natAbs D:Nat)∧Nat.gcd (N.sign*(N.natAbs / Nat.gcd N.natAbs D:Nat)).natAbs (D / Nat.gcd N.natAbs D)=1∧D / Nat.gcd N.natAbs D≠0:=by
 have hg:=qdL (N:=N) h
 have hs:=(qeR N (N.natAbs / Nat.gcd N.natAbs D) (fun h0=>by subst h0;simp)).1
 refine ⟨?_,?_,?_⟩
 ·obtain ⟨a,ha⟩:=Nat.gcd_dvd_left N.natAbs D
  obtain ⟨d,hd⟩:=Nat.gcd_dvd_right N.natAbs D
  generalize Nat.gcd N.natAbs D=g at *
  have e1:N.natAbs / g=a:=by rw [ha,Nat.mul_div_cancel_left _ hg]
  have e2:D / g=d:=by rw [hd,Nat.mul_div_cancel_left _ hg]
  rw [e1,e2]
  have e3:N=N.sign*((g*a:Nat):Int):=by rw [←ha];exact (Int.sign_mul_natAbs N).symm
  have e4:(D:Int)=(g:Int)*d:=by rw [←Int.natCast_mul,←hd]
  rw [e4]
  conv=>rhs;rw [e3]
  rw [Int.natCast_mul]
  generalize N.sign=s
  grind
 ·rw [hs,Nat.gcd_div (Nat.gcd_dvd_left _ _) (Nat.gcd_dvd_right _ _),Nat.div_self hg]
 ·have:=Nat.div_pos (Nat.le_of_dvd (by omega) (Nat.gcd_dvd_right N.natAbs D)) hg
  omega
theorem qjN {N:Int} {D:Nat} (h:D≠0) {r:Qn} (hr:mkQ N D=some r):r.1*(D:Int)=N*(r.2:Int)∧r.1.natAbs≤N.natAbs∧r.2≤D:=by
 have hl:=jaT (N:=N) h
 have hs:=(qeR N (N.natAbs / Nat.gcd N.natAbs D) (fun h0=>by subst h0;simp)).1
 unfold mkQ at hr
 split at hr
 ·injection hr with hr
  subst hr
  refine ⟨hl.1,?_,Nat.div_le_self _ _⟩
  show (N.sign*(N.natAbs / Nat.gcd N.natAbs D:Nat)).natAbs≤_
  rw [hs];exact Nat.div_le_self _ _
 ·cases hr
namespace Ga
theorem qoL (p q:Nat):ratZ (p:Int) q=rat false p false q:=by
 unfold ratZ
 rw [decide_eq_false (by omega),Int.natAbs_natCast]
theorem qtF {k:Int} (h1:1≤k) (h2:k≤100):∃ p q:Nat,mkQ k 100=some ((p:Int),q)∧gtB false false p q=true∧p≤100∧q≤100∧q≠0∧(p:Int)*100=k*(q:Int):=by
 have hb:=qbU
 obtain ⟨r,hr⟩:=qdY (N:=k) (D:=100) (by omega) (by omega)
 have hv:=qbS (by decide) hr
 obtain ⟨e1,e2,e3⟩:=qjN (by decide) hr
 have hq:(0:Int)<(r.2:Int):=by have:=hv.pos;omega
 have hpos:0<r.1:=by
  have h3:0<r.1*((100:Nat):Int):=by rw [e1];exact Int.mul_pos (by omega) hq
  omega
 have hle:k*(r.2:Int)≤100*(r.2:Int):=Int.mul_le_mul_of_nonneg_right h2 (by omega)
 obtain ⟨p,hp⟩:∃ p:Nat,r.1=(p:Int):=⟨r.1.toNat,by omega⟩
 refine ⟨p,r.2,by rw [hr,←hp],?_,by omega,e3,hv.pos,by rw [←hp];exact e1⟩
 have hn:=hv.num
 have hl:=hv.low
 rw [hp,Int.natAbs_natCast] at hn hl
 have hz:=hv.pos
 have hd:=hv.den
 unfold gtB
 rw [decide_eq_true ⟨hn,hd,by unfold cs1;simp,rfl,hz,hl⟩,decide_eq_true ⟨rfl,by omega,by omega⟩]
 rfl
theorem qoP {p q:Nat} {net:Int} (hp:p≤100) (hq:q≤100) (hn:net.natAbs≤1000000000000000):∃ r,mulQ ((p:Int),q) (net,1)=some r:=by
 have hb:=qbU
 refine qdY ?_ ?_
 ·show ((p:Int)*net).natAbs<B480
  rw [Int.natAbs_mul,Int.natAbs_natCast]
  have:p*net.natAbs≤100*1000000000000000:=Nat.mul_le_mul hp hn
  omega
 ·show q*1<B480
  omega
theorem qnX {net:Int} {p q:Nat} {l:List Rq} (hg:gtB false false p q=true) (hp:p≤100) (hq:q≤100) (hn:net.natAbs≤1000000000000000) (hl:checkQ l=true):allowE net false false p q l=if l.length=0 then some 0 else none:=by
 obtain ⟨r,hr⟩:=qoP hp hq hn
 unfold allowE
 rw [if_neg (by omega),hg,if_neg (by decide),hl,if_neg (by decide),hr,if_neg (by simp)]
theorem jaK {x:Rq} {p:Nat} (hv:0<x.value) (hu:0≤x.units):scI x p=((x.units.toNat*p / x.value.toNat:Nat):Int):=by
 unfold scI
 split
 ·rename_i h
  have:p=x.value.toNat:=by omega
  rw [this,Nat.mul_div_cancel _ (by omega)]
  omega
 ·rfl
theorem qoA {l:List Rq} {i:Nat} {x:Rq} (h:l[i]?=some x):(valsN l).getD i 0=x.value.toNat:=by simp [valsN,List.getD,h]
theorem qjJ {r:Int} {l:List Rq} {outs:List Int} (h:Outs r l outs):outs.length=l.length∧∃ ps,CapsP r.toNat (valsN l) ps∧ps.length=l.length∧∀ i x,l[i]?=some x→outs[i]?=some (scI x (ps.getD i 0)):=by
 obtain ⟨ps,hc,rfl⟩:=h
 have hl:ps.length=l.length:=by rw [hc.1];simp [valsN]
 refine ⟨by rw [scaleL,List.length_zipWith,hl,Nat.min_self],ps,hc,hl,fun i x hx=>?_⟩
 have hi:i<ps.length:=by rw [hl];exact (List.getElem?_eq_some_iff.1 hx).1
 rw [scaleL,List.getElem?_zipWith,hx,List.getElem?_eq_getElem hi]
 simp [List.getD,hi]
end Ga
namespace Ga
theorem quH:1000000000000*1000000^9<B480:=by unfold B480 BB;decide +kernel
structure SumOk (k P:Nat) (S:Qn):Prop where
 vq:VQ S
 pos:0≤S.1
 le:S.1≤(P:Int)*(S.2:Int)
 den:S.2≤1000000^k
theorem quR:SumOk 0 0 (0,1):=⟨qiG (by decide),by decide,by decide,by decide⟩
theorem qpQ {k P p v u:Nat} {a:Int} {S:Qn} (h:SumOk k P S) (hk:k<8) (hP:P≤100000000000) (hp:p≤1000000000) (hu:1≤u) (hu2:u≤1000000) (hv:v≤999000000) (ha:0≤a) (hau:a≤(u:Int)) (hva:(v:Int)*a≤(u:Int)*(p:Int)) :
  ∃ Q M T,mkQ a u=some Q∧mulQ ((v:Int),1) Q=some M∧addQ S M=some T∧VQ Q∧VQ M∧SumOk (k+1) (P+p) T:=by
 have hb:=qbU
 have hb2:=quH
 obtain ⟨Q,hQ⟩:=qdY (N:=a) (D:=u) (by omega) (by omega)
 have vQ:=qbS (by omega) hQ
 obtain ⟨q1,q2,q3⟩:=qjN (by omega) hQ
 have hQ0:(0:Int)<(Q.2:Int):=by have:=vQ.pos;omega
 have hvq:((v:Int)*Q.1).natAbs≤999000000*1000000:=by
  rw [Int.natAbs_mul,Int.natAbs_natCast]
  exact Nat.mul_le_mul hv (by omega)
 obtain ⟨M,hM⟩:∃ M,mulQ ((v:Int),1) Q=some M:=qdY (by show ((v:Int)*Q.1).natAbs<B480;omega) (by show 1*Q.2<B480;omega)
 have hM':mkQ ((v:Int)*Q.1) (1*Q.2)=some M:=hM
 have hD1:1*Q.2≠0:=by have:=vQ.pos;omega
 have vM:=qbS hD1 hM'
 obtain ⟨m1,m2,m3⟩:=qjN hD1 hM'
 rw [Nat.one_mul] at m1 m3
 have hM0:(0:Int)<(M.2:Int):=by have:=vM.pos;omega
 have hS0:(0:Int)<(S.2:Int):=by have:=h.vq.pos;omega
 have hu0:(0:Int)<(u:Int):=by omega
 -- M=v a / u
 have e1:M.1*(u:Int)*(Q.2:Int)=(v:Int)*a*(M.2:Int)*(Q.2:Int):=by
  have:M.1*(u:Int)*(Q.2:Int)=M.1*(Q.2:Int)*(u:Int):=by grind
  rw [this,m1]
  have:(v:Int)*Q.1*(M.2:Int)*(u:Int)=(v:Int)*(Q.1*(u:Int))*(M.2:Int):=by grind
  rw [this,q1]
  grind
 have e2:M.1*(u:Int)=(v:Int)*a*(M.2:Int):=Int.eq_of_mul_eq_mul_right (by omega) e1
 have hM1:M.1≤(p:Int)*(M.2:Int):=by
  have h1:M.1*(u:Int)≤(p:Int)*(M.2:Int)*(u:Int):=by
   rw [e2]
   have:(p:Int)*(M.2:Int)*(u:Int)=(u:Int)*(p:Int)*(M.2:Int):=by grind
   rw [this]
   exact Int.mul_le_mul_of_nonneg_right hva (by omega)
  exact Int.le_of_mul_le_mul_right h1 hu0
 have hMp:0≤M.1:=by
  have h1:0*(u:Int)≤M.1*(u:Int):=by
   rw [e2,Int.zero_mul]
   exact Int.mul_nonneg (Int.mul_nonneg (by omega) ha) (by omega)
  exact Int.le_of_mul_le_mul_right h1 hu0
 -- the sum
 have hN:qpH S M≤((P+p:Nat):Int)*(((S.2*M.2:Nat)):Int):=by
  unfold qpH
  have a1:S.1*(M.2:Int)≤(P:Int)*(S.2:Int)*(M.2:Int):=Int.mul_le_mul_of_nonneg_right h.le (by omega)
  have a2:M.1*(S.2:Int)≤(p:Int)*(M.2:Int)*(S.2:Int):=Int.mul_le_mul_of_nonneg_right hM1 (by omega)
  have a3:((P+p:Nat):Int)*(((S.2*M.2:Nat)):Int)=(P:Int)*(S.2:Int)*(M.2:Int)+(p:Int)*(M.2:Int)*(S.2:Int):=by
   rw [Int.natCast_add,Int.natCast_mul];grind
  omega
 have hN0:0≤qpH S M:=by
  unfold qpH
  have a1:0≤S.1*(M.2:Int):=Int.mul_nonneg h.pos (by omega)
  have a2:0≤M.1*(S.2:Int):=Int.mul_nonneg hMp (by omega)
  omega
 have hd:S.2*M.2≤1000000^(k+1):=by
  rw [Nat.pow_succ]
  exact Nat.mul_le_mul h.den (by omega)
 have hd8:(1000000:Nat)^(k+1)≤1000000^9:=Nat.pow_le_pow_right (by decide) (by omega)
 have hbig:(P+p)*(S.2*M.2)≤1000000000000*1000000^9:=Nat.mul_le_mul (by omega) (Nat.le_trans hd hd8)
 have hbig2:S.2*M.2≤1000000000000*1000000^9:=by
  have:1*(1000000:Nat)^9≤1000000000000*1000000^9:=Nat.mul_le_mul_right _ (by decide)
  omega
 have hNn:(qpH S M).natAbs≤(P+p)*(S.2*M.2):=by
  have:((qpH S M).natAbs:Int)≤(((P+p)*(S.2*M.2):Nat):Int):=by rw [Int.natCast_mul];omega
  omega
 obtain ⟨T,hT⟩:∃ T,addQ S M=some T:=qdY (by omega) (by omega)
 have hDD:S.2*M.2≠0:=Nat.mul_ne_zero h.vq.pos vM.pos
 have vT:=qbS hDD (show mkQ (qpH S M) (S.2*M.2)=some T from hT)
 obtain ⟨t1,t2,t3⟩:=qjN hDD (show mkQ (qpH S M) (S.2*M.2)=some T from hT)
 have hT0:(0:Int)<(T.2:Int):=by have:=vT.pos;omega
 have hDp:(0:Int)<((S.2*M.2:Nat):Int):=by omega
 refine ⟨Q,M,T,hQ,hM,hT,vQ,vM,vT,?_,?_,Nat.le_trans t3 hd⟩
 ·have h1:0*((S.2*M.2:Nat):Int)≤T.1*((S.2*M.2:Nat):Int):=by rw [t1,Int.zero_mul];exact Int.mul_nonneg hN0 (by omega)
  exact Int.le_of_mul_le_mul_right h1 hDp
 ·have h1:T.1*((S.2*M.2:Nat):Int)≤((P+p:Nat):Int)*(T.2:Int)*((S.2*M.2:Nat):Int):=by
   rw [t1]
   have:=Int.mul_le_mul_of_nonneg_right hN (c:=(T.2:Int)) (by omega)
   have e:((P+p:Nat):Int)*(T.2:Int)*((S.2*M.2:Nat):Int)=((P+p:Nat):Int)*((S.2*M.2:Nat):Int)*(T.2:Int):=by grind
   rw [e];exact this
  exact Int.le_of_mul_le_mul_right h1 hDp
theorem sc_bd {x:Rq} {p:Nat} (hu:1≤x.units) (hv:0≤x.value) (hp:(p:Int)≤x.value):0≤scI x p∧scI x p≤x.units∧x.value*scI x p≤x.units*(p:Int):=by
 by_cases h0:0<x.value
 ·rw [jaK h0 (by omega)]
  obtain ⟨u,hu'⟩:∃ u:Nat,x.units=(u:Int):=⟨x.units.toNat,by omega⟩
  obtain ⟨v,hv'⟩:∃ v:Nat,x.value=(v:Int):=⟨x.value.toNat,by omega⟩
  rw [hu',hv',Int.toNat_natCast,Int.toNat_natCast]
  have h1:u*p / v≤u:=Nat.div_le_of_le_mul (by rw [Nat.mul_comm v u];exact Nat.mul_le_mul_left _ (by omega))
  have h2:=Nat.div_mul_le_self (u*p) v
  refine ⟨Int.natCast_nonneg _,Int.ofNat_le.2 h1,?_⟩
  rw [Int.mul_comm]
  exact_mod_cast h2
 ·have:x.value=0:=by omega
  have hp0:(p:Int)=x.value:=by omega
  unfold scI
  rw [if_pos hp0,hp0,this]
  omega
theorem qwP {T:Nat} {ws ps:List Nat} (h:CapsP T ws ps):sumL ps≤T:=by
 rcases h.2 with ⟨h1,rfl⟩|⟨h1,h2⟩
 ·exact h1
 ·rw [qkV (by omega) h2];exact Nat.le_refl _
end Ga
end Go.Proofs.YtooeabibhjbkoaaGreat
