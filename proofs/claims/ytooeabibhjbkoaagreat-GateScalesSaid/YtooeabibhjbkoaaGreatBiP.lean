import Derived.Test.YtooeabibhjbkoaaGreatPcA
import Derived.Test.YtooeabibhjbkoaaGreatQrB
import Derived.Test.YtooeabibhjbkoaaGreatBiM
import Derived.Test.YtooeabibhjbkoaaGreatBiN
set_option linter.unusedVariables false
set_option linter.unusedSimpArgs false
set_option maxRecDepth 100000
set_option maxHeartbeats 8000000
namespace Go.Proofs.YtooeabibhjbkoaaGreat
open Go.RowKit Big
open Lib (hid)
theorem rcmpZ {ca cb:List Value} {a b z:Int} (h1:ca=iZ a) (h2:cb=iZ b) (hz:z=cmpZ a b) (ha:a.natAbs<BB^32) (hb:b.natAbs<BB^32) (w:World) :
  Calls Tryz.prog 112 #[.agg ca.toArray,.agg cb.toArray] w fun e w'=>e=.returned (.int .i64 z)∧Below w.heap.size w w':=by
 subst h1 h2
 exact qxX (decide (a<0)) (decide (b<0)) a.natAbs b.natAbs z w ha hb (by rw [qhK,qhK];exact hz)
theorem qrR {ca cb:List Value} {a b:Qn} {z:Int} (h1:ca=ratZ a.1 a.2) (h2:cb=ratZ b.1 b.2) (ha:VQ a) (hb:VQ b) (hz:z=cmpZ (a.1*(b.2:Int)) (b.1*(a.2:Int))) (w:World) :
  Calls Tryz.prog 81 #[.agg ca.toArray,.agg cb.toArray] w fun e w'=>e=.returned (.int .i64 z)∧Below w.heap.size w w':=by
 have V_ca:=hid h1
 have V_cb:=hid h2
 have hx:(a.1*(b.2:Int)).natAbs<BB^30:=by rw [Int.natAbs_mul];exact qhR ha.num (by simpa using hb.den)
 have hy:(b.1*(a.2:Int)).natAbs<BB^30:=by rw [Int.natAbs_mul];exact qhR hb.num (by simpa using ha.den)
 obtain ⟨cna,V_cna⟩:∃ c:List Value,Hid (c=iZ a.1):=⟨_,hid rfl⟩
 obtain ⟨cnb,V_cnb⟩:∃ c:List Value,Hid (c=iZ b.1):=⟨_,hid rfl⟩
 obtain ⟨cx,V_cx⟩:∃ c:List Value,Hid (c=iZ (a.1*(b.2:Int))):=⟨_,hid rfl⟩
 obtain ⟨cy,V_cy⟩:∃ c:List Value,Hid (c=iZ (b.1*(a.2:Int))):=⟨_,hid rfl⟩
 obtain ⟨cda,V_cda⟩:∃ c:List Value,Hid (c=.bool false::lv 32 a.2):=⟨_,hid rfl⟩
 obtain ⟨cdb,V_cdb⟩:∃ c:List Value,Hid (c=.bool false::lv 32 b.2):=⟨_,hid rfl⟩
 have hda:cda=iZ (a.2:Int):=by rw [V_cda.out,qhW]
 have hdb:cdb=iZ (b.2:Int):=by rw [V_cdb.out,qhW]
 have HX:=hid (qhN V_cna.out hdb V_cx.out (qaJ ha.num) (qaJ (by simpa using hb.den)) (b30 hx))
 have HY:=hid (qhN V_cnb.out hda V_cy.out (qaJ hb.num) (qaJ (by simpa using ha.den)) (b30 hy))
 have HC:=hid (rcmpZ V_cx.out V_cy.out hz (b30 hx) (b30 hy))
 clear h1 h2 ha hb hz hx hy hda hdb
 obtain ⟨B0,hB0⟩:∃ B,B=w.heap.size:=⟨_,rfl⟩
 obtain ⟨B1,hB1⟩:∃ B,B=w.heap.size+1:=⟨_,rfl⟩
 obtain ⟨w0,hw0⟩:∃ w0,w0=((w.alloc (.cells ca.toArray 27)).alloc (.cells cb.toArray 27)):=⟨_,rfl⟩
 have AB0:=hid (show At w0 B0 0 ca by rw [hw0];exact ((show At (w.alloc (.cells ca.toArray 27)) B0 0 ca from At.fresh _ ca _ (by simp [hB0])).alloc _))
 have AB1:=hid (show At w0 B1 0 cb by rw [hw0];exact (show At ((w.alloc (.cells ca.toArray 27)).alloc (.cells cb.toArray 27)) B1 0 cb from At.fresh _ cb _ (by simp [hB1])))
 have FR:=hid (show Fr B0 w w0 by rw [hw0,hB0];exact ((Fr.start w).alloc _).alloc _)
 have FR0:=hid FR.out.le
 have l01:B0<B1:=by omega
 have hZB1:B0≤B1:=by omega
 have hZB0:B0≤B0:=Nat.le_refl _
 have HB0:=hid hB0
 go_enter Tryz.func81,Tryz.ntmps81
 go_upto_region 1 with fail
 rw [←hw0,←hB1,←hB0]
 clear hw0 hB0 hB1
 have AB0_n:=hid (AB0.out.num V_ca.out V_cna.out)
 have AB0_d:=hid (AB0.out.den V_ca.out V_cda.out)
 have AB1_n:=hid (AB1.out.num V_cb.out V_cnb.out)
 have AB1_d:=hid (AB1.out.den V_cb.out V_cdb.out)
 refine wfn [] [(5,.pointer (some ⟨B0,0,none⟩)),(6,.agg cna.toArray),(7,.pointer (some ⟨B1,33,none⟩)),(8,.agg cdb.toArray),(9,.agg cx.toArray),(10,.pointer (some ⟨B1,0,none⟩)),(11,.agg cnb.toArray),(12,.pointer (some ⟨B0,33,none⟩)),(13,.agg cda.toArray),(14,.agg cy.toArray),(15,.int .i64 z),(4,.int .i64 z)] _ (by simp only [zz4,zz5,zq];rfl) (by kernel_rfl) (by kernel_rfl) rfl ?_ ?_ ?_ ?_
 ·intro W' hW'
  have rd0:=AB0_n.out.below hW'
  have rd1:=AB1_d.out.below hW'
  have rd2:=AB1_n.out.below hW'
  have rd3:=AB0_d.out.below hW'
  refine fxo ?_ ?_;(go_big_quiet_step (fail);(try simp only [zq]);exact wqn rfl)
  refine fxo (wlg (by rfl) rfl rfl rd0 Tryz.underlying25 rfl (qI V_cna.out) (wqn (by simp only [zq]))) ?_
  refine fxo ?_ ?_;(go_big_quiet_step (fail);(try simp only [zq]);exact wqn rfl)
  refine fxo (wlg (by rfl) rfl rfl rd1 Tryz.underlying25 rfl (qI V_cdb.out) (wqn (by simp only [zq]))) ?_
  refine fxo ?_ ?_;(go_big_quiet_step ((go_at_call 79;exact qaA (HX.out _)));(try simp only [zq]);exact wqn rfl)
  refine fxo ?_ ?_;(go_big_quiet_step (fail);(try simp only [zq]);exact wqn rfl)
  refine fxo (wlg (by rfl) rfl rfl rd2 Tryz.underlying25 rfl (qI V_cnb.out) (wqn (by simp only [zq]))) ?_
  refine fxo ?_ ?_;(go_big_quiet_step (fail);(try simp only [zq]);exact wqn rfl)
  refine fxo (wlg (by rfl) rfl rfl rd3 Tryz.underlying25 rfl (qI V_cda.out) (wqn (by simp only [zq]))) ?_
  refine fxo ?_ ?_;(go_big_quiet_step ((go_at_call 79;exact qaA (HY.out _)));(try simp only [zq]);exact wqn rfl)
  refine fxo ?_ ?_;(go_big_quiet_step ((go_at_call 112;exact qaA (HC.out _)));(try simp only [zq]);exact wqn rfl)
  refine fxo ?_ ?_;(go_big_quiet_step (fail);(try simp only [zq]);exact wqn rfl)
  exact fxn
 ·exact oN
 ·exact oN
 intro β wx1 E
 replace FR:=hid (FR.out.fnw E rfl)
 replace AB0:=hid (AB0.out.fnw E rfl)
 replace AB1:=hid (AB1.out.fnw E rfl)
 replace AB0_n:=hid (AB0_n.out.fnw E rfl)
 replace AB0_d:=hid (AB0_d.out.fnw E rfl)
 replace AB1_n:=hid (AB1_n.out.fnw E rfl)
 replace AB1_d:=hid (AB1_d.out.fnw E rfl)
 have hE:=E.below rfl
 simp only [nP,zr,zq]
 replace FR0:=hid FR.out.le
 clear E
 go_wp2
 go_ret
 exact ⟨rfl,fend HB0 FR⟩
set_option maxHeartbeats 8000000
theorem quW {q:Nat} (h:q≠0):1=sgnI false q:=by unfold sgnI;rw [if_neg h];rfl
theorem qyG {m:Bool} {q:Nat} (h:m=true∨q=0):sgnI m q≤0:=by
 unfold sgnI
 rcases h with rfl|rfl
 ·split<;>simp
 ·simp
theorem qoI {p:Nat} (h:p≠0):-1=sgnI true p:=by unfold sgnI;rw [if_neg h];rfl
theorem qrL {cr:List Value} {n m:Bool} {p q:Nat} (hr:cr=rat n p m q) (hp:p<BB^32) (hq:q<BB^32) (hbad:¬(p<B480∧q<B480∧n=cs1 n p∧m=false∧q≠0∧Nat.gcd p q=1)) (w:World) :
  Calls Tryz.prog 77 #[.agg cr.toArray] w fun e w'=>e=.returned (.bool false)∧Below w.heap.size w w':=by
 have V_cr:=hid hr
 have HBAD:=hid hbad
 have HPQ:=hid (And.intro hp hq)
 obtain ⟨bd,hbd⟩:∃ b:Bool,b=decide ((n=true∧p=0)∨m=true∨q=0):=⟨_,rfl⟩
 have HBD:=hid hbd
 obtain ⟨cn,V_cn⟩:∃ c:List Value,Hid (c=.bool n::lv 32 p):=⟨_,hid rfl⟩
 obtain ⟨cd,V_cd⟩:∃ c:List Value,Hid (c=.bool m::lv 32 q):=⟨_,hid rfl⟩
 clear hr hbad hp hq hbd
 obtain ⟨B0,hB0⟩:∃ B,B=w.heap.size:=⟨_,rfl⟩
 obtain ⟨w0,hw0⟩:∃ w0,w0=(w.alloc (.cells cr.toArray 27)):=⟨_,rfl⟩
 have AB0:=hid (show At w0 B0 0 cr by rw [hw0];exact (show At (w.alloc (.cells cr.toArray 27)) B0 0 cr from At.fresh _ cr _ (by simp [hB0])))
 have FR:=hid (show Fr B0 w w0 by rw [hw0,hB0];exact (Fr.start w).alloc _)
 have FR0:=hid FR.out.le
 have hZB0:B0≤B0:=Nat.le_refl _
 have HB0:=hid hB0
 go_enter Tryz.func77,Tryz.ntmps77
 go_upto_region 1 with fail
 rw [←hw0,←hB0]
 clear hw0 hB0
 have AB0_n:=hid (AB0.out.num V_cr.out V_cn.out)
 have AB0_d:=hid (AB0.out.den V_cr.out V_cd.out)
 go_cut [17] from 3 to 17 (fun t wx=>t=.bool bd∧At wx B0 0 cr∧Fr B0 w wx)
 case first =>
  by_cases hA:n=true∧p=0
  ·obtain ⟨rfl,rfl⟩:=hA
   have HE:=hid (show bd=true by rw [HBD.out];simp)
   have HSN:=hid (qbR (s:=0) V_cn.out (by unfold sgnI;simp) HPQ.out.1)
   refine wfn [] [(3,.pointer (some ⟨B0,0,none⟩)),(4,.pointer (some ⟨B0,0,none⟩)),(5,.bool true),(6,.bool true),(7,.pointer (some ⟨B0,0,none⟩)),(8,.agg cn.toArray),(9,.int .i64 0),(10,.bool true),(11,.bool true),(12,.bool true),(13,undef),(14,undef),(15,undef),(16,undef),(17,.bool true)] _ (by simp only [zz4,zz5,zq];rfl) (by kernel_rfl) (by kernel_rfl) rfl ?_ ?_ ?_ ?_
   ·intro W' hW'
    have cl0:=fun p os=>qaF ((AB0_n.out.below hW').neg V_cn.out) p os
    have rd0:=AB0_n.out.below hW'
    iterate 5 (refine fxo ?_ ?_;(go_big_quiet_step (fail);(try simp only [zq]);exact wqn rfl))
    refine fxo (wlg (by rfl) rfl rfl rd0 Tryz.underlying25 rfl (qI V_cn.out) (wqn (by simp only [zq]))) ?_
    refine fxo ?_ ?_;(go_big_quiet_step ((go_at_call 110;exact qaA (HSN.out _)));(try simp only [zq]);exact wqn rfl)
    iterate 8 (refine fxo ?_ ?_;(go_big_quiet_step (fail);(try simp only [zq]);exact wqn rfl))
    exact fxn
   ·exact oN
   ·exact oN
   intro β wx1 E
   replace FR:=hid (FR.out.fnw E rfl)
   replace AB0:=hid (AB0.out.fnw E rfl)
   replace AB0_n:=hid (AB0_n.out.fnw E rfl)
   replace AB0_d:=hid (AB0_d.out.fnw E rfl)
   have hE:=E.below rfl
   simp only [nP,zr,zq]
   replace FR0:=hid FR.out.le
   clear E
   go_wp2_with fail
   go_meet
   exact ⟨by rw [HE.out],AB0.out,FR.out⟩
  ·by_cases hB:m=true∨q=0
   ·have HE:=hid (show bd=true by rw [HBD.out];exact decide_eq_true (.inr hB))
    obtain ⟨s,hs⟩:∃ s,s=sgnI m q:=⟨_,rfl⟩
    have HSD:=hid (qbR V_cd.out hs HPQ.out.2)
    have hsl:s≤0:=by rw [hs];exact qyG hB
    clear hs hB
    cases n with
    | true =>
     have HSN:=hid (qbR (s:=-1) V_cn.out (qoI (fun h=>hA ⟨rfl,h⟩)) HPQ.out.1)
     clear hA
     refine wfn [] [(3,.pointer (some ⟨B0,0,none⟩)),(4,.pointer (some ⟨B0,0,none⟩)),(5,.bool true),(6,.bool true),(7,.pointer (some ⟨B0,0,none⟩)),(8,.agg cn.toArray),(9,.int .i64 (-1)),(10,.bool false),(11,.bool false),(12,.bool false),(13,.pointer (some ⟨B0,33,none⟩)),(14,.agg cd.toArray),(15,.int .i64 s),(16,.bool true),(17,.bool true)] _ (by simp only [zz4,zz5,zq];rfl) (by kernel_rfl) (by kernel_rfl) rfl ?_ ?_ ?_ ?_
     ·intro W' hW'
      have cl0:=fun p os=>qaF ((AB0_n.out.below hW').neg V_cn.out) p os
      have rd0:=AB0_n.out.below hW'
      have rd1:=AB0_d.out.below hW'
      iterate 5 (refine fxo ?_ ?_;(go_big_quiet_step (fail);(try simp only [zq]);exact wqn rfl))
      refine fxo (wlg (by rfl) rfl rfl rd0 Tryz.underlying25 rfl (qI V_cn.out) (wqn (by simp only [zq]))) ?_
      refine fxo ?_ ?_;(go_big_quiet_step ((go_at_call 110;exact qaA (HSN.out _)));(try simp only [zq]);exact wqn rfl)
      iterate 4 (refine fxo ?_ ?_;(go_big_quiet_step (fail);(try simp only [zq]);exact wqn rfl))
      refine fxo (wlg (by rfl) rfl rfl rd1 Tryz.underlying25 rfl (qI V_cd.out) (wqn (by simp only [zq]))) ?_
      refine fxo ?_ ?_;(go_big_quiet_step ((go_at_call 110;exact qaA (HSD.out _)));(try simp only [zq]);exact wqn rfl)
      iterate 2 (refine fxo ?_ ?_;(go_big_quiet_step (fail);(try simp only [zq]);exact wqn rfl))
      exact fxn
     ·exact oN
     ·exact oN
     intro β wx1 E
     replace FR:=hid (FR.out.fnw E rfl)
     replace AB0:=hid (AB0.out.fnw E rfl)
     replace AB0_n:=hid (AB0_n.out.fnw E rfl)
     replace AB0_d:=hid (AB0_d.out.fnw E rfl)
     have hE:=E.below rfl
     simp only [nP,zr,zq]
     replace FR0:=hid FR.out.le
     clear E
     go_wp2_with fail
     go_meet
     exact ⟨by rw [HE.out],AB0.out,FR.out⟩
    | false =>
     clear hA
     refine wfn [] [(3,.pointer (some ⟨B0,0,none⟩)),(4,.pointer (some ⟨B0,0,none⟩)),(5,.bool false),(6,.bool false),(7,undef),(8,undef),(9,undef),(10,undef),(11,.bool false),(12,.bool false),(13,.pointer (some ⟨B0,33,none⟩)),(14,.agg cd.toArray),(15,.int .i64 s),(16,.bool true),(17,.bool true)] _ (by simp only [zz4,zz5,zq];rfl) (by kernel_rfl) (by kernel_rfl) rfl ?_ ?_ ?_ ?_
     ·intro W' hW'
      have cl0:=fun p os=>qaF ((AB0_n.out.below hW').neg V_cn.out) p os
      have rd0:=AB0_d.out.below hW'
      iterate 11 (refine fxo ?_ ?_;(go_big_quiet_step (fail);(try simp only [zq]);exact wqn rfl))
      refine fxo (wlg (by rfl) rfl rfl rd0 Tryz.underlying25 rfl (qI V_cd.out) (wqn (by simp only [zq]))) ?_
      refine fxo ?_ ?_;(go_big_quiet_step ((go_at_call 110;exact qaA (HSD.out _)));(try simp only [zq]);exact wqn rfl)
      iterate 2 (refine fxo ?_ ?_;(go_big_quiet_step (fail);(try simp only [zq]);exact wqn rfl))
      exact fxn
     ·exact oN
     ·exact oN
     intro β wx1 E
     replace FR:=hid (FR.out.fnw E rfl)
     replace AB0:=hid (AB0.out.fnw E rfl)
     replace AB0_n:=hid (AB0_n.out.fnw E rfl)
     replace AB0_d:=hid (AB0_d.out.fnw E rfl)
     have hE:=E.below rfl
     simp only [nP,zr,zq]
     replace FR0:=hid FR.out.le
     clear E
     go_wp2_with fail
     go_meet
     exact ⟨by rw [HE.out],AB0.out,FR.out⟩
   ·have HE:=hid (show bd=false by rw [HBD.out];exact decide_eq_false (fun h=>h.elim hA hB))
    have hm:m=false:=by cases m with
     | true=>exact absurd (.inl rfl) hB
     | false=>rfl
    subst hm
    have HSD:=hid (qbR (s:=1) V_cd.out (quW (fun h=>hB (.inr h))) HPQ.out.2)
    clear hB
    cases n with
    | true =>
     have HSN:=hid (qbR (s:=-1) V_cn.out (qoI (fun h=>hA ⟨rfl,h⟩)) HPQ.out.1)
     clear hA
     refine wfn [] [(3,.pointer (some ⟨B0,0,none⟩)),(4,.pointer (some ⟨B0,0,none⟩)),(5,.bool true),(6,.bool true),(7,.pointer (some ⟨B0,0,none⟩)),(8,.agg cn.toArray),(9,.int .i64 (-1)),(10,.bool false),(11,.bool false),(12,.bool false),(13,.pointer (some ⟨B0,33,none⟩)),(14,.agg cd.toArray),(15,.int .i64 1),(16,.bool false),(17,.bool false)] _ (by simp only [zz4,zz5,zq];rfl) (by kernel_rfl) (by kernel_rfl) rfl ?_ ?_ ?_ ?_
     ·intro W' hW'
      have cl0:=fun p os=>qaF ((AB0_n.out.below hW').neg V_cn.out) p os
      have rd0:=AB0_n.out.below hW'
      have rd1:=AB0_d.out.below hW'
      iterate 5 (refine fxo ?_ ?_;(go_big_quiet_step (fail);(try simp only [zq]);exact wqn rfl))
      refine fxo (wlg (by rfl) rfl rfl rd0 Tryz.underlying25 rfl (qI V_cn.out) (wqn (by simp only [zq]))) ?_
      refine fxo ?_ ?_;(go_big_quiet_step ((go_at_call 110;exact qaA (HSN.out _)));(try simp only [zq]);exact wqn rfl)
      iterate 4 (refine fxo ?_ ?_;(go_big_quiet_step (fail);(try simp only [zq]);exact wqn rfl))
      refine fxo (wlg (by rfl) rfl rfl rd1 Tryz.underlying25 rfl (qI V_cd.out) (wqn (by simp only [zq]))) ?_
      refine fxo ?_ ?_;(go_big_quiet_step ((go_at_call 110;exact qaA (HSD.out _)));(try simp only [zq]);exact wqn rfl)
      iterate 2 (refine fxo ?_ ?_;(go_big_quiet_step (fail);(try simp only [zq]);exact wqn rfl))
      exact fxn
     ·exact oN
     ·exact oN
     intro β wx1 E
     replace FR:=hid (FR.out.fnw E rfl)
     replace AB0:=hid (AB0.out.fnw E rfl)
     replace AB0_n:=hid (AB0_n.out.fnw E rfl)
     replace AB0_d:=hid (AB0_d.out.fnw E rfl)
     have hE:=E.below rfl
     simp only [nP,zr,zq]
     replace FR0:=hid FR.out.le
     clear E
     go_wp2_with fail
     go_meet
     exact ⟨by rw [HE.out],AB0.out,FR.out⟩
    | false =>
     clear hA
     refine wfn [] [(3,.pointer (some ⟨B0,0,none⟩)),(4,.pointer (some ⟨B0,0,none⟩)),(5,.bool false),(6,.bool false),(7,undef),(8,undef),(9,undef),(10,undef),(11,.bool false),(12,.bool false),(13,.pointer (some ⟨B0,33,none⟩)),(14,.agg cd.toArray),(15,.int .i64 1),(16,.bool false),(17,.bool false)] _ (by simp only [zz4,zz5,zq];rfl) (by kernel_rfl) (by kernel_rfl) rfl ?_ ?_ ?_ ?_
     ·intro W' hW'
      have cl0:=fun p os=>qaF ((AB0_n.out.below hW').neg V_cn.out) p os
      have rd0:=AB0_d.out.below hW'
      iterate 11 (refine fxo ?_ ?_;(go_big_quiet_step (fail);(try simp only [zq]);exact wqn rfl))
      refine fxo (wlg (by rfl) rfl rfl rd0 Tryz.underlying25 rfl (qI V_cd.out) (wqn (by simp only [zq]))) ?_
      refine fxo ?_ ?_;(go_big_quiet_step ((go_at_call 110;exact qaA (HSD.out _)));(try simp only [zq]);exact wqn rfl)
      iterate 2 (refine fxo ?_ ?_;(go_big_quiet_step (fail);(try simp only [zq]);exact wqn rfl))
      exact fxn
     ·exact oN
     ·exact oN
     intro β wx1 E
     replace FR:=hid (FR.out.fnw E rfl)
     replace AB0:=hid (AB0.out.fnw E rfl)
     replace AB0_n:=hid (AB0_n.out.fnw E rfl)
     replace AB0_d:=hid (AB0_d.out.fnw E rfl)
     have hE:=E.below rfl
     simp only [nP,zr,zq]
     replace FR0:=hid FR.out.le
     clear E
     go_wp2_with fail
     go_meet
     exact ⟨by rw [HE.out],AB0.out,FR.out⟩
 case rest =>
  clear AB0_n AB0_d AB0 FR FR0
  obtain ⟨rfl,h0,hF⟩:=hcut
  have FR:=hid hF
  have FR0:=hid hF.le
  have AB0:=hid h0
  have AB0_n:=hid (AB0.out.num V_cr.out V_cn.out)
  have AB0_d:=hid (AB0.out.den V_cr.out V_cd.out)
  clear h0 hF
  cases bd with
  | true =>
   go_wp2_with fail
   go_ret
   exact ⟨rfl,fend HB0 FR⟩
  | false =>
   have hno:=HBD.out
   have hno2:=of_decide_eq_false hno.symm
   have hA:¬(n=true∧p=0):=fun h=>hno2 (.inl h)
   have hm:m=false:=by cases m with
    | true=>exact absurd (.inr (.inl rfl)) hno2
    | false=>rfl
   have hq0:q≠0:=fun h=>hno2 (.inr (.inr h))
   have hn:n=cs1 n p:=by
    unfold cs1
    cases n with
    | false=>rfl
    | true=>simp;exact fun h=>hA ⟨rfl,h⟩
   have HCS:=hid (show ¬(p<B480∧q<B480∧Nat.gcd p q=1) from fun h=>HBAD.out ⟨h.1,h.2.1,hn,hm,hq0,h.2.2⟩)
   obtain ⟨x1,hx1⟩:=qaE p
   obtain ⟨x2,hx2⟩:=qaE q
   have hf1:=qdN hx1
   have hf2:=qdN hx2
   have HB1:=hid (qdF V_cn.out HPQ.out.1 hx1)
   have HB2:=hid (qdF V_cd.out HPQ.out.2 hx2)
   clear hno hno2 hA hm hn hx1 hx2
   go_upto_region 3 with fail
   by_cases h1:(x1:Int)≤480
   ·by_cases h2:(x2:Int)≤480
    ·obtain ⟨gg,hgg⟩:∃ x,x=Nat.gcd p q:=⟨_,rfl⟩
     have hg1:gg≠1:=fun h=>HCS.out ⟨hf1.1 h1,hf2.1 h2,by rw [←hgg,h]⟩
     obtain ⟨cg,V_cg⟩:∃ c:List Value,Hid (c=.bool false::lv 32 gg):=⟨_,hid rfl⟩
     obtain ⟨co,V_co⟩:∃ c:List Value,Hid (c=.bool false::lv 32 1):=⟨_,hid rfl⟩
     have HG:=hid (qoV V_cn.out V_cd.out V_cg.out hgg HPQ.out.1 HPQ.out.2)
     have HO:=hid (qeC (z:=1) V_co.out rfl rfl (by decide) (by decide))
     have H1:=hid (show 1<BB^32 from Nat.one_lt_pow (by omega) (by unfold BB;omega))
     have HGL:=hid (show gg<BB^32 by rw [hgg];exact Nat.lt_of_le_of_lt (Nat.le_of_dvd (by omega) (Nat.gcd_dvd_right p q)) HPQ.out.2)
     clear hgg hf1 hf2 hq0
     refine wfn [] [(18,.pointer (some ⟨B0,0,none⟩)),(19,.agg cn.toArray),(20,.int .i64 (x1:Int)),(21,.bool true),(22,.bool true),(23,.pointer (some ⟨B0,33,none⟩)),(24,.agg cd.toArray),(25,.int .i64 (x2:Int)),(26,.bool true),(27,.bool true),(28,.bool true),(29,.pointer (some ⟨B0,0,none⟩)),(30,.agg cn.toArray),(31,.pointer (some ⟨B0,33,none⟩)),(32,.agg cd.toArray),(33,.agg cg.toArray),(34,.agg co.toArray),(35,.bool false),(36,.bool false),(2,.bool false)] _ (by simp only [zz4,zz5,zq];rfl) (by kernel_rfl) (by kernel_rfl) rfl ?_ ?_ ?_ ?_
     ·intro W' hW'
      have rd0:=AB0_n.out.below hW'
      have rd1:=AB0_d.out.below hW'
      refine fxo ?_ ?_;(go_big_quiet_step (fail);(try simp only [zq]);exact wqn rfl)
      refine fxo (wlg (by rfl) rfl rfl rd0 Tryz.underlying25 rfl (qI V_cn.out) (wqn (by simp only [zq]))) ?_
      refine fxo ?_ ?_;(go_big_quiet_step ((go_at_call 115;exact qaA (HB1.out _)));(try simp only [zq]);exact wqn rfl)
      iterate 3 (refine fxo ?_ ?_;(go_big_quiet_step (fail);(try simp only [zq]);exact wqn rfl))
      refine fxo (wlg (by rfl) rfl rfl rd1 Tryz.underlying25 rfl (qI V_cd.out) (wqn (by simp only [zq]))) ?_
      refine fxo ?_ ?_;(go_big_quiet_step ((go_at_call 115;exact qaA (HB2.out _)));(try simp only [zq]);exact wqn rfl)
      iterate 4 (refine fxo ?_ ?_;(go_big_quiet_step (fail);(try simp only [zq]);exact wqn rfl))
      refine fxo (wlg (by rfl) rfl rfl rd0 Tryz.underlying25 rfl (qI V_cn.out) (wqn (by simp only [zq]))) ?_
      refine fxo ?_ ?_;(go_big_quiet_step (fail);(try simp only [zq]);exact wqn rfl)
      refine fxo (wlg (by rfl) rfl rfl rd1 Tryz.underlying25 rfl (qI V_cd.out) (wqn (by simp only [zq]))) ?_
      refine fxo ?_ ?_;(go_big_quiet_step ((go_at_call 116;exact qaA (HG.out _)));(try simp only [zq]);exact wqn rfl)
      refine fxo ?_ ?_;(go_big_quiet_step ((go_at_call 76;exact qaA (HO.out _)));(try simp only [zq]);exact wqn rfl)
      refine fxo (qdR (r:=false) (by rfl) rfl rfl rfl V_cg.out V_co.out HGL.out H1.out (by simp [hg1]) (wqn (by simp only [zq]))) ?_
      iterate 2 (refine fxo ?_ ?_;(go_big_quiet_step (fail);(try simp only [zq]);exact wqn rfl))
      exact fxn
     ·exact oN
     ·exact oN
     intro β wx51 E
     replace FR:=hid (FR.out.fnw E rfl)
     replace AB0:=hid (AB0.out.fnw E rfl)
     replace AB0_n:=hid (AB0_n.out.fnw E rfl)
     replace AB0_d:=hid (AB0_d.out.fnw E rfl)
     have hE:=E.below rfl
     simp only [nP,zr,zq]
     replace FR0:=hid FR.out.le
     clear E
     go_wp2_with fail
     go_ret
     exact ⟨rfl,fend HB0 FR⟩
    ·clear hf1 hf2 hq0
     refine wfn [] [(18,.pointer (some ⟨B0,0,none⟩)),(19,.agg cn.toArray),(20,.int .i64 (x1:Int)),(21,.bool true),(22,.bool true),(23,.pointer (some ⟨B0,33,none⟩)),(24,.agg cd.toArray),(25,.int .i64 (x2:Int)),(26,.bool false),(27,.bool false),(28,.bool false),(29,undef),(30,undef),(31,undef),(32,undef),(33,undef),(34,undef),(35,undef),(36,.bool false),(2,.bool false)] _ (by simp only [zz4,zz5,zq];rfl) (by kernel_rfl) (by kernel_rfl) rfl ?_ ?_ ?_ ?_
     ·intro W' hW'
      have rd0:=AB0_n.out.below hW'
      have rd1:=AB0_d.out.below hW'
      refine fxo ?_ ?_;(go_big_quiet_step (fail);(try simp only [zq]);exact wqn rfl)
      refine fxo (wlg (by rfl) rfl rfl rd0 Tryz.underlying25 rfl (qI V_cn.out) (wqn (by simp only [zq]))) ?_
      refine fxo ?_ ?_;(go_big_quiet_step ((go_at_call 115;exact qaA (HB1.out _)));(try simp only [zq]);exact wqn rfl)
      iterate 3 (refine fxo ?_ ?_;(go_big_quiet_step (fail);(try simp only [zq]);exact wqn rfl))
      refine fxo (wlg (by rfl) rfl rfl rd1 Tryz.underlying25 rfl (qI V_cd.out) (wqn (by simp only [zq]))) ?_
      refine fxo ?_ ?_;(go_big_quiet_step ((go_at_call 115;exact qaA (HB2.out _)));(try simp only [zq]);exact wqn rfl)
      iterate 12 (refine fxo ?_ ?_;(go_big_quiet_step (fail);(try simp only [zq]);exact wqn rfl))
      exact fxn
     ·exact oN
     ·exact oN
     intro β wx51 E
     replace FR:=hid (FR.out.fnw E rfl)
     replace AB0:=hid (AB0.out.fnw E rfl)
     replace AB0_n:=hid (AB0_n.out.fnw E rfl)
     replace AB0_d:=hid (AB0_d.out.fnw E rfl)
     have hE:=E.below rfl
     simp only [nP,zr,zq]
     replace FR0:=hid FR.out.le
     clear E
     go_wp2_with fail
     go_ret
     exact ⟨rfl,fend HB0 FR⟩
   ·clear hf1 hf2 hq0
    refine wfn [] [(18,.pointer (some ⟨B0,0,none⟩)),(19,.agg cn.toArray),(20,.int .i64 (x1:Int)),(21,.bool false),(22,.bool false),(23,undef),(24,undef),(25,undef),(26,undef),(27,.bool false),(28,.bool false),(29,undef),(30,undef),(31,undef),(32,undef),(33,undef),(34,undef),(35,undef),(36,.bool false),(2,.bool false)] _ (by simp only [zz4,zz5,zq];rfl) (by kernel_rfl) (by kernel_rfl) rfl ?_ ?_ ?_ ?_
    ·intro W' hW'
     have rd0:=AB0_n.out.below hW'
     refine fxo ?_ ?_;(go_big_quiet_step (fail);(try simp only [zq]);exact wqn rfl)
     refine fxo (wlg (by rfl) rfl rfl rd0 Tryz.underlying25 rfl (qI V_cn.out) (wqn (by simp only [zq]))) ?_
     refine fxo ?_ ?_;(go_big_quiet_step ((go_at_call 115;exact qaA (HB1.out _)));(try simp only [zq]);exact wqn rfl)
     iterate 17 (refine fxo ?_ ?_;(go_big_quiet_step (fail);(try simp only [zq]);exact wqn rfl))
     exact fxn
    ·exact oN
    ·exact oN
    intro β wx51 E
    replace FR:=hid (FR.out.fnw E rfl)
    replace AB0:=hid (AB0.out.fnw E rfl)
    replace AB0_n:=hid (AB0_n.out.fnw E rfl)
    replace AB0_d:=hid (AB0_d.out.fnw E rfl)
    have hE:=E.below rfl
    simp only [nP,zr,zq]
    replace FR0:=hid FR.out.le
    clear E
    go_wp2_with fail
    go_ret
    exact ⟨rfl,fend HB0 FR⟩
set_option maxHeartbeats 8000000
theorem qsA (k:Nat) (hk:k≤9) (w:World):Calls Tryz.prog 107 #[.int .i64 (k:Int)] w fun e w'=>e=.returned (.bool true)∧w=w':=by
 have h1:(0:Int)≤(k:Int):=by omega
 have h2:(k:Int)≤9:=by omega
 go_enter Tryz.func107,Tryz.ntmps107
 go_wp2
 go_ret
 exact ⟨rfl,rfl⟩
theorem qvE {c:List Value} {k:Nat} (hc:c=rat false (10^k) false 1) (hk:k≤9) (W:World) :
  Calls Tryz.prog 145 #[.int .i64 (k:Int)] W fun e w'=>e=.returned (.agg c.toArray)∧Below W.heap.size W w':=by
 subst hc;exact qvF k W (by omega)
theorem qxE {k:Nat} (hk:k≤9):10^k<BB:=Nat.lt_of_le_of_lt (Nat.pow_le_pow_right (by omega) hk) (by unfold BB;decide)
theorem qrJ {cr cm cd:List Value} {n:Bool} {p q k:Nat} (hr:cr=rat n p false q) (hm:cm=.bool n::lv 32 (p*10^k)) (hd:cd=.bool false::lv 32 q) (hn:n=cs1 n p) (hp:p<B480) (hk:k≤9) (w:World) :
  Calls Tryz.prog 108 #[.agg cr.toArray,.int .i64 (k:Int)] w fun e w'=>e=.returned (.tuple #[.agg cm.toArray,.agg cd.toArray])∧Below w.heap.size w w':=by
 have V_cr:=hid hr
 have V_cm:=hid hm
 have V_cd:=hid hd
 obtain ⟨cn,V_cn⟩:∃ c:List Value,Hid (c=.bool n::lv 32 p):=⟨_,hid rfl⟩
 obtain ⟨ct,V_ct⟩:∃ c:List Value,Hid (c=.bool false::lv 32 (10^k)):=⟨_,hid rfl⟩
 obtain ⟨cz,V_cz⟩:∃ c:List Value,Hid (c=.bool false::lv 32 0):=⟨_,hid rfl⟩
 obtain ⟨cp,V_cp⟩:∃ c:List Value,Hid (c=rat false (10^k) false 1):=⟨_,hid rfl⟩
 have HP:=hid (qvE V_cp.out hk)
 have ht:=qxE hk
 have hpb:p*10^k<BB^32:=by
  have h1:p*10^k<BB^15*BB:=Nat.mul_lt_mul'' (qfK hp) ht
  rw [←Nat.pow_succ] at h1
  exact Nat.lt_of_lt_of_le h1 (Nat.pow_le_pow_right qaN (by omega))
 have HM:=hid (qsI V_cn.out V_ct.out V_cm.out rfl (by
  rw [show (n != false)=n by cases n<;>rfl]
  rw [hn]
  have h10:10^k≠0:=Nat.pos_iff_ne_zero.1 (Nat.pow_pos (by omega))
  by_cases h:p=0
  ·subst h;simp [cs1]
  ·have:p*10^k≠0:=Nat.mul_ne_zero h h10
   simp [cs1,h,this]) (qaJ hp) (Nat.lt_of_lt_of_le ht (by have:=Nat.pow_le_pow_right qaN (show 1≤32 by omega);rwa [Nat.pow_one] at this)) hpb)
 clear hr hm hd hn hp hk ht hpb
 obtain ⟨B0,hB0⟩:∃ B,B=w.heap.size:=⟨_,rfl⟩
 obtain ⟨B1,hB1⟩:∃ B,B=w.heap.size+1:=⟨_,rfl⟩
 obtain ⟨B2,hB2⟩:∃ B,B=w.heap.size+1+1:=⟨_,rfl⟩
 obtain ⟨w0,hw0⟩:∃ w0,w0=(((w.alloc (.cells cr.toArray 27)).alloc (.cells zero33 25)).alloc (.cells zero33 25)):=⟨_,rfl⟩
 have AB0:=hid (show At w0 B0 0 cr by rw [hw0];exact (((show At (w.alloc (.cells cr.toArray 27)) B0 0 cr from At.fresh _ cr _ (by simp [hB0])).alloc _).alloc _))
 have AB1:=hid (show At w0 B1 0 cz by rw [hw0];exact ((show At ((w.alloc (.cells cr.toArray 27)).alloc (.cells zero33 25)) B1 0 cz from (by rw [V_cz.out];exact At.zero _ _ (by simp [hB1]))).alloc _))
 have AB2:=hid (show At w0 B2 0 cz by rw [hw0];exact (show At (((w.alloc (.cells cr.toArray 27)).alloc (.cells zero33 25)).alloc (.cells zero33 25)) B2 0 cz from (by rw [V_cz.out];exact At.zero _ _ (by simp [hB2]))))
 have FR:=hid (show Fr B0 w w0 by rw [hw0,hB0];exact (((Fr.start w).alloc _).alloc _).alloc _)
 have FR0:=hid FR.out.le
 have l01:B0<B1:=by omega
 have hZB1:B0≤B1:=by omega
 have l12:B1<B2:=by omega
 have hZB2:B0≤B2:=by omega
 have hZB0:B0≤B0:=Nat.le_refl _
 unfold zero33 at hw0
 have HB0:=hid hB0
 go_enter Tryz.func108,Tryz.ntmps108
 go_upto_region 1 with fail
 rw [←hw0,←hB2,←hB1,←hB0]
 clear hw0 hB0 hB1 hB2
 have AB0_n:=hid (AB0.out.num V_cr.out V_cn.out)
 have AB0_d:=hid (AB0.out.den V_cr.out V_cd.out)
 refine wfn [⟨true,9,6,10,0,0,25,15,cm,0,cm,[]⟩] [(9,.pointer (some ⟨B0,0,none⟩)),(10,.agg cn.toArray),(11,.int .i64 (k:Int)),(12,.agg cp.toArray),(13,.agg ct.toArray),(14,.tuple #[.agg cm.toArray,.int .i64 0]),(8,.tuple #[.agg cm.toArray,.int .i64 0]),(15,.agg cm.toArray),(16,.int .i64 0),(7,.int .i64 0)] _ (by simp only [zz4,zz5,zq];rfl) (by kernel_rfl) (by kernel_rfl) rfl ?_ ?_ ?_ ?_
 ·intro W' hW'
  have rd0:=AB0_n.out.below hW'
  refine fxo ?_ ?_;(go_big_quiet_step (fail);(try simp only [zq]);exact wqn rfl)
  refine fxo (wlg (by rfl) rfl rfl rd0 Tryz.underlying25 rfl (qI V_cn.out) (wqn (by simp only [zq]))) ?_
  refine fxo ?_ ?_;(go_big_quiet_step (fail);(try simp only [zq]);exact wqn rfl)
  refine fxo ?_ ?_;(go_big_quiet_step ((go_at_call 145;exact qaA (HP.out _)));(try simp only [zq]);exact wqn rfl)
  refine fxo (qkE rfl rfl rfl V_cp.out V_ct.out (wqn (by simp only [zq]))) ?_
  refine fxo ?_ ?_;(go_big_quiet_step ((go_at_call 120;exact qaA (HM.out _)));(try simp only [zq]);exact wqn rfl)
  iterate 3 (refine fxo ?_ ?_;(go_big_quiet_step (fail);(try simp only [zq]);exact wqn rfl))
  iterate 2 (refine fxs (by rfl) ?_)
  refine fxo ?_ ?_;(go_big_quiet_step (fail);(try simp only [zq]);exact wqn rfl)
  exact fxn
 ·exact oP _ _ (Tryz.alI (qI V_cm.out)) (oN)
 ·exact oP _ _ (stw rfl (qI V_cm.out) (qbL V_cm.out) (fun _=>rfl)) (oN)
 intro β wx1 E
 replace FR:=hid (FR.out.fnw E rfl)
 obtain ⟨b6,hb6⟩:∃ b,b=β 9:=⟨_,rfl⟩
 have eb6:=E.atNew mms rfl
 simp only at eb6
 rw [←hb6] at eb6
 have lB0_b6:B0<b6:=by have h1:=eb6.1;have h2:=AB0.out.lt;omega
 have lB1_b6:B1<b6:=by have h1:=eb6.1;have h2:=AB1.out.lt;omega
 have lB2_b6:B2<b6:=by have h1:=eb6.1;have h2:=AB2.out.lt;omega
 have hZb6:B0≤b6:=by have h1:=eb6.1;have h2:=FR0.out;omega
 replace AB0:=hid (AB0.out.fnw E rfl)
 replace AB1:=hid (AB1.out.fnw E rfl)
 replace AB2:=hid (AB2.out.fnw E rfl)
 replace AB0_n:=hid (AB0_n.out.fnw E rfl)
 replace AB0_d:=hid (AB0_d.out.fnw E rfl)
 have Ab6:=hid eb6.2
 simp only [nP,zr,zq]
 rw [←hb6]
 replace FR0:=hid FR.out.le
 clear E eb6 hb6
 go_upto_region 2 with fail
 refine qwf [⟨false,0,4,3,B1,0,25,17,cm,0,cm,[]⟩,⟨false,0,5,4,B2,0,25,19,cd,0,cd,[]⟩] [(17,.agg cm.toArray),(18,.pointer (some ⟨B0,33,none⟩)),(19,.agg cd.toArray)] _ (by simp only [zz4,zz5,zq];rfl) (by kernel_rfl) (by kernel_rfl) ?_ ?_ ?_ ?_ ?_ ?_ ?_
 ·intro W' hW'
  have rd0:=Ab6.out.below hW'
  have rd1:=AB0_d.out.below hW'
  refine fxo (wlg (by rfl) rfl rfl rd0 Tryz.underlying25 rfl (qI V_cm.out) (wqn (by simp only [zq]))) ?_
  refine fxo ?_ ?_;(go_big_quiet_step (fail);(try simp only [zq]);exact wqn rfl)
  refine fxo (wlg (by rfl) rfl rfl rd1 Tryz.underlying25 rfl (qI V_cd.out) (wqn (by simp only [zq]))) ?_
  iterate 2 (refine fxs (by rfl) ?_)
  exact fxn
 ·intro W' hK'
  have rd0:=At.keep hK' Ab6.out (oP _ _ (fun _=>(by show B1≠b6;omega)) (oP _ _ (fun _=>(by show B2≠b6;omega)) (oN)))
  have rd1:=At.keep hK' AB0_d.out (oP _ _ (fun _=>(by show B1≠B0;omega)) (oP _ _ (fun _=>(by show B2≠B0;omega)) (oN)))
  refine fxo (wlg (by rfl) rfl rfl rd0 Tryz.underlying25 rfl (qI V_cm.out) (wqn (by simp only [zq]))) ?_
  first|(refine fxo ?_ ?_;(go_big_quiet_step (fail);(try simp only [zq]);exact wqn rfl))|(refine fxs (by kernel_rfl) ?_)
  refine fxo (wlg (by rfl) rfl rfl rd1 Tryz.underlying25 rfl (qI V_cd.out) (wqn (by simp only [zq]))) ?_
  iterate 2 (refine fxs (by kernel_rfl) ?_)
  exact fxn
 ·exact oP _ _ (bnc) (oP _ _ (bnc) (oN))
 ·exact oP _ _ (fun _=>⟨AB1.out.lt,rfl,At.room AB1.out (qI V_cz.out) (qI V_cm.out)⟩) (oP _ _ (fun _=>⟨AB2.out.lt,rfl,At.room AB2.out (qI V_cz.out) (qI V_cd.out)⟩) (oN))
 ·intro q hq r hr hqn hrn e
  simp only [List.mem_cons,List.not_mem_nil,or_false] at hq hr
  rcases hq with rfl|rfl<;>rcases hr with rfl|rfl<;>first|rfl|(exact Bool.noConfusion hqn)|(exact Bool.noConfusion hrn)|(exfalso;simp only at e;omega)
 ·exact oP _ _ (stw rfl (qI V_cm.out) (qbL V_cm.out) (fun _=>rfl)) (oP _ _ (stw rfl (qI V_cd.out) (qbL V_cd.out) (fun _=>rfl)) (oN))
 intro β wx2 E
 replace FR:=hid (FR.out.flow E (oP _ _ (fun _=>(by show B0≤B1;omega)) (oP _ _ (fun _=>(by show B0≤B2;omega)) (oN))))
 replace AB0:=hid (At.flow E AB0.out (oP _ _ (fun _=>(by show B1≠B0;omega)) (oP _ _ (fun _=>(by show B2≠B0;omega)) (oN))))
 replace AB1:=hid (show At wx2 B1 0 cm from E.atOld mms rfl AB1.out.lt)
 replace AB2:=hid (show At wx2 B2 0 cd from E.atOld (List.mem_cons_of_mem _ mms) rfl AB2.out.lt)
 replace AB0_n:=hid (At.flow E AB0_n.out (oP _ _ (fun _=>(by show B1≠B0;omega)) (oP _ _ (fun _=>(by show B2≠B0;omega)) (oN))))
 replace AB0_d:=hid (At.flow E AB0_d.out (oP _ _ (fun _=>(by show B1≠B0;omega)) (oP _ _ (fun _=>(by show B2≠B0;omega)) (oN))))
 replace Ab6:=hid (At.flow E Ab6.out (oP _ _ (fun _=>(by show B1≠b6;omega)) (oP _ _ (fun _=>(by show B2≠b6;omega)) (oN))))
 simp only [nP,zr,zq]
 replace FR0:=hid FR.out.le
 clear E
 go_wp2_with fail
 have hld1:=AB1.out.read (P:=Tryz.prog) Tryz.underlying25 rfl (qI V_cm.out)
 have hld2:=AB2.out.read (P:=Tryz.prog) Tryz.underlying25 rfl (qI V_cd.out)
 refine bodyPost_ret (v:=.tuple #[.agg cm.toArray,.agg cd.toArray]) (by simp [results,Tryz.results108,asAddr,hld1,hld2]) rfl ?_
 exact ⟨rfl,fend HB0 FR⟩
set_option maxHeartbeats 8000000
def aboveB (mode:Nat) (neg:Bool) (h:Int) (odd:Bool):Bool :=
 if mode=1 then neg else if mode=2 then !neg else if mode=3 then false else if mode=4 then true else if h≠0 then decide (0<h) else if mode=5 then !neg else odd
theorem qxB (mode:Nat) (neg:Bool) (h:Int) (odd r:Bool) (w:World) (hm1:1≤mode) (hm2:mode≤6) (hr:r=aboveB mode neg h odd) :
  Calls Tryz.prog 111 #[.int .i64 (mode:Int),.bool neg,.int .i64 h,.bool odd] w fun e w'=>e=.returned (.bool r)∧w=w':=by
 have hmm:mode=1∨mode=2∨mode=3∨mode=4∨mode=5∨mode=6:=by omega
 have HR:=hid hr
 clear hr hm1 hm2
 go_enter Tryz.func111,Tryz.ntmps111
 rcases hmm with rfl|rfl|rfl|rfl|rfl|rfl
 ·go_wp2
  go_ret
  exact ⟨by rw [HR.out];rfl,rfl⟩
 ·go_wp2
  go_ret
  exact ⟨by rw [HR.out];rfl,rfl⟩
 ·go_wp2
  go_ret
  exact ⟨by rw [HR.out];rfl,rfl⟩
 ·go_wp2
  go_ret
  exact ⟨by rw [HR.out];rfl,rfl⟩
 ·by_cases h0:h=0
  ·subst h0
   go_wp2
   go_ret
   exact ⟨by rw [HR.out];rfl,rfl⟩
  ·have hne:(h != 0)=true:=by simp [h0]
   have HN:=hid h0
   clear h0
   go_wp2
   go_ret
   exact ⟨by rw [HR.out];simp [aboveB,HN.out],rfl⟩
 ·by_cases h0:h=0
  ·subst h0
   go_wp2
   go_ret
   exact ⟨by rw [HR.out];rfl,rfl⟩
  ·have hne:(h != 0)=true:=by simp [h0]
   have HN:=hid h0
   clear h0
   go_wp2
   go_ret
   exact ⟨by rw [HR.out];simp [aboveB,HN.out],rfl⟩
theorem qiC {f:FuncId} {args:Array Value} {w:World} {v:Value} (h:Calls Tryz.prog f args w fun e w'=>e=.returned v∧w=w'):Calls Tryz.prog f args w fun e w'=>e=.returned v∧Below w.heap.size w w' :=
 h.mono fun _ _ ⟨he,hw⟩=>⟨he,by subst hw;exact Below.refl _ _⟩
theorem qxY {c d r:List Value} {na nb n:Bool} {a b v:Nat} (hc:c=.bool na::lv 32 a) (hd:d=.bool nb::lv 32 b) (hr:r=.bool n::lv 32 v) (hn:n=decide (zI na a+zI nb b<0)) (hve:v=(zI na a+zI nb b).natAbs) (ha:a<BB^32) (hb:b<BB^32) (hv:v<BB^32) (W:World) :
  Calls Tryz.prog 78 #[.agg c.toArray,.agg d.toArray] W fun e w'=>e=.returned (.tuple #[.agg r.toArray,.int .i64 0])∧Below W.heap.size W w':=by
 subst hc hd hr;exact qxZ na nb n a b v W ha hb hv hn hve
theorem jbE {c d:List Value} {na nb:Bool} {a b:Nat} {z:Int} (hc:c=.bool na::lv 32 a) (hd:d=.bool nb::lv 32 b) (hz:z=cmpZ (zI na a) (zI nb b)) (ha:a<BB^32) (hb:b<BB^32) (W:World) :
  Calls Tryz.prog 112 #[.agg c.toArray,.agg d.toArray] W fun e w'=>e=.returned (.int .i64 z)∧Below W.heap.size W w':=by
 subst hc hd;exact qxX na nb a b z W ha hb hz
theorem At.low {w:World} {b:Nat} {c:List Value} {n:Bool} {v lo:Nat} (h:At w b 0 c) (hc:c=.bool n::lv 32 v) (hl:lo=lim v 0):w.cell? ⟨b,1,none⟩=some (.int .u32 (lo:Int)):=by
 subst hc hl
 have:=h.cell (j:=1) (v:=.int .u32 (lim v 0:Nat)) (by rw [List.getElem?_cons_succ];exact lv_get v (by omega))
 simpa using this
theorem qzE (v:Nat):lim v 0%2=v%2:=by
 unfold lim BB;omega
def flM (n:Bool) (P q:Nat):Nat:=if n=true∧P%q≠0 then P / q+1 else P / q
def flR (n:Bool) (P q:Nat):Nat:=if n=true∧P%q≠0 then q - P%q else P%q
def rndI (mode:Nat) (n:Bool) (P q:Nat):Int :=
 if flR n P q=0 then zI (cs1 n (flM n P q)) (flM n P q)
 else if aboveB mode n (cmpZ ((2*flR n P q:Nat):Int) (q:Int)) (decide (flM n P q%2=1))=true then zI (cs1 n (flM n P q)) (flM n P q)+1 else zI (cs1 n (flM n P q)) (flM n P q)
theorem qiV (n:Bool) (m:Nat):cs1 n m=decide (zI (cs1 n m) m<0)∧m=(zI (cs1 n m) m).natAbs:=by
 unfold cs1 zI
 by_cases h:m=0<;>cases n<;>simp [h]<;>omega
theorem jaY (n:Bool) (P q:Nat) (hq:q≠0):flR n P q<q:=by
 unfold flR
 have:=Nat.mod_lt P (Nat.pos_of_ne_zero hq)
 split<;>omega
theorem jaZ (n:Bool) (P q:Nat):flM n P q≤P+1:=by
 unfold flM
 have:=Nat.div_le_self P q
 split<;>omega
theorem qrN (mode:Nat) (n:Bool) (P q:Nat) (s v:Bool × Nat) (hs:s=(cs1 n (flM n P q),flM n P q)) (hv:v=(decide (rndI mode n P q<0),(rndI mode n P q).natAbs)) (b:Bool) (hb:b=aboveB mode n (cmpZ ((2*flR n P q:Nat):Int) (q:Int)) (decide (flM n P q%2=1))) :
  (flR n P q=0→v=s)∧(flR n P q≠0→b=false→v=s)∧(flR n P q≠0→b=true→v.1=decide (zI s.1 s.2+zI false 1<0)∧v.2=(zI s.1 s.2+zI false 1).natAbs):=by
 have hz:=qiV n (flM n P q)
 have e:zI false 1=1:=rfl
 refine ⟨fun h=>?_,fun h h2=>?_,fun h h2=>?_⟩
 ·rw [hv,hs];unfold rndI;rw [if_pos h,←hz.1,←hz.2]
 ·rw [hv,hs];unfold rndI;rw [if_neg h,←hb,h2,if_neg (by decide),←hz.1,←hz.2]
 ·rw [hv,hs,e];unfold rndI;rw [if_neg h,←hb,h2,if_pos rfl];exact ⟨rfl,rfl⟩
theorem qvA {cr cv:List Value} {n n2:Bool} {p q v2 k mode:Nat} (hr:cr=rat n p false q) (hv:cv=.bool n2::lv 32 v2) (hn:n=cs1 n p) (hp:p<B480) (hq:q<B480) (h0:q≠0) (hg:Nat.gcd p q=1) (hk:k≤9) (hm1:1≤mode) (hm2:mode≤6)
  (hn2:n2=decide (rndI mode n (p*10^k) q<0)) (hv2:v2=(rndI mode n (p*10^k) q).natAbs) (w:World) :
  Calls Tryz.prog 74 #[.agg cr.toArray,.int .i64 (k:Int),.int .i64 (mode:Int)] w fun e w'=>e=.returned (.tuple #[.agg cv.toArray,.int .i64 0])∧Below w.heap.size w w':=by
 have V_cr:=hid hr
 have V_cv:=hid hv
 obtain ⟨N,hN⟩:∃ N,N=p*10^k:=⟨_,rfl⟩
 have hNb:N<BB^16:=by
  have h1:p*10^k<BB^15*BB:=Nat.mul_lt_mul'' (qfK hp) (qxE hk)
  rw [←Nat.pow_succ,←hN] at h1;exact h1
 have up32:∀ {x j:Nat},j≤32→x<BB^j→x<BB^32:=fun hj h=>Nat.lt_of_lt_of_le h (Nat.pow_le_pow_right qaN hj)
 have hN32:N<BB^32:=up32 (by omega) hNb
 have hq32:=qaJ hq
 have hNn:n=cs1 n N:=by
  have h10:10^k≠0:=Nat.pos_iff_ne_zero.1 (Nat.pow_pos (by omega))
  rw [hN]
  by_cases h:p=0
  ·subst h;simpa [cs1] using hn
  ·have:p*10^k≠0:=Nat.mul_ne_zero h h10
   rw [hn];simp [cs1,h,this]
 rw [←hN] at hn2 hv2
 obtain ⟨m,hm⟩:∃ m,m=flM n N q:=⟨_,rfl⟩
 obtain ⟨re,hre⟩:∃ re,re=flR n N q:=⟨_,rfl⟩
 obtain ⟨s,hs⟩:∃ s,s=cs1 n m:=⟨_,rfl⟩
 have hrl:re<q:=by rw [hre];exact jaY n N q h0
 have hre32:re<BB^32:=Nat.lt_trans hrl hq32
 have b1:1≤BB^16:=Nat.one_le_pow _ _ qaN
 have b17:2*BB^16≤BB^17:=by rw [Nat.pow_succ,Nat.mul_comm];exact Nat.mul_le_mul_left _ (by unfold BB;omega)
 have hmb:m<BB^17:=by have:=jaZ n N q;rw [←hm] at this;omega
 have hm32:m<BB^32:=up32 (by omega) hmb
 have hre2:2*re<BB^32:=up32 (show 17≤32 by omega) (by
  have:=Nat.lt_trans hrl (qfK hq)
  have h2:=Nat.pow_le_pow_right qaN (show 15≤16 by omega)
  omega)
 obtain ⟨lo,hlo⟩:∃ lo,lo=lim m 0:=⟨_,rfl⟩
 obtain ⟨o2,ho2⟩:∃ o2:Int,o2=((lo%2:Nat):Int):=⟨_,rfl⟩
 have hodd:(o2==1)=decide (m%2=1):=by rw [ho2,hlo,qzE];by_cases h:m%2=1<;>simp [h]<;>omega
 obtain ⟨odd,hod⟩:∃ odd,odd=decide (m%2=1):=⟨_,rfl⟩
 rw [←hod] at hodd
 have hr1:(lo:Int).tmod 2=o2:=by rw [Int.tmod_eq_emod_of_nonneg (by omega)];omega
 have hr2:(lo:Int)%2=o2:=by omega
 obtain ⟨cz',hcz⟩:∃ c,c=cmpZ ((2*re:Nat):Int) (q:Int):=⟨_,rfl⟩
 obtain ⟨up,hup⟩:∃ u,u=aboveB mode n cz' odd:=⟨_,rfl⟩
 have hrc:=qrN mode n N q (s,m) (n2,v2) (by rw [hs,hm]) (by rw [hn2,hv2]) up (by rw [hup,hcz,hod,hre,hm])
 rw [←hre] at hrc
 have HRC:=hid hrc
 obtain ⟨cm,V_cm⟩:∃ c:List Value,Hid (c=.bool n::lv 32 N):=⟨_,hid rfl⟩
 obtain ⟨cd,V_cd⟩:∃ c:List Value,Hid (c=.bool false::lv 32 q):=⟨_,hid rfl⟩
 obtain ⟨cq,V_cq⟩:∃ c:List Value,Hid (c=.bool s::lv 32 m):=⟨_,hid rfl⟩
 obtain ⟨ce,V_ce⟩:∃ c:List Value,Hid (c=.bool false::lv 32 re):=⟨_,hid rfl⟩
 obtain ⟨c2,V_c2⟩:∃ c:List Value,Hid (c=.bool false::lv 32 (2*re)):=⟨_,hid rfl⟩
 obtain ⟨co,V_co⟩:∃ c:List Value,Hid (c=.bool false::lv 32 1):=⟨_,hid rfl⟩
 obtain ⟨cz,V_cz⟩:∃ c:List Value,Hid (c=.bool false::lv 32 0):=⟨_,hid rfl⟩
 have HV:=hid (qoB V_cr.out hn hp hq h0 hg)
 have HPL:=hid (fun W=>qiC (qsA k hk W))
 have HSC:=hid (fun W=>qrJ (k:=k) V_cr.out (show cm=.bool n::lv 32 (p*10^k) by rw [←hN];exact V_cm.out) V_cd.out hn hp hk W)
 have HDM:=hid (qdP (s:=s) V_cm.out V_cd.out V_cq.out V_ce.out (by rw [show (n != false)=n by cases n<;>rfl];exact hs) (by rw [hm];rfl) (by rw [hre];rfl) hN32 hq32 h0)
 obtain ⟨sg,hsg⟩:∃ x,x=sgnI false re:=⟨_,rfl⟩
 have HSR:=hid (qbR V_ce.out hsg hre32)
 have HAD:=hid (qxY V_ce.out V_ce.out V_c2.out (by unfold zI;simp;omega) (by unfold zI;simp;omega) hre32 hre32 hre2)
 obtain ⟨sn,hsn⟩:∃ x,x=sgnI n N:=⟨_,rfl⟩
 have HSN:=hid (qbR V_cm.out hsn hN32)
 have HCM:=hid (jbE (z:=cz') V_c2.out V_cd.out (by rw [hcz];rfl) hre2 hq32)
 have HAB:=hid (fun W=>qiC (qxB mode n cz' odd up W hm1 hm2 hup))
 have HFI:=hid (qeC (z:=1) V_co.out rfl rfl (by decide) (by decide))
 have HA2:=hid (fun (h1:re≠0) (h2:up=true)=>qxY (r:=cv) V_cq.out V_co.out V_cv.out (HRC.out.2.2 h1 h2).1 (HRC.out.2.2 h1 h2).2 hm32 (Nat.one_lt_pow (by omega) (by unfold BB;omega)) (by
  have h3:=(HRC.out.2.2 h1 h2).2
  simp only at h3
  rw [h3]
  have h4:(zI s m+zI false 1).natAbs≤m+1:=by unfold zI;split<;>simp<;>omega
  have h5:m+1≤BB^17:=hmb
  have h6:=Nat.pow_lt_pow_right (a:=BB) (by unfold BB;omega) (show 17<32 by omega)
  omega))
 have hsge:re=0→(sg==0)=true:=fun h=>by rw [hsg];unfold sgnI;simp [h]
 have hsgn:re≠0→(sg==0)=false:=fun h=>by rw [hsg];unfold sgnI;simp [h]
 have hsn0:re≠0→decide (sn<0)=n:=fun h=>by
  have hN0:N≠0:=by rintro rfl;apply h;rw [hre];unfold flR;simp
  rw [hsn];unfold sgnI;rw [if_neg hN0];cases n<;>simp
 have HS0:=hid (And.intro hsge (And.intro hsgn hsn0))
 have HLO:=hid hlo
 have m1:¬(mode:Int)<1:=by omega
 have m2:¬(6:Int)<(mode:Int):=by omega
 clear hr hv hn hp hq h0 hg hk hm1 hm2 hn2 hv2 hN hNb hN32 hq32 hNn hm hre hs hrl hre32 b1 b17 hmb hm32 hre2 hlo ho2 hod hcz hup hrc hsg hsn hsge hsgn hsn0 up32
 obtain ⟨B0,hB0⟩:∃ B,B=w.heap.size:=⟨_,rfl⟩
 obtain ⟨B1,hB1⟩:∃ B,B=w.heap.size+1:=⟨_,rfl⟩
 obtain ⟨w0,hw0⟩:∃ w0,w0=((w.alloc (.cells cr.toArray 27)).alloc (.cells zero33 25)):=⟨_,rfl⟩
 have AB0:=hid (show At w0 B0 0 cr by rw [hw0];exact ((show At (w.alloc (.cells cr.toArray 27)) B0 0 cr from At.fresh _ cr _ (by simp [hB0])).alloc _))
 have AB1:=hid (show At w0 B1 0 cz by rw [hw0];exact (show At ((w.alloc (.cells cr.toArray 27)).alloc (.cells zero33 25)) B1 0 cz from (by rw [V_cz.out];exact At.zero _ _ (by simp [hB1]))))
 have FR:=hid (show Fr B0 w w0 by rw [hw0,hB0];exact ((Fr.start w).alloc _).alloc _)
 have FR0:=hid FR.out.le
 have l01:B0<B1:=by omega
 have hZB1:B0≤B1:=by omega
 have hZB0:B0≤B0:=Nat.le_refl _
 unfold zero33 at hw0
 have HB0:=hid hB0
 go_enter Tryz.func74,Tryz.ntmps74
 go_upto_region 1 with fail
 rw [←hw0,←hB1,←hB0]
 clear hw0 hB0 hB1
 refine wfn [] [(16,.agg cr.toArray),(17,.bool true),(18,.bool false),(15,.bool false)] _ (by simp only [zz4,zz5,zq];rfl) (by kernel_rfl) (by kernel_rfl) rfl ?_ ?_ ?_ ?_
 ·intro W' hW'
  have rd0:=AB0.out.below hW'
  refine fxo (wlg (by rfl) rfl rfl rd0 Tryz.underlying27 rfl (qR V_cr.out) (wqn (by simp only [zq]))) ?_
  refine fxo ?_ ?_;(go_big_quiet_step ((go_at_call 77;exact qaA (HV.out _)));(try simp only [zq]);exact wqn rfl)
  iterate 2 (refine fxo ?_ ?_;(go_big_quiet_step (fail);(try simp only [zq]);exact wqn rfl))
  exact fxn
 ·exact oN
 ·exact oN
 intro β wx1 E
 replace FR:=hid (FR.out.fnw E rfl)
 replace AB0:=hid (AB0.out.fnw E rfl)
 replace AB1:=hid (AB1.out.fnw E rfl)
 have hE:=E.below rfl
 simp only [nP,zr,zq]
 replace FR0:=hid FR.out.le
 clear E
 go_upto_region 3 with fail
 refine wfn [] [(21,.int .i64 (k:Int)),(22,.bool true),(23,.bool false),(20,.bool false)] _ (by simp only [zz4,zz5,zq];rfl) (by kernel_rfl) (by kernel_rfl) rfl ?_ ?_ ?_ ?_
 ·intro W' hW'
  refine fxo ?_ ?_;(go_big_quiet_step (fail);(try simp only [zq]);exact wqn rfl)
  refine fxo ?_ ?_;(go_big_quiet_step ((go_at_call 107;exact qaA (HPL.out _)));(try simp only [zq]);exact wqn rfl)
  iterate 2 (refine fxo ?_ ?_;(go_big_quiet_step (fail);(try simp only [zq]);exact wqn rfl))
  exact fxn
 ·exact oN
 ·exact oN
 intro β wx2 E
 replace FR:=hid (FR.out.fnw E rfl)
 replace AB0:=hid (AB0.out.fnw E rfl)
 replace AB1:=hid (AB1.out.fnw E rfl)
 have hE:=E.below rfl
 simp only [nP,zr,zq]
 replace FR0:=hid FR.out.le
 clear E
 go_upto_region 5 with fail
 refine wfn [] [(26,.int .i64 (mode:Int)),(27,.bool false),(28,.bool false),(29,.int .i64 (mode:Int)),(30,.bool false),(31,.bool false),(25,.bool false)] _ (by simp only [zz4,zz5,zq];rfl) (by kernel_rfl) (by kernel_rfl) rfl ?_ ?_ ?_ ?_
 ·intro W' hW'
  iterate 7 (refine fxo ?_ ?_;(go_big_quiet_step (fail);(try simp only [zq]);exact wqn rfl))
  exact fxn
 ·exact oN
 ·exact oN
 intro β wx3 E
 replace FR:=hid (FR.out.fnw E rfl)
 replace AB0:=hid (AB0.out.fnw E rfl)
 replace AB1:=hid (AB1.out.fnw E rfl)
 have hE:=E.below rfl
 simp only [nP,zr,zq]
 replace FR0:=hid FR.out.le
 clear E
 clear m1 m2
 go_upto_region 7 with fail
 refine wfn [⟨true,6,8,8,0,0,25,37,cm,0,cm,[]⟩,⟨true,7,9,9,0,0,25,38,cd,0,cd,[]⟩] [(34,.agg cr.toArray),(35,.int .i64 (k:Int)),(36,.tuple #[.agg cm.toArray,.agg cd.toArray]),(33,.tuple #[.agg cm.toArray,.agg cd.toArray]),(37,.agg cm.toArray),(38,.agg cd.toArray)] _ (by simp only [zz4,zz5,zq];rfl) (by kernel_rfl) (by kernel_rfl) rfl ?_ ?_ ?_ ?_
 ·intro W' hW'
  have rd0:=AB0.out.below hW'
  refine fxo (wlg (by rfl) rfl rfl rd0 Tryz.underlying27 rfl (qR V_cr.out) (wqn (by simp only [zq]))) ?_
  refine fxo ?_ ?_;(go_big_quiet_step (fail);(try simp only [zq]);exact wqn rfl)
  refine fxo ?_ ?_;(go_big_quiet_step ((go_at_call 108;exact qaA (HSC.out _)));(try simp only [zq]);exact wqn rfl)
  iterate 3 (refine fxo ?_ ?_;(go_big_quiet_step (fail);(try simp only [zq]);exact wqn rfl))
  iterate 4 (refine fxs (by rfl) ?_)
  exact fxn
 ·exact oP _ _ (Tryz.alI (qI V_cm.out)) (oP _ _ (Tryz.alI (qI V_cd.out)) (oN))
 ·exact oP _ _ (stw rfl (qI V_cm.out) (qbL V_cm.out) (fun _=>rfl)) (oP _ _ (stw rfl (qI V_cd.out) (qbL V_cd.out) (fun _=>rfl)) (oN))
 intro β wx4 E
 replace FR:=hid (FR.out.fnw E rfl)
 obtain ⟨b8,hb8⟩:∃ b,b=β 6:=⟨_,rfl⟩
 have eb8:=E.atNew mms rfl
 simp only at eb8
 rw [←hb8] at eb8
 have lB0_b8:B0<b8:=by have h1:=eb8.1;have h2:=AB0.out.lt;omega
 have lB1_b8:B1<b8:=by have h1:=eb8.1;have h2:=AB1.out.lt;omega
 have hZb8:B0≤b8:=by have h1:=eb8.1;have h2:=FR0.out;omega
 obtain ⟨b9,hb9⟩:∃ b,b=β 7:=⟨_,rfl⟩
 have eb9:=E.atNew (List.mem_cons_of_mem _ mms) rfl
 simp only at eb9
 rw [←hb9] at eb9
 have lB0_b9:B0<b9:=by have h1:=eb9.1;have h2:=AB0.out.lt;omega
 have lB1_b9:B1<b9:=by have h1:=eb9.1;have h2:=AB1.out.lt;omega
 have hZb9:B0≤b9:=by have h1:=eb9.1;have h2:=FR0.out;omega
 have nb8_b9:b8≠b9:=fun e=>absurd (E.apart _ mms _ (List.mem_cons_of_mem _ mms) rfl rfl (by rw [hb8,hb9] at e;exact e)) (show ¬(6:Nat)=7 by decide)
 clear AB0
 replace AB1:=hid (AB1.out.fnw E rfl)
 have Ab8:=hid eb8.2
 have Ab9:=hid eb9.2
 simp only [nP,zr,zq]
 rw [←hb8]
 rw [←hb9]
 replace FR0:=hid FR.out.le
 clear E eb8 hb8 eb9 hb9
 go_upto_region 8 with fail
 refine wfn [⟨true,7,10,9,0,0,25,43,cq,0,cq,[]⟩,⟨true,8,11,10,0,0,25,44,ce,0,ce,[]⟩] [(40,.agg cm.toArray),(41,.agg cd.toArray),(42,.tuple #[.agg cq.toArray,.agg ce.toArray,.int .i64 0]),(39,.tuple #[.agg cq.toArray,.agg ce.toArray,.int .i64 0]),(43,.agg cq.toArray),(44,.agg ce.toArray),(45,.int .i64 0),(12,.int .i64 0)] _ (by simp only [zz4,zz5,zq];rfl) (by kernel_rfl) (by kernel_rfl) rfl ?_ ?_ ?_ ?_
 ·intro W' hW'
  have rd0:=Ab8.out.below hW'
  have rd1:=Ab9.out.below hW'
  refine fxo (wlg (by rfl) rfl rfl rd0 Tryz.underlying25 rfl (qI V_cm.out) (wqn (by simp only [zq]))) ?_
  refine fxo (wlg (by rfl) rfl rfl rd1 Tryz.underlying25 rfl (qI V_cd.out) (wqn (by simp only [zq]))) ?_
  refine fxo ?_ ?_;(go_big_quiet_step ((go_at_call 109;exact qaA (HDM.out _)));(try simp only [zq]);exact wqn rfl)
  iterate 4 (refine fxo ?_ ?_;(go_big_quiet_step (fail);(try simp only [zq]);exact wqn rfl))
  iterate 4 (refine fxs (by rfl) ?_)
  refine fxo ?_ ?_;(go_big_quiet_step (fail);(try simp only [zq]);exact wqn rfl)
  exact fxn
 ·exact oP _ _ (Tryz.alI (qI V_cq.out)) (oP _ _ (Tryz.alI (qI V_ce.out)) (oN))
 ·exact oP _ _ (stw rfl (qI V_cq.out) (qbL V_cq.out) (fun _=>rfl)) (oP _ _ (stw rfl (qI V_ce.out) (qbL V_ce.out) (fun _=>rfl)) (oN))
 intro β wx5 E
 replace FR:=hid (FR.out.fnw E rfl)
 obtain ⟨b10,hb10⟩:∃ b,b=β 7:=⟨_,rfl⟩
 have eb10:=E.atNew mms rfl
 simp only at eb10
 rw [←hb10] at eb10
 have lB1_b10:B1<b10:=by have h1:=eb10.1;have h2:=AB1.out.lt;omega
 have lb8_b10:b8<b10:=by have h1:=eb10.1;have h2:=Ab8.out.lt;omega
 have lb9_b10:b9<b10:=by have h1:=eb10.1;have h2:=Ab9.out.lt;omega
 have hZb10:B0≤b10:=by have h1:=eb10.1;have h2:=FR0.out;omega
 obtain ⟨b11,hb11⟩:∃ b,b=β 8:=⟨_,rfl⟩
 have eb11:=E.atNew (List.mem_cons_of_mem _ mms) rfl
 simp only at eb11
 rw [←hb11] at eb11
 have lB1_b11:B1<b11:=by have h1:=eb11.1;have h2:=AB1.out.lt;omega
 have lb8_b11:b8<b11:=by have h1:=eb11.1;have h2:=Ab8.out.lt;omega
 have lb9_b11:b9<b11:=by have h1:=eb11.1;have h2:=Ab9.out.lt;omega
 have hZb11:B0≤b11:=by have h1:=eb11.1;have h2:=FR0.out;omega
 have nb10_b11:b10≠b11:=fun e=>absurd (E.apart _ mms _ (List.mem_cons_of_mem _ mms) rfl rfl (by rw [hb10,hb11] at e;exact e)) (show ¬(7:Nat)=8 by decide)
 replace AB1:=hid (AB1.out.fnw E rfl)
 replace Ab8:=hid (Ab8.out.fnw E rfl)
 replace Ab9:=hid (Ab9.out.fnw E rfl)
 have Ab10:=hid eb10.2
 have Ab11:=hid eb11.2
 simp only [nP,zr,zq]
 rw [←hb10]
 rw [←hb11]
 replace FR0:=hid FR.out.le
 clear E eb10 hb10 eb11 hb11
 go_upto_region 9 with fail
 by_cases hr0:re=0
 ·have hse:=HS0.out.1 hr0
  have HE:=hid (HRC.out.1 hr0)
  clear hr0
  refine wfn [] [(46,.agg ce.toArray),(47,.int .i64 sg),(48,.bool true)] _ (by simp only [zz4,zz5,zq];rfl) (by kernel_rfl) (by kernel_rfl) rfl ?_ ?_ ?_ ?_
  ·intro W' hW'
   have rd0:=Ab11.out.below hW'
   refine fxo (wlg (by rfl) rfl rfl rd0 Tryz.underlying25 rfl (qI V_ce.out) (wqn (by simp only [zq]))) ?_
   refine fxo ?_ ?_;(go_big_quiet_step ((go_at_call 110;exact qaA (HSR.out _)));(try simp only [zq]);exact wqn rfl)
   refine fxo ?_ ?_;(go_big_quiet_step (fail);(try simp only [zq]);exact wqn rfl)
   exact fxn
  ·exact oN
  ·exact oN
  intro β wx6 E
  replace FR:=hid (FR.out.fnw E rfl)
  replace AB1:=hid (AB1.out.fnw E rfl)
  replace Ab8:=hid (Ab8.out.fnw E rfl)
  replace Ab9:=hid (Ab9.out.fnw E rfl)
  replace Ab10:=hid (Ab10.out.fnw E rfl)
  replace Ab11:=hid (Ab11.out.fnw E rfl)
  have hE:=E.below rfl
  simp only [nP,zr,zq]
  replace FR0:=hid FR.out.le
  clear E
  clear hse
  go_upto_region 10 with fail
  refine qwf [⟨false,0,6,1,B1,0,25,49,cq,0,cq,[]⟩] [(49,.agg cq.toArray),(7,.int .i64 0)] _ (by simp only [zz4,zz5,zq];rfl) (by kernel_rfl) (by kernel_rfl) ?_ ?_ ?_ ?_ ?_ ?_ ?_
  ·intro W' hW'
   have rd0:=Ab10.out.below hW'
   refine fxo (wlg (by rfl) rfl rfl rd0 Tryz.underlying25 rfl (qI V_cq.out) (wqn (by simp only [zq]))) ?_
   refine fxs (by rfl) ?_
   refine fxo ?_ ?_;(go_big_quiet_step (fail);(try simp only [zq]);exact wqn rfl)
   exact fxn
  ·intro W' hK'
   have rd0:=At.keep hK' Ab10.out (oP _ _ (fun _=>(by show B1≠b10;omega)) (oN))
   refine fxo (wlg (by rfl) rfl rfl rd0 Tryz.underlying25 rfl (qI V_cq.out) (wqn (by simp only [zq]))) ?_
   refine fxs (by kernel_rfl) ?_
   first|(refine fxo ?_ ?_;(go_big_quiet_step (fail);(try simp only [zq]);exact wqn rfl))|(refine fxs (by kernel_rfl) ?_)
   exact fxn
  ·exact oP _ _ (bnc) (oN)
  ·exact oP _ _ (fun _=>⟨AB1.out.lt,rfl,At.room AB1.out (qI V_cz.out) (qI V_cq.out)⟩) (oN)
  ·exact uno
  ·exact oP _ _ (stw rfl (qI V_cq.out) (qbL V_cq.out) (fun _=>rfl)) (oN)
  intro β wx7 E
  replace FR:=hid (FR.out.flow E (oP _ _ (fun _=>(by show B0≤B1;omega)) (oN)))
  replace AB1:=hid (show At wx7 B1 0 cq from E.atOld mms rfl AB1.out.lt)
  replace Ab8:=hid (At.flow E Ab8.out (oP _ _ (fun _=>(by show B1≠b8;omega)) (oN)))
  replace Ab9:=hid (At.flow E Ab9.out (oP _ _ (fun _=>(by show B1≠b9;omega)) (oN)))
  replace Ab10:=hid (At.flow E Ab10.out (oP _ _ (fun _=>(by show B1≠b10;omega)) (oN)))
  replace Ab11:=hid (At.flow E Ab11.out (oP _ _ (fun _=>(by show B1≠b11;omega)) (oN)))
  simp only [nP,zr,zq]
  replace FR0:=hid FR.out.le
  clear E
  have HEV:=hid (show cq=cv by have:=HE.out;simp only [Prod.mk.injEq] at this;rw [V_cq.out,V_cv.out,this.1,this.2])
  rw [HEV.out] at AB1
  go_wp2_with fail
  have hld:=AB1.out.read (P:=Tryz.prog) Tryz.underlying25 rfl (qI V_cv.out)
  refine bodyPost_ret (v:=.tuple #[.agg cv.toArray,.int .i64 0]) (by simp [results,Tryz.results74,asAddr,hld]) rfl ?_
  exact ⟨rfl,fend HB0 FR⟩
 ·have hse:=HS0.out.2.1 hr0
  have hsn:=HS0.out.2.2 hr0
  have HR0:=hid hr0
  clear hr0
  refine wfn [] [(46,.agg ce.toArray),(47,.int .i64 sg),(48,.bool false)] _ (by simp only [zz4,zz5,zq];rfl) (by kernel_rfl) (by kernel_rfl) rfl ?_ ?_ ?_ ?_
  ·intro W' hW'
   have rd0:=Ab11.out.below hW'
   refine fxo (wlg (by rfl) rfl rfl rd0 Tryz.underlying25 rfl (qI V_ce.out) (wqn (by simp only [zq]))) ?_
   refine fxo ?_ ?_;(go_big_quiet_step ((go_at_call 110;exact qaA (HSR.out _)));(try simp only [zq]);exact wqn rfl)
   refine fxo ?_ ?_;(go_big_quiet_step (fail);(try simp only [zq]);exact wqn rfl)
   exact fxn
  ·exact oN
  ·exact oN
  intro β wx6 E
  replace FR:=hid (FR.out.fnw E rfl)
  replace AB1:=hid (AB1.out.fnw E rfl)
  replace Ab8:=hid (Ab8.out.fnw E rfl)
  replace Ab9:=hid (Ab9.out.fnw E rfl)
  replace Ab10:=hid (Ab10.out.fnw E rfl)
  replace Ab11:=hid (Ab11.out.fnw E rfl)
  have hE:=E.below rfl
  simp only [nP,zr,zq]
  replace FR0:=hid FR.out.le
  clear E
  clear hse
  go_upto_region 11 with fail
  refine wfn [⟨true,6,13,7,0,0,25,54,c2,0,c2,[]⟩] [(51,.agg ce.toArray),(52,.agg ce.toArray),(53,.tuple #[.agg c2.toArray,.int .i64 0]),(50,.tuple #[.agg c2.toArray,.int .i64 0]),(54,.agg c2.toArray),(55,.int .i64 0),(14,.int .i64 0)] _ (by simp only [zz4,zz5,zq];rfl) (by kernel_rfl) (by kernel_rfl) rfl ?_ ?_ ?_ ?_
  ·intro W' hW'
   have rd0:=Ab11.out.below hW'
   iterate 2 (refine fxo (wlg (by rfl) rfl rfl rd0 Tryz.underlying25 rfl (qI V_ce.out) (wqn (by simp only [zq]))) ?_)
   refine fxo ?_ ?_;(go_big_quiet_step ((go_at_call 78;exact qaA (HAD.out _)));(try simp only [zq]);exact wqn rfl)
   iterate 3 (refine fxo ?_ ?_;(go_big_quiet_step (fail);(try simp only [zq]);exact wqn rfl))
   iterate 2 (refine fxs (by rfl) ?_)
   refine fxo ?_ ?_;(go_big_quiet_step (fail);(try simp only [zq]);exact wqn rfl)
   exact fxn
  ·exact oP _ _ (Tryz.alI (qI V_c2.out)) (oN)
  ·exact oP _ _ (stw rfl (qI V_c2.out) (qbL V_c2.out) (fun _=>rfl)) (oN)
  intro β wx7 E
  replace FR:=hid (FR.out.fnw E rfl)
  obtain ⟨b13,hb13⟩:∃ b,b=β 6:=⟨_,rfl⟩
  have eb13:=E.atNew mms rfl
  simp only at eb13
  rw [←hb13] at eb13
  have lB1_b13:B1<b13:=by have h1:=eb13.1;have h2:=AB1.out.lt;omega
  have lb8_b13:b8<b13:=by have h1:=eb13.1;have h2:=Ab8.out.lt;omega
  have lb9_b13:b9<b13:=by have h1:=eb13.1;have h2:=Ab9.out.lt;omega
  have lb10_b13:b10<b13:=by have h1:=eb13.1;have h2:=Ab10.out.lt;omega
  have lb11_b13:b11<b13:=by have h1:=eb13.1;have h2:=Ab11.out.lt;omega
  have hZb13:B0≤b13:=by have h1:=eb13.1;have h2:=FR0.out;omega
  replace AB1:=hid (AB1.out.fnw E rfl)
  replace Ab8:=hid (Ab8.out.fnw E rfl)
  replace Ab9:=hid (Ab9.out.fnw E rfl)
  replace Ab10:=hid (Ab10.out.fnw E rfl)
  replace Ab11:=hid (Ab11.out.fnw E rfl)
  have Ab13:=hid eb13.2
  simp only [nP,zr,zq]
  rw [←hb13]
  replace FR0:=hid FR.out.le
  clear E eb13 hb13
  go_upto_region 12 with fail
  refine wfn [] [(56,.int .i64 (mode:Int)),(57,.agg cm.toArray),(58,.int .i64 sn),(59,.bool n),(60,.agg c2.toArray),(61,.agg cd.toArray),(62,.int .i64 cz'),(63,.pointer (some ⟨b10,1,none⟩)),(64,.pointer (some ⟨b10,1,none⟩)),(65,.int .u32 (lo:Int)),(66,.int .u32 o2),(67,.bool odd),(68,.bool up)] _ (by simp only [zz4,zz5,zq];rfl) (by kernel_rfl) (by kernel_rfl) rfl ?_ ?_ ?_ ?_
  ·intro W' hW'
   have rd0:=Ab8.out.below hW'
   have rd1:=Ab13.out.below hW'
   have rd2:=Ab9.out.below hW'
   have cl9:=fun p os=>qaF ((Ab10.out.below hW').low V_cq.out HLO.out) p os
   refine fxo ?_ ?_;(go_big_quiet_step (fail);(try simp only [zq]);exact wqn rfl)
   refine fxo (wlg (by rfl) rfl rfl rd0 Tryz.underlying25 rfl (qI V_cm.out) (wqn (by simp only [zq]))) ?_
   refine fxo ?_ ?_;(go_big_quiet_step ((go_at_call 110;exact qaA (HSN.out _)));(try simp only [zq]);exact wqn rfl)
   refine fxo ?_ ?_;(go_big_quiet_step (fail);(try simp only [zq]);exact wqn rfl)
   refine fxo (wlg (by rfl) rfl rfl rd1 Tryz.underlying25 rfl (qI V_c2.out) (wqn (by simp only [zq]))) ?_
   refine fxo (wlg (by rfl) rfl rfl rd2 Tryz.underlying25 rfl (qI V_cd.out) (wqn (by simp only [zq]))) ?_
   refine fxo ?_ ?_;(go_big_quiet_step ((go_at_call 112;exact qaA (HCM.out _)));(try simp only [zq]);exact wqn rfl)
   iterate 5 (refine fxo ?_ ?_;(go_big_quiet_step (fail);(try simp only [zq]);exact wqn rfl))
   refine fxo ?_ ?_;(go_big_quiet_step ((go_at_call 111;exact qaA (HAB.out _)));(try simp only [zq]);exact wqn rfl)
   exact fxn
  ·exact oN
  ·exact oN
  intro β wx8 E
  replace FR:=hid (FR.out.fnw E rfl)
  replace AB1:=hid (AB1.out.fnw E rfl)
  replace Ab8:=hid (Ab8.out.fnw E rfl)
  replace Ab9:=hid (Ab9.out.fnw E rfl)
  replace Ab10:=hid (Ab10.out.fnw E rfl)
  replace Ab11:=hid (Ab11.out.fnw E rfl)
  replace Ab13:=hid (Ab13.out.fnw E rfl)
  have hE:=E.below rfl
  simp only [nP,zr,zq]
  replace FR0:=hid FR.out.le
  clear E
  clear hsn hr1 hr2 hodd
  cases up with
  | true =>
   go_upto_region 13 with fail
   refine qwf [⟨false,0,10,6,b10,0,25,73,cv,0,cv,[]⟩] [(70,.agg cq.toArray),(71,.agg co.toArray),(72,.tuple #[.agg cv.toArray,.int .i64 0]),(69,.tuple #[.agg cv.toArray,.int .i64 0]),(73,.agg cv.toArray),(74,.int .i64 0)] _ (by simp only [zz4,zz5,zq];rfl) (by kernel_rfl) (by kernel_rfl) ?_ ?_ ?_ ?_ ?_ ?_ ?_
   ·intro W' hW'
    have rd0:=Ab10.out.below hW'
    refine fxo (wlg (by rfl) rfl rfl rd0 Tryz.underlying25 rfl (qI V_cq.out) (wqn (by simp only [zq]))) ?_
    refine fxo ?_ ?_;(go_big_quiet_step ((go_at_call 76;exact qaA (HFI.out _)));(try simp only [zq]);exact wqn rfl)
    refine fxo ?_ ?_;(go_big_quiet_step ((go_at_call 78;exact qaA (HA2.out HR0.out rfl _)));(try simp only [zq]);exact wqn rfl)
    iterate 3 (refine fxo ?_ ?_;(go_big_quiet_step (fail);(try simp only [zq]);exact wqn rfl))
    refine fxs (by rfl) ?_
    exact fxn
   ·intro W' hK'
    iterate 3 (refine fxs (by kernel_rfl) ?_)
    iterate 3 (first|(refine fxo ?_ ?_;(go_big_quiet_step (fail);(try simp only [zq]);exact wqn rfl))|(refine fxs (by kernel_rfl) ?_))
    refine fxs (by kernel_rfl) ?_
    exact fxn
   ·exact oP _ _ (bnc) (oN)
   ·exact oP _ _ (fun _=>⟨Ab10.out.lt,rfl,At.room Ab10.out (qI V_cq.out) (qI V_cv.out)⟩) (oN)
   ·exact uno
   ·exact oP _ _ (stw rfl (qI V_cv.out) (qbL V_cv.out) (fun _=>rfl)) (oN)
   intro β wx9 E
   replace FR:=hid (FR.out.flow E (oP _ _ (fun _=>(by show B0≤b10;omega)) (oN)))
   replace AB1:=hid (At.flow E AB1.out (oP _ _ (fun _=>(by show b10≠B1;omega)) (oN)))
   replace Ab8:=hid (At.flow E Ab8.out (oP _ _ (fun _=>(by show b10≠b8;omega)) (oN)))
   replace Ab9:=hid (At.flow E Ab9.out (oP _ _ (fun _=>(by show b10≠b9;omega)) (oN)))
   replace Ab10:=hid (show At wx9 b10 0 cv from E.atOld mms rfl Ab10.out.lt)
   replace Ab11:=hid (At.flow E Ab11.out (oP _ _ (fun _=>(by show b10≠b11;omega)) (oN)))
   replace Ab13:=hid (At.flow E Ab13.out (oP _ _ (fun _=>(by show b10≠b13;omega)) (oN)))
   simp only [nP,zr,zq]
   replace FR0:=hid FR.out.le
   clear E
   go_upto_region 14 with fail
   refine qwf [⟨false,0,6,1,B1,0,25,75,cv,0,cv,[]⟩] [(75,.agg cv.toArray),(7,.int .i64 0)] _ (by simp only [zz4,zz5,zq];rfl) (by kernel_rfl) (by kernel_rfl) ?_ ?_ ?_ ?_ ?_ ?_ ?_
   ·intro W' hW'
    have rd0:=Ab10.out.below hW'
    refine fxo (wlg (by rfl) rfl rfl rd0 Tryz.underlying25 rfl (qI V_cv.out) (wqn (by simp only [zq]))) ?_
    refine fxs (by rfl) ?_
    refine fxo ?_ ?_;(go_big_quiet_step (fail);(try simp only [zq]);exact wqn rfl)
    exact fxn
   ·intro W' hK'
    have rd0:=At.keep hK' Ab10.out (oP _ _ (fun _=>(by show B1≠b10;omega)) (oN))
    refine fxo (wlg (by rfl) rfl rfl rd0 Tryz.underlying25 rfl (qI V_cv.out) (wqn (by simp only [zq]))) ?_
    refine fxs (by kernel_rfl) ?_
    first|(refine fxo ?_ ?_;(go_big_quiet_step (fail);(try simp only [zq]);exact wqn rfl))|(refine fxs (by kernel_rfl) ?_)
    exact fxn
   ·exact oP _ _ (bnc) (oN)
   ·exact oP _ _ (fun _=>⟨AB1.out.lt,rfl,At.room AB1.out (qI V_cz.out) (qI V_cv.out)⟩) (oN)
   ·exact uno
   ·exact oP _ _ (stw rfl (qI V_cv.out) (qbL V_cv.out) (fun _=>rfl)) (oN)
   intro β wx10 E
   replace FR:=hid (FR.out.flow E (oP _ _ (fun _=>(by show B0≤B1;omega)) (oN)))
   replace AB1:=hid (show At wx10 B1 0 cv from E.atOld mms rfl AB1.out.lt)
   replace Ab8:=hid (At.flow E Ab8.out (oP _ _ (fun _=>(by show B1≠b8;omega)) (oN)))
   replace Ab9:=hid (At.flow E Ab9.out (oP _ _ (fun _=>(by show B1≠b9;omega)) (oN)))
   replace Ab10:=hid (At.flow E Ab10.out (oP _ _ (fun _=>(by show B1≠b10;omega)) (oN)))
   replace Ab11:=hid (At.flow E Ab11.out (oP _ _ (fun _=>(by show B1≠b11;omega)) (oN)))
   replace Ab13:=hid (At.flow E Ab13.out (oP _ _ (fun _=>(by show B1≠b13;omega)) (oN)))
   simp only [nP,zr,zq]
   replace FR0:=hid FR.out.le
   clear E
   go_wp2_with fail
   have hld:=AB1.out.read (P:=Tryz.prog) Tryz.underlying25 rfl (qI V_cv.out)
   refine bodyPost_ret (v:=.tuple #[.agg cv.toArray,.int .i64 0]) (by simp [results,Tryz.results74,asAddr,hld]) rfl ?_
   exact ⟨rfl,fend HB0 FR⟩
  | false =>
   go_upto_region 14 with fail
   refine qwf [⟨false,0,6,1,B1,0,25,75,cq,0,cq,[]⟩] [(75,.agg cq.toArray),(7,.int .i64 0)] _ (by simp only [zz4,zz5,zq];rfl) (by kernel_rfl) (by kernel_rfl) ?_ ?_ ?_ ?_ ?_ ?_ ?_
   ·intro W' hW'
    have rd0:=Ab10.out.below hW'
    refine fxo (wlg (by rfl) rfl rfl rd0 Tryz.underlying25 rfl (qI V_cq.out) (wqn (by simp only [zq]))) ?_
    refine fxs (by rfl) ?_
    refine fxo ?_ ?_;(go_big_quiet_step (fail);(try simp only [zq]);exact wqn rfl)
    exact fxn
   ·intro W' hK'
    have rd0:=At.keep hK' Ab10.out (oP _ _ (fun _=>(by show B1≠b10;omega)) (oN))
    refine fxo (wlg (by rfl) rfl rfl rd0 Tryz.underlying25 rfl (qI V_cq.out) (wqn (by simp only [zq]))) ?_
    refine fxs (by kernel_rfl) ?_
    first|(refine fxo ?_ ?_;(go_big_quiet_step (fail);(try simp only [zq]);exact wqn rfl))|(refine fxs (by kernel_rfl) ?_)
    exact fxn
   ·exact oP _ _ (bnc) (oN)
   ·exact oP _ _ (fun _=>⟨AB1.out.lt,rfl,At.room AB1.out (qI V_cz.out) (qI V_cq.out)⟩) (oN)
   ·exact uno
   ·exact oP _ _ (stw rfl (qI V_cq.out) (qbL V_cq.out) (fun _=>rfl)) (oN)
   intro β wx9 E
   replace FR:=hid (FR.out.flow E (oP _ _ (fun _=>(by show B0≤B1;omega)) (oN)))
   replace AB1:=hid (show At wx9 B1 0 cq from E.atOld mms rfl AB1.out.lt)
   replace Ab8:=hid (At.flow E Ab8.out (oP _ _ (fun _=>(by show B1≠b8;omega)) (oN)))
   replace Ab9:=hid (At.flow E Ab9.out (oP _ _ (fun _=>(by show B1≠b9;omega)) (oN)))
   replace Ab10:=hid (At.flow E Ab10.out (oP _ _ (fun _=>(by show B1≠b10;omega)) (oN)))
   replace Ab11:=hid (At.flow E Ab11.out (oP _ _ (fun _=>(by show B1≠b11;omega)) (oN)))
   replace Ab13:=hid (At.flow E Ab13.out (oP _ _ (fun _=>(by show B1≠b13;omega)) (oN)))
   simp only [nP,zr,zq]
   replace FR0:=hid FR.out.le
   clear E
   have HEV:=hid (show cq=cv by have:=HRC.out.2.1 HR0.out rfl;simp only [Prod.mk.injEq] at this;rw [V_cq.out,V_cv.out,this.1,this.2])
   rw [HEV.out] at AB1
   go_wp2_with fail
   have hld:=AB1.out.read (P:=Tryz.prog) Tryz.underlying25 rfl (qI V_cv.out)
   refine bodyPost_ret (v:=.tuple #[.agg cv.toArray,.int .i64 0]) (by simp [results,Tryz.results74,asAddr,hld]) rfl ?_
   exact ⟨rfl,fend HB0 FR⟩
end Go.Proofs.YtooeabibhjbkoaaGreat
