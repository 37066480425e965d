import Derived.Test.YtooeabibhjbkoaaGreatPcA
import Derived.Test.YtooeabibhjbkoaaGreatQrB
import Derived.Test.YtooeabibhjbkoaaGreatBiM
import Derived.Test.YtooeabibhjbkoaaGreatBiN
set_option linter.unusedVariables false
set_option linter.unusedSimpArgs false
set_option maxRecDepth 100000
set_option maxHeartbeats 8000000
namespace Go.Proofs.YtooeabibhjbkoaaGreat
open Go.RowKit Big
open Lib (hid)
theorem rcmpZ {ca cb:List Value} {a b z:Int} (h1:ca=iZ a) (h2:cb=iZ b) (hz:z=cmpZ a b) (ha:a.natAbs<BB^32) (hb:b.natAbs<BB^32) (w:World) :
  Calls Tryz.prog 112 #[.agg ca.toArray,.agg cb.toArray] w fun e w'=>e=.returned (.int .i64 z)∧Below w.heap.size w w':=by
 subst h1 h2
 exact cmp_is (decide (a<0)) (decide (b<0)) a.natAbs b.natAbs z w ha hb (by rw [zI_of,zI_of];exact hz)
theorem rcompareQ {ca cb:List Value} {a b:Qn} {z:Int} (h1:ca=ratZ a.1 a.2) (h2:cb=ratZ b.1 b.2) (ha:VQ a) (hb:VQ b) (hz:z=cmpZ (a.1*(b.2:Int)) (b.1*(a.2:Int))) (w:World) :
  Calls Tryz.prog 81 #[.agg ca.toArray,.agg cb.toArray] w fun e w'=>e=.returned (.int .i64 z)∧Below w.heap.size w w':=by
 have V_ca:=hid h1
 have V_cb:=hid h2
 have hx:(a.1*(b.2:Int)).natAbs<BB^30:=by rw [Int.natAbs_mul];exact mul30 ha.num (by simpa using hb.den)
 have hy:(b.1*(a.2:Int)).natAbs<BB^30:=by rw [Int.natAbs_mul];exact mul30 hb.num (by simpa using ha.den)
 obtain ⟨cna,V_cna⟩:∃ c:List Value,Hid (c=iZ a.1):=⟨_,hid rfl⟩
 obtain ⟨cnb,V_cnb⟩:∃ c:List Value,Hid (c=iZ b.1):=⟨_,hid rfl⟩
 obtain ⟨cx,V_cx⟩:∃ c:List Value,Hid (c=iZ (a.1*(b.2:Int))):=⟨_,hid rfl⟩
 obtain ⟨cy,V_cy⟩:∃ c:List Value,Hid (c=iZ (b.1*(a.2:Int))):=⟨_,hid rfl⟩
 obtain ⟨cda,V_cda⟩:∃ c:List Value,Hid (c=.bool false::lv 32 a.2):=⟨_,hid rfl⟩
 obtain ⟨cdb,V_cdb⟩:∃ c:List Value,Hid (c=.bool false::lv 32 b.2):=⟨_,hid rfl⟩
 have hda:cda=iZ (a.2:Int):=by rw [V_cda.out,iZ_nat]
 have hdb:cdb=iZ (b.2:Int):=by rw [V_cdb.out,iZ_nat]
 have HX:=hid (rprodZ V_cna.out hdb V_cx.out (b480_bb ha.num) (b480_bb (by simpa using hb.den)) (b30 hx))
 have HY:=hid (rprodZ V_cnb.out hda V_cy.out (b480_bb hb.num) (b480_bb (by simpa using ha.den)) (b30 hy))
 have HC:=hid (rcmpZ V_cx.out V_cy.out hz (b30 hx) (b30 hy))
 clear h1 h2 ha hb hz hx hy hda hdb
 obtain ⟨B0,hB0⟩:∃ B,B=w.heap.size:=⟨_,rfl⟩
 obtain ⟨B1,hB1⟩:∃ B,B=w.heap.size+1:=⟨_,rfl⟩
 obtain ⟨w0,hw0⟩:∃ w0,w0=((w.alloc (.cells ca.toArray 27)).alloc (.cells cb.toArray 27)):=⟨_,rfl⟩
 have AB0:=hid (show At w0 B0 0 ca by rw [hw0];exact ((show At (w.alloc (.cells ca.toArray 27)) B0 0 ca from At.fresh _ ca _ (by simp [hB0])).alloc _))
 have AB1:=hid (show At w0 B1 0 cb by rw [hw0];exact (show At ((w.alloc (.cells ca.toArray 27)).alloc (.cells cb.toArray 27)) B1 0 cb from At.fresh _ cb _ (by simp [hB1])))
 have FR:=hid (show Fr B0 w w0 by rw [hw0,hB0];exact ((Fr.start w).alloc _).alloc _)
 have FR0:=hid FR.out.le
 have l01:B0<B1:=by omega
 have hZB1:B0≤B1:=by omega
 have hZB0:B0≤B0:=Nat.le_refl _
 have HB0:=hid hB0
 go_enter Tryz.func81,Tryz.ntmps81
 go_upto_region 1 with fail
 rw [←hw0,←hB1,←hB0]
 clear hw0 hB0 hB1
 have AB0_n:=hid (AB0.out.num V_ca.out V_cna.out)
 have AB0_d:=hid (AB0.out.den V_ca.out V_cda.out)
 have AB1_n:=hid (AB1.out.num V_cb.out V_cnb.out)
 have AB1_d:=hid (AB1.out.den V_cb.out V_cdb.out)
 refine wfn [] [(5,.pointer (some ⟨B0,0,none⟩)),(6,.agg cna.toArray),(7,.pointer (some ⟨B1,33,none⟩)),(8,.agg cdb.toArray),(9,.agg cx.toArray),(10,.pointer (some ⟨B1,0,none⟩)),(11,.agg cnb.toArray),(12,.pointer (some ⟨B0,33,none⟩)),(13,.agg cda.toArray),(14,.agg cy.toArray),(15,.int .i64 z),(4,.int .i64 z)] _ (by simp only [zz4,zz5,zq];rfl) (by kernel_rfl) (by kernel_rfl) rfl ?_ ?_ ?_ ?_
 ·intro W' hW'
  have rd0:=AB0_n.out.below hW'
  have rd1:=AB1_d.out.below hW'
  have rd2:=AB1_n.out.below hW'
  have rd3:=AB0_d.out.below hW'
  refine fxo ?_ ?_;(go_big_quiet_step (fail);(try simp only [zq]);exact wqn rfl)
  refine fxo (wlg (by rfl) rfl rfl rd0 Tryz.underlying25 rfl (qI V_cna.out) (wqn (by simp only [zq]))) ?_
  refine fxo ?_ ?_;(go_big_quiet_step (fail);(try simp only [zq]);exact wqn rfl)
  refine fxo (wlg (by rfl) rfl rfl rd1 Tryz.underlying25 rfl (qI V_cdb.out) (wqn (by simp only [zq]))) ?_
  refine fxo ?_ ?_;(go_big_quiet_step ((go_at_call 79;exact Calls.below_of (HX.out _)));(try simp only [zq]);exact wqn rfl)
  refine fxo ?_ ?_;(go_big_quiet_step (fail);(try simp only [zq]);exact wqn rfl)
  refine fxo (wlg (by rfl) rfl rfl rd2 Tryz.underlying25 rfl (qI V_cnb.out) (wqn (by simp only [zq]))) ?_
  refine fxo ?_ ?_;(go_big_quiet_step (fail);(try simp only [zq]);exact wqn rfl)
  refine fxo (wlg (by rfl) rfl rfl rd3 Tryz.underlying25 rfl (qI V_cda.out) (wqn (by simp only [zq]))) ?_
  refine fxo ?_ ?_;(go_big_quiet_step ((go_at_call 79;exact Calls.below_of (HY.out _)));(try simp only [zq]);exact wqn rfl)
  refine fxo ?_ ?_;(go_big_quiet_step ((go_at_call 112;exact Calls.below_of (HC.out _)));(try simp only [zq]);exact wqn rfl)
  refine fxo ?_ ?_;(go_big_quiet_step (fail);(try simp only [zq]);exact wqn rfl)
  exact fxn
 ·exact oN
 ·exact oN
 intro β wx1 E
 replace FR:=hid (FR.out.fnw E rfl)
 replace AB0:=hid (AB0.out.fnw E rfl)
 replace AB1:=hid (AB1.out.fnw E rfl)
 replace AB0_n:=hid (AB0_n.out.fnw E rfl)
 replace AB0_d:=hid (AB0_d.out.fnw E rfl)
 replace AB1_n:=hid (AB1_n.out.fnw E rfl)
 replace AB1_d:=hid (AB1_d.out.fnw E rfl)
 have hE:=E.below rfl
 simp only [nP,zr,zq]
 replace FR0:=hid FR.out.le
 clear E
 go_wp2
 go_ret
 exact ⟨rfl,by rw [HB0.out] at FR;exact FR.out.below⟩
end Go.Proofs.YtooeabibhjbkoaaGreat
namespace Go.Proofs.YtooeabibhjbkoaaGreat
open Go.RowKit Big
end Go.Proofs.YtooeabibhjbkoaaGreat
namespace Go.Proofs.YtooeabibhjbkoaaGreat
open Go.RowKit Big
end Go.Proofs.YtooeabibhjbkoaaGreat
namespace Go.Proofs.YtooeabibhjbkoaaGreat
open Go.RowKit Big
theorem At.low {w:World} {b:Nat} {c:List Value} {n:Bool} {v lo:Nat} (h:At w b 0 c) (hc:c=.bool n::lv 32 v) (hl:lo=lim v 0):w.cell? ⟨b,1,none⟩=some (.int .u32 (lo:Int)):=by
 subst hc hl
 have:=h.cell (j:=1) (v:=.int .u32 (lim v 0:Nat)) (by rw [List.getElem?_cons_succ];exact lv_get v (by omega))
 simpa using this
end Go.Proofs.YtooeabibhjbkoaaGreat
