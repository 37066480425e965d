import Derived.Test.YtmcekgapelanhaaGreatQrB
import Derived.Test.YtmcekgapelanhaaGreatBiM
set_option linter.unusedVariables false
set_option linter.unusedSimpArgs false
set_option maxRecDepth 100000
set_option maxHeartbeats 8000000
namespace Go.Proofs.YtmcekgapelanhaaGreat
open Go.RowKit Big
open Lib (hid)
theorem rabsZ {ca cr:List Value} {a:Int} (h1:ca=iZ a) (hr:cr=iZ (a.natAbs:Int)) (ha:a.natAbs<BB^32) (w:World) :
  Calls Tryz.prog 51 #[.agg ca.toArray] w fun e w'=>e=.returned (.agg cr.toArray)∧Below w.heap.size w w':=by
 have V_ca:=hid (show ca=.bool (decide (a<0))::lv 32 a.natAbs from h1)
 have V_cr:=hid (show cr=.bool false::lv 32 a.natAbs by rw [hr,iZ_nat])
 obtain ⟨cm,V_cm⟩:∃ c:List Value,Hid (c=lv 32 a.natAbs):=⟨_,hid rfl⟩
 obtain ⟨cz,V_cz⟩:∃ c:List Value,Hid (c=.bool false::lv 32 0):=⟨_,hid rfl⟩
 have HC:=hid (canon_op (neg:=false) V_cm.out V_cr.out (by simp [cs1]) ha)
 clear h1 hr ha
 obtain ⟨B0,hB0⟩:∃ B,B=w.heap.size:=⟨_,rfl⟩
 obtain ⟨B1,hB1⟩:∃ B,B=w.heap.size+1:=⟨_,rfl⟩
 obtain ⟨w0,hw0⟩:∃ w0,w0=((w.alloc (.cells ca.toArray 25)).alloc (.cells zero33 25)):=⟨_,rfl⟩
 have AB0:=hid (show At w0 B0 0 ca by rw [hw0];exact ((show At (w.alloc (.cells ca.toArray 25)) B0 0 ca from At.fresh _ ca _ (by simp [hB0])).alloc _))
 have AB1:=hid (show At w0 B1 0 cz by rw [hw0];exact (show At ((w.alloc (.cells ca.toArray 25)).alloc (.cells zero33 25)) B1 0 cz from (by rw [V_cz.out];exact At.zero _ _ (by simp [hB1]))))
 have FR:=hid (show Fr B0 w w0 by rw [hw0,hB0];exact ((Fr.start w).alloc _).alloc _)
 have FR0:=hid FR.out.le
 have l01:B0<B1:=by omega
 have hZB1:B0≤B1:=by omega
 have hZB0:B0≤B0:=Nat.le_refl _
 unfold zero33 at hw0
 have HB0:=hid hB0
 go_enter Tryz.func51,Tryz.ntmps51
 go_upto_region 1 with fail
 rw [←hw0,←hB1,←hB0]
 clear hw0 hB0 hB1
 have AB0_m:=hid (AB0.out.mag V_ca.out V_cm.out)
 refine qwf [⟨false,0,2,3,B1,0,25,5,cr,0,cr,[]⟩] [(3,.pointer (some ⟨B0,1,none⟩)),(4,.agg cm.toArray),(5,.agg cr.toArray)] _ (by simp only [zz4,zz5,zq];rfl) (by kernel_rfl) (by kernel_rfl) ?_ ?_ ?_ ?_ ?_ ?_ ?_
 ·intro W' hW'
  have rd0:=AB0_m.out.below hW'
  refine fxo ?_ ?_;(go_big_quiet_step (fail);(try simp only [zq]);exact wqn rfl)
  refine fxo (wlg (by rfl) rfl rfl rd0 Tryz.underlying23 rfl (sizeM V_cm.out) (wqn (by simp only [zq]))) ?_
  refine fxo ?_ ?_;(go_big_quiet_step ((go_at_call 84;exact Calls.below_of (HC.out _)));(try simp only [zq]);exact wqn rfl)
  refine fxs (by rfl) ?_
  exact fxn
 ·intro W' hK'
  have rd0:=At.keep hK' AB0_m.out (oP _ _ (fun _=>(by show B1≠B0;omega)) (oN))
  first|(refine fxo ?_ ?_;(go_big_quiet_step (fail);(try simp only [zq]);exact wqn rfl))|(refine fxs (by kernel_rfl) ?_)
  refine fxo (wlg (by rfl) rfl rfl rd0 Tryz.underlying23 rfl (sizeM V_cm.out) (wqn (by simp only [zq]))) ?_
  iterate 2 (refine fxs (by kernel_rfl) ?_)
  exact fxn
 ·exact oP _ _ (fun h=>Bool.noConfusion h) (oN)
 ·exact oP _ _ (fun _=>⟨AB1.out.lt,rfl,At.room AB1.out (qI V_cz.out) (qI V_cr.out)⟩) (oN)
 ·exact uno
 ·exact oP _ _ (stw rfl (qI V_cr.out) (oneI V_cr.out) (fun _=>rfl)) (oN)
 intro β wx1 E
 replace FR:=hid (FR.out.flow E (oP _ _ (fun _=>(by show B0≤B1;omega)) (oN)))
 replace AB0:=hid (At.flow E AB0.out (oP _ _ (fun _=>(by show B1≠B0;omega)) (oN)))
 replace AB1:=hid (show At wx1 B1 0 cr from E.atOld mms rfl AB1.out.lt)
 replace AB0_m:=hid (At.flow E AB0_m.out (oP _ _ (fun _=>(by show B1≠B0;omega)) (oN)))
 simp only [nP,zr,zq]
 replace FR0:=hid FR.out.le
 clear E
 go_wp2_with fail
 have hld:=AB1.out.read (P:=Tryz.prog) Tryz.underlying25 rfl (qI V_cr.out)
 refine bodyPost_ret (v:=.agg cr.toArray) (by simp [results,Tryz.results51,asAddr,hld]) rfl ?_
 exact ⟨rfl,by rw [HB0.out] at FR;exact FR.out.below⟩
end Go.Proofs.YtmcekgapelanhaaGreat
