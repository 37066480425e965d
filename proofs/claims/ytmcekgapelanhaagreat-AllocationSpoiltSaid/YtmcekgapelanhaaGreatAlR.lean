import Derived.Test.YtmcekgapelanhaaGreatQrB
import Derived.Test.YtmcekgapelanhaaGreatBiM
set_option linter.unusedVariables false
set_option linter.unusedSimpArgs false
set_option maxRecDepth 100000
set_option maxHeartbeats 8000000
namespace Go.Proofs.YtmcekgapelanhaaGreat
open Go.RowKit Big
open Lib (hid)
theorem roneQ {cR:List Value} (hR:cR=ratZ 1 1) (w:World) :
  Calls Tryz.prog 23 #[] w fun e w'=>e=.returned (.agg cR.toArray)∧Below w.heap.size w w':=by
 have V_cR:=hid hR
 obtain ⟨cz,V_cz⟩:∃ c:List Value,Hid (c=rat false 0 false 0):=⟨_,hid rfl⟩
 have HW:=hid (rwholeZ V_cR.out (by omega) (by omega))
 clear hR
 obtain ⟨B0,hB0⟩:∃ B,B=w.heap.size:=⟨_,rfl⟩
 obtain ⟨w0,hw0⟩:∃ w0,w0=(w.alloc (.cells Tryz.zeroCells27 27)):=⟨_,rfl⟩
 have AB0:=hid (show At w0 B0 0 cz by rw [hw0];exact (show At (w.alloc (.cells Tryz.zeroCells27 27)) B0 0 cz from (by rw [Tryz.zeroR,V_cz.out];exact At.fresh _ (rat false 0 false 0) _ (by simp [hB0]))))
 have FR:=hid (show Fr B0 w w0 by rw [hw0,hB0];exact (Fr.start w).alloc _)
 have FR0:=hid FR.out.le
 have hZB0:B0≤B0:=Nat.le_refl _
 have HB0:=hid hB0
 go_enter Tryz.func23,Tryz.ntmps23
 go_upto_region 1 with fail
 rw [←hw0,←hB0]
 clear hw0 hB0
 refine wp_flow [⟨false,0,0,1,B0,0,27,1,cR,0,cR,[]⟩] [(1,.agg cR.toArray)] _ (by simp only [zz4,zz5,Act.put,zz1,zz2,zz3];rfl) (by kernel_rfl) (by kernel_rfl) ?_ ?_ ?_ ?_ ?_ ?_ ?_
 ·intro W' hW'
  refine fxo ?_ ?_;(go_big_quiet_step ((go_at_call 18;exact Calls.below_of (HW.out _)));(try simp only [Act.put,zz1,zz2,zz3]);exact wqn rfl)
  refine fxs (by rfl) ?_
  exact fxn
 ·intro W' hK'
  iterate 2 (refine fxs (by kernel_rfl) ?_)
  exact fxn
 ·exact forPl _ _ (fun h=>Bool.noConfusion h) (forPl0)
 ·exact forPl _ _ (fun _=>⟨AB0.out.lt,rfl,At.room AB0.out (sizeR V_cz.out) (sizeR V_cR.out)⟩) (forPl0)
 ·intro q hq r hr hqn hrn e
  simp only [List.mem_cons,List.not_mem_nil,or_false] at hq hr
  rcases hq with rfl<;>rcases hr with rfl<;>first|rfl|(exact Bool.noConfusion hqn)|(exact Bool.noConfusion hrn)|(exfalso;simp only at e;omega)
 ·exact forPl _ _ (stw rfl (sizeR V_cR.out) (oneR V_cR.out) (fun _=>rfl)) (forPl0)
 intro β wx1 E
 replace FR:=hid (FR.out.flow E (forPl _ _ (fun _=>(by show B0≤B0;omega)) (forPl0)))
 replace AB0:=hid (show At wx1 B0 0 cR from E.atOld (List.mem_cons_self ..) rfl AB0.out.lt)
 simp only [newPuts,zz4,zz5,if_true,Bool.false_eq_true,if_false,Act.put,zz1,zz2,zz3]
 replace FR0:=hid FR.out.le
 clear E
 go_wp2_with fail
 have hld:=AB0.out.read (P:=Tryz.prog) Tryz.underlying27 rfl (sizeR V_cR.out)
 refine bodyPost_ret (v:=.agg cR.toArray) (by simp [results,Tryz.results23,asAddr,hld]) rfl ?_
 exact ⟨rfl,by rw [HB0.out] at FR;exact FR.out.below⟩
end Go.Proofs.YtmcekgapelanhaaGreat
