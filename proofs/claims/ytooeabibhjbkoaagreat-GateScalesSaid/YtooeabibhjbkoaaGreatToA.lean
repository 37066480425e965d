import Derived.Test.YtooeabibhjbkoaaGreatBiX
set_option linter.unusedVariables false
set_option linter.unusedSimpArgs false
set_option maxRecDepth 100000
set_option maxHeartbeats 4000000
namespace Go.Proofs.YtooeabibhjbkoaaGreat
open Go.RowKit Big
open Lib (hid)
theorem quO (neg:Bool) (v:Nat) (w:World) (hv:v<9223372036854775808)
  (hcan:∀ W,Calls Tryz.prog 113 #[.bool neg,mV v] W fun e w'=>e=.returned (iV neg v)∧Below W.heap.size W w') :
  Calls Tryz.prog 75 #[iV neg v] w fun e w'=>e=.returned (.tuple #[.int .i64 (if neg=true then -(v:Int) else (v:Int)),.bool true])∧Below w.heap.size w w':=by
 have hv2:v<BB^2:=qfO (by omega)
 have hv32:v<BB^32:=Nat.lt_of_lt_of_le hv2 (Nat.pow_le_pow_right qaN (by omega))
 obtain ⟨N,_,hN⟩:=qLE v 32 hv32
 have hN2:=qhT hv2 hN
 have h2:=qdH hv2
 have l0:=qaC v 0
 have l1:=qaC v 1
 obtain ⟨w0,hw0,hb0,hs0,hc0,hA⟩:=qfI w neg v 25
 have hT:w0.there w.heap.size 0 33:=by
  intro j hj
  have hh:=heap_alloc_new w (.cells (Value.bool neg::lv 32 v).toArray 25)
  rw [←hw0] at hh
  refine ⟨?_,frozen_of_row _ _ _ _ _ hh⟩
  rw [cell_of_row _ w.heap.size (0+j) _ 25 (0,0) hh,Array.getElem?_eq_getElem (by rw [qcZ];omega)];rfl
 have HW:=hid hb0
 have HL:=hid (fun W=>qcY v N W hv32 hN)
 obtain ⟨B0,hB0⟩:∃ B0,B0=w.heap.size:=⟨_,rfl⟩
 have hB1:B0<w0.heap.size:=by rw [hs0,hB0];omega
 have HBE:=hid hB0
 rw [←hB0] at hA hc0 hT
 have HT:=hid hT
 unfold iV at hcan ⊢
 obtain ⟨va,hva⟩:∃ va,va=(Value.bool neg::lv 32 v).toArray:=⟨_,rfl⟩
 obtain ⟨rs,hrs⟩:∃ rs,rs=Value.bool neg::lv 32 v:=⟨_,rfl⟩
 obtain ⟨cs,hcs⟩:∃ cs,cs=lv 32 v:=⟨_,rfl⟩
 have HLD:=hid (show w0.rangeAt B0 1 (lv 32 v) from hA)
 have HSZ:=hid (qbA v)
 have HC2:=hid (fun W=>show Calls Tryz.prog 113 #[.bool neg,.agg cs.toArray] W (fun e w'=>e=.returned (.agg rs.toArray)∧Below W.heap.size W w') by rw [hcs,hrs];exact hcan W)
 have HL2:=hid (fun W=>show Calls Tryz.prog 114 #[.agg cs.toArray] W (fun e w'=>e=.returned (.int .i64 N)∧Below W.heap.size W w') by rw [hcs];exact HL.out W)
 have HRS:=hid hrs
 have HCS:=hid hcs
 have HONE:=hid (show rs.toArray.all (·.oneCell')=true by rw [hrs];exact all_oneCell_toArray (qeA neg v))
 have HSA:=hid (show (Tryz.prog.info? 25).map (·.size)=some rs.toArray.size by rw [hrs,qcZ];exact Tryz.infoI)
 rw [←hcs] at HLD HSZ
 rw [←hva] at hw0 ⊢
 obtain ⟨x,hx⟩:∃ x,x=lim v 0:=⟨_,rfl⟩
 obtain ⟨y,hy⟩:∃ y,y=lim v 1:=⟨_,rfl⟩
 have HXY:=hid (And.intro hx hy)
 rw [←hx,←hy] at h2
 rw [←hx] at l0
 rw [←hy] at l1
 have hor:=qxD l0 l1 h2
 have wx:IntKind.u64.wrap (x:Int)=(x:Int):=by unfold BB at l0;rw [IntKind.wrap_u64];omega
 have wy:IntKind.u64.wrap (y:Int)=(y:Int):=by unfold BB at l1;rw [IntKind.wrap_u64];omega
 have HOR:=hid hor
 clear hv32 hN hv2 h2 l0 l1 hb0 hs0 hA hT hcan hva hrs hcs hx hy hor
 go_enter Tryz.func75,Tryz.ntmps75
 go_upto_region 1 with fail
 rw [←hw0,←hB0]
 clear hw0 hB0
 go_wp2_with (refine wpList_load_mid rfl _ _ rfl B0 1 rfl cs _ HLD.out Tryz.underlying23 rfl HSZ.out ?_)
 refine (HC2.out _).mono ?_
 rintro e w1 ⟨rfl,hb1⟩
 have hT1:=qaK HT.out hb1 hB1
 have HTH:=hid (show w1.there B0 0 rs.toArray.size by rw [HRS.out,qcZ];exact hT1)
 have HST:=hid (World.rangeAt_setCells_same w1 B0 0 rs (by rw [HRS.out,List.length_cons,qlL];exact hT1))
 have HBS:=hid (qaB (show w.heap.size≤B0 by rw [←HBE.out];exact Nat.le_refl _) rs 0 w1 (HW.out.trans (hb1.mono HW.out.size)))
 obtain ⟨w2,hw2⟩:∃ w2,w2=w1.setCells B0 0 rs:=⟨_,rfl⟩
 have hIC:w2.cell? ⟨B0,0,none⟩=some (.bool neg)∧MagAt w2 B0 1 32 v:=by rw [hw2];exact qsY (by have:=HST.out;rwa [HRS.out] at this ⊢)
 have HIC:=hid hIC
 have HLD2:=hid (show w2.rangeAt B0 1 cs by rw [HCS.out];exact hIC.2)
 rw [←hw2] at HBS
 have HW2:=hid hw2
 clear hb1 hT1 hw2 hIC hc0
 go_upto_region 2 with (refine wpList_store_mid rfl _ _ _ rfl B0 0 _ rfl rfl HTH.out HSA.out HONE.out ?_)
 try simp only [Act.put,List.setIfInBounds_toArray,List.set_cons_zero,List.set_cons_succ]
 try simp only [List.toList_toArray]
 rw [←HW2.out]
 go_wp2_with (refine wpList_load_mid rfl _ _ rfl B0 1 rfl cs _ HLD2.out Tryz.underlying23 rfl HSZ.out ?_)
 refine (HL2.out _).mono ?_
 rintro e w3 ⟨rfl,hb3⟩
 have c0:=qcU HIC.out.1 hb3
 have hm:=HIC.out.2.up hb3
 have cx:=hm.get (k:=0) (by omega)
 have cy:=hm.get (k:=1) (by omega)
 rw [←HXY.out.1] at cx
 rw [←HXY.out.2] at cy
 have HB3:=hid (HBS.out.trans (hb3.mono HBS.out.size))
 have hN3:¬(2:Int)<(N:Int):=by omega
 obtain ⟨V,hV⟩:∃ V:Int,V=(v:Int):=⟨_,rfl⟩
 have hor:=HOR.out
 rw [←hV] at hor
 have HVV:=hid hV
 have hV0:0≤V:=by omega
 have hV1:V<9223372036854775808:=by omega
 clear hb3 hm hv hV
 cases neg with
 | true =>
  have hle:V≤9223372036854775808:=by omega
  have hneg:IntKind.i64.wrap (IntKind.u64.wrap (-V))=-V:=by rw [IntKind.wrap_u64,IntKind.wrap_i64];omega
  go_wp2
  go_ret2
  exact ⟨by rw [HVV.out];rfl,HB3.out⟩
 | false =>
  have hpos:IntKind.i64.wrap V=V:=by rw [IntKind.wrap_i64];omega
  go_wp2
  go_ret2
  exact ⟨by rw [HVV.out];rfl,HB3.out⟩
theorem qkF (neg:Bool) (v:Nat) (w:World) (hv:v<9223372036854775808) (hn:cs1 neg v=neg) :
  Calls Tryz.prog 75 #[iV neg v] w fun e w'=>e=.returned (.tuple #[.int .i64 (if neg=true then -(v:Int) else (v:Int)),.bool true])∧Below w.heap.size w w' :=
 quO neg v w hv fun W=>by
  have:=qhI neg v W (Nat.lt_of_lt_of_le (qfO (by omega)) (Nat.pow_le_pow_right qaN (by omega)))
  rwa [hn] at this
end Go.Proofs.YtooeabibhjbkoaaGreat
