import Derived.Test.YtmcekgapelanhaaGreatQrB
import Derived.Test.YtmcekgapelanhaaGreatBiM
set_option linter.unusedVariables false
set_option linter.unusedSimpArgs false
set_option maxRecDepth 100000
set_option maxHeartbeats 8000000
namespace Go.Proofs.YtmcekgapelanhaaGreat
open Go.RowKit Big
open Lib (hid)
theorem cmp_is (na nb : Bool) (a b : Nat) (z : Int) (w : World) (ha : a < BB ^ 32) (hb : b < BB ^ 32) (hz : z = cmpZ (zI na a) (zI nb b)) :
  Calls Tryz.prog 59 #[iV na a, iV nb b] w fun e w' => e = .returned (.int .i64 z) ∧ Below w.heap.size w w' := by
 obtain ⟨ca, V_ca⟩ : ∃ c : List Value, Hid (c = .bool na :: lv 32 a) := ⟨_, hid rfl⟩
 obtain ⟨cb, V_cb⟩ : ∃ c : List Value, Hid (c = .bool nb :: lv 32 b) := ⟨_, hid rfl⟩
 obtain ⟨ma, V_ma⟩ : ∃ c : List Value, Hid (c = lv 32 a) := ⟨_, hid rfl⟩
 obtain ⟨mb, V_mb⟩ : ∃ c : List Value, Hid (c = lv 32 b) := ⟨_, hid rfl⟩
 rw [valI V_ca.out, valI V_cb.out]
 obtain ⟨s, hs⟩ : ∃ s, s = sgnI na a := ⟨_, rfl⟩
 obtain ⟨t, ht⟩ : ∃ t, t = sgnI nb b := ⟨_, rfl⟩
 obtain ⟨x, hx⟩ : ∃ x, x = cmpI a b := ⟨_, rfl⟩
 have hsb : (s = -1 ∨ s = 0 ∨ s = 1) ∧ (t = -1 ∨ t = 0 ∨ t = 1) ∧ (x = -1 ∨ x = 0 ∨ x = 1) := ⟨by rw [hs]; exact sgn_three _ _, by rw [ht]; exact sgn_three _ _, by rw [hx]; exact cmp_three _ _⟩
 have HZ := hid (show (s < t → z = -1) ∧ (t < s → z = 1) ∧ (s = t → z = s * x) by rw [hz, hs, ht, hx]; exact cmp_signs na nb a b)
 have HS := hid (sign_op V_ca.out hs ha)
 have HT := hid (sign_op V_cb.out ht hb)
 have HX := hid (compare_op V_ma.out V_mb.out hx ha hb)
 clear hs ht hx ha hb hz
 obtain ⟨B0, hB0⟩ : ∃ B, B = w.heap.size := ⟨_, rfl⟩
 obtain ⟨B1, hB1⟩ : ∃ B, B = w.heap.size + 1 := ⟨_, rfl⟩
 obtain ⟨w0, hw0⟩ : ∃ w0, w0 = ((w.alloc (.cells ca.toArray 25)).alloc (.cells cb.toArray 25)) := ⟨_, rfl⟩
 have AB0 := hid (show At w0 B0 0 ca by rw [hw0]; exact ((show At (w.alloc (.cells ca.toArray 25)) B0 0 ca from At.fresh _ ca _ (by simp [hB0])).alloc _))
 have AB1 := hid (show At w0 B1 0 cb by rw [hw0]; exact (show At ((w.alloc (.cells ca.toArray 25)).alloc (.cells cb.toArray 25)) B1 0 cb from At.fresh _ cb _ (by simp [hB1])))
 have FR := hid (show Fr B0 w w0 by rw [hw0, hB0]; exact ((Fr.start w).alloc _).alloc _)
 have FR0 := hid FR.out.le
 have l01 : B0 < B1 := by omega
 have hZB1 : B0 ≤ B1 := by omega
 have hZB0 : B0 ≤ B0 := Nat.le_refl _
 have HB0 := hid hB0
 go_enter Tryz.func59, Tryz.ntmps59
 go_upto_region 1 with fail
 rw [← hw0, ← hB1, ← hB0]
 clear hw0 hB0 hB1
 refine wp_flow_new [] [(7, .agg ca.toArray), (8, .int .i64 s), (9, .agg cb.toArray), (10, .int .i64 t), (5, .int .i64 s), (6, .int .i64 t)] _ (by simp only [zz4, zz5, Act.put, zz1, zz2, zz3]; rfl) (by kernel_rfl) (by kernel_rfl) rfl ?_ ?_ ?_ ?_
 ·intro W' hW'
  have rd0 := AB0.out.below hW'
  have rd1 := AB1.out.below hW'
  refine fxo (wlg (by rfl) rfl rfl rd0 Tryz.underlying25 rfl (sizeI V_ca.out) (wqn (by simp only [Act.put, zz1, zz2, zz3]))) ?_
  refine fxo ?_ ?_; (go_big_quiet_step ((go_at_call 53; exact Calls.below_of (HS.out _))); (try simp only [Act.put, zz1, zz2, zz3]); exact wqn rfl)
  refine fxo (wlg (by rfl) rfl rfl rd1 Tryz.underlying25 rfl (sizeI V_cb.out) (wqn (by simp only [Act.put, zz1, zz2, zz3]))) ?_
  refine fxo ?_ ?_; (go_big_quiet_step ((go_at_call 53; exact Calls.below_of (HT.out _))); (try simp only [Act.put, zz1, zz2, zz3]); exact wqn rfl)
  iterate 2 (refine fxo ?_ ?_; (go_big_quiet_step (fail); (try simp only [Act.put, zz1, zz2, zz3]); exact wqn rfl))
  exact fxn
 ·exact forPl0
 ·exact forPl0
 intro β wx1 E
 replace FR := hid (FR.out.fnw E rfl)
 replace AB0 := hid (AB0.out.fnw E rfl)
 replace AB1 := hid (AB1.out.fnw E rfl)
 have hE := E.below rfl
 simp only [newPuts, zz4, zz5, if_true, Bool.false_eq_true, if_false, Act.put, zz1, zz2, zz3]
 replace FR0 := hid FR.out.le
 clear E
 obtain ⟨hs, ht, hx⟩ := hsb
 by_cases c1 : s < t
 ·have HE := hid (HZ.out.1 c1)
  clear hs ht hx HS HT
  go_wp2
  go_ret
  exact ⟨ret_int HE.out.symm, by rw [HB0.out] at FR; exact FR.out.below⟩
 ·by_cases c2 : t < s
  ·have HE := hid (HZ.out.2.1 c2)
   clear hs ht hx HS HT
   go_wp2
   go_ret
   exact ⟨ret_int HE.out.symm, by rw [HB0.out] at FR; exact FR.out.below⟩
  ·have hst : s = t := by omega
   have HE := hid (HZ.out.2.2 hst)
   have wq : IntKind.i64.wrap (s * x) = s * x := by rcases hs with rfl | rfl | rfl <;> rcases hx with rfl | rfl | rfl <;> exact IntWalk.i64_in _ (by omega)
   have AB0_1 := hid (AB0.out.mag V_ca.out V_ma.out)
   have AB1_1 := hid (AB1.out.mag V_cb.out V_mb.out)
   clear hs ht hx HS HT hst
   go_upto_region 6 with fail
   refine wp_flow_new [] [(19, .int .i64 s), (20, .pointer (some ⟨B0, 1, none⟩)), (21, .agg ma.toArray), (22, .pointer (some ⟨B1, 1, none⟩)), (23, .agg mb.toArray), (24, .int .i64 x), (25, .int .i64 (s * x)), (4, .int .i64 (s * x))] _ (by simp only [zz4, zz5, Act.put, zz1, zz2, zz3]; rfl) (by kernel_rfl) (by kernel_rfl) rfl ?_ ?_ ?_ ?_
   ·intro W' hW'
    have rd0 := AB0_1.out.below hW'
    have rd1 := AB1_1.out.below hW'
    iterate 2 (refine fxo ?_ ?_; (go_big_quiet_step (fail); (try simp only [Act.put, zz1, zz2, zz3]); exact wqn rfl))
    refine fxo (wlg (by rfl) rfl rfl rd0 Tryz.underlying23 rfl (sizeM V_ma.out) (wqn (by simp only [Act.put, zz1, zz2, zz3]))) ?_
    refine fxo ?_ ?_; (go_big_quiet_step (fail); (try simp only [Act.put, zz1, zz2, zz3]); exact wqn rfl)
    refine fxo (wlg (by rfl) rfl rfl rd1 Tryz.underlying23 rfl (sizeM V_mb.out) (wqn (by simp only [Act.put, zz1, zz2, zz3]))) ?_
    refine fxo ?_ ?_; (go_big_quiet_step ((go_at_call 89; exact Calls.below_of (HX.out _))); (try simp only [Act.put, zz1, zz2, zz3]); exact wqn rfl)
    iterate 2 (refine fxo ?_ ?_; (go_big_quiet_step (fail); (try simp only [Act.put, zz1, zz2, zz3]); exact wqn rfl))
    exact fxn
   ·exact forPl0
   ·exact forPl0
   intro β wx2 E
   replace FR := hid (FR.out.fnw E rfl)
   replace AB0 := hid (AB0.out.fnw E rfl)
   replace AB1 := hid (AB1.out.fnw E rfl)
   replace AB0_1 := hid (AB0_1.out.fnw E rfl)
   replace AB1_1 := hid (AB1_1.out.fnw E rfl)
   have hE := E.below rfl
   simp only [newPuts, zz4, zz5, if_true, Bool.false_eq_true, if_false, Act.put, zz1, zz2, zz3]
   replace FR0 := hid FR.out.le
   clear E
   go_wp2
   go_ret
   exact ⟨ret_int HE.out.symm, by rw [HB0.out] at FR; exact FR.out.below⟩
theorem rcmpZ {ca cb : List Value} {a b z : Int} (h1 : ca = iZ a) (h2 : cb = iZ b) (hz : z = cmpZ a b) (ha : a.natAbs < BB ^ 32) (hb : b.natAbs < BB ^ 32) (w : World) :
  Calls Tryz.prog 59 #[.agg ca.toArray, .agg cb.toArray] w fun e w' => e = .returned (.int .i64 z) ∧ Below w.heap.size w w' := by
 subst h1 h2
 exact cmp_is (decide (a < 0)) (decide (b < 0)) a.natAbs b.natAbs z w ha hb (by rw [zI_of, zI_of]; exact hz)
theorem rabsZ {ca cr : List Value} {a : Int} (h1 : ca = iZ a) (hr : cr = iZ (a.natAbs : Int)) (ha : a.natAbs < BB ^ 32) (w : World) :
  Calls Tryz.prog 51 #[.agg ca.toArray] w fun e w' => e = .returned (.agg cr.toArray) ∧ Below w.heap.size w w' := by
 have V_ca := hid (show ca = .bool (decide (a < 0)) :: lv 32 a.natAbs from h1)
 have V_cr := hid (show cr = .bool false :: lv 32 a.natAbs by rw [hr, iZ_nat])
 obtain ⟨cm, V_cm⟩ : ∃ c : List Value, Hid (c = lv 32 a.natAbs) := ⟨_, hid rfl⟩
 obtain ⟨cz, V_cz⟩ : ∃ c : List Value, Hid (c = .bool false :: lv 32 0) := ⟨_, hid rfl⟩
 have HC := hid (canon_op (neg := false) V_cm.out V_cr.out (by simp [cs1]) ha)
 clear h1 hr ha
 obtain ⟨B0, hB0⟩ : ∃ B, B = w.heap.size := ⟨_, rfl⟩
 obtain ⟨B1, hB1⟩ : ∃ B, B = w.heap.size + 1 := ⟨_, rfl⟩
 obtain ⟨w0, hw0⟩ : ∃ w0, w0 = ((w.alloc (.cells ca.toArray 25)).alloc (.cells zero33 25)) := ⟨_, rfl⟩
 have AB0 := hid (show At w0 B0 0 ca by rw [hw0]; exact ((show At (w.alloc (.cells ca.toArray 25)) B0 0 ca from At.fresh _ ca _ (by simp [hB0])).alloc _))
 have AB1 := hid (show At w0 B1 0 cz by rw [hw0]; exact (show At ((w.alloc (.cells ca.toArray 25)).alloc (.cells zero33 25)) B1 0 cz from (by rw [V_cz.out]; exact At.zero _ _ (by simp [hB1]))))
 have FR := hid (show Fr B0 w w0 by rw [hw0, hB0]; exact ((Fr.start w).alloc _).alloc _)
 have FR0 := hid FR.out.le
 have l01 : B0 < B1 := by omega
 have hZB1 : B0 ≤ B1 := by omega
 have hZB0 : B0 ≤ B0 := Nat.le_refl _
 unfold zero33 at hw0
 have HB0 := hid hB0
 go_enter Tryz.func51, Tryz.ntmps51
 go_upto_region 1 with fail
 rw [← hw0, ← hB1, ← hB0]
 clear hw0 hB0 hB1
 have AB0_m := hid (AB0.out.mag V_ca.out V_cm.out)
 refine wp_flow [⟨false, 0, 2, 3, B1, 0, 25, 5, cr, 0, cr, []⟩] [(3, .pointer (some ⟨B0, 1, none⟩)), (4, .agg cm.toArray), (5, .agg cr.toArray)] _ (by simp only [zz4, zz5, Act.put, zz1, zz2, zz3]; rfl) (by kernel_rfl) (by kernel_rfl) ?_ ?_ ?_ ?_ ?_ ?_ ?_
 ·intro W' hW'
  have rd0 := AB0_m.out.below hW'
  refine fxo ?_ ?_; (go_big_quiet_step (fail); (try simp only [Act.put, zz1, zz2, zz3]); exact wqn rfl)
  refine fxo (wlg (by rfl) rfl rfl rd0 Tryz.underlying23 rfl (sizeM V_cm.out) (wqn (by simp only [Act.put, zz1, zz2, zz3]))) ?_
  refine fxo ?_ ?_; (go_big_quiet_step ((go_at_call 84; exact Calls.below_of (HC.out _))); (try simp only [Act.put, zz1, zz2, zz3]); exact wqn rfl)
  refine fxs (by rfl) ?_
  exact fxn
 ·intro W' hK'
  have rd0 := At.keep hK' AB0_m.out (forPl _ _ (fun _ => (by show B1 ≠ B0; omega)) (forPl0))
  first | (refine fxo ?_ ?_; (go_big_quiet_step (fail); (try simp only [Act.put, zz1, zz2, zz3]); exact wqn rfl)) | (refine fxs (by kernel_rfl) ?_)
  refine fxo (wlg (by rfl) rfl rfl rd0 Tryz.underlying23 rfl (sizeM V_cm.out) (wqn (by simp only [Act.put, zz1, zz2, zz3]))) ?_
  iterate 2 (refine fxs (by kernel_rfl) ?_)
  exact fxn
 ·exact forPl _ _ (fun h => Bool.noConfusion h) (forPl0)
 ·exact forPl _ _ (fun _ => ⟨AB1.out.lt, rfl, At.room AB1.out (sizeI V_cz.out) (sizeI V_cr.out)⟩) (forPl0)
 ·intro q hq r hr hqn hrn e
  simp only [List.mem_cons, List.not_mem_nil, or_false] at hq hr
  rcases hq with rfl <;> rcases hr with rfl <;> first | rfl | (exact Bool.noConfusion hqn) | (exact Bool.noConfusion hrn) | (exfalso; simp only at e; omega)
 ·exact forPl _ _ (stw rfl (sizeI V_cr.out) (oneI V_cr.out) (fun _ => rfl)) (forPl0)
 intro β wx1 E
 replace FR := hid (FR.out.flow E (forPl _ _ (fun _ => (by show B0 ≤ B1; omega)) (forPl0)))
 replace AB0 := hid (At.flow E AB0.out (forPl _ _ (fun _ => (by show B1 ≠ B0; omega)) (forPl0)))
 replace AB1 := hid (show At wx1 B1 0 cr from E.atOld (List.mem_cons_self ..) rfl AB1.out.lt)
 replace AB0_m := hid (At.flow E AB0_m.out (forPl _ _ (fun _ => (by show B1 ≠ B0; omega)) (forPl0)))
 simp only [newPuts, zz4, zz5, if_true, Bool.false_eq_true, if_false, Act.put, zz1, zz2, zz3]
 replace FR0 := hid FR.out.le
 clear E
 go_wp2_with fail
 have hld := AB1.out.read (P := Tryz.prog) Tryz.underlying25 rfl (sizeI V_cr.out)
 refine bodyPost_ret (v := .agg cr.toArray) (by simp [results, Tryz.results51, asAddr, hld]) rfl ?_
 exact ⟨rfl, by rw [HB0.out] at FR; exact FR.out.below⟩
theorem rabsQ {ca cr : List Value} {a : Qn} (h1 : ca = ratZ a.1 a.2) (hr : cr = ratZ (a.1.natAbs : Int) a.2) (ha : VQ a) (w : World) :
  Calls Tryz.prog 27 #[.agg ca.toArray] w fun e w' => e = .returned (.tuple #[.agg cr.toArray, .int .i64 0]) ∧ Below w.heap.size w w' := by
 have V_ca := hid h1
 have V_cr := hid hr
 obtain ⟨cz, V_cz⟩ : ∃ c : List Value, Hid (c = rat false 0 false 0) := ⟨_, hid rfl⟩
 obtain ⟨cn, V_cn⟩ : ∃ c : List Value, Hid (c = iZ a.1) := ⟨_, hid rfl⟩
 obtain ⟨cm, V_cm⟩ : ∃ c : List Value, Hid (c = iZ (a.1.natAbs : Int)) := ⟨_, hid rfl⟩
 obtain ⟨cd, V_cd⟩ : ∃ c : List Value, Hid (c = .bool false :: lv 32 a.2) := ⟨_, hid rfl⟩
 have HV := hid (rvalidQ V_ca.out ha)
 have HA := hid (rabsZ V_cn.out V_cm.out (b480_bb ha.num))
 clear h1 hr ha
 obtain ⟨B0, hB0⟩ : ∃ B, B = w.heap.size := ⟨_, rfl⟩
 obtain ⟨B1, hB1⟩ : ∃ B, B = w.heap.size + 1 := ⟨_, rfl⟩
 obtain ⟨w0, hw0⟩ : ∃ w0, w0 = ((w.alloc (.cells ca.toArray 27)).alloc (.cells Tryz.zeroCells27 27)) := ⟨_, rfl⟩
 have AB0 := hid (show At w0 B0 0 ca by rw [hw0]; exact ((show At (w.alloc (.cells ca.toArray 27)) B0 0 ca from At.fresh _ ca _ (by simp [hB0])).alloc _))
 have AB1 := hid (show At w0 B1 0 cz by rw [hw0]; exact (show At ((w.alloc (.cells ca.toArray 27)).alloc (.cells Tryz.zeroCells27 27)) B1 0 cz from (by rw [Tryz.zeroR, V_cz.out]; exact At.fresh _ (rat false 0 false 0) _ (by simp [hB1]))))
 have FR := hid (show Fr B0 w w0 by rw [hw0, hB0]; exact ((Fr.start w).alloc _).alloc _)
 have FR0 := hid FR.out.le
 have l01 : B0 < B1 := by omega
 have hZB1 : B0 ≤ B1 := by omega
 have hZB0 : B0 ≤ B0 := Nat.le_refl _
 have HB0 := hid hB0
 go_enter Tryz.func27, Tryz.ntmps27
 go_upto_region 1 with fail
 rw [← hw0, ← hB1, ← hB0]
 clear hw0 hB0 hB1
 refine wp_flow_new [] [(4, .agg ca.toArray), (5, .bool true), (6, .bool false)] _ (by simp only [zz4, zz5, Act.put, zz1, zz2, zz3]; rfl) (by kernel_rfl) (by kernel_rfl) rfl ?_ ?_ ?_ ?_
 ·intro W' hW'
  have rd0 := AB0.out.below hW'
  refine fxo (wlg (by rfl) rfl rfl rd0 Tryz.underlying27 rfl (sizeR V_ca.out) (wqn (by simp only [Act.put, zz1, zz2, zz3]))) ?_
  refine fxo ?_ ?_; (go_big_quiet_step ((go_at_call 43; exact Calls.below_of (HV.out _))); (try simp only [Act.put, zz1, zz2, zz3]); exact wqn rfl)
  refine fxo ?_ ?_; (go_big_quiet_step (fail); (try simp only [Act.put, zz1, zz2, zz3]); exact wqn rfl)
  exact fxn
 ·exact forPl0
 ·exact forPl0
 intro β wx1 E
 replace FR := hid (FR.out.fnw E rfl)
 replace AB0 := hid (AB0.out.fnw E rfl)
 replace AB1 := hid (AB1.out.fnw E rfl)
 have hE := E.below rfl
 simp only [newPuts, zz4, zz5, if_true, Bool.false_eq_true, if_false, Act.put, zz1, zz2, zz3]
 replace FR0 := hid FR.out.le
 clear E
 go_upto_region 3 with fail
 have AB0_n := hid (AB0.out.num V_ca.out V_cn.out)
 have AB0_d := hid (AB0.out.den V_ca.out V_cd.out)
 refine wp_flow [⟨false, 0, 2, 6, B1, 0, 27, 13, cr, 0, cr, []⟩] [(8, .pointer (some ⟨B0, 0, none⟩)), (9, .agg cn.toArray), (10, .agg cm.toArray), (11, .pointer (some ⟨B0, 33, none⟩)), (12, .agg cd.toArray), (13, .agg cr.toArray), (3, .int .i64 0)] _ (by simp only [zz4, zz5, Act.put, zz1, zz2, zz3]; rfl) (by kernel_rfl) (by kernel_rfl) ?_ ?_ ?_ ?_ ?_ ?_ ?_
 ·intro W' hW'
  have rd0 := AB0_n.out.below hW'
  have rd1 := AB0_d.out.below hW'
  refine fxo ?_ ?_; (go_big_quiet_step (fail); (try simp only [Act.put, zz1, zz2, zz3]); exact wqn rfl)
  refine fxo (wlg (by rfl) rfl rfl rd0 Tryz.underlying25 rfl (sizeI V_cn.out) (wqn (by simp only [Act.put, zz1, zz2, zz3]))) ?_
  refine fxo ?_ ?_; (go_big_quiet_step ((go_at_call 51; exact Calls.below_of (HA.out _))); (try simp only [Act.put, zz1, zz2, zz3]); exact wqn rfl)
  refine fxo ?_ ?_; (go_big_quiet_step (fail); (try simp only [Act.put, zz1, zz2, zz3]); exact wqn rfl)
  refine fxo (wlg (by rfl) rfl rfl rd1 Tryz.underlying25 rfl (sizeI V_cd.out) (wqn (by simp only [Act.put, zz1, zz2, zz3]))) ?_
  refine fxo (wpQuiet_build rfl _ _ rfl _ rfl _ (built_r V_cm.out V_cd.out V_cr.out) (wqn (by simp only [Act.put, zz1, zz2, zz3]))) ?_
  refine fxs (by rfl) ?_
  refine fxo ?_ ?_; (go_big_quiet_step (fail); (try simp only [Act.put, zz1, zz2, zz3]); exact wqn rfl)
  exact fxn
 ·intro W' hK'
  have rd0 := At.keep hK' AB0_n.out (forPl _ _ (fun _ => (by show B1 ≠ B0; omega)) (forPl0))
  have rd1 := At.keep hK' AB0_d.out (forPl _ _ (fun _ => (by show B1 ≠ B0; omega)) (forPl0))
  first | (refine fxo ?_ ?_; (go_big_quiet_step (fail); (try simp only [Act.put, zz1, zz2, zz3]); exact wqn rfl)) | (refine fxs (by kernel_rfl) ?_)
  refine fxo (wlg (by rfl) rfl rfl rd0 Tryz.underlying25 rfl (sizeI V_cn.out) (wqn (by simp only [Act.put, zz1, zz2, zz3]))) ?_
  refine fxs (by kernel_rfl) ?_
  first | (refine fxo ?_ ?_; (go_big_quiet_step (fail); (try simp only [Act.put, zz1, zz2, zz3]); exact wqn rfl)) | (refine fxs (by kernel_rfl) ?_)
  refine fxo (wlg (by rfl) rfl rfl rd1 Tryz.underlying25 rfl (sizeI V_cd.out) (wqn (by simp only [Act.put, zz1, zz2, zz3]))) ?_
  refine fxo (wpQuiet_build rfl _ _ rfl _ rfl _ (built_r V_cm.out V_cd.out V_cr.out) (wqn (by simp only [Act.put, zz1, zz2, zz3]))) ?_
  refine fxs (by kernel_rfl) ?_
  first | (refine fxo ?_ ?_; (go_big_quiet_step (fail); (try simp only [Act.put, zz1, zz2, zz3]); exact wqn rfl)) | (refine fxs (by kernel_rfl) ?_)
  exact fxn
 ·exact forPl _ _ (fun h => Bool.noConfusion h) (forPl0)
 ·exact forPl _ _ (fun _ => ⟨AB1.out.lt, rfl, At.room AB1.out (sizeR V_cz.out) (sizeR V_cr.out)⟩) (forPl0)
 ·intro q hq r hr hqn hrn e
  simp only [List.mem_cons, List.not_mem_nil, or_false] at hq hr
  rcases hq with rfl <;> rcases hr with rfl <;> first | rfl | (exact Bool.noConfusion hqn) | (exact Bool.noConfusion hrn) | (exfalso; simp only at e; omega)
 ·exact forPl _ _ (stw rfl (sizeR V_cr.out) (oneR V_cr.out) (fun _ => rfl)) (forPl0)
 intro β wx2 E
 replace FR := hid (FR.out.flow E (forPl _ _ (fun _ => (by show B0 ≤ B1; omega)) (forPl0)))
 replace AB0 := hid (At.flow E AB0.out (forPl _ _ (fun _ => (by show B1 ≠ B0; omega)) (forPl0)))
 replace AB1 := hid (show At wx2 B1 0 cr from E.atOld (List.mem_cons_self ..) rfl AB1.out.lt)
 replace AB0_n := hid (At.flow E AB0_n.out (forPl _ _ (fun _ => (by show B1 ≠ B0; omega)) (forPl0)))
 replace AB0_d := hid (At.flow E AB0_d.out (forPl _ _ (fun _ => (by show B1 ≠ B0; omega)) (forPl0)))
 simp only [newPuts, zz4, zz5, if_true, Bool.false_eq_true, if_false, Act.put, zz1, zz2, zz3]
 replace FR0 := hid FR.out.le
 clear E
 go_wp2_with fail
 have hld := AB1.out.read (P := Tryz.prog) Tryz.underlying27 rfl (sizeR V_cr.out)
 refine bodyPost_ret (v := .tuple #[.agg cr.toArray, .int .i64 0]) (by simp [results, Tryz.results27, asAddr, hld]) rfl ?_
 exact ⟨rfl, by rw [HB0.out] at FR; exact FR.out.below⟩
theorem roneQ {cR : List Value} (hR : cR = ratZ 1 1) (w : World) :
  Calls Tryz.prog 23 #[] w fun e w' => e = .returned (.agg cR.toArray) ∧ Below w.heap.size w w' := by
 have V_cR := hid hR
 obtain ⟨cz, V_cz⟩ : ∃ c : List Value, Hid (c = rat false 0 false 0) := ⟨_, hid rfl⟩
 have HW := hid (rwholeZ V_cR.out (by omega) (by omega))
 clear hR
 obtain ⟨B0, hB0⟩ : ∃ B, B = w.heap.size := ⟨_, rfl⟩
 obtain ⟨w0, hw0⟩ : ∃ w0, w0 = (w.alloc (.cells Tryz.zeroCells27 27)) := ⟨_, rfl⟩
 have AB0 := hid (show At w0 B0 0 cz by rw [hw0]; exact (show At (w.alloc (.cells Tryz.zeroCells27 27)) B0 0 cz from (by rw [Tryz.zeroR, V_cz.out]; exact At.fresh _ (rat false 0 false 0) _ (by simp [hB0]))))
 have FR := hid (show Fr B0 w w0 by rw [hw0, hB0]; exact (Fr.start w).alloc _)
 have FR0 := hid FR.out.le
 have hZB0 : B0 ≤ B0 := Nat.le_refl _
 have HB0 := hid hB0
 go_enter Tryz.func23, Tryz.ntmps23
 go_upto_region 1 with fail
 rw [← hw0, ← hB0]
 clear hw0 hB0
 refine wp_flow [⟨false, 0, 0, 1, B0, 0, 27, 1, cR, 0, cR, []⟩] [(1, .agg cR.toArray)] _ (by simp only [zz4, zz5, Act.put, zz1, zz2, zz3]; rfl) (by kernel_rfl) (by kernel_rfl) ?_ ?_ ?_ ?_ ?_ ?_ ?_
 ·intro W' hW'
  refine fxo ?_ ?_; (go_big_quiet_step ((go_at_call 18; exact Calls.below_of (HW.out _))); (try simp only [Act.put, zz1, zz2, zz3]); exact wqn rfl)
  refine fxs (by rfl) ?_
  exact fxn
 ·intro W' hK'
  iterate 2 (refine fxs (by kernel_rfl) ?_)
  exact fxn
 ·exact forPl _ _ (fun h => Bool.noConfusion h) (forPl0)
 ·exact forPl _ _ (fun _ => ⟨AB0.out.lt, rfl, At.room AB0.out (sizeR V_cz.out) (sizeR V_cR.out)⟩) (forPl0)
 ·intro q hq r hr hqn hrn e
  simp only [List.mem_cons, List.not_mem_nil, or_false] at hq hr
  rcases hq with rfl <;> rcases hr with rfl <;> first | rfl | (exact Bool.noConfusion hqn) | (exact Bool.noConfusion hrn) | (exfalso; simp only at e; omega)
 ·exact forPl _ _ (stw rfl (sizeR V_cR.out) (oneR V_cR.out) (fun _ => rfl)) (forPl0)
 intro β wx1 E
 replace FR := hid (FR.out.flow E (forPl _ _ (fun _ => (by show B0 ≤ B0; omega)) (forPl0)))
 replace AB0 := hid (show At wx1 B0 0 cR from E.atOld (List.mem_cons_self ..) rfl AB0.out.lt)
 simp only [newPuts, zz4, zz5, if_true, Bool.false_eq_true, if_false, Act.put, zz1, zz2, zz3]
 replace FR0 := hid FR.out.le
 clear E
 go_wp2_with fail
 have hld := AB0.out.read (P := Tryz.prog) Tryz.underlying27 rfl (sizeR V_cR.out)
 refine bodyPost_ret (v := .agg cR.toArray) (by simp [results, Tryz.results23, asAddr, hld]) rfl ?_
 exact ⟨rfl, by rw [HB0.out] at FR; exact FR.out.below⟩
theorem rcompareQ {ca cb : List Value} {a b : Qn} {z : Int} (h1 : ca = ratZ a.1 a.2) (h2 : cb = ratZ b.1 b.2) (ha : VQ a) (hb : VQ b) (hz : z = cmpZ (a.1 * (b.2 : Int)) (b.1 * (a.2 : Int))) (w : World) :
  Calls Tryz.prog 28 #[.agg ca.toArray, .agg cb.toArray] w fun e w' => e = .returned (.int .i64 z) ∧ Below w.heap.size w w' := by
 have V_ca := hid h1
 have V_cb := hid h2
 have hx : (a.1 * (b.2 : Int)).natAbs < BB ^ 30 := by rw [Int.natAbs_mul]; exact mul30 ha.num (by simpa using hb.den)
 have hy : (b.1 * (a.2 : Int)).natAbs < BB ^ 30 := by rw [Int.natAbs_mul]; exact mul30 hb.num (by simpa using ha.den)
 obtain ⟨cna, V_cna⟩ : ∃ c : List Value, Hid (c = iZ a.1) := ⟨_, hid rfl⟩
 obtain ⟨cnb, V_cnb⟩ : ∃ c : List Value, Hid (c = iZ b.1) := ⟨_, hid rfl⟩
 obtain ⟨cx, V_cx⟩ : ∃ c : List Value, Hid (c = iZ (a.1 * (b.2 : Int))) := ⟨_, hid rfl⟩
 obtain ⟨cy, V_cy⟩ : ∃ c : List Value, Hid (c = iZ (b.1 * (a.2 : Int))) := ⟨_, hid rfl⟩
 obtain ⟨cda, V_cda⟩ : ∃ c : List Value, Hid (c = .bool false :: lv 32 a.2) := ⟨_, hid rfl⟩
 obtain ⟨cdb, V_cdb⟩ : ∃ c : List Value, Hid (c = .bool false :: lv 32 b.2) := ⟨_, hid rfl⟩
 have hda : cda = iZ (a.2 : Int) := by rw [V_cda.out, iZ_nat]
 have hdb : cdb = iZ (b.2 : Int) := by rw [V_cdb.out, iZ_nat]
 have HX := hid (rprodZ V_cna.out hdb V_cx.out (b480_bb ha.num) (b480_bb (by simpa using hb.den)) (b30 hx))
 have HY := hid (rprodZ V_cnb.out hda V_cy.out (b480_bb hb.num) (b480_bb (by simpa using ha.den)) (b30 hy))
 have HC := hid (rcmpZ V_cx.out V_cy.out hz (b30 hx) (b30 hy))
 clear h1 h2 ha hb hz hx hy hda hdb
 obtain ⟨B0, hB0⟩ : ∃ B, B = w.heap.size := ⟨_, rfl⟩
 obtain ⟨B1, hB1⟩ : ∃ B, B = w.heap.size + 1 := ⟨_, rfl⟩
 obtain ⟨w0, hw0⟩ : ∃ w0, w0 = ((w.alloc (.cells ca.toArray 27)).alloc (.cells cb.toArray 27)) := ⟨_, rfl⟩
 have AB0 := hid (show At w0 B0 0 ca by rw [hw0]; exact ((show At (w.alloc (.cells ca.toArray 27)) B0 0 ca from At.fresh _ ca _ (by simp [hB0])).alloc _))
 have AB1 := hid (show At w0 B1 0 cb by rw [hw0]; exact (show At ((w.alloc (.cells ca.toArray 27)).alloc (.cells cb.toArray 27)) B1 0 cb from At.fresh _ cb _ (by simp [hB1])))
 have FR := hid (show Fr B0 w w0 by rw [hw0, hB0]; exact ((Fr.start w).alloc _).alloc _)
 have FR0 := hid FR.out.le
 have l01 : B0 < B1 := by omega
 have hZB1 : B0 ≤ B1 := by omega
 have hZB0 : B0 ≤ B0 := Nat.le_refl _
 have HB0 := hid hB0
 go_enter Tryz.func28, Tryz.ntmps28
 go_upto_region 1 with fail
 rw [← hw0, ← hB1, ← hB0]
 clear hw0 hB0 hB1
 have AB0_n := hid (AB0.out.num V_ca.out V_cna.out)
 have AB0_d := hid (AB0.out.den V_ca.out V_cda.out)
 have AB1_n := hid (AB1.out.num V_cb.out V_cnb.out)
 have AB1_d := hid (AB1.out.den V_cb.out V_cdb.out)
 refine wp_flow_new [] [(5, .pointer (some ⟨B0, 0, none⟩)), (6, .agg cna.toArray), (7, .pointer (some ⟨B1, 33, none⟩)), (8, .agg cdb.toArray), (9, .agg cx.toArray), (10, .pointer (some ⟨B1, 0, none⟩)), (11, .agg cnb.toArray), (12, .pointer (some ⟨B0, 33, none⟩)), (13, .agg cda.toArray), (14, .agg cy.toArray), (15, .int .i64 z), (4, .int .i64 z)] _ (by simp only [zz4, zz5, Act.put, zz1, zz2, zz3]; rfl) (by kernel_rfl) (by kernel_rfl) rfl ?_ ?_ ?_ ?_
 ·intro W' hW'
  have rd0 := AB0_n.out.below hW'
  have rd1 := AB1_d.out.below hW'
  have rd2 := AB1_n.out.below hW'
  have rd3 := AB0_d.out.below hW'
  refine fxo ?_ ?_; (go_big_quiet_step (fail); (try simp only [Act.put, zz1, zz2, zz3]); exact wqn rfl)
  refine fxo (wlg (by rfl) rfl rfl rd0 Tryz.underlying25 rfl (sizeI V_cna.out) (wqn (by simp only [Act.put, zz1, zz2, zz3]))) ?_
  refine fxo ?_ ?_; (go_big_quiet_step (fail); (try simp only [Act.put, zz1, zz2, zz3]); exact wqn rfl)
  refine fxo (wlg (by rfl) rfl rfl rd1 Tryz.underlying25 rfl (sizeI V_cdb.out) (wqn (by simp only [Act.put, zz1, zz2, zz3]))) ?_
  refine fxo ?_ ?_; (go_big_quiet_step ((go_at_call 57; exact Calls.below_of (HX.out _))); (try simp only [Act.put, zz1, zz2, zz3]); exact wqn rfl)
  refine fxo ?_ ?_; (go_big_quiet_step (fail); (try simp only [Act.put, zz1, zz2, zz3]); exact wqn rfl)
  refine fxo (wlg (by rfl) rfl rfl rd2 Tryz.underlying25 rfl (sizeI V_cnb.out) (wqn (by simp only [Act.put, zz1, zz2, zz3]))) ?_
  refine fxo ?_ ?_; (go_big_quiet_step (fail); (try simp only [Act.put, zz1, zz2, zz3]); exact wqn rfl)
  refine fxo (wlg (by rfl) rfl rfl rd3 Tryz.underlying25 rfl (sizeI V_cda.out) (wqn (by simp only [Act.put, zz1, zz2, zz3]))) ?_
  refine fxo ?_ ?_; (go_big_quiet_step ((go_at_call 57; exact Calls.below_of (HY.out _))); (try simp only [Act.put, zz1, zz2, zz3]); exact wqn rfl)
  refine fxo ?_ ?_; (go_big_quiet_step ((go_at_call 59; exact Calls.below_of (HC.out _))); (try simp only [Act.put, zz1, zz2, zz3]); exact wqn rfl)
  refine fxo ?_ ?_; (go_big_quiet_step (fail); (try simp only [Act.put, zz1, zz2, zz3]); exact wqn rfl)
  exact fxn
 ·exact forPl0
 ·exact forPl0
 intro β wx1 E
 replace FR := hid (FR.out.fnw E rfl)
 replace AB0 := hid (AB0.out.fnw E rfl)
 replace AB1 := hid (AB1.out.fnw E rfl)
 replace AB0_n := hid (AB0_n.out.fnw E rfl)
 replace AB0_d := hid (AB0_d.out.fnw E rfl)
 replace AB1_n := hid (AB1_n.out.fnw E rfl)
 replace AB1_d := hid (AB1_d.out.fnw E rfl)
 have hE := E.below rfl
 simp only [newPuts, zz4, zz5, if_true, Bool.false_eq_true, if_false, Act.put, zz1, zz2, zz3]
 replace FR0 := hid FR.out.le
 clear E
 go_wp2
 go_ret
 exact ⟨rfl, by rw [HB0.out] at FR; exact FR.out.below⟩
end Go.Proofs.YtmcekgapelanhaaGreat
