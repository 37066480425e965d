/- fundadminref02.Whole, fundadminref03.power, fundadminref01.Cmp: walked. -/
import Derived.Test.YtnkmhbiklffjlaaBiK
set_option linter.unusedVariables false
set_option linter.unusedSimpArgs false
namespace Go.Proofs.Ytnkmhbiklffjlaa
open Go.RowKit Big

def zI (n : Bool) (v : Nat) : Int := if n = true then -(v : Int) else (v : Int)
theorem from_op {c : List Value} {z : Int} {n : Bool} {v : Nat} (h : c = .bool n :: lv 32 v) (hn : n = decide (z < 0)) (hv : v = z.natAbs) (h1 : -9223372036854775808 ≤ z) (h2 : z ≤ 9223372036854775807) (W : World) :
    Calls Try.prog 33 #[.int .i64 z] W fun e w' => e = .returned (.agg c.toArray) ∧ Below W.heap.size W w' := by
  subst h hn hv; exact from_is z W h1 h2
set_option maxRecDepth 100000 in
set_option maxHeartbeats 4000000 in
theorem whole_is (z : Int) (n : Bool) (v : Nat) (w : World) (hn : n = decide (z < 0)) (hv : v = z.natAbs) (h1 : -9223372036854775808 ≤ z) (h2 : z ≤ 9223372036854775807) :
    Calls Try.prog 74 #[.int .i64 z] w fun e w' => e = .returned (rV n v false 1) ∧ Below w.heap.size w w' := by
  obtain ⟨cn, V_cn⟩ : ∃ c : List Value, Hid (c = .bool n :: lv 32 v) := ⟨_, Lib.hid rfl⟩
  obtain ⟨co, V_co⟩ : ∃ c : List Value, Hid (c = .bool false :: lv 32 1) := ⟨_, Lib.hid rfl⟩
  obtain ⟨cr, V_cr⟩ : ∃ c : List Value, Hid (c = rat n v false 1) := ⟨_, Lib.hid rfl⟩
  obtain ⟨cz, V_cz⟩ : ∃ c : List Value, Hid (c = rat false 0 false 0) := ⟨_, Lib.hid rfl⟩
  rw [valR V_cr.out]
  have H1 := Lib.hid (from_op V_cn.out hn hv h1 h2)
  have H2 := Lib.hid (from_op (z := 1) V_co.out rfl rfl (by decide) (by decide))
  clear hn hv h1 h2
  obtain ⟨B0, hB0⟩ : ∃ B, B = w.heap.size := ⟨_, rfl⟩
  obtain ⟨w0, hw0⟩ : ∃ w0, w0 = (w.alloc (.cells Try.zeroCells56 56)) := ⟨_, rfl⟩
  have AB0 := Lib.hid (show At w0 B0 0 cz by rw [hw0]; exact (show At (w.alloc (.cells Try.zeroCells56 56)) B0 0 cz from (by rw [Try.zeroR, V_cz.out]; exact At.fresh _ (rat false 0 false 0) _ (by simp [hB0]))))
  have FR := Lib.hid (show Fr B0 w w0 by rw [hw0, hB0]; exact (Fr.start w).alloc _)
  have FR0 := Lib.hid FR.out.le
  have hZB0 : B0 ≤ B0 := Nat.le_refl _
  have HB0 := Lib.hid hB0
  go_enter Try.func74, Try.ntmps74
  go_upto_region 1 with fail
  rw [← hw0, ← hB0]
  clear hw0 hB0
  refine wp_flow [⟨false, 0, 2, 4, B0, 0, 56, 6, cr⟩] [(3, .int .i64 z), (4, .agg cn.toArray), (5, .agg co.toArray), (6, .agg cr.toArray)] _ (by simp only [List.foldl_cons, List.foldl_nil, Act.put, List.setIfInBounds_toArray, List.set_cons_zero, List.set_cons_succ]; rfl) (by kernel_rfl) (by kernel_rfl) ?_ ?_ ?_ ?_ ?_ ?_ ?_
  · intro W' hW'
    refine flowX_op ?_ ?_; (go_big_quiet_step (fail); (try simp only [Act.put, List.setIfInBounds_toArray, List.set_cons_zero, List.set_cons_succ]); exact wpQuiet_nil rfl)
    refine flowX_op ?_ ?_; (go_big_quiet_step ((go_at_call 33; exact Calls.below_of (H1.out _))); (try simp only [Act.put, List.setIfInBounds_toArray, List.set_cons_zero, List.set_cons_succ]); exact wpQuiet_nil rfl)
    refine flowX_op ?_ ?_; (go_big_quiet_step ((go_at_call 33; exact Calls.below_of (H2.out _))); (try simp only [Act.put, List.setIfInBounds_toArray, List.set_cons_zero, List.set_cons_succ]); exact wpQuiet_nil rfl)
    refine flowX_op (wpQuiet_build rfl _ _ rfl _ rfl _ (built_r V_cn.out V_co.out V_cr.out) (wpQuiet_nil (by simp only [Act.put, List.setIfInBounds_toArray, List.set_cons_zero, List.set_cons_succ]))) ?_
    refine flowX_skip (by rfl) ?_
    exact flowX_nil
  · intro W' hK'
    first | (refine flowX_op ?_ ?_; (go_big_quiet_step (fail); (try simp only [Act.put, List.setIfInBounds_toArray, List.set_cons_zero, List.set_cons_succ]); exact wpQuiet_nil rfl)) | (refine flowX_skip (by kernel_rfl) ?_)
    refine flowX_skip (by kernel_rfl) ?_
    refine flowX_skip (by kernel_rfl) ?_
    refine flowX_op (wpQuiet_build rfl _ _ rfl _ rfl _ (built_r V_cn.out V_co.out V_cr.out) (wpQuiet_nil (by simp only [Act.put, List.setIfInBounds_toArray, List.set_cons_zero, List.set_cons_succ]))) ?_
    refine flowX_skip (by kernel_rfl) ?_
    exact flowX_nil
  · exact forPl _ _ (fun h => Bool.noConfusion h) (forPl0)
  · exact forPl _ _ (fun _ => ⟨AB0.out.lt, rfl, At.room AB0.out (sizeR V_cz.out) (sizeR V_cr.out)⟩) (forPl0)
  · intro q hq r hr hqn hrn e
    simp only [List.mem_cons, List.not_mem_nil, or_false] at hq hr
    rcases hq with rfl <;> rcases hr with rfl <;> first | rfl | (exact Bool.noConfusion hqn) | (exact Bool.noConfusion hrn) | (exfalso; simp only at e; omega)
  · exact forPl _ _ (⟨rfl, (sizeR V_cr.out), (oneR V_cr.out)⟩) (forPl0)
  intro β x1 E
  replace FR := Lib.hid (FR.out.flow E (forPl _ _ (fun _ => (by show B0 ≤ B0; omega)) (forPl0)))
  replace AB0 := Lib.hid (show At x1 B0 0 cr from E.atOld (List.mem_cons_self ..) rfl AB0.out.lt)
  simp only [newPuts, List.foldl_cons, List.foldl_nil, if_true, Bool.false_eq_true, if_false, Act.put, List.setIfInBounds_toArray, List.set_cons_zero, List.set_cons_succ]
  replace FR0 := Lib.hid FR.out.le
  clear E
  go_wp2_with fail
  have hld := AB0.out.read (P := Try.prog) Try.underlying56 rfl (sizeR V_cr.out)
  refine bodyPost_ret (v := .agg cr.toArray) (by simp [results, Try.results74, asAddr, hld]) rfl ?_
  exact ⟨rfl, by rw [HB0.out] at FR; exact FR.out.below⟩

set_option maxRecDepth 100000 in
set_option maxHeartbeats 4000000 in
theorem power_is (n : Nat) (w : World) (hn : n ≤ 18) :
    Calls Try.prog 72 #[.int .i64 (n : Int)] w fun e w' => e = .returned (rV false (10 ^ n) false 1) ∧ Below w.heap.size w w' := by
  obtain ⟨cr, V_cr⟩ : ∃ c : List Value, Hid (c = rat false (10 ^ n) false 1) := ⟨_, Lib.hid rfl⟩
  obtain ⟨cz, V_cz⟩ : ∃ c : List Value, Hid (c = rat false 0 false 0) := ⟨_, Lib.hid rfl⟩
  rw [valR V_cr.out]
  have hpw : ∀ i, i ≤ 18 → 10 ^ i ≤ 1000000000000000000 := fun i hi => Nat.le_trans (Nat.pow_le_pow_right (by omega) hi) (by decide)
  have HPW := Lib.hid hpw
  have H1 := Lib.hid (show ∀ W, Calls Try.prog 74 #[.int .i64 ((10 ^ n : Nat) : Int)] W (fun e w' => e = .returned (.agg cr.toArray) ∧ Below W.heap.size W w') from fun W => by
    have hb := hpw n hn
    have hv := V_cr.out
    generalize 10 ^ n = p at hb hv
    have := whole_is (p : Int) false p W (by symm; exact decide_eq_false (by omega)) (by omega) (by omega) (by omega)
    rw [valR hv] at this; exact this)
  clear hpw
  obtain ⟨B0, hB0⟩ : ∃ B, B = w.heap.size := ⟨_, rfl⟩
  obtain ⟨w0, hw0⟩ : ∃ w0, w0 = (w.alloc (.cells Try.zeroCells56 56)) := ⟨_, rfl⟩
  have AB0 := Lib.hid (show At w0 B0 0 cz by rw [hw0]; exact (show At (w.alloc (.cells Try.zeroCells56 56)) B0 0 cz from (by rw [Try.zeroR, V_cz.out]; exact At.fresh _ (rat false 0 false 0) _ (by simp [hB0]))))
  have FR := Lib.hid (show Fr B0 w w0 by rw [hw0, hB0]; exact (Fr.start w).alloc _)
  have FR0 := Lib.hid FR.out.le
  have hZB0 : B0 ≤ B0 := Nat.le_refl _
  have HB0 := Lib.hid hB0
  go_enter Try.func72, Try.ntmps72
  go_upto_region 1 with fail
  rw [← hw0, ← hB0]
  clear hw0 hB0
  go_wp2
  go_loopg [3, 4] n (fun m pv iv wr => ∃ i : Nat, pv = .int .i64 ((10 ^ i : Nat) : Int) ∧ iv = .int .i64 (i : Int) ∧ i ≤ n ∧ n ≤ m + i ∧ wr = w0)
  case atStart => exact ⟨0, rfl, rfl, by omega, by omega, rfl⟩
  case round =>
    obtain ⟨i, rfl, rfl, hi, hm, hwr⟩ := hrel
    subst hwr
    by_cases hin : i < n
    · obtain ⟨p, hp⟩ : ∃ p, p = 10 ^ i := ⟨_, rfl⟩
      have hpb : p * 10 ≤ 1000000000000000000 := by have := HPW.out (i + 1) (by omega); rw [Nat.pow_succ, ← hp] at this; exact this
      have wq : IntKind.i64.wrap ((p : Int) * 10) = (p : Int) * 10 := IntWalk.i64_in _ (by omega)
      have HQ := Lib.hid (show (p : Int) * 10 = ((10 ^ (i + 1) : Nat) : Int) by rw [Nat.pow_succ, ← hp]; omega)
      rw [← hp]
      clear hp hpb
      go_wp2
      go_roundg (gk - 1)
      case measure => omega
      case rel => exact ⟨i + 1, by rw [HQ.out], by go_num, by omega, by omega, rfl⟩
    · have hin2 : i = n := by omega
      subst hin2
      go_upto_region 6 with fail
      refine wp_flow [⟨false, 0, 2, 2, B0, 0, 56, 13, cr⟩] [(12, .int .i64 ((10 ^ i : Nat) : Int)), (13, .agg cr.toArray)] _ (by simp only [List.foldl_cons, List.foldl_nil, Act.put, List.setIfInBounds_toArray, List.set_cons_zero, List.set_cons_succ]; rfl) (by kernel_rfl) (by kernel_rfl) ?_ ?_ ?_ ?_ ?_ ?_ ?_
      · intro W' hW'
        refine flowX_op ?_ ?_; (go_big_quiet_step (fail); (try simp only [Act.put, List.setIfInBounds_toArray, List.set_cons_zero, List.set_cons_succ]); exact wpQuiet_nil rfl)
        refine flowX_op ?_ ?_; (go_big_quiet_step ((go_at_call 74; exact Calls.below_of (H1.out _))); (try simp only [Act.put, List.setIfInBounds_toArray, List.set_cons_zero, List.set_cons_succ]); exact wpQuiet_nil rfl)
        refine flowX_skip (by rfl) ?_
        exact flowX_nil
      · intro W' hK'
        first | (refine flowX_op ?_ ?_; (go_big_quiet_step (fail); (try simp only [Act.put, List.setIfInBounds_toArray, List.set_cons_zero, List.set_cons_succ]); exact wpQuiet_nil rfl)) | (refine flowX_skip (by kernel_rfl) ?_)
        refine flowX_skip (by kernel_rfl) ?_
        refine flowX_skip (by kernel_rfl) ?_
        exact flowX_nil
      · exact forPl _ _ (fun h => Bool.noConfusion h) (forPl0)
      · exact forPl _ _ (fun _ => ⟨AB0.out.lt, rfl, At.room AB0.out (sizeR V_cz.out) (sizeR V_cr.out)⟩) (forPl0)
      · intro q hq r hr hqn hrn e
        simp only [List.mem_cons, List.not_mem_nil, or_false] at hq hr
        rcases hq with rfl <;> rcases hr with rfl <;> first | rfl | (exact Bool.noConfusion hqn) | (exact Bool.noConfusion hrn) | (exfalso; simp only at e; omega)
      · exact forPl _ _ (⟨rfl, (sizeR V_cr.out), (oneR V_cr.out)⟩) (forPl0)
      intro β x1 E
      replace FR := Lib.hid (FR.out.flow E (forPl _ _ (fun _ => (by show B0 ≤ B0; omega)) (forPl0)))
      replace AB0 := Lib.hid (show At x1 B0 0 cr from E.atOld (List.mem_cons_self ..) rfl AB0.out.lt)
      simp only [newPuts, List.foldl_cons, List.foldl_nil, if_true, Bool.false_eq_true, if_false, Act.put, List.setIfInBounds_toArray, List.set_cons_zero, List.set_cons_succ]
      replace FR0 := Lib.hid FR.out.le
      clear E
      go_wp2_with fail
      have hld := AB0.out.read (P := Try.prog) Try.underlying56 rfl (sizeR V_cr.out)
      refine bodyPost_ret (v := .agg cr.toArray) (by simp [results, Try.results72, asAddr, hld]) rfl ?_
      exact ⟨rfl, by rw [HB0.out] at FR; exact FR.out.below⟩

def cmpZ (x y : Int) : Int := if x < y then -1 else if y < x then 1 else 0
theorem sgn_three (n : Bool) (v : Nat) : sgnI n v = -1 ∨ sgnI n v = 0 ∨ sgnI n v = 1 := by
  unfold sgnI
  (repeat' split) <;> simp
theorem cmp_three (a b : Nat) : cmpI a b = -1 ∨ cmpI a b = 0 ∨ cmpI a b = 1 := by
  unfold cmpI
  (repeat' split) <;> simp
theorem cmp_signs (na nb : Bool) (a b : Nat) : (sgnI na a < sgnI nb b → cmpZ (zI na a) (zI nb b) = -1) ∧ (sgnI nb b < sgnI na a → cmpZ (zI na a) (zI nb b) = 1) ∧ (sgnI na a = sgnI nb b → cmpZ (zI na a) (zI nb b) = sgnI na a * cmpI a b) := by
  unfold cmpZ zI sgnI cmpI
  cases na <;> cases nb <;> simp only [Bool.false_eq_true, if_false, if_true] <;> (refine ⟨fun h => ?_, fun h => ?_, fun h => ?_⟩) <;> (repeat' split at h) <;> (repeat' split) <;> omega
theorem sign_op {c : List Value} {n : Bool} {v : Nat} {s : Int} (h : c = .bool n :: lv 32 v) (hs : s = sgnI n v) (hv : v < BB ^ 32) (W : World) :
    Calls Try.prog 39 #[.agg c.toArray] W fun e w' => e = .returned (.int .i64 s) ∧ Below W.heap.size W w' := by
  subst h hs; exact sign_is n v W hv
theorem compare_op {c d : List Value} {a b : Nat} {x : Int} (hc : c = lv 32 a) (hd : d = lv 32 b) (hx : x = cmpI a b) (ha : a < BB ^ 32) (hb : b < BB ^ 32) (W : World) :
    Calls Try.prog 68 #[.agg c.toArray, .agg d.toArray] W fun e w' => e = .returned (.int .i64 x) ∧ Below W.heap.size W w' := by
  subst hc hd hx; exact compare_is a b W ha hb
set_option maxRecDepth 100000 in
set_option maxHeartbeats 4000000 in
theorem cmp_is (na nb : Bool) (a b : Nat) (z : Int) (w : World) (ha : a < BB ^ 32) (hb : b < BB ^ 32) (hz : z = cmpZ (zI na a) (zI nb b)) :
    Calls Try.prog 63 #[iV na a, iV nb b] w fun e w' => e = .returned (.int .i64 z) ∧ Below w.heap.size w w' := by
  obtain ⟨ca, V_ca⟩ : ∃ c : List Value, Hid (c = .bool na :: lv 32 a) := ⟨_, Lib.hid rfl⟩
  obtain ⟨cb, V_cb⟩ : ∃ c : List Value, Hid (c = .bool nb :: lv 32 b) := ⟨_, Lib.hid rfl⟩
  obtain ⟨ma, V_ma⟩ : ∃ c : List Value, Hid (c = lv 32 a) := ⟨_, Lib.hid rfl⟩
  obtain ⟨mb, V_mb⟩ : ∃ c : List Value, Hid (c = lv 32 b) := ⟨_, Lib.hid rfl⟩
  rw [valI V_ca.out, valI V_cb.out]
  obtain ⟨s, hs⟩ : ∃ s, s = sgnI na a := ⟨_, rfl⟩
  obtain ⟨t, ht⟩ : ∃ t, t = sgnI nb b := ⟨_, rfl⟩
  obtain ⟨x, hx⟩ : ∃ x, x = cmpI a b := ⟨_, rfl⟩
  have hsb : (s = -1 ∨ s = 0 ∨ s = 1) ∧ (t = -1 ∨ t = 0 ∨ t = 1) ∧ (x = -1 ∨ x = 0 ∨ x = 1) := ⟨by rw [hs]; exact sgn_three _ _, by rw [ht]; exact sgn_three _ _, by rw [hx]; exact cmp_three _ _⟩
  have HZ := Lib.hid (show (s < t → z = -1) ∧ (t < s → z = 1) ∧ (s = t → z = s * x) by rw [hz, hs, ht, hx]; exact cmp_signs na nb a b)
  have HS := Lib.hid (sign_op V_ca.out hs ha)
  have HT := Lib.hid (sign_op V_cb.out ht hb)
  have HX := Lib.hid (compare_op V_ma.out V_mb.out hx ha hb)
  clear hs ht hx ha hb hz
  obtain ⟨B0, hB0⟩ : ∃ B, B = w.heap.size := ⟨_, rfl⟩
  obtain ⟨B1, hB1⟩ : ∃ B, B = w.heap.size + 1 := ⟨_, rfl⟩
  obtain ⟨w0, hw0⟩ : ∃ w0, w0 = ((w.alloc (.cells ca.toArray 51)).alloc (.cells cb.toArray 51)) := ⟨_, rfl⟩
  have AB0 := Lib.hid (show At w0 B0 0 ca by rw [hw0]; exact ((show At (w.alloc (.cells ca.toArray 51)) B0 0 ca from At.fresh _ ca _ (by simp [hB0])).alloc _))
  have AB1 := Lib.hid (show At w0 B1 0 cb by rw [hw0]; exact (show At ((w.alloc (.cells ca.toArray 51)).alloc (.cells cb.toArray 51)) B1 0 cb from At.fresh _ cb _ (by simp [hB1])))
  have FR := Lib.hid (show Fr B0 w w0 by rw [hw0, hB0]; exact ((Fr.start w).alloc _).alloc _)
  have FR0 := Lib.hid FR.out.le
  have l01 : B0 < B1 := by omega
  have hZB1 : B0 ≤ B1 := by omega
  have hZB0 : B0 ≤ B0 := Nat.le_refl _
  have HB0 := Lib.hid hB0
  go_enter Try.func63, Try.ntmps63
  go_upto_region 1 with fail
  rw [← hw0, ← hB1, ← hB0]
  clear hw0 hB0 hB1
  refine wp_flow_new [] [(7, .agg ca.toArray), (8, .int .i64 s), (9, .agg cb.toArray), (10, .int .i64 t), (5, .int .i64 s), (6, .int .i64 t)] _ (by simp only [List.foldl_cons, List.foldl_nil, Act.put, List.setIfInBounds_toArray, List.set_cons_zero, List.set_cons_succ]; rfl) (by kernel_rfl) (by kernel_rfl) rfl ?_ ?_ ?_ ?_
  · intro W' hW'
    have rd0 := AB0.out.below hW'
    have rd1 := AB1.out.below hW'
    refine flowX_op (wpQuiet_load_g (by rfl) rfl rfl rd0 Try.underlying51 rfl (sizeI V_ca.out) (wpQuiet_nil (by simp only [Act.put, List.setIfInBounds_toArray, List.set_cons_zero, List.set_cons_succ]))) ?_
    refine flowX_op ?_ ?_; (go_big_quiet_step ((go_at_call 39; exact Calls.below_of (HS.out _))); (try simp only [Act.put, List.setIfInBounds_toArray, List.set_cons_zero, List.set_cons_succ]); exact wpQuiet_nil rfl)
    refine flowX_op (wpQuiet_load_g (by rfl) rfl rfl rd1 Try.underlying51 rfl (sizeI V_cb.out) (wpQuiet_nil (by simp only [Act.put, List.setIfInBounds_toArray, List.set_cons_zero, List.set_cons_succ]))) ?_
    refine flowX_op ?_ ?_; (go_big_quiet_step ((go_at_call 39; exact Calls.below_of (HT.out _))); (try simp only [Act.put, List.setIfInBounds_toArray, List.set_cons_zero, List.set_cons_succ]); exact wpQuiet_nil rfl)
    refine flowX_op ?_ ?_; (go_big_quiet_step (fail); (try simp only [Act.put, List.setIfInBounds_toArray, List.set_cons_zero, List.set_cons_succ]); exact wpQuiet_nil rfl)
    refine flowX_op ?_ ?_; (go_big_quiet_step (fail); (try simp only [Act.put, List.setIfInBounds_toArray, List.set_cons_zero, List.set_cons_succ]); exact wpQuiet_nil rfl)
    exact flowX_nil
  · exact forPl0
  · exact forPl0
  intro β x1 E
  replace FR := Lib.hid (FR.out.flow_new E rfl)
  replace AB0 := Lib.hid (AB0.out.flow_new E rfl)
  replace AB1 := Lib.hid (AB1.out.flow_new E rfl)
  have hE := E.below rfl
  simp only [newPuts, List.foldl_cons, List.foldl_nil, if_true, Bool.false_eq_true, if_false, Act.put, List.setIfInBounds_toArray, List.set_cons_zero, List.set_cons_succ]
  replace FR0 := Lib.hid FR.out.le
  clear E
  obtain ⟨hs, ht, hx⟩ := hsb
  by_cases c1 : s < t
  · have HE := Lib.hid (HZ.out.1 c1)
    clear hs ht hx HS HT
    go_wp2
    go_ret
    exact ⟨ret_int HE.out.symm, by rw [HB0.out] at FR; exact FR.out.below⟩
  · by_cases c2 : t < s
    · have HE := Lib.hid (HZ.out.2.1 c2)
      clear hs ht hx HS HT
      go_wp2
      go_ret
      exact ⟨ret_int HE.out.symm, by rw [HB0.out] at FR; exact FR.out.below⟩
    · have hst : s = t := by omega
      have HE := Lib.hid (HZ.out.2.2 hst)
      have wq : IntKind.i64.wrap (s * x) = s * x := by rcases hs with rfl | rfl | rfl <;> rcases hx with rfl | rfl | rfl <;> exact IntWalk.i64_in _ (by omega)
      have AB0_1 := Lib.hid (AB0.out.mag V_ca.out V_ma.out)
      have AB1_1 := Lib.hid (AB1.out.mag V_cb.out V_mb.out)
      clear hs ht hx HS HT hst
      go_upto_region 6 with fail
      refine wp_flow_new [] [(19, .int .i64 s), (20, .pointer (some ⟨B0, 1, none⟩)), (21, .agg ma.toArray), (22, .pointer (some ⟨B1, 1, none⟩)), (23, .agg mb.toArray), (24, .int .i64 x), (25, .int .i64 (s * x)), (4, .int .i64 (s * x))] _ (by simp only [List.foldl_cons, List.foldl_nil, Act.put, List.setIfInBounds_toArray, List.set_cons_zero, List.set_cons_succ]; rfl) (by kernel_rfl) (by kernel_rfl) rfl ?_ ?_ ?_ ?_
      · intro W' hW'
        have rd0 := AB0_1.out.below hW'
        have rd1 := AB1_1.out.below hW'
        refine flowX_op ?_ ?_; (go_big_quiet_step (fail); (try simp only [Act.put, List.setIfInBounds_toArray, List.set_cons_zero, List.set_cons_succ]); exact wpQuiet_nil rfl)
        refine flowX_op ?_ ?_; (go_big_quiet_step (fail); (try simp only [Act.put, List.setIfInBounds_toArray, List.set_cons_zero, List.set_cons_succ]); exact wpQuiet_nil rfl)
        refine flowX_op (wpQuiet_load_g (by rfl) rfl rfl rd0 Try.underlying49 rfl (sizeM V_ma.out) (wpQuiet_nil (by simp only [Act.put, List.setIfInBounds_toArray, List.set_cons_zero, List.set_cons_succ]))) ?_
        refine flowX_op ?_ ?_; (go_big_quiet_step (fail); (try simp only [Act.put, List.setIfInBounds_toArray, List.set_cons_zero, List.set_cons_succ]); exact wpQuiet_nil rfl)
        refine flowX_op (wpQuiet_load_g (by rfl) rfl rfl rd1 Try.underlying49 rfl (sizeM V_mb.out) (wpQuiet_nil (by simp only [Act.put, List.setIfInBounds_toArray, List.set_cons_zero, List.set_cons_succ]))) ?_
        refine flowX_op ?_ ?_; (go_big_quiet_step ((go_at_call 68; exact Calls.below_of (HX.out _))); (try simp only [Act.put, List.setIfInBounds_toArray, List.set_cons_zero, List.set_cons_succ]); exact wpQuiet_nil rfl)
        refine flowX_op ?_ ?_; (go_big_quiet_step (fail); (try simp only [Act.put, List.setIfInBounds_toArray, List.set_cons_zero, List.set_cons_succ]); exact wpQuiet_nil rfl)
        refine flowX_op ?_ ?_; (go_big_quiet_step (fail); (try simp only [Act.put, List.setIfInBounds_toArray, List.set_cons_zero, List.set_cons_succ]); exact wpQuiet_nil rfl)
        exact flowX_nil
      · exact forPl0
      · exact forPl0
      intro β x2 E
      replace FR := Lib.hid (FR.out.flow_new E rfl)
      replace AB0 := Lib.hid (AB0.out.flow_new E rfl)
      replace AB1 := Lib.hid (AB1.out.flow_new E rfl)
      replace AB0_1 := Lib.hid (AB0_1.out.flow_new E rfl)
      replace AB1_1 := Lib.hid (AB1_1.out.flow_new E rfl)
      have hE := E.below rfl
      simp only [newPuts, List.foldl_cons, List.foldl_nil, if_true, Bool.false_eq_true, if_false, Act.put, List.setIfInBounds_toArray, List.set_cons_zero, List.set_cons_succ]
      replace FR0 := Lib.hid FR.out.le
      clear E
      go_wp2
      go_ret
      exact ⟨ret_int HE.out.symm, by rw [HB0.out] at FR; exact FR.out.below⟩
end Go.Proofs.Ytnkmhbiklffjlaa
