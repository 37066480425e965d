/- fundadminref03.RoundInt, fundadminref04.quota: walked. -/
import Derived.Test.YtnkmhbiklffjlaaBiP
set_option linter.unusedVariables false
set_option linter.unusedSimpArgs false
namespace Go.Proofs.Ytnkmhbiklffjlaa
open Go.RowKit Big

theorem toint_op {c : List Value} {n : Bool} {v : Nat} {z : Int} (hc : c = .bool n :: lv 32 v) (hn : cs1 n v = n) (hv : v < 9223372036854775808) (hz : z = zI n v) (W : World) :
    Calls Try.prog 38 #[.agg c.toArray] W fun e w' => e = .returned (.tuple #[.int .i64 z, .bool true]) ∧ Below W.heap.size W w' := by
  subst hc hz; exact toint_all n v W hv hn
theorem canon_int (z : Int) : cs1 (decide (z < 0)) z.natAbs = decide (z < 0) ∧ z = zI (decide (z < 0)) z.natAbs := by
  unfold cs1 zI
  by_cases h : z < 0
  · simp [h]; omega
  · simp [h]; omega
theorem small_bb {v : Nat} (h : v < 9223372036854775808) : v < BB ^ 32 := Nat.lt_of_lt_of_le (two_lt (by omega)) (Nat.pow_le_pow_right BB_pos (by omega))
set_option maxRecDepth 100000 in
set_option maxHeartbeats 8000000 in
theorem rndint_op {cr : List Value} {n : Bool} {p q k mode : Nat} {z : Int} (hr : cr = rat n p false q) (hn : n = cs1 n p) (hp : p < B480) (hq : q < B480) (h0 : q ≠ 0) (hg : Nat.gcd p q = 1) (hk : k ≤ 9) (hm1 : 1 ≤ mode) (hm2 : mode ≤ 6)
    (hz : z = rndI mode n (p * 10 ^ k) q) (hz1 : -1000000000000000 ≤ z) (hz2 : z ≤ 1000000000000000) (w : World) :
    Calls Try.prog 35 #[.agg cr.toArray, .int .i64 (k : Int), .int .i64 (mode : Int)] w fun e w' => e = .returned (.tuple #[.int .i64 z, .int .i64 0]) ∧ Below w.heap.size w w' := by
  have V_cr := Lib.hid hr
  obtain ⟨cv, V_cv⟩ : ∃ c : List Value, Hid (c = .bool (decide (z < 0)) :: lv 32 z.natAbs) := ⟨_, Lib.hid rfl⟩
  have HR := Lib.hid (round_op (k := k) (mode := mode) V_cr.out V_cv.out hn hp hq h0 hg hk hm1 hm2 (by rw [hz]) (by rw [hz]))
  have HT := Lib.hid (toint_op V_cv.out (canon_int z).1 (by omega) (canon_int z).2)
  have m1 : ¬ (1000000000000000 : Int) < z := by omega
  have m2 : ¬ z < -1000000000000000 := by omega
  clear hr hn hp hq h0 hg hk hm1 hm2 hz hz1 hz2
  obtain ⟨B0, hB0⟩ : ∃ B, B = w.heap.size := ⟨_, rfl⟩
  obtain ⟨w0, hw0⟩ : ∃ w0, w0 = (w.alloc (.cells cr.toArray 56)) := ⟨_, rfl⟩
  have AB0 := Lib.hid (show At w0 B0 0 cr by rw [hw0]; exact (show At (w.alloc (.cells cr.toArray 56)) B0 0 cr from At.fresh _ cr _ (by simp [hB0])))
  have FR := Lib.hid (show Fr B0 w w0 by rw [hw0, hB0]; exact (Fr.start w).alloc _)
  have FR0 := Lib.hid FR.out.le
  have hZB0 : B0 ≤ B0 := Nat.le_refl _
  have HB0 := Lib.hid hB0
  go_enter Try.func35, Try.ntmps35
  go_upto_region 1 with fail
  rw [← hw0, ← hB0]
  clear hw0 hB0
  refine wp_flow_new [⟨true, 7, 8, 8, 0, 0, 51, 17, cv⟩] [(13, .agg cr.toArray), (14, .int .i64 (k : Int)), (15, .int .i64 (mode : Int)), (16, .tuple #[.agg cv.toArray, .int .i64 0]), (12, .tuple #[.agg cv.toArray, .int .i64 0]), (17, .agg cv.toArray), (18, .int .i64 0), (9, .int .i64 0)] _ (by simp only [List.foldl_cons, List.foldl_nil, Act.put, List.setIfInBounds_toArray, List.set_cons_zero, List.set_cons_succ]; rfl) (by kernel_rfl) (by kernel_rfl) rfl ?_ ?_ ?_ ?_
  · intro W' hW'
    have rd0 := AB0.out.below hW'
    refine flowX_op (wpQuiet_load_g (by rfl) rfl rfl rd0 Try.underlying56 rfl (sizeR V_cr.out) (wpQuiet_nil (by simp only [Act.put, List.setIfInBounds_toArray, List.set_cons_zero, List.set_cons_succ]))) ?_
    refine flowX_op ?_ ?_; (go_big_quiet_step (fail); (try simp only [Act.put, List.setIfInBounds_toArray, List.set_cons_zero, List.set_cons_succ]); exact wpQuiet_nil rfl)
    refine flowX_op ?_ ?_; (go_big_quiet_step (fail); (try simp only [Act.put, List.setIfInBounds_toArray, List.set_cons_zero, List.set_cons_succ]); exact wpQuiet_nil rfl)
    refine flowX_op ?_ ?_; (go_big_quiet_step ((go_at_call 51; exact Calls.below_of (HR.out _))); (try simp only [Act.put, List.setIfInBounds_toArray, List.set_cons_zero, List.set_cons_succ]); exact wpQuiet_nil rfl)
    refine flowX_op ?_ ?_; (go_big_quiet_step (fail); (try simp only [Act.put, List.setIfInBounds_toArray, List.set_cons_zero, List.set_cons_succ]); exact wpQuiet_nil rfl)
    refine flowX_op ?_ ?_; (go_big_quiet_step (fail); (try simp only [Act.put, List.setIfInBounds_toArray, List.set_cons_zero, List.set_cons_succ]); exact wpQuiet_nil rfl)
    refine flowX_op ?_ ?_; (go_big_quiet_step (fail); (try simp only [Act.put, List.setIfInBounds_toArray, List.set_cons_zero, List.set_cons_succ]); exact wpQuiet_nil rfl)
    refine flowX_skip (by rfl) ?_
    refine flowX_skip (by rfl) ?_
    refine flowX_op ?_ ?_; (go_big_quiet_step (fail); (try simp only [Act.put, List.setIfInBounds_toArray, List.set_cons_zero, List.set_cons_succ]); exact wpQuiet_nil rfl)
    exact flowX_nil
  · exact forPl _ _ (Try.alI (sizeI V_cv.out)) (forPl0)
  · exact forPl _ _ (⟨rfl, (sizeI V_cv.out), (oneI V_cv.out)⟩) (forPl0)
  intro β wx1 E
  replace FR := Lib.hid (FR.out.flow_new E rfl)
  obtain ⟨b8, hb8⟩ : ∃ b, b = β 7 := ⟨_, rfl⟩
  have eb8 := E.atNew (List.mem_cons_self ..) rfl
  simp only at eb8
  rw [← hb8] at eb8
  have lB0_b8 : B0 < b8 := by have h1 := eb8.1; have h2 := AB0.out.lt; omega
  have hZb8 : B0 ≤ b8 := by have h1 := eb8.1; have h2 := FR0.out; omega
  replace AB0 := Lib.hid (AB0.out.flow_new E rfl)
  have Ab8 := Lib.hid eb8.2
  simp only [newPuts, List.foldl_cons, List.foldl_nil, if_true, Bool.false_eq_true, if_false, Act.put, List.setIfInBounds_toArray, List.set_cons_zero, List.set_cons_succ]
  rw [← hb8]
  replace FR0 := Lib.hid FR.out.le
  clear E eb8 hb8
  go_upto_region 2 with fail
  refine wp_flow_new [] [(19, .int .i64 0), (20, .bool false)] _ (by simp only [List.foldl_cons, List.foldl_nil, Act.put, List.setIfInBounds_toArray, List.set_cons_zero, List.set_cons_succ]; rfl) (by kernel_rfl) (by kernel_rfl) rfl ?_ ?_ ?_ ?_
  · intro W' hW'
    refine flowX_op ?_ ?_; (go_big_quiet_step (fail); (try simp only [Act.put, List.setIfInBounds_toArray, List.set_cons_zero, List.set_cons_succ]); exact wpQuiet_nil rfl)
    refine flowX_op ?_ ?_; (go_big_quiet_step (fail); (try simp only [Act.put, List.setIfInBounds_toArray, List.set_cons_zero, List.set_cons_succ]); exact wpQuiet_nil rfl)
    exact flowX_nil
  · exact forPl0
  · exact forPl0
  intro β wx2 E
  replace FR := Lib.hid (FR.out.flow_new E rfl)
  replace AB0 := Lib.hid (AB0.out.flow_new E rfl)
  replace Ab8 := Lib.hid (Ab8.out.flow_new E rfl)
  have hE := E.below rfl
  simp only [newPuts, List.foldl_cons, List.foldl_nil, if_true, Bool.false_eq_true, if_false, Act.put, List.setIfInBounds_toArray, List.set_cons_zero, List.set_cons_succ]
  replace FR0 := Lib.hid FR.out.le
  clear E
  go_upto_region 4 with fail
  refine wp_flow_new [] [(23, .agg cv.toArray), (24, .tuple #[.int .i64 z, .bool true]), (22, .tuple #[.int .i64 z, .bool true]), (25, .int .i64 z), (26, .bool true), (10, .int .i64 z), (11, .bool true)] _ (by simp only [List.foldl_cons, List.foldl_nil, Act.put, List.setIfInBounds_toArray, List.set_cons_zero, List.set_cons_succ]; rfl) (by kernel_rfl) (by kernel_rfl) rfl ?_ ?_ ?_ ?_
  · intro W' hW'
    have rd0 := Ab8.out.below hW'
    refine flowX_op (wpQuiet_load_g (by rfl) rfl rfl rd0 Try.underlying51 rfl (sizeI V_cv.out) (wpQuiet_nil (by simp only [Act.put, List.setIfInBounds_toArray, List.set_cons_zero, List.set_cons_succ]))) ?_
    refine flowX_op ?_ ?_; (go_big_quiet_step ((go_at_call 38; exact Calls.below_of (HT.out _))); (try simp only [Act.put, List.setIfInBounds_toArray, List.set_cons_zero, List.set_cons_succ]); exact wpQuiet_nil rfl)
    refine flowX_op ?_ ?_; (go_big_quiet_step (fail); (try simp only [Act.put, List.setIfInBounds_toArray, List.set_cons_zero, List.set_cons_succ]); exact wpQuiet_nil rfl)
    refine flowX_op ?_ ?_; (go_big_quiet_step (fail); (try simp only [Act.put, List.setIfInBounds_toArray, List.set_cons_zero, List.set_cons_succ]); exact wpQuiet_nil rfl)
    refine flowX_op ?_ ?_; (go_big_quiet_step (fail); (try simp only [Act.put, List.setIfInBounds_toArray, List.set_cons_zero, List.set_cons_succ]); exact wpQuiet_nil rfl)
    refine flowX_op ?_ ?_; (go_big_quiet_step (fail); (try simp only [Act.put, List.setIfInBounds_toArray, List.set_cons_zero, List.set_cons_succ]); exact wpQuiet_nil rfl)
    refine flowX_op ?_ ?_; (go_big_quiet_step (fail); (try simp only [Act.put, List.setIfInBounds_toArray, List.set_cons_zero, List.set_cons_succ]); exact wpQuiet_nil rfl)
    exact flowX_nil
  · exact forPl0
  · exact forPl0
  intro β wx3 E
  replace FR := Lib.hid (FR.out.flow_new E rfl)
  replace AB0 := Lib.hid (AB0.out.flow_new E rfl)
  replace Ab8 := Lib.hid (Ab8.out.flow_new E rfl)
  have hE := E.below rfl
  simp only [newPuts, List.foldl_cons, List.foldl_nil, if_true, Bool.false_eq_true, if_false, Act.put, List.setIfInBounds_toArray, List.set_cons_zero, List.set_cons_succ]
  replace FR0 := Lib.hid FR.out.le
  clear E
  go_upto_region 5 with fail
  refine wp_flow_new [] [(27, .bool true), (28, .bool false), (29, .bool false), (30, .int .i64 z), (31, .bool false), (32, .bool false), (33, .bool false), (34, .int .i64 z), (35, .bool false), (36, .bool false)] _ (by simp only [List.foldl_cons, List.foldl_nil, Act.put, List.setIfInBounds_toArray, List.set_cons_zero, List.set_cons_succ]; rfl) (by kernel_rfl) (by kernel_rfl) rfl ?_ ?_ ?_ ?_
  · intro W' hW'
    refine flowX_op ?_ ?_; (go_big_quiet_step (fail); (try simp only [Act.put, List.setIfInBounds_toArray, List.set_cons_zero, List.set_cons_succ]); exact wpQuiet_nil rfl)
    refine flowX_op ?_ ?_; (go_big_quiet_step (fail); (try simp only [Act.put, List.setIfInBounds_toArray, List.set_cons_zero, List.set_cons_succ]); exact wpQuiet_nil rfl)
    refine flowX_op ?_ ?_; (go_big_quiet_step (fail); (try simp only [Act.put, List.setIfInBounds_toArray, List.set_cons_zero, List.set_cons_succ]); exact wpQuiet_nil rfl)
    refine flowX_op ?_ ?_; (go_big_quiet_step (fail); (try simp only [Act.put, List.setIfInBounds_toArray, List.set_cons_zero, List.set_cons_succ]); exact wpQuiet_nil rfl)
    refine flowX_op ?_ ?_; (go_big_quiet_step (fail); (try simp only [Act.put, List.setIfInBounds_toArray, List.set_cons_zero, List.set_cons_succ]); exact wpQuiet_nil rfl)
    refine flowX_op ?_ ?_; (go_big_quiet_step (fail); (try simp only [Act.put, List.setIfInBounds_toArray, List.set_cons_zero, List.set_cons_succ]); exact wpQuiet_nil rfl)
    refine flowX_op ?_ ?_; (go_big_quiet_step (fail); (try simp only [Act.put, List.setIfInBounds_toArray, List.set_cons_zero, List.set_cons_succ]); exact wpQuiet_nil rfl)
    refine flowX_op ?_ ?_; (go_big_quiet_step (fail); (try simp only [Act.put, List.setIfInBounds_toArray, List.set_cons_zero, List.set_cons_succ]); exact wpQuiet_nil rfl)
    refine flowX_op ?_ ?_; (go_big_quiet_step (fail); (try simp only [Act.put, List.setIfInBounds_toArray, List.set_cons_zero, List.set_cons_succ]); exact wpQuiet_nil rfl)
    refine flowX_op ?_ ?_; (go_big_quiet_step (fail); (try simp only [Act.put, List.setIfInBounds_toArray, List.set_cons_zero, List.set_cons_succ]); exact wpQuiet_nil rfl)
    exact flowX_nil
  · exact forPl0
  · exact forPl0
  intro β wx4 E
  replace FR := Lib.hid (FR.out.flow_new E rfl)
  replace AB0 := Lib.hid (AB0.out.flow_new E rfl)
  replace Ab8 := Lib.hid (Ab8.out.flow_new E rfl)
  have hE := E.below rfl
  simp only [newPuts, List.foldl_cons, List.foldl_nil, if_true, Bool.false_eq_true, if_false, Act.put, List.setIfInBounds_toArray, List.set_cons_zero, List.set_cons_succ]
  replace FR0 := Lib.hid FR.out.le
  clear E
  clear m1 m2
  go_wp2
  refine bodyPost_ret (v := .tuple #[.int .i64 z, .int .i64 0]) (by simp [results, Try.results35]) rfl ?_
  exact ⟨rfl, by rw [HB0.out] at FR; exact FR.out.below⟩
set_option maxRecDepth 100000 in
set_option maxHeartbeats 8000000 in
theorem quota4_is (t x s q r : Nat) (w : World) (ht : t < 9223372036854775808) (hx : x < 9223372036854775808) (hs : s < 9223372036854775808) (hs0 : s ≠ 0) (hq : q < 9223372036854775808) (hqe : q = t * x / s) (hre : r = t * x % s) :
    Calls Try.prog 45 #[.int .i64 (t : Int), .int .i64 (x : Int), .int .i64 (s : Int)] w fun e w' => e = .returned (.tuple #[.int .i64 (q : Int), .int .i64 (r : Int)]) ∧ Below w.heap.size w w' := by
  have hrs : r < s := by rw [hre]; exact Nat.mod_lt _ (by omega)
  have hp : t * x < BB ^ 32 := by
    have h1 : t * x < BB ^ 2 * BB ^ 2 := Nat.mul_lt_mul'' (two_lt (by omega)) (two_lt (by omega))
    rw [← Nat.pow_add] at h1
    exact Nat.lt_of_lt_of_le h1 (Nat.pow_le_pow_right BB_pos (by omega))
  obtain ⟨ct, V_ct⟩ : ∃ c : List Value, Hid (c = .bool false :: lv 32 t) := ⟨_, Lib.hid rfl⟩
  obtain ⟨cx, V_cx⟩ : ∃ c : List Value, Hid (c = .bool false :: lv 32 x) := ⟨_, Lib.hid rfl⟩
  obtain ⟨cp, V_cp⟩ : ∃ c : List Value, Hid (c = .bool false :: lv 32 (t * x)) := ⟨_, Lib.hid rfl⟩
  obtain ⟨cs, V_cs⟩ : ∃ c : List Value, Hid (c = .bool false :: lv 32 s) := ⟨_, Lib.hid rfl⟩
  obtain ⟨cq, V_cq⟩ : ∃ c : List Value, Hid (c = .bool false :: lv 32 q) := ⟨_, Lib.hid rfl⟩
  obtain ⟨ce, V_ce⟩ : ∃ c : List Value, Hid (c = .bool false :: lv 32 r) := ⟨_, Lib.hid rfl⟩
  have HF1 := Lib.hid (from_op (z := (t : Int)) V_ct.out (by symm; exact decide_eq_false (by omega)) (by omega) (by omega) (by omega))
  have HF2 := Lib.hid (from_op (z := (x : Int)) V_cx.out (by symm; exact decide_eq_false (by omega)) (by omega) (by omega) (by omega))
  have HF3 := Lib.hid (from_op (z := (s : Int)) V_cs.out (by symm; exact decide_eq_false (by omega)) (by omega) (by omega) (by omega))
  have HM := Lib.hid (mul_op V_ct.out V_cx.out V_cp.out rfl rfl (small_bb ht) (small_bb hx) hp)
  have HD := Lib.hid (divmod_op (s := false) V_cp.out V_cs.out V_cq.out V_ce.out rfl (by rw [if_neg (by simp)]; exact hqe) (by rw [if_neg (by simp)]; exact hre) hp (small_bb hs) hs0)
  have HT := Lib.hid (toint_op (z := (q : Int)) V_cq.out rfl hq rfl)
  have HT2 := Lib.hid (toint_op (z := (r : Int)) V_ce.out rfl (by omega) rfl)
  clear ht hx hs hs0 hq hqe hre hrs hp
  obtain ⟨B0, hB0⟩ : ∃ B, B = w.heap.size := ⟨_, rfl⟩
  have FR := Lib.hid (show Fr B0 w w by rw [hB0]; exact Fr.start w)
  have FR0 := Lib.hid FR.out.le
  have hZB0 : B0 ≤ B0 := Nat.le_refl _
  have HB0 := Lib.hid hB0
  go_enter Try.func45, Try.ntmps45
  go_upto_region 1 with fail
  clear hB0
  refine wp_flow_new [⟨true, 8, 8, 9, 0, 0, 51, 23, cp⟩] [(18, .int .i64 (t : Int)), (19, .agg ct.toArray), (20, .int .i64 (x : Int)), (21, .agg cx.toArray), (22, .tuple #[.agg cp.toArray, .int .i64 0]), (17, .tuple #[.agg cp.toArray, .int .i64 0]), (23, .agg cp.toArray), (24, .int .i64 0), (9, .int .i64 0)] _ (by simp only [List.foldl_cons, List.foldl_nil, Act.put, List.setIfInBounds_toArray, List.set_cons_zero, List.set_cons_succ]; rfl) (by kernel_rfl) (by kernel_rfl) rfl ?_ ?_ ?_ ?_
  · intro W' hW'
    refine flowX_op ?_ ?_; (go_big_quiet_step (fail); (try simp only [Act.put, List.setIfInBounds_toArray, List.set_cons_zero, List.set_cons_succ]); exact wpQuiet_nil rfl)
    refine flowX_op ?_ ?_; (go_big_quiet_step ((go_at_call 33; exact Calls.below_of (HF1.out _))); (try simp only [Act.put, List.setIfInBounds_toArray, List.set_cons_zero, List.set_cons_succ]); exact wpQuiet_nil rfl)
    refine flowX_op ?_ ?_; (go_big_quiet_step (fail); (try simp only [Act.put, List.setIfInBounds_toArray, List.set_cons_zero, List.set_cons_succ]); exact wpQuiet_nil rfl)
    refine flowX_op ?_ ?_; (go_big_quiet_step ((go_at_call 33; exact Calls.below_of (HF2.out _))); (try simp only [Act.put, List.setIfInBounds_toArray, List.set_cons_zero, List.set_cons_succ]); exact wpQuiet_nil rfl)
    refine flowX_op ?_ ?_; (go_big_quiet_step ((go_at_call 32; exact Calls.below_of (HM.out _))); (try simp only [Act.put, List.setIfInBounds_toArray, List.set_cons_zero, List.set_cons_succ]); exact wpQuiet_nil rfl)
    refine flowX_op ?_ ?_; (go_big_quiet_step (fail); (try simp only [Act.put, List.setIfInBounds_toArray, List.set_cons_zero, List.set_cons_succ]); exact wpQuiet_nil rfl)
    refine flowX_op ?_ ?_; (go_big_quiet_step (fail); (try simp only [Act.put, List.setIfInBounds_toArray, List.set_cons_zero, List.set_cons_succ]); exact wpQuiet_nil rfl)
    refine flowX_op ?_ ?_; (go_big_quiet_step (fail); (try simp only [Act.put, List.setIfInBounds_toArray, List.set_cons_zero, List.set_cons_succ]); exact wpQuiet_nil rfl)
    refine flowX_skip (by rfl) ?_
    refine flowX_skip (by rfl) ?_
    refine flowX_op ?_ ?_; (go_big_quiet_step (fail); (try simp only [Act.put, List.setIfInBounds_toArray, List.set_cons_zero, List.set_cons_succ]); exact wpQuiet_nil rfl)
    exact flowX_nil
  · exact forPl _ _ (Try.alI (sizeI V_cp.out)) (forPl0)
  · exact forPl _ _ (⟨rfl, (sizeI V_cp.out), (oneI V_cp.out)⟩) (forPl0)
  intro β wx1 E
  replace FR := Lib.hid (FR.out.flow_new E rfl)
  obtain ⟨b8, hb8⟩ : ∃ b, b = β 8 := ⟨_, rfl⟩
  have eb8 := E.atNew (List.mem_cons_self ..) rfl
  simp only at eb8
  rw [← hb8] at eb8
  have hZb8 : B0 ≤ b8 := by have h1 := eb8.1; have h2 := FR0.out; omega
  have Ab8 := Lib.hid eb8.2
  simp only [newPuts, List.foldl_cons, List.foldl_nil, if_true, Bool.false_eq_true, if_false, Act.put, List.setIfInBounds_toArray, List.set_cons_zero, List.set_cons_succ]
  rw [← hb8]
  replace FR0 := Lib.hid FR.out.le
  clear E eb8 hb8
  go_upto_region 2 with fail
  refine wp_flow_new [⟨true, 8, 10, 10, 0, 0, 51, 30, cq⟩, ⟨true, 9, 11, 11, 0, 0, 51, 31, ce⟩] [(26, .agg cp.toArray), (27, .int .i64 (s : Int)), (28, .agg cs.toArray), (29, .tuple #[.agg cq.toArray, .agg ce.toArray, .int .i64 0]), (25, .tuple #[.agg cq.toArray, .agg ce.toArray, .int .i64 0]), (30, .agg cq.toArray), (31, .agg ce.toArray), (32, .int .i64 0), (12, .int .i64 0)] _ (by simp only [List.foldl_cons, List.foldl_nil, Act.put, List.setIfInBounds_toArray, List.set_cons_zero, List.set_cons_succ]; rfl) (by kernel_rfl) (by kernel_rfl) rfl ?_ ?_ ?_ ?_
  · intro W' hW'
    have rd0 := Ab8.out.below hW'
    refine flowX_op (wpQuiet_load_g (by rfl) rfl rfl rd0 Try.underlying51 rfl (sizeI V_cp.out) (wpQuiet_nil (by simp only [Act.put, List.setIfInBounds_toArray, List.set_cons_zero, List.set_cons_succ]))) ?_
    refine flowX_op ?_ ?_; (go_big_quiet_step (fail); (try simp only [Act.put, List.setIfInBounds_toArray, List.set_cons_zero, List.set_cons_succ]); exact wpQuiet_nil rfl)
    refine flowX_op ?_ ?_; (go_big_quiet_step ((go_at_call 33; exact Calls.below_of (HF3.out _))); (try simp only [Act.put, List.setIfInBounds_toArray, List.set_cons_zero, List.set_cons_succ]); exact wpQuiet_nil rfl)
    refine flowX_op ?_ ?_; (go_big_quiet_step ((go_at_call 37; exact Calls.below_of (HD.out _))); (try simp only [Act.put, List.setIfInBounds_toArray, List.set_cons_zero, List.set_cons_succ]); exact wpQuiet_nil rfl)
    refine flowX_op ?_ ?_; (go_big_quiet_step (fail); (try simp only [Act.put, List.setIfInBounds_toArray, List.set_cons_zero, List.set_cons_succ]); exact wpQuiet_nil rfl)
    refine flowX_op ?_ ?_; (go_big_quiet_step (fail); (try simp only [Act.put, List.setIfInBounds_toArray, List.set_cons_zero, List.set_cons_succ]); exact wpQuiet_nil rfl)
    refine flowX_op ?_ ?_; (go_big_quiet_step (fail); (try simp only [Act.put, List.setIfInBounds_toArray, List.set_cons_zero, List.set_cons_succ]); exact wpQuiet_nil rfl)
    refine flowX_op ?_ ?_; (go_big_quiet_step (fail); (try simp only [Act.put, List.setIfInBounds_toArray, List.set_cons_zero, List.set_cons_succ]); exact wpQuiet_nil rfl)
    refine flowX_skip (by rfl) ?_
    refine flowX_skip (by rfl) ?_
    refine flowX_skip (by rfl) ?_
    refine flowX_skip (by rfl) ?_
    refine flowX_op ?_ ?_; (go_big_quiet_step (fail); (try simp only [Act.put, List.setIfInBounds_toArray, List.set_cons_zero, List.set_cons_succ]); exact wpQuiet_nil rfl)
    exact flowX_nil
  · exact forPl _ _ (Try.alI (sizeI V_cq.out)) (forPl _ _ (Try.alI (sizeI V_ce.out)) (forPl0))
  · exact forPl _ _ (⟨rfl, (sizeI V_cq.out), (oneI V_cq.out)⟩) (forPl _ _ (⟨rfl, (sizeI V_ce.out), (oneI V_ce.out)⟩) (forPl0))
  intro β wx2 E
  replace FR := Lib.hid (FR.out.flow_new E rfl)
  obtain ⟨b10, hb10⟩ : ∃ b, b = β 8 := ⟨_, rfl⟩
  have eb10 := E.atNew (List.mem_cons_self ..) rfl
  simp only at eb10
  rw [← hb10] at eb10
  have lb8_b10 : b8 < b10 := by have h1 := eb10.1; have h2 := Ab8.out.lt; omega
  have hZb10 : B0 ≤ b10 := by have h1 := eb10.1; have h2 := FR0.out; omega
  obtain ⟨b11, hb11⟩ : ∃ b, b = β 9 := ⟨_, rfl⟩
  have eb11 := E.atNew (List.mem_cons_of_mem _ (List.mem_cons_self ..)) rfl
  simp only at eb11
  rw [← hb11] at eb11
  have lb8_b11 : b8 < b11 := by have h1 := eb11.1; have h2 := Ab8.out.lt; omega
  have hZb11 : B0 ≤ b11 := by have h1 := eb11.1; have h2 := FR0.out; omega
  have nb10_b11 : b10 ≠ b11 := fun e => absurd (E.apart _ (List.mem_cons_self ..) _ (List.mem_cons_of_mem _ (List.mem_cons_self ..)) rfl rfl (by rw [hb10, hb11] at e; exact e)) (show ¬ (8 : Nat) = 9 by decide)
  replace Ab8 := Lib.hid (Ab8.out.flow_new E rfl)
  have Ab10 := Lib.hid eb10.2
  have Ab11 := Lib.hid eb11.2
  simp only [newPuts, List.foldl_cons, List.foldl_nil, if_true, Bool.false_eq_true, if_false, Act.put, List.setIfInBounds_toArray, List.set_cons_zero, List.set_cons_succ]
  rw [← hb10]
  rw [← hb11]
  replace FR0 := Lib.hid FR.out.le
  clear E eb10 hb10 eb11 hb11
  go_upto_region 3 with fail
  refine wp_flow_new [] [(34, .agg cq.toArray), (35, .tuple #[.int .i64 (q : Int), .bool true]), (33, .tuple #[.int .i64 (q : Int), .bool true]), (36, .int .i64 (q : Int)), (37, .bool true), (13, .int .i64 (q : Int)), (14, .bool true)] _ (by simp only [List.foldl_cons, List.foldl_nil, Act.put, List.setIfInBounds_toArray, List.set_cons_zero, List.set_cons_succ]; rfl) (by kernel_rfl) (by kernel_rfl) rfl ?_ ?_ ?_ ?_
  · intro W' hW'
    have rd0 := Ab10.out.below hW'
    refine flowX_op (wpQuiet_load_g (by rfl) rfl rfl rd0 Try.underlying51 rfl (sizeI V_cq.out) (wpQuiet_nil (by simp only [Act.put, List.setIfInBounds_toArray, List.set_cons_zero, List.set_cons_succ]))) ?_
    refine flowX_op ?_ ?_; (go_big_quiet_step ((go_at_call 38; exact Calls.below_of (HT.out _))); (try simp only [Act.put, List.setIfInBounds_toArray, List.set_cons_zero, List.set_cons_succ]); exact wpQuiet_nil rfl)
    refine flowX_op ?_ ?_; (go_big_quiet_step (fail); (try simp only [Act.put, List.setIfInBounds_toArray, List.set_cons_zero, List.set_cons_succ]); exact wpQuiet_nil rfl)
    refine flowX_op ?_ ?_; (go_big_quiet_step (fail); (try simp only [Act.put, List.setIfInBounds_toArray, List.set_cons_zero, List.set_cons_succ]); exact wpQuiet_nil rfl)
    refine flowX_op ?_ ?_; (go_big_quiet_step (fail); (try simp only [Act.put, List.setIfInBounds_toArray, List.set_cons_zero, List.set_cons_succ]); exact wpQuiet_nil rfl)
    refine flowX_op ?_ ?_; (go_big_quiet_step (fail); (try simp only [Act.put, List.setIfInBounds_toArray, List.set_cons_zero, List.set_cons_succ]); exact wpQuiet_nil rfl)
    refine flowX_op ?_ ?_; (go_big_quiet_step (fail); (try simp only [Act.put, List.setIfInBounds_toArray, List.set_cons_zero, List.set_cons_succ]); exact wpQuiet_nil rfl)
    exact flowX_nil
  · exact forPl0
  · exact forPl0
  intro β wx3 E
  replace FR := Lib.hid (FR.out.flow_new E rfl)
  replace Ab8 := Lib.hid (Ab8.out.flow_new E rfl)
  replace Ab10 := Lib.hid (Ab10.out.flow_new E rfl)
  replace Ab11 := Lib.hid (Ab11.out.flow_new E rfl)
  have hE := E.below rfl
  simp only [newPuts, List.foldl_cons, List.foldl_nil, if_true, Bool.false_eq_true, if_false, Act.put, List.setIfInBounds_toArray, List.set_cons_zero, List.set_cons_succ]
  replace FR0 := Lib.hid FR.out.le
  clear E
  go_upto_region 4 with fail
  refine wp_flow_new [] [(39, .agg ce.toArray), (40, .tuple #[.int .i64 (r : Int), .bool true]), (38, .tuple #[.int .i64 (r : Int), .bool true]), (41, .int .i64 (r : Int)), (42, .bool true), (15, .int .i64 (r : Int)), (16, .bool true)] _ (by simp only [List.foldl_cons, List.foldl_nil, Act.put, List.setIfInBounds_toArray, List.set_cons_zero, List.set_cons_succ]; rfl) (by kernel_rfl) (by kernel_rfl) rfl ?_ ?_ ?_ ?_
  · intro W' hW'
    have rd0 := Ab11.out.below hW'
    refine flowX_op (wpQuiet_load_g (by rfl) rfl rfl rd0 Try.underlying51 rfl (sizeI V_ce.out) (wpQuiet_nil (by simp only [Act.put, List.setIfInBounds_toArray, List.set_cons_zero, List.set_cons_succ]))) ?_
    refine flowX_op ?_ ?_; (go_big_quiet_step ((go_at_call 38; exact Calls.below_of (HT2.out _))); (try simp only [Act.put, List.setIfInBounds_toArray, List.set_cons_zero, List.set_cons_succ]); exact wpQuiet_nil rfl)
    refine flowX_op ?_ ?_; (go_big_quiet_step (fail); (try simp only [Act.put, List.setIfInBounds_toArray, List.set_cons_zero, List.set_cons_succ]); exact wpQuiet_nil rfl)
    refine flowX_op ?_ ?_; (go_big_quiet_step (fail); (try simp only [Act.put, List.setIfInBounds_toArray, List.set_cons_zero, List.set_cons_succ]); exact wpQuiet_nil rfl)
    refine flowX_op ?_ ?_; (go_big_quiet_step (fail); (try simp only [Act.put, List.setIfInBounds_toArray, List.set_cons_zero, List.set_cons_succ]); exact wpQuiet_nil rfl)
    refine flowX_op ?_ ?_; (go_big_quiet_step (fail); (try simp only [Act.put, List.setIfInBounds_toArray, List.set_cons_zero, List.set_cons_succ]); exact wpQuiet_nil rfl)
    refine flowX_op ?_ ?_; (go_big_quiet_step (fail); (try simp only [Act.put, List.setIfInBounds_toArray, List.set_cons_zero, List.set_cons_succ]); exact wpQuiet_nil rfl)
    exact flowX_nil
  · exact forPl0
  · exact forPl0
  intro β wx4 E
  replace FR := Lib.hid (FR.out.flow_new E rfl)
  replace Ab8 := Lib.hid (Ab8.out.flow_new E rfl)
  replace Ab10 := Lib.hid (Ab10.out.flow_new E rfl)
  replace Ab11 := Lib.hid (Ab11.out.flow_new E rfl)
  have hE := E.below rfl
  simp only [newPuts, List.foldl_cons, List.foldl_nil, if_true, Bool.false_eq_true, if_false, Act.put, List.setIfInBounds_toArray, List.set_cons_zero, List.set_cons_succ]
  replace FR0 := Lib.hid FR.out.le
  clear E
  go_wp2
  refine bodyPost_ret (v := .tuple #[.int .i64 (q : Int), .int .i64 (r : Int)]) (by simp [results, Try.results45]) rfl ?_
  exact ⟨rfl, by rw [HB0.out] at FR; exact FR.out.below⟩
end Go.Proofs.Ytnkmhbiklffjlaa
