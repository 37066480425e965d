/- fundadminref02.Valid of a ratio that is valid; fundadminref03.placesOK, scaled, above: walked. -/
import Derived.Test.YtnkmhbiklffjlaaBiN
set_option linter.unusedVariables false
set_option linter.unusedSimpArgs false
namespace Go.Proofs.Ytnkmhbiklffjlaa
open Go.RowKit Big

theorem sgn_neg {n : Bool} {p : Nat} (hn : true = cs1 true p) (h : n = true) : -1 = sgnI n p := by
  have h1 : p ≠ 0 := by rintro rfl; simp [cs1] at hn
  unfold sgnI
  rw [if_neg h1, if_pos h]
set_option maxRecDepth 100000 in
set_option maxHeartbeats 8000000 in
theorem valid_op {cr : List Value} {n : Bool} {p q : Nat} (hr : cr = rat n p false q) (hn : n = cs1 n p) (hp : p < B480) (hq : q < B480) (h0 : q ≠ 0) (hg : Nat.gcd p q = 1) (w : World) :
    Calls Try.prog 58 #[.agg cr.toArray] w fun e w' => e = .returned (.bool true) ∧ Below w.heap.size w w' := by
  have V_cr := Lib.hid hr
  obtain ⟨x1, hx1⟩ := is_bits_exists p
  obtain ⟨x2, hx2⟩ := is_bits_exists q
  have hx1b := b480_bits hp hx1
  have hx2b := b480_bits hq hx2
  obtain ⟨cn, V_cn⟩ : ∃ c : List Value, Hid (c = .bool n :: lv 32 p) := ⟨_, Lib.hid rfl⟩
  obtain ⟨cd, V_cd⟩ : ∃ c : List Value, Hid (c = .bool false :: lv 32 q) := ⟨_, Lib.hid rfl⟩
  obtain ⟨co, V_co⟩ : ∃ c : List Value, Hid (c = .bool false :: lv 32 1) := ⟨_, Lib.hid rfl⟩
  have HSD := Lib.hid (sign_op (s := 1) V_cd.out (by unfold sgnI; rw [if_neg h0]; rfl) (b480_bb hq))
  have HB1 := Lib.hid (bits_op V_cn.out (b480_bb hp) hx1)
  have HB2 := Lib.hid (bits_op V_cd.out (b480_bb hq) hx2)
  have HG := Lib.hid (gcd_op V_cn.out V_cd.out V_co.out hg.symm (b480_bb hp) (b480_bb hq))
  have HO := Lib.hid (from_op (z := 1) V_co.out rfl rfl (by decide) (by decide))
  have H1 := Lib.hid (show 1 < BB ^ 32 from Nat.one_lt_pow (by omega) (by unfold BB; omega))
  have n1 : (x1 : Int) ≤ 480 := by omega
  have n2 : (x2 : Int) ≤ 480 := by omega
  have HSN := Lib.hid (fun (h : n = true) => sign_op (s := -1) V_cn.out (sgn_neg (h ▸ hn) h) (b480_bb hp))
  clear hr hn hp hq h0 hg hx1 hx2 hx1b hx2b
  obtain ⟨B0, hB0⟩ : ∃ B, B = w.heap.size := ⟨_, rfl⟩
  obtain ⟨w0, hw0⟩ : ∃ w0, w0 = (w.alloc (.cells cr.toArray 56)) := ⟨_, rfl⟩
  have AB0 := Lib.hid (show At w0 B0 0 cr by rw [hw0]; exact (show At (w.alloc (.cells cr.toArray 56)) B0 0 cr from At.fresh _ cr _ (by simp [hB0])))
  have FR := Lib.hid (show Fr B0 w w0 by rw [hw0, hB0]; exact (Fr.start w).alloc _)
  have FR0 := Lib.hid FR.out.le
  have hZB0 : B0 ≤ B0 := Nat.le_refl _
  have HB0 := Lib.hid hB0
  go_enter Try.func58, Try.ntmps58
  go_upto_region 1 with fail
  rw [← hw0, ← hB0]
  clear hw0 hB0
  have AB0_n := Lib.hid (AB0.out.num V_cr.out V_cn.out)
  have AB0_d := Lib.hid (AB0.out.den V_cr.out V_cd.out)
  cases n with
  | true =>
    refine wp_flow_new [] [(3, .pointer (some ⟨B0, 0, none⟩)), (4, .pointer (some ⟨B0, 0, none⟩)), (5, .bool true), (6, .bool true), (7, .pointer (some ⟨B0, 0, none⟩)), (8, .agg cn.toArray), (9, .int .i64 (-1)), (10, .bool false), (11, .bool false), (12, .bool false), (13, .pointer (some ⟨B0, 33, none⟩)), (14, .agg cd.toArray), (15, .int .i64 1), (16, .bool false), (17, .bool false)] _ (by simp only [List.foldl_cons, List.foldl_nil, Act.put, List.setIfInBounds_toArray, List.set_cons_zero, List.set_cons_succ]; rfl) (by kernel_rfl) (by kernel_rfl) rfl ?_ ?_ ?_ ?_
    · intro W' hW'
      have cl0 := fun p os => cell_gw ((AB0_n.out.below hW').neg V_cn.out) p os
      have rd0 := AB0_n.out.below hW'
      have rd1 := AB0_d.out.below hW'
      refine flowX_op ?_ ?_; (go_big_quiet_step (fail); (try simp only [Act.put, List.setIfInBounds_toArray, List.set_cons_zero, List.set_cons_succ]); exact wpQuiet_nil rfl)
      refine flowX_op ?_ ?_; (go_big_quiet_step (fail); (try simp only [Act.put, List.setIfInBounds_toArray, List.set_cons_zero, List.set_cons_succ]); exact wpQuiet_nil rfl)
      refine flowX_op ?_ ?_; (go_big_quiet_step (fail); (try simp only [Act.put, List.setIfInBounds_toArray, List.set_cons_zero, List.set_cons_succ]); exact wpQuiet_nil rfl)
      refine flowX_op ?_ ?_; (go_big_quiet_step (fail); (try simp only [Act.put, List.setIfInBounds_toArray, List.set_cons_zero, List.set_cons_succ]); exact wpQuiet_nil rfl)
      refine flowX_op ?_ ?_; (go_big_quiet_step (fail); (try simp only [Act.put, List.setIfInBounds_toArray, List.set_cons_zero, List.set_cons_succ]); exact wpQuiet_nil rfl)
      refine flowX_op (wpQuiet_load_g (by rfl) rfl rfl rd0 Try.underlying51 rfl (sizeI V_cn.out) (wpQuiet_nil (by simp only [Act.put, List.setIfInBounds_toArray, List.set_cons_zero, List.set_cons_succ]))) ?_
      refine flowX_op ?_ ?_; (go_big_quiet_step ((go_at_call 39; exact Calls.below_of (HSN.out rfl _))); (try simp only [Act.put, List.setIfInBounds_toArray, List.set_cons_zero, List.set_cons_succ]); exact wpQuiet_nil rfl)
      refine flowX_op ?_ ?_; (go_big_quiet_step (fail); (try simp only [Act.put, List.setIfInBounds_toArray, List.set_cons_zero, List.set_cons_succ]); exact wpQuiet_nil rfl)
      refine flowX_op ?_ ?_; (go_big_quiet_step (fail); (try simp only [Act.put, List.setIfInBounds_toArray, List.set_cons_zero, List.set_cons_succ]); exact wpQuiet_nil rfl)
      refine flowX_op ?_ ?_; (go_big_quiet_step (fail); (try simp only [Act.put, List.setIfInBounds_toArray, List.set_cons_zero, List.set_cons_succ]); exact wpQuiet_nil rfl)
      refine flowX_op ?_ ?_; (go_big_quiet_step (fail); (try simp only [Act.put, List.setIfInBounds_toArray, List.set_cons_zero, List.set_cons_succ]); exact wpQuiet_nil rfl)
      refine flowX_op (wpQuiet_load_g (by rfl) rfl rfl rd1 Try.underlying51 rfl (sizeI V_cd.out) (wpQuiet_nil (by simp only [Act.put, List.setIfInBounds_toArray, List.set_cons_zero, List.set_cons_succ]))) ?_
      refine flowX_op ?_ ?_; (go_big_quiet_step ((go_at_call 39; exact Calls.below_of (HSD.out _))); (try simp only [Act.put, List.setIfInBounds_toArray, List.set_cons_zero, List.set_cons_succ]); exact wpQuiet_nil rfl)
      refine flowX_op ?_ ?_; (go_big_quiet_step (fail); (try simp only [Act.put, List.setIfInBounds_toArray, List.set_cons_zero, List.set_cons_succ]); exact wpQuiet_nil rfl)
      refine flowX_op ?_ ?_; (go_big_quiet_step (fail); (try simp only [Act.put, List.setIfInBounds_toArray, List.set_cons_zero, List.set_cons_succ]); exact wpQuiet_nil rfl)
      exact flowX_nil
    · exact forPl0
    · exact forPl0
    intro β wx1 E
    replace FR := Lib.hid (FR.out.flow_new E rfl)
    replace AB0 := Lib.hid (AB0.out.flow_new E rfl)
    replace AB0_n := Lib.hid (AB0_n.out.flow_new E rfl)
    replace AB0_d := Lib.hid (AB0_d.out.flow_new E rfl)
    have hE := E.below rfl
    simp only [newPuts, List.foldl_cons, List.foldl_nil, if_true, Bool.false_eq_true, if_false, Act.put, List.setIfInBounds_toArray, List.set_cons_zero, List.set_cons_succ]
    replace FR0 := Lib.hid FR.out.le
    clear E
    go_upto_region 3 with fail
    refine wp_flow_new [] [(18, .pointer (some ⟨B0, 0, none⟩)), (19, .agg cn.toArray), (20, .int .i64 (x1 : Int)), (21, .bool true), (22, .bool true), (23, .pointer (some ⟨B0, 33, none⟩)), (24, .agg cd.toArray), (25, .int .i64 (x2 : Int)), (26, .bool true), (27, .bool true), (28, .bool true), (29, .pointer (some ⟨B0, 0, none⟩)), (30, .agg cn.toArray), (31, .pointer (some ⟨B0, 33, none⟩)), (32, .agg cd.toArray), (33, .agg co.toArray), (34, .agg co.toArray), (35, .bool true), (36, .bool true), (2, .bool true)] _ (by simp only [List.foldl_cons, List.foldl_nil, Act.put, List.setIfInBounds_toArray, List.set_cons_zero, List.set_cons_succ]; rfl) (by kernel_rfl) (by kernel_rfl) rfl ?_ ?_ ?_ ?_
    · intro W' hW'
      have rd0 := AB0_n.out.below hW'
      have rd1 := AB0_d.out.below hW'
      refine flowX_op ?_ ?_; (go_big_quiet_step (fail); (try simp only [Act.put, List.setIfInBounds_toArray, List.set_cons_zero, List.set_cons_succ]); exact wpQuiet_nil rfl)
      refine flowX_op (wpQuiet_load_g (by rfl) rfl rfl rd0 Try.underlying51 rfl (sizeI V_cn.out) (wpQuiet_nil (by simp only [Act.put, List.setIfInBounds_toArray, List.set_cons_zero, List.set_cons_succ]))) ?_
      refine flowX_op ?_ ?_; (go_big_quiet_step ((go_at_call 50; exact Calls.below_of (HB1.out _))); (try simp only [Act.put, List.setIfInBounds_toArray, List.set_cons_zero, List.set_cons_succ]); exact wpQuiet_nil rfl)
      refine flowX_op ?_ ?_; (go_big_quiet_step (fail); (try simp only [Act.put, List.setIfInBounds_toArray, List.set_cons_zero, List.set_cons_succ]); exact wpQuiet_nil rfl)
      refine flowX_op ?_ ?_; (go_big_quiet_step (fail); (try simp only [Act.put, List.setIfInBounds_toArray, List.set_cons_zero, List.set_cons_succ]); exact wpQuiet_nil rfl)
      refine flowX_op ?_ ?_; (go_big_quiet_step (fail); (try simp only [Act.put, List.setIfInBounds_toArray, List.set_cons_zero, List.set_cons_succ]); exact wpQuiet_nil rfl)
      refine flowX_op (wpQuiet_load_g (by rfl) rfl rfl rd1 Try.underlying51 rfl (sizeI V_cd.out) (wpQuiet_nil (by simp only [Act.put, List.setIfInBounds_toArray, List.set_cons_zero, List.set_cons_succ]))) ?_
      refine flowX_op ?_ ?_; (go_big_quiet_step ((go_at_call 50; exact Calls.below_of (HB2.out _))); (try simp only [Act.put, List.setIfInBounds_toArray, List.set_cons_zero, List.set_cons_succ]); exact wpQuiet_nil rfl)
      refine flowX_op ?_ ?_; (go_big_quiet_step (fail); (try simp only [Act.put, List.setIfInBounds_toArray, List.set_cons_zero, List.set_cons_succ]); exact wpQuiet_nil rfl)
      refine flowX_op ?_ ?_; (go_big_quiet_step (fail); (try simp only [Act.put, List.setIfInBounds_toArray, List.set_cons_zero, List.set_cons_succ]); exact wpQuiet_nil rfl)
      refine flowX_op ?_ ?_; (go_big_quiet_step (fail); (try simp only [Act.put, List.setIfInBounds_toArray, List.set_cons_zero, List.set_cons_succ]); exact wpQuiet_nil rfl)
      refine flowX_op ?_ ?_; (go_big_quiet_step (fail); (try simp only [Act.put, List.setIfInBounds_toArray, List.set_cons_zero, List.set_cons_succ]); exact wpQuiet_nil rfl)
      refine flowX_op (wpQuiet_load_g (by rfl) rfl rfl rd0 Try.underlying51 rfl (sizeI V_cn.out) (wpQuiet_nil (by simp only [Act.put, List.setIfInBounds_toArray, List.set_cons_zero, List.set_cons_succ]))) ?_
      refine flowX_op ?_ ?_; (go_big_quiet_step (fail); (try simp only [Act.put, List.setIfInBounds_toArray, List.set_cons_zero, List.set_cons_succ]); exact wpQuiet_nil rfl)
      refine flowX_op (wpQuiet_load_g (by rfl) rfl rfl rd1 Try.underlying51 rfl (sizeI V_cd.out) (wpQuiet_nil (by simp only [Act.put, List.setIfInBounds_toArray, List.set_cons_zero, List.set_cons_succ]))) ?_
      refine flowX_op ?_ ?_; (go_big_quiet_step ((go_at_call 48; exact Calls.below_of (HG.out _))); (try simp only [Act.put, List.setIfInBounds_toArray, List.set_cons_zero, List.set_cons_succ]); exact wpQuiet_nil rfl)
      refine flowX_op ?_ ?_; (go_big_quiet_step ((go_at_call 33; exact Calls.below_of (HO.out _))); (try simp only [Act.put, List.setIfInBounds_toArray, List.set_cons_zero, List.set_cons_succ]); exact wpQuiet_nil rfl)
      refine flowX_op (wpQuiet_eqI (r := true) (by rfl) rfl rfl rfl V_co.out V_co.out H1.out H1.out (by simp) (wpQuiet_nil (by simp only [Act.put, List.setIfInBounds_toArray, List.set_cons_zero, List.set_cons_succ]))) ?_
      refine flowX_op ?_ ?_; (go_big_quiet_step (fail); (try simp only [Act.put, List.setIfInBounds_toArray, List.set_cons_zero, List.set_cons_succ]); exact wpQuiet_nil rfl)
      refine flowX_op ?_ ?_; (go_big_quiet_step (fail); (try simp only [Act.put, List.setIfInBounds_toArray, List.set_cons_zero, List.set_cons_succ]); exact wpQuiet_nil rfl)
      exact flowX_nil
    · exact forPl0
    · exact forPl0
    intro β wx2 E
    replace FR := Lib.hid (FR.out.flow_new E rfl)
    replace AB0 := Lib.hid (AB0.out.flow_new E rfl)
    replace AB0_n := Lib.hid (AB0_n.out.flow_new E rfl)
    replace AB0_d := Lib.hid (AB0_d.out.flow_new E rfl)
    have hE := E.below rfl
    simp only [newPuts, List.foldl_cons, List.foldl_nil, if_true, Bool.false_eq_true, if_false, Act.put, List.setIfInBounds_toArray, List.set_cons_zero, List.set_cons_succ]
    replace FR0 := Lib.hid FR.out.le
    clear E
    go_wp2
    go_ret
    exact ⟨rfl, by rw [HB0.out] at FR; exact FR.out.below⟩
  | false =>
    refine wp_flow_new [] [(3, .pointer (some ⟨B0, 0, none⟩)), (4, .pointer (some ⟨B0, 0, none⟩)), (5, .bool false), (6, .bool false), (7, undef), (8, undef), (9, undef), (10, undef), (11, .bool false), (12, .bool false), (13, .pointer (some ⟨B0, 33, none⟩)), (14, .agg cd.toArray), (15, .int .i64 1), (16, .bool false), (17, .bool false)] _ (by simp only [List.foldl_cons, List.foldl_nil, Act.put, List.setIfInBounds_toArray, List.set_cons_zero, List.set_cons_succ]; rfl) (by kernel_rfl) (by kernel_rfl) rfl ?_ ?_ ?_ ?_
    · intro W' hW'
      have cl0 := fun p os => cell_gw ((AB0_n.out.below hW').neg V_cn.out) p os
      have rd0 := AB0_d.out.below hW'
      refine flowX_op ?_ ?_; (go_big_quiet_step (fail); (try simp only [Act.put, List.setIfInBounds_toArray, List.set_cons_zero, List.set_cons_succ]); exact wpQuiet_nil rfl)
      refine flowX_op ?_ ?_; (go_big_quiet_step (fail); (try simp only [Act.put, List.setIfInBounds_toArray, List.set_cons_zero, List.set_cons_succ]); exact wpQuiet_nil rfl)
      refine flowX_op ?_ ?_; (go_big_quiet_step (fail); (try simp only [Act.put, List.setIfInBounds_toArray, List.set_cons_zero, List.set_cons_succ]); exact wpQuiet_nil rfl)
      refine flowX_op ?_ ?_; (go_big_quiet_step (fail); (try simp only [Act.put, List.setIfInBounds_toArray, List.set_cons_zero, List.set_cons_succ]); exact wpQuiet_nil rfl)
      refine flowX_op ?_ ?_; (go_big_quiet_step (fail); (try simp only [Act.put, List.setIfInBounds_toArray, List.set_cons_zero, List.set_cons_succ]); exact wpQuiet_nil rfl)
      refine flowX_op ?_ ?_; (go_big_quiet_step (fail); (try simp only [Act.put, List.setIfInBounds_toArray, List.set_cons_zero, List.set_cons_succ]); exact wpQuiet_nil rfl)
      refine flowX_op ?_ ?_; (go_big_quiet_step (fail); (try simp only [Act.put, List.setIfInBounds_toArray, List.set_cons_zero, List.set_cons_succ]); exact wpQuiet_nil rfl)
      refine flowX_op ?_ ?_; (go_big_quiet_step (fail); (try simp only [Act.put, List.setIfInBounds_toArray, List.set_cons_zero, List.set_cons_succ]); exact wpQuiet_nil rfl)
      refine flowX_op ?_ ?_; (go_big_quiet_step (fail); (try simp only [Act.put, List.setIfInBounds_toArray, List.set_cons_zero, List.set_cons_succ]); exact wpQuiet_nil rfl)
      refine flowX_op ?_ ?_; (go_big_quiet_step (fail); (try simp only [Act.put, List.setIfInBounds_toArray, List.set_cons_zero, List.set_cons_succ]); exact wpQuiet_nil rfl)
      refine flowX_op ?_ ?_; (go_big_quiet_step (fail); (try simp only [Act.put, List.setIfInBounds_toArray, List.set_cons_zero, List.set_cons_succ]); exact wpQuiet_nil rfl)
      refine flowX_op (wpQuiet_load_g (by rfl) rfl rfl rd0 Try.underlying51 rfl (sizeI V_cd.out) (wpQuiet_nil (by simp only [Act.put, List.setIfInBounds_toArray, List.set_cons_zero, List.set_cons_succ]))) ?_
      refine flowX_op ?_ ?_; (go_big_quiet_step ((go_at_call 39; exact Calls.below_of (HSD.out _))); (try simp only [Act.put, List.setIfInBounds_toArray, List.set_cons_zero, List.set_cons_succ]); exact wpQuiet_nil rfl)
      refine flowX_op ?_ ?_; (go_big_quiet_step (fail); (try simp only [Act.put, List.setIfInBounds_toArray, List.set_cons_zero, List.set_cons_succ]); exact wpQuiet_nil rfl)
      refine flowX_op ?_ ?_; (go_big_quiet_step (fail); (try simp only [Act.put, List.setIfInBounds_toArray, List.set_cons_zero, List.set_cons_succ]); exact wpQuiet_nil rfl)
      exact flowX_nil
    · exact forPl0
    · exact forPl0
    intro β wx1 E
    replace FR := Lib.hid (FR.out.flow_new E rfl)
    replace AB0 := Lib.hid (AB0.out.flow_new E rfl)
    replace AB0_n := Lib.hid (AB0_n.out.flow_new E rfl)
    replace AB0_d := Lib.hid (AB0_d.out.flow_new E rfl)
    have hE := E.below rfl
    simp only [newPuts, List.foldl_cons, List.foldl_nil, if_true, Bool.false_eq_true, if_false, Act.put, List.setIfInBounds_toArray, List.set_cons_zero, List.set_cons_succ]
    replace FR0 := Lib.hid FR.out.le
    clear E
    go_upto_region 3 with fail
    refine wp_flow_new [] [(18, .pointer (some ⟨B0, 0, none⟩)), (19, .agg cn.toArray), (20, .int .i64 (x1 : Int)), (21, .bool true), (22, .bool true), (23, .pointer (some ⟨B0, 33, none⟩)), (24, .agg cd.toArray), (25, .int .i64 (x2 : Int)), (26, .bool true), (27, .bool true), (28, .bool true), (29, .pointer (some ⟨B0, 0, none⟩)), (30, .agg cn.toArray), (31, .pointer (some ⟨B0, 33, none⟩)), (32, .agg cd.toArray), (33, .agg co.toArray), (34, .agg co.toArray), (35, .bool true), (36, .bool true), (2, .bool true)] _ (by simp only [List.foldl_cons, List.foldl_nil, Act.put, List.setIfInBounds_toArray, List.set_cons_zero, List.set_cons_succ]; rfl) (by kernel_rfl) (by kernel_rfl) rfl ?_ ?_ ?_ ?_
    · intro W' hW'
      have rd0 := AB0_n.out.below hW'
      have rd1 := AB0_d.out.below hW'
      refine flowX_op ?_ ?_; (go_big_quiet_step (fail); (try simp only [Act.put, List.setIfInBounds_toArray, List.set_cons_zero, List.set_cons_succ]); exact wpQuiet_nil rfl)
      refine flowX_op (wpQuiet_load_g (by rfl) rfl rfl rd0 Try.underlying51 rfl (sizeI V_cn.out) (wpQuiet_nil (by simp only [Act.put, List.setIfInBounds_toArray, List.set_cons_zero, List.set_cons_succ]))) ?_
      refine flowX_op ?_ ?_; (go_big_quiet_step ((go_at_call 50; exact Calls.below_of (HB1.out _))); (try simp only [Act.put, List.setIfInBounds_toArray, List.set_cons_zero, List.set_cons_succ]); exact wpQuiet_nil rfl)
      refine flowX_op ?_ ?_; (go_big_quiet_step (fail); (try simp only [Act.put, List.setIfInBounds_toArray, List.set_cons_zero, List.set_cons_succ]); exact wpQuiet_nil rfl)
      refine flowX_op ?_ ?_; (go_big_quiet_step (fail); (try simp only [Act.put, List.setIfInBounds_toArray, List.set_cons_zero, List.set_cons_succ]); exact wpQuiet_nil rfl)
      refine flowX_op ?_ ?_; (go_big_quiet_step (fail); (try simp only [Act.put, List.setIfInBounds_toArray, List.set_cons_zero, List.set_cons_succ]); exact wpQuiet_nil rfl)
      refine flowX_op (wpQuiet_load_g (by rfl) rfl rfl rd1 Try.underlying51 rfl (sizeI V_cd.out) (wpQuiet_nil (by simp only [Act.put, List.setIfInBounds_toArray, List.set_cons_zero, List.set_cons_succ]))) ?_
      refine flowX_op ?_ ?_; (go_big_quiet_step ((go_at_call 50; exact Calls.below_of (HB2.out _))); (try simp only [Act.put, List.setIfInBounds_toArray, List.set_cons_zero, List.set_cons_succ]); exact wpQuiet_nil rfl)
      refine flowX_op ?_ ?_; (go_big_quiet_step (fail); (try simp only [Act.put, List.setIfInBounds_toArray, List.set_cons_zero, List.set_cons_succ]); exact wpQuiet_nil rfl)
      refine flowX_op ?_ ?_; (go_big_quiet_step (fail); (try simp only [Act.put, List.setIfInBounds_toArray, List.set_cons_zero, List.set_cons_succ]); exact wpQuiet_nil rfl)
      refine flowX_op ?_ ?_; (go_big_quiet_step (fail); (try simp only [Act.put, List.setIfInBounds_toArray, List.set_cons_zero, List.set_cons_succ]); exact wpQuiet_nil rfl)
      refine flowX_op ?_ ?_; (go_big_quiet_step (fail); (try simp only [Act.put, List.setIfInBounds_toArray, List.set_cons_zero, List.set_cons_succ]); exact wpQuiet_nil rfl)
      refine flowX_op (wpQuiet_load_g (by rfl) rfl rfl rd0 Try.underlying51 rfl (sizeI V_cn.out) (wpQuiet_nil (by simp only [Act.put, List.setIfInBounds_toArray, List.set_cons_zero, List.set_cons_succ]))) ?_
      refine flowX_op ?_ ?_; (go_big_quiet_step (fail); (try simp only [Act.put, List.setIfInBounds_toArray, List.set_cons_zero, List.set_cons_succ]); exact wpQuiet_nil rfl)
      refine flowX_op (wpQuiet_load_g (by rfl) rfl rfl rd1 Try.underlying51 rfl (sizeI V_cd.out) (wpQuiet_nil (by simp only [Act.put, List.setIfInBounds_toArray, List.set_cons_zero, List.set_cons_succ]))) ?_
      refine flowX_op ?_ ?_; (go_big_quiet_step ((go_at_call 48; exact Calls.below_of (HG.out _))); (try simp only [Act.put, List.setIfInBounds_toArray, List.set_cons_zero, List.set_cons_succ]); exact wpQuiet_nil rfl)
      refine flowX_op ?_ ?_; (go_big_quiet_step ((go_at_call 33; exact Calls.below_of (HO.out _))); (try simp only [Act.put, List.setIfInBounds_toArray, List.set_cons_zero, List.set_cons_succ]); exact wpQuiet_nil rfl)
      refine flowX_op (wpQuiet_eqI (r := true) (by rfl) rfl rfl rfl V_co.out V_co.out H1.out H1.out (by simp) (wpQuiet_nil (by simp only [Act.put, List.setIfInBounds_toArray, List.set_cons_zero, List.set_cons_succ]))) ?_
      refine flowX_op ?_ ?_; (go_big_quiet_step (fail); (try simp only [Act.put, List.setIfInBounds_toArray, List.set_cons_zero, List.set_cons_succ]); exact wpQuiet_nil rfl)
      refine flowX_op ?_ ?_; (go_big_quiet_step (fail); (try simp only [Act.put, List.setIfInBounds_toArray, List.set_cons_zero, List.set_cons_succ]); exact wpQuiet_nil rfl)
      exact flowX_nil
    · exact forPl0
    · exact forPl0
    intro β wx2 E
    replace FR := Lib.hid (FR.out.flow_new E rfl)
    replace AB0 := Lib.hid (AB0.out.flow_new E rfl)
    replace AB0_n := Lib.hid (AB0_n.out.flow_new E rfl)
    replace AB0_d := Lib.hid (AB0_d.out.flow_new E rfl)
    have hE := E.below rfl
    simp only [newPuts, List.foldl_cons, List.foldl_nil, if_true, Bool.false_eq_true, if_false, Act.put, List.setIfInBounds_toArray, List.set_cons_zero, List.set_cons_succ]
    replace FR0 := Lib.hid FR.out.le
    clear E
    go_wp2
    go_ret
    exact ⟨rfl, by rw [HB0.out] at FR; exact FR.out.below⟩

set_option maxRecDepth 100000 in
theorem places_op (k : Nat) (hk : k ≤ 9) (w : World) : Calls Try.prog 59 #[.int .i64 (k : Int)] w fun e w' => e = .returned (.bool true) ∧ w = w' := by
  have h1 : (0 : Int) ≤ (k : Int) := by omega
  have h2 : (k : Int) ≤ 9 := by omega
  go_enter Try.func59, Try.ntmps59
  go_wp2
  go_ret
  exact ⟨rfl, rfl⟩

theorem power_op {c : List Value} {k : Nat} (hc : c = rat false (10 ^ k) false 1) (hk : k ≤ 9) (W : World) :
    Calls Try.prog 72 #[.int .i64 (k : Int)] W fun e w' => e = .returned (.agg c.toArray) ∧ Below W.heap.size W w' := by
  subst hc; exact power_is k W (by omega)
theorem mul_op {c d r : List Value} {na nb n : Bool} {a b v : Nat} (hc : c = .bool na :: lv 32 a) (hd : d = .bool nb :: lv 32 b) (hr : r = .bool n :: lv 32 v) (hv : v = a * b) (hn : n = cs1 (na != nb) v) (ha : a < BB ^ 32) (hb : b < BB ^ 32) (hvb : v < BB ^ 32) (W : World) :
    Calls Try.prog 32 #[.agg c.toArray, .agg d.toArray] W fun e w' => e = .returned (.tuple #[.agg r.toArray, .int .i64 0]) ∧ Below W.heap.size W w' := by
  subst hn hv hc hd hr; exact mul_all na nb a b W ha hb hvb
theorem ten_lt {k : Nat} (hk : k ≤ 9) : 10 ^ k < BB := Nat.lt_of_le_of_lt (Nat.pow_le_pow_right (by omega) hk) (by unfold BB; decide)
set_option maxRecDepth 100000 in
set_option maxHeartbeats 8000000 in
theorem scaled_op {cr cm cd : List Value} {n : Bool} {p q k : Nat} (hr : cr = rat n p false q) (hm : cm = .bool n :: lv 32 (p * 10 ^ k)) (hd : cd = .bool false :: lv 32 q) (hn : n = cs1 n p) (hp : p < B480) (hk : k ≤ 9) (w : World) :
    Calls Try.prog 60 #[.agg cr.toArray, .int .i64 (k : Int)] w fun e w' => e = .returned (.tuple #[.agg cm.toArray, .agg cd.toArray]) ∧ Below w.heap.size w w' := by
  have V_cr := Lib.hid hr
  have V_cm := Lib.hid hm
  have V_cd := Lib.hid hd
  obtain ⟨cn, V_cn⟩ : ∃ c : List Value, Hid (c = .bool n :: lv 32 p) := ⟨_, Lib.hid rfl⟩
  obtain ⟨ct, V_ct⟩ : ∃ c : List Value, Hid (c = .bool false :: lv 32 (10 ^ k)) := ⟨_, Lib.hid rfl⟩
  obtain ⟨cz, V_cz⟩ : ∃ c : List Value, Hid (c = .bool false :: lv 32 0) := ⟨_, Lib.hid rfl⟩
  obtain ⟨cp, V_cp⟩ : ∃ c : List Value, Hid (c = rat false (10 ^ k) false 1) := ⟨_, Lib.hid rfl⟩
  have HP := Lib.hid (power_op V_cp.out hk)
  have ht := ten_lt hk
  have hpb : p * 10 ^ k < BB ^ 32 := by
    have h1 : p * 10 ^ k < BB ^ 15 * BB := Nat.mul_lt_mul'' (b480_lt hp) ht
    rw [← Nat.pow_succ] at h1
    exact Nat.lt_of_lt_of_le h1 (Nat.pow_le_pow_right BB_pos (by omega))
  have HM := Lib.hid (mul_op V_cn.out V_ct.out V_cm.out rfl (by
    rw [show (n != false) = n by cases n <;> rfl]
    rw [hn]
    have h10 : 10 ^ k ≠ 0 := Nat.pos_iff_ne_zero.1 (Nat.pow_pos (by omega))
    by_cases h : p = 0
    · subst h; simp [cs1]
    · have : p * 10 ^ k ≠ 0 := Nat.mul_ne_zero h h10
      simp [cs1, h, this]) (b480_bb hp) (Nat.lt_of_lt_of_le ht (by have := Nat.pow_le_pow_right BB_pos (show 1 ≤ 32 by omega); rwa [Nat.pow_one] at this)) hpb)
  clear hr hm hd hn hp hk ht hpb
  obtain ⟨B0, hB0⟩ : ∃ B, B = w.heap.size := ⟨_, rfl⟩
  obtain ⟨B1, hB1⟩ : ∃ B, B = w.heap.size + 1 := ⟨_, rfl⟩
  obtain ⟨B2, hB2⟩ : ∃ B, B = w.heap.size + 1 + 1 := ⟨_, rfl⟩
  obtain ⟨w0, hw0⟩ : ∃ w0, w0 = (((w.alloc (.cells cr.toArray 56)).alloc (.cells zero33 51)).alloc (.cells zero33 51)) := ⟨_, rfl⟩
  have AB0 := Lib.hid (show At w0 B0 0 cr by rw [hw0]; exact (((show At (w.alloc (.cells cr.toArray 56)) B0 0 cr from At.fresh _ cr _ (by simp [hB0])).alloc _).alloc _))
  have AB1 := Lib.hid (show At w0 B1 0 cz by rw [hw0]; exact ((show At ((w.alloc (.cells cr.toArray 56)).alloc (.cells zero33 51)) B1 0 cz from (by rw [V_cz.out]; exact At.zero _ _ (by simp [hB1]))).alloc _))
  have AB2 := Lib.hid (show At w0 B2 0 cz by rw [hw0]; exact (show At (((w.alloc (.cells cr.toArray 56)).alloc (.cells zero33 51)).alloc (.cells zero33 51)) B2 0 cz from (by rw [V_cz.out]; exact At.zero _ _ (by simp [hB2]))))
  have FR := Lib.hid (show Fr B0 w w0 by rw [hw0, hB0]; exact (((Fr.start w).alloc _).alloc _).alloc _)
  have FR0 := Lib.hid FR.out.le
  have l01 : B0 < B1 := by omega
  have hZB1 : B0 ≤ B1 := by omega
  have l12 : B1 < B2 := by omega
  have hZB2 : B0 ≤ B2 := by omega
  have hZB0 : B0 ≤ B0 := Nat.le_refl _
  unfold zero33 at hw0
  have HB0 := Lib.hid hB0
  go_enter Try.func60, Try.ntmps60
  go_upto_region 1 with fail
  rw [← hw0, ← hB2, ← hB1, ← hB0]
  clear hw0 hB0 hB1 hB2
  have AB0_n := Lib.hid (AB0.out.num V_cr.out V_cn.out)
  have AB0_d := Lib.hid (AB0.out.den V_cr.out V_cd.out)
  refine wp_flow_new [⟨true, 9, 6, 10, 0, 0, 51, 15, cm⟩] [(9, .pointer (some ⟨B0, 0, none⟩)), (10, .agg cn.toArray), (11, .int .i64 (k : Int)), (12, .agg cp.toArray), (13, .agg ct.toArray), (14, .tuple #[.agg cm.toArray, .int .i64 0]), (8, .tuple #[.agg cm.toArray, .int .i64 0]), (15, .agg cm.toArray), (16, .int .i64 0), (7, .int .i64 0)] _ (by simp only [List.foldl_cons, List.foldl_nil, Act.put, List.setIfInBounds_toArray, List.set_cons_zero, List.set_cons_succ]; rfl) (by kernel_rfl) (by kernel_rfl) rfl ?_ ?_ ?_ ?_
  · intro W' hW'
    have rd0 := AB0_n.out.below hW'
    refine flowX_op ?_ ?_; (go_big_quiet_step (fail); (try simp only [Act.put, List.setIfInBounds_toArray, List.set_cons_zero, List.set_cons_succ]); exact wpQuiet_nil rfl)
    refine flowX_op (wpQuiet_load_g (by rfl) rfl rfl rd0 Try.underlying51 rfl (sizeI V_cn.out) (wpQuiet_nil (by simp only [Act.put, List.setIfInBounds_toArray, List.set_cons_zero, List.set_cons_succ]))) ?_
    refine flowX_op ?_ ?_; (go_big_quiet_step (fail); (try simp only [Act.put, List.setIfInBounds_toArray, List.set_cons_zero, List.set_cons_succ]); exact wpQuiet_nil rfl)
    refine flowX_op ?_ ?_; (go_big_quiet_step ((go_at_call 72; exact Calls.below_of (HP.out _))); (try simp only [Act.put, List.setIfInBounds_toArray, List.set_cons_zero, List.set_cons_succ]); exact wpQuiet_nil rfl)
    refine flowX_op (wpQuiet_numR rfl rfl rfl V_cp.out V_ct.out (wpQuiet_nil (by simp only [Act.put, List.setIfInBounds_toArray, List.set_cons_zero, List.set_cons_succ]))) ?_
    refine flowX_op ?_ ?_; (go_big_quiet_step ((go_at_call 32; exact Calls.below_of (HM.out _))); (try simp only [Act.put, List.setIfInBounds_toArray, List.set_cons_zero, List.set_cons_succ]); exact wpQuiet_nil rfl)
    refine flowX_op ?_ ?_; (go_big_quiet_step (fail); (try simp only [Act.put, List.setIfInBounds_toArray, List.set_cons_zero, List.set_cons_succ]); exact wpQuiet_nil rfl)
    refine flowX_op ?_ ?_; (go_big_quiet_step (fail); (try simp only [Act.put, List.setIfInBounds_toArray, List.set_cons_zero, List.set_cons_succ]); exact wpQuiet_nil rfl)
    refine flowX_op ?_ ?_; (go_big_quiet_step (fail); (try simp only [Act.put, List.setIfInBounds_toArray, List.set_cons_zero, List.set_cons_succ]); exact wpQuiet_nil rfl)
    refine flowX_skip (by rfl) ?_
    refine flowX_skip (by rfl) ?_
    refine flowX_op ?_ ?_; (go_big_quiet_step (fail); (try simp only [Act.put, List.setIfInBounds_toArray, List.set_cons_zero, List.set_cons_succ]); exact wpQuiet_nil rfl)
    exact flowX_nil
  · exact forPl _ _ (Try.alI (sizeI V_cm.out)) (forPl0)
  · exact forPl _ _ (⟨rfl, (sizeI V_cm.out), (oneI V_cm.out)⟩) (forPl0)
  intro β wx1 E
  replace FR := Lib.hid (FR.out.flow_new E rfl)
  obtain ⟨b6, hb6⟩ : ∃ b, b = β 9 := ⟨_, rfl⟩
  have eb6 := E.atNew (List.mem_cons_self ..) rfl
  simp only at eb6
  rw [← hb6] at eb6
  have lB0_b6 : B0 < b6 := by have h1 := eb6.1; have h2 := AB0.out.lt; omega
  have lB1_b6 : B1 < b6 := by have h1 := eb6.1; have h2 := AB1.out.lt; omega
  have lB2_b6 : B2 < b6 := by have h1 := eb6.1; have h2 := AB2.out.lt; omega
  have hZb6 : B0 ≤ b6 := by have h1 := eb6.1; have h2 := FR0.out; omega
  replace AB0 := Lib.hid (AB0.out.flow_new E rfl)
  replace AB1 := Lib.hid (AB1.out.flow_new E rfl)
  replace AB2 := Lib.hid (AB2.out.flow_new E rfl)
  replace AB0_n := Lib.hid (AB0_n.out.flow_new E rfl)
  replace AB0_d := Lib.hid (AB0_d.out.flow_new E rfl)
  have Ab6 := Lib.hid eb6.2
  simp only [newPuts, List.foldl_cons, List.foldl_nil, if_true, Bool.false_eq_true, if_false, Act.put, List.setIfInBounds_toArray, List.set_cons_zero, List.set_cons_succ]
  rw [← hb6]
  replace FR0 := Lib.hid FR.out.le
  clear E eb6 hb6
  go_upto_region 2 with fail
  refine wp_flow [⟨false, 0, 4, 3, B1, 0, 51, 17, cm⟩, ⟨false, 0, 5, 4, B2, 0, 51, 19, cd⟩] [(17, .agg cm.toArray), (18, .pointer (some ⟨B0, 33, none⟩)), (19, .agg cd.toArray)] _ (by simp only [List.foldl_cons, List.foldl_nil, Act.put, List.setIfInBounds_toArray, List.set_cons_zero, List.set_cons_succ]; rfl) (by kernel_rfl) (by kernel_rfl) ?_ ?_ ?_ ?_ ?_ ?_ ?_
  · intro W' hW'
    have rd0 := Ab6.out.below hW'
    have rd1 := AB0_d.out.below hW'
    refine flowX_op (wpQuiet_load_g (by rfl) rfl rfl rd0 Try.underlying51 rfl (sizeI V_cm.out) (wpQuiet_nil (by simp only [Act.put, List.setIfInBounds_toArray, List.set_cons_zero, List.set_cons_succ]))) ?_
    refine flowX_op ?_ ?_; (go_big_quiet_step (fail); (try simp only [Act.put, List.setIfInBounds_toArray, List.set_cons_zero, List.set_cons_succ]); exact wpQuiet_nil rfl)
    refine flowX_op (wpQuiet_load_g (by rfl) rfl rfl rd1 Try.underlying51 rfl (sizeI V_cd.out) (wpQuiet_nil (by simp only [Act.put, List.setIfInBounds_toArray, List.set_cons_zero, List.set_cons_succ]))) ?_
    refine flowX_skip (by rfl) ?_
    refine flowX_skip (by rfl) ?_
    exact flowX_nil
  · intro W' hK'
    have rd0 := At.keep hK' Ab6.out (forPl _ _ (fun _ => (by show B1 ≠ b6; omega)) (forPl _ _ (fun _ => (by show B2 ≠ b6; omega)) (forPl0)))
    have rd1 := At.keep hK' AB0_d.out (forPl _ _ (fun _ => (by show B1 ≠ B0; omega)) (forPl _ _ (fun _ => (by show B2 ≠ B0; omega)) (forPl0)))
    refine flowX_op (wpQuiet_load_g (by rfl) rfl rfl rd0 Try.underlying51 rfl (sizeI V_cm.out) (wpQuiet_nil (by simp only [Act.put, List.setIfInBounds_toArray, List.set_cons_zero, List.set_cons_succ]))) ?_
    first | (refine flowX_op ?_ ?_; (go_big_quiet_step (fail); (try simp only [Act.put, List.setIfInBounds_toArray, List.set_cons_zero, List.set_cons_succ]); exact wpQuiet_nil rfl)) | (refine flowX_skip (by kernel_rfl) ?_)
    refine flowX_op (wpQuiet_load_g (by rfl) rfl rfl rd1 Try.underlying51 rfl (sizeI V_cd.out) (wpQuiet_nil (by simp only [Act.put, List.setIfInBounds_toArray, List.set_cons_zero, List.set_cons_succ]))) ?_
    refine flowX_skip (by kernel_rfl) ?_
    refine flowX_skip (by kernel_rfl) ?_
    exact flowX_nil
  · exact forPl _ _ (fun h => Bool.noConfusion h) (forPl _ _ (fun h => Bool.noConfusion h) (forPl0))
  · exact forPl _ _ (fun _ => ⟨AB1.out.lt, rfl, At.room AB1.out (sizeI V_cz.out) (sizeI V_cm.out)⟩) (forPl _ _ (fun _ => ⟨AB2.out.lt, rfl, At.room AB2.out (sizeI V_cz.out) (sizeI V_cd.out)⟩) (forPl0))
  · intro q hq r hr hqn hrn e
    simp only [List.mem_cons, List.not_mem_nil, or_false] at hq hr
    rcases hq with rfl | rfl <;> rcases hr with rfl | rfl <;> first | rfl | (exact Bool.noConfusion hqn) | (exact Bool.noConfusion hrn) | (exfalso; simp only at e; omega)
  · exact forPl _ _ (⟨rfl, (sizeI V_cm.out), (oneI V_cm.out)⟩) (forPl _ _ (⟨rfl, (sizeI V_cd.out), (oneI V_cd.out)⟩) (forPl0))
  intro β wx2 E
  replace FR := Lib.hid (FR.out.flow E (forPl _ _ (fun _ => (by show B0 ≤ B1; omega)) (forPl _ _ (fun _ => (by show B0 ≤ B2; omega)) (forPl0))))
  replace AB0 := Lib.hid (At.flow E AB0.out (forPl _ _ (fun _ => (by show B1 ≠ B0; omega)) (forPl _ _ (fun _ => (by show B2 ≠ B0; omega)) (forPl0))))
  replace AB1 := Lib.hid (show At wx2 B1 0 cm from E.atOld (List.mem_cons_self ..) rfl AB1.out.lt)
  replace AB2 := Lib.hid (show At wx2 B2 0 cd from E.atOld (List.mem_cons_of_mem _ (List.mem_cons_self ..)) rfl AB2.out.lt)
  replace AB0_n := Lib.hid (At.flow E AB0_n.out (forPl _ _ (fun _ => (by show B1 ≠ B0; omega)) (forPl _ _ (fun _ => (by show B2 ≠ B0; omega)) (forPl0))))
  replace AB0_d := Lib.hid (At.flow E AB0_d.out (forPl _ _ (fun _ => (by show B1 ≠ B0; omega)) (forPl _ _ (fun _ => (by show B2 ≠ B0; omega)) (forPl0))))
  replace Ab6 := Lib.hid (At.flow E Ab6.out (forPl _ _ (fun _ => (by show B1 ≠ b6; omega)) (forPl _ _ (fun _ => (by show B2 ≠ b6; omega)) (forPl0))))
  simp only [newPuts, List.foldl_cons, List.foldl_nil, if_true, Bool.false_eq_true, if_false, Act.put, List.setIfInBounds_toArray, List.set_cons_zero, List.set_cons_succ]
  replace FR0 := Lib.hid FR.out.le
  clear E
  go_wp2_with fail
  have hld1 := AB1.out.read (P := Try.prog) Try.underlying51 rfl (sizeI V_cm.out)
  have hld2 := AB2.out.read (P := Try.prog) Try.underlying51 rfl (sizeI V_cd.out)
  refine bodyPost_ret (v := .tuple #[.agg cm.toArray, .agg cd.toArray]) (by simp [results, Try.results60, asAddr, hld1, hld2]) rfl ?_
  exact ⟨rfl, by rw [HB0.out] at FR; exact FR.out.below⟩
end Go.Proofs.Ytnkmhbiklffjlaa
