/- fundadminref03.above, Round: walked. -/
import Derived.Test.YtnkmhbiklffjlaaBiO
set_option linter.unusedVariables false
set_option linter.unusedSimpArgs false
namespace Go.Proofs.Ytnkmhbiklffjlaa
open Go.RowKit Big

/-- whether the number between two whole ones goes to the greater one -/
def aboveB (mode : Nat) (neg : Bool) (h : Int) (odd : Bool) : Bool :=
  if mode = 1 then neg else if mode = 2 then !neg else if mode = 3 then false else if mode = 4 then true else if h ≠ 0 then decide (0 < h) else if mode = 5 then !neg else odd
set_option maxRecDepth 100000 in
theorem above_is (mode : Nat) (neg : Bool) (h : Int) (odd r : Bool) (w : World) (hm1 : 1 ≤ mode) (hm2 : mode ≤ 6) (hr : r = aboveB mode neg h odd) :
    Calls Try.prog 62 #[.int .i64 (mode : Int), .bool neg, .int .i64 h, .bool odd] w fun e w' => e = .returned (.bool r) ∧ w = w' := by
  have hmm : mode = 1 ∨ mode = 2 ∨ mode = 3 ∨ mode = 4 ∨ mode = 5 ∨ mode = 6 := by omega
  have HR := Lib.hid hr
  clear hr hm1 hm2
  go_enter Try.func62, Try.ntmps62
  rcases hmm with rfl | rfl | rfl | rfl | rfl | rfl
  · go_wp2
    go_ret
    exact ⟨by rw [HR.out]; rfl, rfl⟩
  · go_wp2
    go_ret
    exact ⟨by rw [HR.out]; rfl, rfl⟩
  · go_wp2
    go_ret
    exact ⟨by rw [HR.out]; rfl, rfl⟩
  · go_wp2
    go_ret
    exact ⟨by rw [HR.out]; rfl, rfl⟩
  · by_cases h0 : h = 0
    · subst h0
      go_wp2
      go_ret
      exact ⟨by rw [HR.out]; rfl, rfl⟩
    · have hne : (h != 0) = true := by simp [h0]
      have HN := Lib.hid h0
      clear h0
      go_wp2
      go_ret
      exact ⟨by rw [HR.out]; simp [aboveB, HN.out], rfl⟩
  · by_cases h0 : h = 0
    · subst h0
      go_wp2
      go_ret
      exact ⟨by rw [HR.out]; rfl, rfl⟩
    · have hne : (h != 0) = true := by simp [h0]
      have HN := Lib.hid h0
      clear h0
      go_wp2
      go_ret
      exact ⟨by rw [HR.out]; simp [aboveB, HN.out], rfl⟩
theorem calls_below {f : FuncId} {args : Array Value} {w : World} {v : Value} (h : Calls Try.prog f args w fun e w' => e = .returned v ∧ w = w') : Calls Try.prog f args w fun e w' => e = .returned v ∧ Below w.heap.size w w' :=
  h.mono fun _ _ ⟨he, hw⟩ => ⟨he, by subst hw; exact Below.refl _ _⟩
theorem add_op {c d r : List Value} {na nb n : Bool} {a b v : Nat} (hc : c = .bool na :: lv 32 a) (hd : d = .bool nb :: lv 32 b) (hr : r = .bool n :: lv 32 v) (hn : n = decide (zI na a + zI nb b < 0)) (hve : v = (zI na a + zI nb b).natAbs) (ha : a < BB ^ 32) (hb : b < BB ^ 32) (hv : v < BB ^ 32) (W : World) :
    Calls Try.prog 61 #[.agg c.toArray, .agg d.toArray] W fun e w' => e = .returned (.tuple #[.agg r.toArray, .int .i64 0]) ∧ Below W.heap.size W w' := by
  subst hc hd hr; exact add_is na nb n a b v W ha hb hv hn hve
theorem cmp_op {c d : List Value} {na nb : Bool} {a b : Nat} {z : Int} (hc : c = .bool na :: lv 32 a) (hd : d = .bool nb :: lv 32 b) (hz : z = cmpZ (zI na a) (zI nb b)) (ha : a < BB ^ 32) (hb : b < BB ^ 32) (W : World) :
    Calls Try.prog 63 #[.agg c.toArray, .agg d.toArray] W fun e w' => e = .returned (.int .i64 z) ∧ Below W.heap.size W w' := by
  subst hc hd; exact cmp_is na nb a b z W ha hb hz
theorem At.low {w : World} {b : Nat} {c : List Value} {n : Bool} {v lo : Nat} (h : At w b 0 c) (hc : c = .bool n :: lv 32 v) (hl : lo = lim v 0) : w.cell? ⟨b, 1, none⟩ = some (.int .u32 (lo : Int)) := by
  subst hc hl
  have := h.cell (j := 1) (v := .int .u32 (lim v 0 : Nat)) (by rw [List.getElem?_cons_succ]; exact lv_get v (by omega))
  simpa using this
theorem lim_odd (v : Nat) : lim v 0 % 2 = v % 2 := by
  unfold lim BB; omega
/-- the whole number below a quotient, and the rest -/
def flM (n : Bool) (P q : Nat) : Nat := if n = true ∧ P % q ≠ 0 then P / q + 1 else P / q
def flR (n : Bool) (P q : Nat) : Nat := if n = true ∧ P % q ≠ 0 then q - P % q else P % q
/-- the rounded number -/
def rndI (mode : Nat) (n : Bool) (P q : Nat) : Int :=
  if flR n P q = 0 then zI (cs1 n (flM n P q)) (flM n P q)
  else if aboveB mode n (cmpZ ((2 * flR n P q : Nat) : Int) (q : Int)) (decide (flM n P q % 2 = 1)) = true then zI (cs1 n (flM n P q)) (flM n P q) + 1 else zI (cs1 n (flM n P q)) (flM n P q)
theorem zI_canon (n : Bool) (m : Nat) : cs1 n m = decide (zI (cs1 n m) m < 0) ∧ m = (zI (cs1 n m) m).natAbs := by
  unfold cs1 zI
  by_cases h : m = 0 <;> cases n <;> simp [h] <;> omega
theorem flR_lt (n : Bool) (P q : Nat) (hq : q ≠ 0) : flR n P q < q := by
  unfold flR
  have := Nat.mod_lt P (Nat.pos_of_ne_zero hq)
  split <;> omega
theorem flM_le (n : Bool) (P q : Nat) : flM n P q ≤ P + 1 := by
  unfold flM
  have := Nat.div_le_self P q
  split <;> omega
theorem rnd_cases (mode : Nat) (n : Bool) (P q : Nat) (s v : Bool × Nat) (hs : s = (cs1 n (flM n P q), flM n P q)) (hv : v = (decide (rndI mode n P q < 0), (rndI mode n P q).natAbs)) (b : Bool) (hb : b = aboveB mode n (cmpZ ((2 * flR n P q : Nat) : Int) (q : Int)) (decide (flM n P q % 2 = 1))) :
    (flR n P q = 0 → v = s) ∧ (flR n P q ≠ 0 → b = false → v = s) ∧ (flR n P q ≠ 0 → b = true → v.1 = decide (zI s.1 s.2 + zI false 1 < 0) ∧ v.2 = (zI s.1 s.2 + zI false 1).natAbs) := by
  have hz := zI_canon n (flM n P q)
  have e : zI false 1 = 1 := rfl
  refine ⟨fun h => ?_, fun h h2 => ?_, fun h h2 => ?_⟩
  · rw [hv, hs]; unfold rndI; rw [if_pos h, ← hz.1, ← hz.2]
  · rw [hv, hs]; unfold rndI; rw [if_neg h, ← hb, h2, if_neg (by decide), ← hz.1, ← hz.2]
  · rw [hv, hs, e]; unfold rndI; rw [if_neg h, ← hb, h2, if_pos rfl]; exact ⟨rfl, rfl⟩
set_option maxRecDepth 100000 in
set_option maxHeartbeats 8000000 in
theorem round_op {cr cv : List Value} {n n2 : Bool} {p q v2 k mode : Nat} (hr : cr = rat n p false q) (hv : cv = .bool n2 :: lv 32 v2) (hn : n = cs1 n p) (hp : p < B480) (hq : q < B480) (h0 : q ≠ 0) (hg : Nat.gcd p q = 1) (hk : k ≤ 9) (hm1 : 1 ≤ mode) (hm2 : mode ≤ 6)
    (hn2 : n2 = decide (rndI mode n (p * 10 ^ k) q < 0)) (hv2 : v2 = (rndI mode n (p * 10 ^ k) q).natAbs) (w : World) :
    Calls Try.prog 51 #[.agg cr.toArray, .int .i64 (k : Int), .int .i64 (mode : Int)] w fun e w' => e = .returned (.tuple #[.agg cv.toArray, .int .i64 0]) ∧ Below w.heap.size w w' := by
  have V_cr := Lib.hid hr
  have V_cv := Lib.hid hv
  obtain ⟨N, hN⟩ : ∃ N, N = p * 10 ^ k := ⟨_, rfl⟩
  have hNb : N < BB ^ 16 := by
    have h1 : p * 10 ^ k < BB ^ 15 * BB := Nat.mul_lt_mul'' (b480_lt hp) (ten_lt hk)
    rw [← Nat.pow_succ, ← hN] at h1; exact h1
  have up32 : ∀ {x j : Nat}, j ≤ 32 → x < BB ^ j → x < BB ^ 32 := fun hj h => Nat.lt_of_lt_of_le h (Nat.pow_le_pow_right BB_pos hj)
  have hN32 : N < BB ^ 32 := up32 (by omega) hNb
  have hq32 := b480_bb hq
  have hNn : n = cs1 n N := by
    have h10 : 10 ^ k ≠ 0 := Nat.pos_iff_ne_zero.1 (Nat.pow_pos (by omega))
    rw [hN]
    by_cases h : p = 0
    · subst h; simpa [cs1] using hn
    · have : p * 10 ^ k ≠ 0 := Nat.mul_ne_zero h h10
      rw [hn]; simp [cs1, h, this]
  rw [← hN] at hn2 hv2
  obtain ⟨m, hm⟩ : ∃ m, m = flM n N q := ⟨_, rfl⟩
  obtain ⟨re, hre⟩ : ∃ re, re = flR n N q := ⟨_, rfl⟩
  obtain ⟨s, hs⟩ : ∃ s, s = cs1 n m := ⟨_, rfl⟩
  have hrl : re < q := by rw [hre]; exact flR_lt n N q h0
  have hre32 : re < BB ^ 32 := Nat.lt_trans hrl hq32
  have b1 : 1 ≤ BB ^ 16 := Nat.one_le_pow _ _ BB_pos
  have b17 : 2 * BB ^ 16 ≤ BB ^ 17 := by rw [Nat.pow_succ, Nat.mul_comm]; exact Nat.mul_le_mul_left _ (by unfold BB; omega)
  have hmb : m < BB ^ 17 := by have := flM_le n N q; rw [← hm] at this; omega
  have hm32 : m < BB ^ 32 := up32 (by omega) hmb
  have hre2 : 2 * re < BB ^ 32 := up32 (show 17 ≤ 32 by omega) (by
    have := Nat.lt_trans hrl (b480_lt hq)
    have h2 := Nat.pow_le_pow_right BB_pos (show 15 ≤ 16 by omega)
    omega)
  obtain ⟨lo, hlo⟩ : ∃ lo, lo = lim m 0 := ⟨_, rfl⟩
  obtain ⟨o2, ho2⟩ : ∃ o2 : Int, o2 = ((lo % 2 : Nat) : Int) := ⟨_, rfl⟩
  have hodd : (o2 == 1) = decide (m % 2 = 1) := by rw [ho2, hlo, lim_odd]; by_cases h : m % 2 = 1 <;> simp [h] <;> omega
  obtain ⟨odd, hod⟩ : ∃ odd, odd = decide (m % 2 = 1) := ⟨_, rfl⟩
  rw [← hod] at hodd
  have hr1 : (lo : Int).tmod 2 = o2 := by rw [Int.tmod_eq_emod_of_nonneg (by omega)]; omega
  have hr2 : (lo : Int) % 2 = o2 := by omega
  obtain ⟨cz', hcz⟩ : ∃ c, c = cmpZ ((2 * re : Nat) : Int) (q : Int) := ⟨_, rfl⟩
  obtain ⟨up, hup⟩ : ∃ u, u = aboveB mode n cz' odd := ⟨_, rfl⟩
  have hrc := rnd_cases mode n N q (s, m) (n2, v2) (by rw [hs, hm]) (by rw [hn2, hv2]) up (by rw [hup, hcz, hod, hre, hm])
  rw [← hre] at hrc
  have HRC := Lib.hid hrc
  obtain ⟨cm, V_cm⟩ : ∃ c : List Value, Hid (c = .bool n :: lv 32 N) := ⟨_, Lib.hid rfl⟩
  obtain ⟨cd, V_cd⟩ : ∃ c : List Value, Hid (c = .bool false :: lv 32 q) := ⟨_, Lib.hid rfl⟩
  obtain ⟨cq, V_cq⟩ : ∃ c : List Value, Hid (c = .bool s :: lv 32 m) := ⟨_, Lib.hid rfl⟩
  obtain ⟨ce, V_ce⟩ : ∃ c : List Value, Hid (c = .bool false :: lv 32 re) := ⟨_, Lib.hid rfl⟩
  obtain ⟨c2, V_c2⟩ : ∃ c : List Value, Hid (c = .bool false :: lv 32 (2 * re)) := ⟨_, Lib.hid rfl⟩
  obtain ⟨co, V_co⟩ : ∃ c : List Value, Hid (c = .bool false :: lv 32 1) := ⟨_, Lib.hid rfl⟩
  obtain ⟨cz, V_cz⟩ : ∃ c : List Value, Hid (c = .bool false :: lv 32 0) := ⟨_, Lib.hid rfl⟩
  have HV := Lib.hid (valid_op V_cr.out hn hp hq h0 hg)
  have HPL := Lib.hid (fun W => calls_below (places_op k hk W))
  have HSC := Lib.hid (fun W => scaled_op (k := k) V_cr.out (show cm = .bool n :: lv 32 (p * 10 ^ k) by rw [← hN]; exact V_cm.out) V_cd.out hn hp hk W)
  have HDM := Lib.hid (divmod_op (s := s) V_cm.out V_cd.out V_cq.out V_ce.out (by rw [show (n != false) = n by cases n <;> rfl]; exact hs) (by rw [hm]; rfl) (by rw [hre]; rfl) hN32 hq32 h0)
  obtain ⟨sg, hsg⟩ : ∃ x, x = sgnI false re := ⟨_, rfl⟩
  have HSR := Lib.hid (sign_op V_ce.out hsg hre32)
  have HAD := Lib.hid (add_op V_ce.out V_ce.out V_c2.out (by unfold zI; simp; omega) (by unfold zI; simp; omega) hre32 hre32 hre2)
  obtain ⟨sn, hsn⟩ : ∃ x, x = sgnI n N := ⟨_, rfl⟩
  have HSN := Lib.hid (sign_op V_cm.out hsn hN32)
  have HCM := Lib.hid (cmp_op (z := cz') V_c2.out V_cd.out (by rw [hcz]; rfl) hre2 hq32)
  have HAB := Lib.hid (fun W => calls_below (above_is mode n cz' odd up W hm1 hm2 hup))
  have HFI := Lib.hid (from_op (z := 1) V_co.out rfl rfl (by decide) (by decide))
  have HA2 := Lib.hid (fun (h1 : re ≠ 0) (h2 : up = true) => add_op (r := cv) V_cq.out V_co.out V_cv.out (HRC.out.2.2 h1 h2).1 (HRC.out.2.2 h1 h2).2 hm32 (Nat.one_lt_pow (by omega) (by unfold BB; omega)) (by
    have h3 := (HRC.out.2.2 h1 h2).2
    simp only at h3
    rw [h3]
    have h4 : (zI s m + zI false 1).natAbs ≤ m + 1 := by unfold zI; split <;> simp <;> omega
    have h5 : m + 1 ≤ BB ^ 17 := hmb
    have h6 := Nat.pow_lt_pow_right (a := BB) (by unfold BB; omega) (show 17 < 32 by omega)
    omega))
  have hsge : re = 0 → (sg == 0) = true := fun h => by rw [hsg]; unfold sgnI; simp [h]
  have hsgn : re ≠ 0 → (sg == 0) = false := fun h => by rw [hsg]; unfold sgnI; simp [h]
  have hsn0 : re ≠ 0 → decide (sn < 0) = n := fun h => by
    have hN0 : N ≠ 0 := by rintro rfl; apply h; rw [hre]; unfold flR; simp
    rw [hsn]; unfold sgnI; rw [if_neg hN0]; cases n <;> simp
  have HS0 := Lib.hid (And.intro hsge (And.intro hsgn hsn0))
  have HLO := Lib.hid hlo
  have m1 : ¬ (mode : Int) < 1 := by omega
  have m2 : ¬ (6 : Int) < (mode : Int) := by omega
  clear hr hv hn hp hq h0 hg hk hm1 hm2 hn2 hv2 hN hNb hN32 hq32 hNn hm hre hs hrl hre32 b1 b17 hmb hm32 hre2 hlo ho2 hod hcz hup hrc hsg hsn hsge hsgn hsn0 up32
  obtain ⟨B0, hB0⟩ : ∃ B, B = w.heap.size := ⟨_, rfl⟩
  obtain ⟨B1, hB1⟩ : ∃ B, B = w.heap.size + 1 := ⟨_, rfl⟩
  obtain ⟨w0, hw0⟩ : ∃ w0, w0 = ((w.alloc (.cells cr.toArray 56)).alloc (.cells zero33 51)) := ⟨_, rfl⟩
  have AB0 := Lib.hid (show At w0 B0 0 cr by rw [hw0]; exact ((show At (w.alloc (.cells cr.toArray 56)) B0 0 cr from At.fresh _ cr _ (by simp [hB0])).alloc _))
  have AB1 := Lib.hid (show At w0 B1 0 cz by rw [hw0]; exact (show At ((w.alloc (.cells cr.toArray 56)).alloc (.cells zero33 51)) B1 0 cz from (by rw [V_cz.out]; exact At.zero _ _ (by simp [hB1]))))
  have FR := Lib.hid (show Fr B0 w w0 by rw [hw0, hB0]; exact ((Fr.start w).alloc _).alloc _)
  have FR0 := Lib.hid FR.out.le
  have l01 : B0 < B1 := by omega
  have hZB1 : B0 ≤ B1 := by omega
  have hZB0 : B0 ≤ B0 := Nat.le_refl _
  unfold zero33 at hw0
  have HB0 := Lib.hid hB0
  go_enter Try.func51, Try.ntmps51
  go_upto_region 1 with fail
  rw [← hw0, ← hB1, ← hB0]
  clear hw0 hB0 hB1
  refine wp_flow_new [] [(16, .agg cr.toArray), (17, .bool true), (18, .bool false), (15, .bool false)] _ (by simp only [List.foldl_cons, List.foldl_nil, Act.put, List.setIfInBounds_toArray, List.set_cons_zero, List.set_cons_succ]; rfl) (by kernel_rfl) (by kernel_rfl) rfl ?_ ?_ ?_ ?_
  · intro W' hW'
    have rd0 := AB0.out.below hW'
    refine flowX_op (wpQuiet_load_g (by rfl) rfl rfl rd0 Try.underlying56 rfl (sizeR V_cr.out) (wpQuiet_nil (by simp only [Act.put, List.setIfInBounds_toArray, List.set_cons_zero, List.set_cons_succ]))) ?_
    refine flowX_op ?_ ?_; (go_big_quiet_step ((go_at_call 58; exact Calls.below_of (HV.out _))); (try simp only [Act.put, List.setIfInBounds_toArray, List.set_cons_zero, List.set_cons_succ]); exact wpQuiet_nil rfl)
    refine flowX_op ?_ ?_; (go_big_quiet_step (fail); (try simp only [Act.put, List.setIfInBounds_toArray, List.set_cons_zero, List.set_cons_succ]); exact wpQuiet_nil rfl)
    refine flowX_op ?_ ?_; (go_big_quiet_step (fail); (try simp only [Act.put, List.setIfInBounds_toArray, List.set_cons_zero, List.set_cons_succ]); exact wpQuiet_nil rfl)
    exact flowX_nil
  · exact forPl0
  · exact forPl0
  intro β wx1 E
  replace FR := Lib.hid (FR.out.flow_new E rfl)
  replace AB0 := Lib.hid (AB0.out.flow_new E rfl)
  replace AB1 := Lib.hid (AB1.out.flow_new E rfl)
  have hE := E.below rfl
  simp only [newPuts, List.foldl_cons, List.foldl_nil, if_true, Bool.false_eq_true, if_false, Act.put, List.setIfInBounds_toArray, List.set_cons_zero, List.set_cons_succ]
  replace FR0 := Lib.hid FR.out.le
  clear E
  go_upto_region 3 with fail
  refine wp_flow_new [] [(21, .int .i64 (k : Int)), (22, .bool true), (23, .bool false), (20, .bool false)] _ (by simp only [List.foldl_cons, List.foldl_nil, Act.put, List.setIfInBounds_toArray, List.set_cons_zero, List.set_cons_succ]; rfl) (by kernel_rfl) (by kernel_rfl) rfl ?_ ?_ ?_ ?_
  · intro W' hW'
    refine flowX_op ?_ ?_; (go_big_quiet_step (fail); (try simp only [Act.put, List.setIfInBounds_toArray, List.set_cons_zero, List.set_cons_succ]); exact wpQuiet_nil rfl)
    refine flowX_op ?_ ?_; (go_big_quiet_step ((go_at_call 59; exact Calls.below_of (HPL.out _))); (try simp only [Act.put, List.setIfInBounds_toArray, List.set_cons_zero, List.set_cons_succ]); exact wpQuiet_nil rfl)
    refine flowX_op ?_ ?_; (go_big_quiet_step (fail); (try simp only [Act.put, List.setIfInBounds_toArray, List.set_cons_zero, List.set_cons_succ]); exact wpQuiet_nil rfl)
    refine flowX_op ?_ ?_; (go_big_quiet_step (fail); (try simp only [Act.put, List.setIfInBounds_toArray, List.set_cons_zero, List.set_cons_succ]); exact wpQuiet_nil rfl)
    exact flowX_nil
  · exact forPl0
  · exact forPl0
  intro β wx2 E
  replace FR := Lib.hid (FR.out.flow_new E rfl)
  replace AB0 := Lib.hid (AB0.out.flow_new E rfl)
  replace AB1 := Lib.hid (AB1.out.flow_new E rfl)
  have hE := E.below rfl
  simp only [newPuts, List.foldl_cons, List.foldl_nil, if_true, Bool.false_eq_true, if_false, Act.put, List.setIfInBounds_toArray, List.set_cons_zero, List.set_cons_succ]
  replace FR0 := Lib.hid FR.out.le
  clear E
  go_upto_region 5 with fail
  refine wp_flow_new [] [(26, .int .i64 (mode : Int)), (27, .bool false), (28, .bool false), (29, .int .i64 (mode : Int)), (30, .bool false), (31, .bool false), (25, .bool false)] _ (by simp only [List.foldl_cons, List.foldl_nil, Act.put, List.setIfInBounds_toArray, List.set_cons_zero, List.set_cons_succ]; rfl) (by kernel_rfl) (by kernel_rfl) rfl ?_ ?_ ?_ ?_
  · intro W' hW'
    refine flowX_op ?_ ?_; (go_big_quiet_step (fail); (try simp only [Act.put, List.setIfInBounds_toArray, List.set_cons_zero, List.set_cons_succ]); exact wpQuiet_nil rfl)
    refine flowX_op ?_ ?_; (go_big_quiet_step (fail); (try simp only [Act.put, List.setIfInBounds_toArray, List.set_cons_zero, List.set_cons_succ]); exact wpQuiet_nil rfl)
    refine flowX_op ?_ ?_; (go_big_quiet_step (fail); (try simp only [Act.put, List.setIfInBounds_toArray, List.set_cons_zero, List.set_cons_succ]); exact wpQuiet_nil rfl)
    refine flowX_op ?_ ?_; (go_big_quiet_step (fail); (try simp only [Act.put, List.setIfInBounds_toArray, List.set_cons_zero, List.set_cons_succ]); exact wpQuiet_nil rfl)
    refine flowX_op ?_ ?_; (go_big_quiet_step (fail); (try simp only [Act.put, List.setIfInBounds_toArray, List.set_cons_zero, List.set_cons_succ]); exact wpQuiet_nil rfl)
    refine flowX_op ?_ ?_; (go_big_quiet_step (fail); (try simp only [Act.put, List.setIfInBounds_toArray, List.set_cons_zero, List.set_cons_succ]); exact wpQuiet_nil rfl)
    refine flowX_op ?_ ?_; (go_big_quiet_step (fail); (try simp only [Act.put, List.setIfInBounds_toArray, List.set_cons_zero, List.set_cons_succ]); exact wpQuiet_nil rfl)
    exact flowX_nil
  · exact forPl0
  · exact forPl0
  intro β wx3 E
  replace FR := Lib.hid (FR.out.flow_new E rfl)
  replace AB0 := Lib.hid (AB0.out.flow_new E rfl)
  replace AB1 := Lib.hid (AB1.out.flow_new E rfl)
  have hE := E.below rfl
  simp only [newPuts, List.foldl_cons, List.foldl_nil, if_true, Bool.false_eq_true, if_false, Act.put, List.setIfInBounds_toArray, List.set_cons_zero, List.set_cons_succ]
  replace FR0 := Lib.hid FR.out.le
  clear E
  clear m1 m2
  go_upto_region 7 with fail
  refine wp_flow_new [⟨true, 6, 8, 8, 0, 0, 51, 37, cm⟩, ⟨true, 7, 9, 9, 0, 0, 51, 38, cd⟩] [(34, .agg cr.toArray), (35, .int .i64 (k : Int)), (36, .tuple #[.agg cm.toArray, .agg cd.toArray]), (33, .tuple #[.agg cm.toArray, .agg cd.toArray]), (37, .agg cm.toArray), (38, .agg cd.toArray)] _ (by simp only [List.foldl_cons, List.foldl_nil, Act.put, List.setIfInBounds_toArray, List.set_cons_zero, List.set_cons_succ]; rfl) (by kernel_rfl) (by kernel_rfl) rfl ?_ ?_ ?_ ?_
  · intro W' hW'
    have rd0 := AB0.out.below hW'
    refine flowX_op (wpQuiet_load_g (by rfl) rfl rfl rd0 Try.underlying56 rfl (sizeR V_cr.out) (wpQuiet_nil (by simp only [Act.put, List.setIfInBounds_toArray, List.set_cons_zero, List.set_cons_succ]))) ?_
    refine flowX_op ?_ ?_; (go_big_quiet_step (fail); (try simp only [Act.put, List.setIfInBounds_toArray, List.set_cons_zero, List.set_cons_succ]); exact wpQuiet_nil rfl)
    refine flowX_op ?_ ?_; (go_big_quiet_step ((go_at_call 60; exact Calls.below_of (HSC.out _))); (try simp only [Act.put, List.setIfInBounds_toArray, List.set_cons_zero, List.set_cons_succ]); exact wpQuiet_nil rfl)
    refine flowX_op ?_ ?_; (go_big_quiet_step (fail); (try simp only [Act.put, List.setIfInBounds_toArray, List.set_cons_zero, List.set_cons_succ]); exact wpQuiet_nil rfl)
    refine flowX_op ?_ ?_; (go_big_quiet_step (fail); (try simp only [Act.put, List.setIfInBounds_toArray, List.set_cons_zero, List.set_cons_succ]); exact wpQuiet_nil rfl)
    refine flowX_op ?_ ?_; (go_big_quiet_step (fail); (try simp only [Act.put, List.setIfInBounds_toArray, List.set_cons_zero, List.set_cons_succ]); exact wpQuiet_nil rfl)
    refine flowX_skip (by rfl) ?_
    refine flowX_skip (by rfl) ?_
    refine flowX_skip (by rfl) ?_
    refine flowX_skip (by rfl) ?_
    exact flowX_nil
  · exact forPl _ _ (Try.alI (sizeI V_cm.out)) (forPl _ _ (Try.alI (sizeI V_cd.out)) (forPl0))
  · exact forPl _ _ (⟨rfl, (sizeI V_cm.out), (oneI V_cm.out)⟩) (forPl _ _ (⟨rfl, (sizeI V_cd.out), (oneI V_cd.out)⟩) (forPl0))
  intro β wx4 E
  replace FR := Lib.hid (FR.out.flow_new E rfl)
  obtain ⟨b8, hb8⟩ : ∃ b, b = β 6 := ⟨_, rfl⟩
  have eb8 := E.atNew (List.mem_cons_self ..) rfl
  simp only at eb8
  rw [← hb8] at eb8
  have lB0_b8 : B0 < b8 := by have h1 := eb8.1; have h2 := AB0.out.lt; omega
  have lB1_b8 : B1 < b8 := by have h1 := eb8.1; have h2 := AB1.out.lt; omega
  have hZb8 : B0 ≤ b8 := by have h1 := eb8.1; have h2 := FR0.out; omega
  obtain ⟨b9, hb9⟩ : ∃ b, b = β 7 := ⟨_, rfl⟩
  have eb9 := E.atNew (List.mem_cons_of_mem _ (List.mem_cons_self ..)) rfl
  simp only at eb9
  rw [← hb9] at eb9
  have lB0_b9 : B0 < b9 := by have h1 := eb9.1; have h2 := AB0.out.lt; omega
  have lB1_b9 : B1 < b9 := by have h1 := eb9.1; have h2 := AB1.out.lt; omega
  have hZb9 : B0 ≤ b9 := by have h1 := eb9.1; have h2 := FR0.out; omega
  have nb8_b9 : b8 ≠ b9 := fun e => absurd (E.apart _ (List.mem_cons_self ..) _ (List.mem_cons_of_mem _ (List.mem_cons_self ..)) rfl rfl (by rw [hb8, hb9] at e; exact e)) (show ¬ (6 : Nat) = 7 by decide)
  clear AB0
  replace AB1 := Lib.hid (AB1.out.flow_new E rfl)
  have Ab8 := Lib.hid eb8.2
  have Ab9 := Lib.hid eb9.2
  simp only [newPuts, List.foldl_cons, List.foldl_nil, if_true, Bool.false_eq_true, if_false, Act.put, List.setIfInBounds_toArray, List.set_cons_zero, List.set_cons_succ]
  rw [← hb8]
  rw [← hb9]
  replace FR0 := Lib.hid FR.out.le
  clear E eb8 hb8 eb9 hb9
  go_upto_region 8 with fail
  refine wp_flow_new [⟨true, 7, 10, 9, 0, 0, 51, 43, cq⟩, ⟨true, 8, 11, 10, 0, 0, 51, 44, ce⟩] [(40, .agg cm.toArray), (41, .agg cd.toArray), (42, .tuple #[.agg cq.toArray, .agg ce.toArray, .int .i64 0]), (39, .tuple #[.agg cq.toArray, .agg ce.toArray, .int .i64 0]), (43, .agg cq.toArray), (44, .agg ce.toArray), (45, .int .i64 0), (12, .int .i64 0)] _ (by simp only [List.foldl_cons, List.foldl_nil, Act.put, List.setIfInBounds_toArray, List.set_cons_zero, List.set_cons_succ]; rfl) (by kernel_rfl) (by kernel_rfl) rfl ?_ ?_ ?_ ?_
  · intro W' hW'
    have rd0 := Ab8.out.below hW'
    have rd1 := Ab9.out.below hW'
    refine flowX_op (wpQuiet_load_g (by rfl) rfl rfl rd0 Try.underlying51 rfl (sizeI V_cm.out) (wpQuiet_nil (by simp only [Act.put, List.setIfInBounds_toArray, List.set_cons_zero, List.set_cons_succ]))) ?_
    refine flowX_op (wpQuiet_load_g (by rfl) rfl rfl rd1 Try.underlying51 rfl (sizeI V_cd.out) (wpQuiet_nil (by simp only [Act.put, List.setIfInBounds_toArray, List.set_cons_zero, List.set_cons_succ]))) ?_
    refine flowX_op ?_ ?_; (go_big_quiet_step ((go_at_call 37; exact Calls.below_of (HDM.out _))); (try simp only [Act.put, List.setIfInBounds_toArray, List.set_cons_zero, List.set_cons_succ]); exact wpQuiet_nil rfl)
    refine flowX_op ?_ ?_; (go_big_quiet_step (fail); (try simp only [Act.put, List.setIfInBounds_toArray, List.set_cons_zero, List.set_cons_succ]); exact wpQuiet_nil rfl)
    refine flowX_op ?_ ?_; (go_big_quiet_step (fail); (try simp only [Act.put, List.setIfInBounds_toArray, List.set_cons_zero, List.set_cons_succ]); exact wpQuiet_nil rfl)
    refine flowX_op ?_ ?_; (go_big_quiet_step (fail); (try simp only [Act.put, List.setIfInBounds_toArray, List.set_cons_zero, List.set_cons_succ]); exact wpQuiet_nil rfl)
    refine flowX_op ?_ ?_; (go_big_quiet_step (fail); (try simp only [Act.put, List.setIfInBounds_toArray, List.set_cons_zero, List.set_cons_succ]); exact wpQuiet_nil rfl)
    refine flowX_skip (by rfl) ?_
    refine flowX_skip (by rfl) ?_
    refine flowX_skip (by rfl) ?_
    refine flowX_skip (by rfl) ?_
    refine flowX_op ?_ ?_; (go_big_quiet_step (fail); (try simp only [Act.put, List.setIfInBounds_toArray, List.set_cons_zero, List.set_cons_succ]); exact wpQuiet_nil rfl)
    exact flowX_nil
  · exact forPl _ _ (Try.alI (sizeI V_cq.out)) (forPl _ _ (Try.alI (sizeI V_ce.out)) (forPl0))
  · exact forPl _ _ (⟨rfl, (sizeI V_cq.out), (oneI V_cq.out)⟩) (forPl _ _ (⟨rfl, (sizeI V_ce.out), (oneI V_ce.out)⟩) (forPl0))
  intro β wx5 E
  replace FR := Lib.hid (FR.out.flow_new E rfl)
  obtain ⟨b10, hb10⟩ : ∃ b, b = β 7 := ⟨_, rfl⟩
  have eb10 := E.atNew (List.mem_cons_self ..) rfl
  simp only at eb10
  rw [← hb10] at eb10
  have lB1_b10 : B1 < b10 := by have h1 := eb10.1; have h2 := AB1.out.lt; omega
  have lb8_b10 : b8 < b10 := by have h1 := eb10.1; have h2 := Ab8.out.lt; omega
  have lb9_b10 : b9 < b10 := by have h1 := eb10.1; have h2 := Ab9.out.lt; omega
  have hZb10 : B0 ≤ b10 := by have h1 := eb10.1; have h2 := FR0.out; omega
  obtain ⟨b11, hb11⟩ : ∃ b, b = β 8 := ⟨_, rfl⟩
  have eb11 := E.atNew (List.mem_cons_of_mem _ (List.mem_cons_self ..)) rfl
  simp only at eb11
  rw [← hb11] at eb11
  have lB1_b11 : B1 < b11 := by have h1 := eb11.1; have h2 := AB1.out.lt; omega
  have lb8_b11 : b8 < b11 := by have h1 := eb11.1; have h2 := Ab8.out.lt; omega
  have lb9_b11 : b9 < b11 := by have h1 := eb11.1; have h2 := Ab9.out.lt; omega
  have hZb11 : B0 ≤ b11 := by have h1 := eb11.1; have h2 := FR0.out; omega
  have nb10_b11 : b10 ≠ b11 := fun e => absurd (E.apart _ (List.mem_cons_self ..) _ (List.mem_cons_of_mem _ (List.mem_cons_self ..)) rfl rfl (by rw [hb10, hb11] at e; exact e)) (show ¬ (7 : Nat) = 8 by decide)
  replace AB1 := Lib.hid (AB1.out.flow_new E rfl)
  replace Ab8 := Lib.hid (Ab8.out.flow_new E rfl)
  replace Ab9 := Lib.hid (Ab9.out.flow_new E rfl)
  have Ab10 := Lib.hid eb10.2
  have Ab11 := Lib.hid eb11.2
  simp only [newPuts, List.foldl_cons, List.foldl_nil, if_true, Bool.false_eq_true, if_false, Act.put, List.setIfInBounds_toArray, List.set_cons_zero, List.set_cons_succ]
  rw [← hb10]
  rw [← hb11]
  replace FR0 := Lib.hid FR.out.le
  clear E eb10 hb10 eb11 hb11
  go_upto_region 9 with fail
  by_cases hr0 : re = 0
  · have hse := HS0.out.1 hr0
    have HE := Lib.hid (HRC.out.1 hr0)
    clear hr0
    refine wp_flow_new [] [(46, .agg ce.toArray), (47, .int .i64 sg), (48, .bool true)] _ (by simp only [List.foldl_cons, List.foldl_nil, Act.put, List.setIfInBounds_toArray, List.set_cons_zero, List.set_cons_succ]; rfl) (by kernel_rfl) (by kernel_rfl) rfl ?_ ?_ ?_ ?_
    · intro W' hW'
      have rd0 := Ab11.out.below hW'
      refine flowX_op (wpQuiet_load_g (by rfl) rfl rfl rd0 Try.underlying51 rfl (sizeI V_ce.out) (wpQuiet_nil (by simp only [Act.put, List.setIfInBounds_toArray, List.set_cons_zero, List.set_cons_succ]))) ?_
      refine flowX_op ?_ ?_; (go_big_quiet_step ((go_at_call 39; exact Calls.below_of (HSR.out _))); (try simp only [Act.put, List.setIfInBounds_toArray, List.set_cons_zero, List.set_cons_succ]); exact wpQuiet_nil rfl)
      refine flowX_op ?_ ?_; (go_big_quiet_step (fail); (try simp only [Act.put, List.setIfInBounds_toArray, List.set_cons_zero, List.set_cons_succ]); exact wpQuiet_nil rfl)
      exact flowX_nil
    · exact forPl0
    · exact forPl0
    intro β wx6 E
    replace FR := Lib.hid (FR.out.flow_new E rfl)
    replace AB1 := Lib.hid (AB1.out.flow_new E rfl)
    replace Ab8 := Lib.hid (Ab8.out.flow_new E rfl)
    replace Ab9 := Lib.hid (Ab9.out.flow_new E rfl)
    replace Ab10 := Lib.hid (Ab10.out.flow_new E rfl)
    replace Ab11 := Lib.hid (Ab11.out.flow_new E rfl)
    have hE := E.below rfl
    simp only [newPuts, List.foldl_cons, List.foldl_nil, if_true, Bool.false_eq_true, if_false, Act.put, List.setIfInBounds_toArray, List.set_cons_zero, List.set_cons_succ]
    replace FR0 := Lib.hid FR.out.le
    clear E
    clear hse
    go_upto_region 10 with fail
    refine wp_flow [⟨false, 0, 6, 1, B1, 0, 51, 49, cq⟩] [(49, .agg cq.toArray), (7, .int .i64 0)] _ (by simp only [List.foldl_cons, List.foldl_nil, Act.put, List.setIfInBounds_toArray, List.set_cons_zero, List.set_cons_succ]; rfl) (by kernel_rfl) (by kernel_rfl) ?_ ?_ ?_ ?_ ?_ ?_ ?_
    · intro W' hW'
      have rd0 := Ab10.out.below hW'
      refine flowX_op (wpQuiet_load_g (by rfl) rfl rfl rd0 Try.underlying51 rfl (sizeI V_cq.out) (wpQuiet_nil (by simp only [Act.put, List.setIfInBounds_toArray, List.set_cons_zero, List.set_cons_succ]))) ?_
      refine flowX_skip (by rfl) ?_
      refine flowX_op ?_ ?_; (go_big_quiet_step (fail); (try simp only [Act.put, List.setIfInBounds_toArray, List.set_cons_zero, List.set_cons_succ]); exact wpQuiet_nil rfl)
      exact flowX_nil
    · intro W' hK'
      have rd0 := At.keep hK' Ab10.out (forPl _ _ (fun _ => (by show B1 ≠ b10; omega)) (forPl0))
      refine flowX_op (wpQuiet_load_g (by rfl) rfl rfl rd0 Try.underlying51 rfl (sizeI V_cq.out) (wpQuiet_nil (by simp only [Act.put, List.setIfInBounds_toArray, List.set_cons_zero, List.set_cons_succ]))) ?_
      refine flowX_skip (by kernel_rfl) ?_
      first | (refine flowX_op ?_ ?_; (go_big_quiet_step (fail); (try simp only [Act.put, List.setIfInBounds_toArray, List.set_cons_zero, List.set_cons_succ]); exact wpQuiet_nil rfl)) | (refine flowX_skip (by kernel_rfl) ?_)
      exact flowX_nil
    · exact forPl _ _ (fun h => Bool.noConfusion h) (forPl0)
    · exact forPl _ _ (fun _ => ⟨AB1.out.lt, rfl, At.room AB1.out (sizeI V_cz.out) (sizeI V_cq.out)⟩) (forPl0)
    · intro q hq r hr hqn hrn e
      simp only [List.mem_cons, List.not_mem_nil, or_false] at hq hr
      rcases hq with rfl <;> rcases hr with rfl <;> first | rfl | (exact Bool.noConfusion hqn) | (exact Bool.noConfusion hrn) | (exfalso; simp only at e; omega)
    · exact forPl _ _ (⟨rfl, (sizeI V_cq.out), (oneI V_cq.out)⟩) (forPl0)
    intro β wx7 E
    replace FR := Lib.hid (FR.out.flow E (forPl _ _ (fun _ => (by show B0 ≤ B1; omega)) (forPl0)))
    replace AB1 := Lib.hid (show At wx7 B1 0 cq from E.atOld (List.mem_cons_self ..) rfl AB1.out.lt)
    replace Ab8 := Lib.hid (At.flow E Ab8.out (forPl _ _ (fun _ => (by show B1 ≠ b8; omega)) (forPl0)))
    replace Ab9 := Lib.hid (At.flow E Ab9.out (forPl _ _ (fun _ => (by show B1 ≠ b9; omega)) (forPl0)))
    replace Ab10 := Lib.hid (At.flow E Ab10.out (forPl _ _ (fun _ => (by show B1 ≠ b10; omega)) (forPl0)))
    replace Ab11 := Lib.hid (At.flow E Ab11.out (forPl _ _ (fun _ => (by show B1 ≠ b11; omega)) (forPl0)))
    simp only [newPuts, List.foldl_cons, List.foldl_nil, if_true, Bool.false_eq_true, if_false, Act.put, List.setIfInBounds_toArray, List.set_cons_zero, List.set_cons_succ]
    replace FR0 := Lib.hid FR.out.le
    clear E
    have HEV := Lib.hid (show cq = cv by have := HE.out; simp only [Prod.mk.injEq] at this; rw [V_cq.out, V_cv.out, this.1, this.2])
    rw [HEV.out] at AB1
    go_wp2_with fail
    have hld := AB1.out.read (P := Try.prog) Try.underlying51 rfl (sizeI V_cv.out)
    refine bodyPost_ret (v := .tuple #[.agg cv.toArray, .int .i64 0]) (by simp [results, Try.results51, asAddr, hld]) rfl ?_
    exact ⟨rfl, by rw [HB0.out] at FR; exact FR.out.below⟩
  · have hse := HS0.out.2.1 hr0
    have hsn := HS0.out.2.2 hr0
    have HR0 := Lib.hid hr0
    clear hr0
    refine wp_flow_new [] [(46, .agg ce.toArray), (47, .int .i64 sg), (48, .bool false)] _ (by simp only [List.foldl_cons, List.foldl_nil, Act.put, List.setIfInBounds_toArray, List.set_cons_zero, List.set_cons_succ]; rfl) (by kernel_rfl) (by kernel_rfl) rfl ?_ ?_ ?_ ?_
    · intro W' hW'
      have rd0 := Ab11.out.below hW'
      refine flowX_op (wpQuiet_load_g (by rfl) rfl rfl rd0 Try.underlying51 rfl (sizeI V_ce.out) (wpQuiet_nil (by simp only [Act.put, List.setIfInBounds_toArray, List.set_cons_zero, List.set_cons_succ]))) ?_
      refine flowX_op ?_ ?_; (go_big_quiet_step ((go_at_call 39; exact Calls.below_of (HSR.out _))); (try simp only [Act.put, List.setIfInBounds_toArray, List.set_cons_zero, List.set_cons_succ]); exact wpQuiet_nil rfl)
      refine flowX_op ?_ ?_; (go_big_quiet_step (fail); (try simp only [Act.put, List.setIfInBounds_toArray, List.set_cons_zero, List.set_cons_succ]); exact wpQuiet_nil rfl)
      exact flowX_nil
    · exact forPl0
    · exact forPl0
    intro β wx6 E
    replace FR := Lib.hid (FR.out.flow_new E rfl)
    replace AB1 := Lib.hid (AB1.out.flow_new E rfl)
    replace Ab8 := Lib.hid (Ab8.out.flow_new E rfl)
    replace Ab9 := Lib.hid (Ab9.out.flow_new E rfl)
    replace Ab10 := Lib.hid (Ab10.out.flow_new E rfl)
    replace Ab11 := Lib.hid (Ab11.out.flow_new E rfl)
    have hE := E.below rfl
    simp only [newPuts, List.foldl_cons, List.foldl_nil, if_true, Bool.false_eq_true, if_false, Act.put, List.setIfInBounds_toArray, List.set_cons_zero, List.set_cons_succ]
    replace FR0 := Lib.hid FR.out.le
    clear E
    clear hse
    go_upto_region 11 with fail
    refine wp_flow_new [⟨true, 6, 13, 7, 0, 0, 51, 54, c2⟩] [(51, .agg ce.toArray), (52, .agg ce.toArray), (53, .tuple #[.agg c2.toArray, .int .i64 0]), (50, .tuple #[.agg c2.toArray, .int .i64 0]), (54, .agg c2.toArray), (55, .int .i64 0), (14, .int .i64 0)] _ (by simp only [List.foldl_cons, List.foldl_nil, Act.put, List.setIfInBounds_toArray, List.set_cons_zero, List.set_cons_succ]; rfl) (by kernel_rfl) (by kernel_rfl) rfl ?_ ?_ ?_ ?_
    · intro W' hW'
      have rd0 := Ab11.out.below hW'
      refine flowX_op (wpQuiet_load_g (by rfl) rfl rfl rd0 Try.underlying51 rfl (sizeI V_ce.out) (wpQuiet_nil (by simp only [Act.put, List.setIfInBounds_toArray, List.set_cons_zero, List.set_cons_succ]))) ?_
      refine flowX_op (wpQuiet_load_g (by rfl) rfl rfl rd0 Try.underlying51 rfl (sizeI V_ce.out) (wpQuiet_nil (by simp only [Act.put, List.setIfInBounds_toArray, List.set_cons_zero, List.set_cons_succ]))) ?_
      refine flowX_op ?_ ?_; (go_big_quiet_step ((go_at_call 61; exact Calls.below_of (HAD.out _))); (try simp only [Act.put, List.setIfInBounds_toArray, List.set_cons_zero, List.set_cons_succ]); exact wpQuiet_nil rfl)
      refine flowX_op ?_ ?_; (go_big_quiet_step (fail); (try simp only [Act.put, List.setIfInBounds_toArray, List.set_cons_zero, List.set_cons_succ]); exact wpQuiet_nil rfl)
      refine flowX_op ?_ ?_; (go_big_quiet_step (fail); (try simp only [Act.put, List.setIfInBounds_toArray, List.set_cons_zero, List.set_cons_succ]); exact wpQuiet_nil rfl)
      refine flowX_op ?_ ?_; (go_big_quiet_step (fail); (try simp only [Act.put, List.setIfInBounds_toArray, List.set_cons_zero, List.set_cons_succ]); exact wpQuiet_nil rfl)
      refine flowX_skip (by rfl) ?_
      refine flowX_skip (by rfl) ?_
      refine flowX_op ?_ ?_; (go_big_quiet_step (fail); (try simp only [Act.put, List.setIfInBounds_toArray, List.set_cons_zero, List.set_cons_succ]); exact wpQuiet_nil rfl)
      exact flowX_nil
    · exact forPl _ _ (Try.alI (sizeI V_c2.out)) (forPl0)
    · exact forPl _ _ (⟨rfl, (sizeI V_c2.out), (oneI V_c2.out)⟩) (forPl0)
    intro β wx7 E
    replace FR := Lib.hid (FR.out.flow_new E rfl)
    obtain ⟨b13, hb13⟩ : ∃ b, b = β 6 := ⟨_, rfl⟩
    have eb13 := E.atNew (List.mem_cons_self ..) rfl
    simp only at eb13
    rw [← hb13] at eb13
    have lB1_b13 : B1 < b13 := by have h1 := eb13.1; have h2 := AB1.out.lt; omega
    have lb8_b13 : b8 < b13 := by have h1 := eb13.1; have h2 := Ab8.out.lt; omega
    have lb9_b13 : b9 < b13 := by have h1 := eb13.1; have h2 := Ab9.out.lt; omega
    have lb10_b13 : b10 < b13 := by have h1 := eb13.1; have h2 := Ab10.out.lt; omega
    have lb11_b13 : b11 < b13 := by have h1 := eb13.1; have h2 := Ab11.out.lt; omega
    have hZb13 : B0 ≤ b13 := by have h1 := eb13.1; have h2 := FR0.out; omega
    replace AB1 := Lib.hid (AB1.out.flow_new E rfl)
    replace Ab8 := Lib.hid (Ab8.out.flow_new E rfl)
    replace Ab9 := Lib.hid (Ab9.out.flow_new E rfl)
    replace Ab10 := Lib.hid (Ab10.out.flow_new E rfl)
    replace Ab11 := Lib.hid (Ab11.out.flow_new E rfl)
    have Ab13 := Lib.hid eb13.2
    simp only [newPuts, List.foldl_cons, List.foldl_nil, if_true, Bool.false_eq_true, if_false, Act.put, List.setIfInBounds_toArray, List.set_cons_zero, List.set_cons_succ]
    rw [← hb13]
    replace FR0 := Lib.hid FR.out.le
    clear E eb13 hb13
    go_upto_region 12 with fail
    refine wp_flow_new [] [(56, .int .i64 (mode : Int)), (57, .agg cm.toArray), (58, .int .i64 sn), (59, .bool n), (60, .agg c2.toArray), (61, .agg cd.toArray), (62, .int .i64 cz'), (63, .pointer (some ⟨b10, 1, none⟩)), (64, .pointer (some ⟨b10, 1, none⟩)), (65, .int .u32 (lo : Int)), (66, .int .u32 o2), (67, .bool odd), (68, .bool up)] _ (by simp only [List.foldl_cons, List.foldl_nil, Act.put, List.setIfInBounds_toArray, List.set_cons_zero, List.set_cons_succ]; rfl) (by kernel_rfl) (by kernel_rfl) rfl ?_ ?_ ?_ ?_
    · intro W' hW'
      have rd0 := Ab8.out.below hW'
      have rd1 := Ab13.out.below hW'
      have rd2 := Ab9.out.below hW'
      have cl9 := fun p os => cell_gw ((Ab10.out.below hW').low V_cq.out HLO.out) p os
      refine flowX_op ?_ ?_; (go_big_quiet_step (fail); (try simp only [Act.put, List.setIfInBounds_toArray, List.set_cons_zero, List.set_cons_succ]); exact wpQuiet_nil rfl)
      refine flowX_op (wpQuiet_load_g (by rfl) rfl rfl rd0 Try.underlying51 rfl (sizeI V_cm.out) (wpQuiet_nil (by simp only [Act.put, List.setIfInBounds_toArray, List.set_cons_zero, List.set_cons_succ]))) ?_
      refine flowX_op ?_ ?_; (go_big_quiet_step ((go_at_call 39; exact Calls.below_of (HSN.out _))); (try simp only [Act.put, List.setIfInBounds_toArray, List.set_cons_zero, List.set_cons_succ]); exact wpQuiet_nil rfl)
      refine flowX_op ?_ ?_; (go_big_quiet_step (fail); (try simp only [Act.put, List.setIfInBounds_toArray, List.set_cons_zero, List.set_cons_succ]); exact wpQuiet_nil rfl)
      refine flowX_op (wpQuiet_load_g (by rfl) rfl rfl rd1 Try.underlying51 rfl (sizeI V_c2.out) (wpQuiet_nil (by simp only [Act.put, List.setIfInBounds_toArray, List.set_cons_zero, List.set_cons_succ]))) ?_
      refine flowX_op (wpQuiet_load_g (by rfl) rfl rfl rd2 Try.underlying51 rfl (sizeI V_cd.out) (wpQuiet_nil (by simp only [Act.put, List.setIfInBounds_toArray, List.set_cons_zero, List.set_cons_succ]))) ?_
      refine flowX_op ?_ ?_; (go_big_quiet_step ((go_at_call 63; exact Calls.below_of (HCM.out _))); (try simp only [Act.put, List.setIfInBounds_toArray, List.set_cons_zero, List.set_cons_succ]); exact wpQuiet_nil rfl)
      refine flowX_op ?_ ?_; (go_big_quiet_step (fail); (try simp only [Act.put, List.setIfInBounds_toArray, List.set_cons_zero, List.set_cons_succ]); exact wpQuiet_nil rfl)
      refine flowX_op ?_ ?_; (go_big_quiet_step (fail); (try simp only [Act.put, List.setIfInBounds_toArray, List.set_cons_zero, List.set_cons_succ]); exact wpQuiet_nil rfl)
      refine flowX_op ?_ ?_; (go_big_quiet_step (fail); (try simp only [Act.put, List.setIfInBounds_toArray, List.set_cons_zero, List.set_cons_succ]); exact wpQuiet_nil rfl)
      refine flowX_op ?_ ?_; (go_big_quiet_step (fail); (try simp only [Act.put, List.setIfInBounds_toArray, List.set_cons_zero, List.set_cons_succ]); exact wpQuiet_nil rfl)
      refine flowX_op ?_ ?_; (go_big_quiet_step (fail); (try simp only [Act.put, List.setIfInBounds_toArray, List.set_cons_zero, List.set_cons_succ]); exact wpQuiet_nil rfl)
      refine flowX_op ?_ ?_; (go_big_quiet_step ((go_at_call 62; exact Calls.below_of (HAB.out _))); (try simp only [Act.put, List.setIfInBounds_toArray, List.set_cons_zero, List.set_cons_succ]); exact wpQuiet_nil rfl)
      exact flowX_nil
    · exact forPl0
    · exact forPl0
    intro β wx8 E
    replace FR := Lib.hid (FR.out.flow_new E rfl)
    replace AB1 := Lib.hid (AB1.out.flow_new E rfl)
    replace Ab8 := Lib.hid (Ab8.out.flow_new E rfl)
    replace Ab9 := Lib.hid (Ab9.out.flow_new E rfl)
    replace Ab10 := Lib.hid (Ab10.out.flow_new E rfl)
    replace Ab11 := Lib.hid (Ab11.out.flow_new E rfl)
    replace Ab13 := Lib.hid (Ab13.out.flow_new E rfl)
    have hE := E.below rfl
    simp only [newPuts, List.foldl_cons, List.foldl_nil, if_true, Bool.false_eq_true, if_false, Act.put, List.setIfInBounds_toArray, List.set_cons_zero, List.set_cons_succ]
    replace FR0 := Lib.hid FR.out.le
    clear E
    clear hsn hr1 hr2 hodd
    cases up with
    | true =>
      go_upto_region 13 with fail
      refine wp_flow [⟨false, 0, 10, 6, b10, 0, 51, 73, cv⟩] [(70, .agg cq.toArray), (71, .agg co.toArray), (72, .tuple #[.agg cv.toArray, .int .i64 0]), (69, .tuple #[.agg cv.toArray, .int .i64 0]), (73, .agg cv.toArray), (74, .int .i64 0)] _ (by simp only [List.foldl_cons, List.foldl_nil, Act.put, List.setIfInBounds_toArray, List.set_cons_zero, List.set_cons_succ]; rfl) (by kernel_rfl) (by kernel_rfl) ?_ ?_ ?_ ?_ ?_ ?_ ?_
      · intro W' hW'
        have rd0 := Ab10.out.below hW'
        refine flowX_op (wpQuiet_load_g (by rfl) rfl rfl rd0 Try.underlying51 rfl (sizeI V_cq.out) (wpQuiet_nil (by simp only [Act.put, List.setIfInBounds_toArray, List.set_cons_zero, List.set_cons_succ]))) ?_
        refine flowX_op ?_ ?_; (go_big_quiet_step ((go_at_call 33; exact Calls.below_of (HFI.out _))); (try simp only [Act.put, List.setIfInBounds_toArray, List.set_cons_zero, List.set_cons_succ]); exact wpQuiet_nil rfl)
        refine flowX_op ?_ ?_; (go_big_quiet_step ((go_at_call 61; exact Calls.below_of (HA2.out HR0.out rfl _))); (try simp only [Act.put, List.setIfInBounds_toArray, List.set_cons_zero, List.set_cons_succ]); exact wpQuiet_nil rfl)
        refine flowX_op ?_ ?_; (go_big_quiet_step (fail); (try simp only [Act.put, List.setIfInBounds_toArray, List.set_cons_zero, List.set_cons_succ]); exact wpQuiet_nil rfl)
        refine flowX_op ?_ ?_; (go_big_quiet_step (fail); (try simp only [Act.put, List.setIfInBounds_toArray, List.set_cons_zero, List.set_cons_succ]); exact wpQuiet_nil rfl)
        refine flowX_op ?_ ?_; (go_big_quiet_step (fail); (try simp only [Act.put, List.setIfInBounds_toArray, List.set_cons_zero, List.set_cons_succ]); exact wpQuiet_nil rfl)
        refine flowX_skip (by rfl) ?_
        exact flowX_nil
      · intro W' hK'
        refine flowX_skip (by kernel_rfl) ?_
        refine flowX_skip (by kernel_rfl) ?_
        refine flowX_skip (by kernel_rfl) ?_
        first | (refine flowX_op ?_ ?_; (go_big_quiet_step (fail); (try simp only [Act.put, List.setIfInBounds_toArray, List.set_cons_zero, List.set_cons_succ]); exact wpQuiet_nil rfl)) | (refine flowX_skip (by kernel_rfl) ?_)
        first | (refine flowX_op ?_ ?_; (go_big_quiet_step (fail); (try simp only [Act.put, List.setIfInBounds_toArray, List.set_cons_zero, List.set_cons_succ]); exact wpQuiet_nil rfl)) | (refine flowX_skip (by kernel_rfl) ?_)
        first | (refine flowX_op ?_ ?_; (go_big_quiet_step (fail); (try simp only [Act.put, List.setIfInBounds_toArray, List.set_cons_zero, List.set_cons_succ]); exact wpQuiet_nil rfl)) | (refine flowX_skip (by kernel_rfl) ?_)
        refine flowX_skip (by kernel_rfl) ?_
        exact flowX_nil
      · exact forPl _ _ (fun h => Bool.noConfusion h) (forPl0)
      · exact forPl _ _ (fun _ => ⟨Ab10.out.lt, rfl, At.room Ab10.out (sizeI V_cq.out) (sizeI V_cv.out)⟩) (forPl0)
      · intro q hq r hr hqn hrn e
        simp only [List.mem_cons, List.not_mem_nil, or_false] at hq hr
        rcases hq with rfl <;> rcases hr with rfl <;> first | rfl | (exact Bool.noConfusion hqn) | (exact Bool.noConfusion hrn) | (exfalso; simp only at e; omega)
      · exact forPl _ _ (⟨rfl, (sizeI V_cv.out), (oneI V_cv.out)⟩) (forPl0)
      intro β wx9 E
      replace FR := Lib.hid (FR.out.flow E (forPl _ _ (fun _ => (by show B0 ≤ b10; omega)) (forPl0)))
      replace AB1 := Lib.hid (At.flow E AB1.out (forPl _ _ (fun _ => (by show b10 ≠ B1; omega)) (forPl0)))
      replace Ab8 := Lib.hid (At.flow E Ab8.out (forPl _ _ (fun _ => (by show b10 ≠ b8; omega)) (forPl0)))
      replace Ab9 := Lib.hid (At.flow E Ab9.out (forPl _ _ (fun _ => (by show b10 ≠ b9; omega)) (forPl0)))
      replace Ab10 := Lib.hid (show At wx9 b10 0 cv from E.atOld (List.mem_cons_self ..) rfl Ab10.out.lt)
      replace Ab11 := Lib.hid (At.flow E Ab11.out (forPl _ _ (fun _ => (by show b10 ≠ b11; omega)) (forPl0)))
      replace Ab13 := Lib.hid (At.flow E Ab13.out (forPl _ _ (fun _ => (by show b10 ≠ b13; omega)) (forPl0)))
      simp only [newPuts, List.foldl_cons, List.foldl_nil, if_true, Bool.false_eq_true, if_false, Act.put, List.setIfInBounds_toArray, List.set_cons_zero, List.set_cons_succ]
      replace FR0 := Lib.hid FR.out.le
      clear E
      go_upto_region 14 with fail
      refine wp_flow [⟨false, 0, 6, 1, B1, 0, 51, 75, cv⟩] [(75, .agg cv.toArray), (7, .int .i64 0)] _ (by simp only [List.foldl_cons, List.foldl_nil, Act.put, List.setIfInBounds_toArray, List.set_cons_zero, List.set_cons_succ]; rfl) (by kernel_rfl) (by kernel_rfl) ?_ ?_ ?_ ?_ ?_ ?_ ?_
      · intro W' hW'
        have rd0 := Ab10.out.below hW'
        refine flowX_op (wpQuiet_load_g (by rfl) rfl rfl rd0 Try.underlying51 rfl (sizeI V_cv.out) (wpQuiet_nil (by simp only [Act.put, List.setIfInBounds_toArray, List.set_cons_zero, List.set_cons_succ]))) ?_
        refine flowX_skip (by rfl) ?_
        refine flowX_op ?_ ?_; (go_big_quiet_step (fail); (try simp only [Act.put, List.setIfInBounds_toArray, List.set_cons_zero, List.set_cons_succ]); exact wpQuiet_nil rfl)
        exact flowX_nil
      · intro W' hK'
        have rd0 := At.keep hK' Ab10.out (forPl _ _ (fun _ => (by show B1 ≠ b10; omega)) (forPl0))
        refine flowX_op (wpQuiet_load_g (by rfl) rfl rfl rd0 Try.underlying51 rfl (sizeI V_cv.out) (wpQuiet_nil (by simp only [Act.put, List.setIfInBounds_toArray, List.set_cons_zero, List.set_cons_succ]))) ?_
        refine flowX_skip (by kernel_rfl) ?_
        first | (refine flowX_op ?_ ?_; (go_big_quiet_step (fail); (try simp only [Act.put, List.setIfInBounds_toArray, List.set_cons_zero, List.set_cons_succ]); exact wpQuiet_nil rfl)) | (refine flowX_skip (by kernel_rfl) ?_)
        exact flowX_nil
      · exact forPl _ _ (fun h => Bool.noConfusion h) (forPl0)
      · exact forPl _ _ (fun _ => ⟨AB1.out.lt, rfl, At.room AB1.out (sizeI V_cz.out) (sizeI V_cv.out)⟩) (forPl0)
      · intro q hq r hr hqn hrn e
        simp only [List.mem_cons, List.not_mem_nil, or_false] at hq hr
        rcases hq with rfl <;> rcases hr with rfl <;> first | rfl | (exact Bool.noConfusion hqn) | (exact Bool.noConfusion hrn) | (exfalso; simp only at e; omega)
      · exact forPl _ _ (⟨rfl, (sizeI V_cv.out), (oneI V_cv.out)⟩) (forPl0)
      intro β wx10 E
      replace FR := Lib.hid (FR.out.flow E (forPl _ _ (fun _ => (by show B0 ≤ B1; omega)) (forPl0)))
      replace AB1 := Lib.hid (show At wx10 B1 0 cv from E.atOld (List.mem_cons_self ..) rfl AB1.out.lt)
      replace Ab8 := Lib.hid (At.flow E Ab8.out (forPl _ _ (fun _ => (by show B1 ≠ b8; omega)) (forPl0)))
      replace Ab9 := Lib.hid (At.flow E Ab9.out (forPl _ _ (fun _ => (by show B1 ≠ b9; omega)) (forPl0)))
      replace Ab10 := Lib.hid (At.flow E Ab10.out (forPl _ _ (fun _ => (by show B1 ≠ b10; omega)) (forPl0)))
      replace Ab11 := Lib.hid (At.flow E Ab11.out (forPl _ _ (fun _ => (by show B1 ≠ b11; omega)) (forPl0)))
      replace Ab13 := Lib.hid (At.flow E Ab13.out (forPl _ _ (fun _ => (by show B1 ≠ b13; omega)) (forPl0)))
      simp only [newPuts, List.foldl_cons, List.foldl_nil, if_true, Bool.false_eq_true, if_false, Act.put, List.setIfInBounds_toArray, List.set_cons_zero, List.set_cons_succ]
      replace FR0 := Lib.hid FR.out.le
      clear E
      go_wp2_with fail
      have hld := AB1.out.read (P := Try.prog) Try.underlying51 rfl (sizeI V_cv.out)
      refine bodyPost_ret (v := .tuple #[.agg cv.toArray, .int .i64 0]) (by simp [results, Try.results51, asAddr, hld]) rfl ?_
      exact ⟨rfl, by rw [HB0.out] at FR; exact FR.out.below⟩
    | false =>
      go_upto_region 14 with fail
      refine wp_flow [⟨false, 0, 6, 1, B1, 0, 51, 75, cq⟩] [(75, .agg cq.toArray), (7, .int .i64 0)] _ (by simp only [List.foldl_cons, List.foldl_nil, Act.put, List.setIfInBounds_toArray, List.set_cons_zero, List.set_cons_succ]; rfl) (by kernel_rfl) (by kernel_rfl) ?_ ?_ ?_ ?_ ?_ ?_ ?_
      · intro W' hW'
        have rd0 := Ab10.out.below hW'
        refine flowX_op (wpQuiet_load_g (by rfl) rfl rfl rd0 Try.underlying51 rfl (sizeI V_cq.out) (wpQuiet_nil (by simp only [Act.put, List.setIfInBounds_toArray, List.set_cons_zero, List.set_cons_succ]))) ?_
        refine flowX_skip (by rfl) ?_
        refine flowX_op ?_ ?_; (go_big_quiet_step (fail); (try simp only [Act.put, List.setIfInBounds_toArray, List.set_cons_zero, List.set_cons_succ]); exact wpQuiet_nil rfl)
        exact flowX_nil
      · intro W' hK'
        have rd0 := At.keep hK' Ab10.out (forPl _ _ (fun _ => (by show B1 ≠ b10; omega)) (forPl0))
        refine flowX_op (wpQuiet_load_g (by rfl) rfl rfl rd0 Try.underlying51 rfl (sizeI V_cq.out) (wpQuiet_nil (by simp only [Act.put, List.setIfInBounds_toArray, List.set_cons_zero, List.set_cons_succ]))) ?_
        refine flowX_skip (by kernel_rfl) ?_
        first | (refine flowX_op ?_ ?_; (go_big_quiet_step (fail); (try simp only [Act.put, List.setIfInBounds_toArray, List.set_cons_zero, List.set_cons_succ]); exact wpQuiet_nil rfl)) | (refine flowX_skip (by kernel_rfl) ?_)
        exact flowX_nil
      · exact forPl _ _ (fun h => Bool.noConfusion h) (forPl0)
      · exact forPl _ _ (fun _ => ⟨AB1.out.lt, rfl, At.room AB1.out (sizeI V_cz.out) (sizeI V_cq.out)⟩) (forPl0)
      · intro q hq r hr hqn hrn e
        simp only [List.mem_cons, List.not_mem_nil, or_false] at hq hr
        rcases hq with rfl <;> rcases hr with rfl <;> first | rfl | (exact Bool.noConfusion hqn) | (exact Bool.noConfusion hrn) | (exfalso; simp only at e; omega)
      · exact forPl _ _ (⟨rfl, (sizeI V_cq.out), (oneI V_cq.out)⟩) (forPl0)
      intro β wx9 E
      replace FR := Lib.hid (FR.out.flow E (forPl _ _ (fun _ => (by show B0 ≤ B1; omega)) (forPl0)))
      replace AB1 := Lib.hid (show At wx9 B1 0 cq from E.atOld (List.mem_cons_self ..) rfl AB1.out.lt)
      replace Ab8 := Lib.hid (At.flow E Ab8.out (forPl _ _ (fun _ => (by show B1 ≠ b8; omega)) (forPl0)))
      replace Ab9 := Lib.hid (At.flow E Ab9.out (forPl _ _ (fun _ => (by show B1 ≠ b9; omega)) (forPl0)))
      replace Ab10 := Lib.hid (At.flow E Ab10.out (forPl _ _ (fun _ => (by show B1 ≠ b10; omega)) (forPl0)))
      replace Ab11 := Lib.hid (At.flow E Ab11.out (forPl _ _ (fun _ => (by show B1 ≠ b11; omega)) (forPl0)))
      replace Ab13 := Lib.hid (At.flow E Ab13.out (forPl _ _ (fun _ => (by show B1 ≠ b13; omega)) (forPl0)))
      simp only [newPuts, List.foldl_cons, List.foldl_nil, if_true, Bool.false_eq_true, if_false, Act.put, List.setIfInBounds_toArray, List.set_cons_zero, List.set_cons_succ]
      replace FR0 := Lib.hid FR.out.le
      clear E
      have HEV := Lib.hid (show cq = cv by have := HRC.out.2.1 HR0.out rfl; simp only [Prod.mk.injEq] at this; rw [V_cq.out, V_cv.out, this.1, this.2])
      rw [HEV.out] at AB1
      go_wp2_with fail
      have hld := AB1.out.read (P := Try.prog) Try.underlying51 rfl (sizeI V_cv.out)
      refine bodyPost_ret (v := .tuple #[.agg cv.toArray, .int .i64 0]) (by simp [results, Try.results51, asAddr, hld]) rfl ?_
      exact ⟨rfl, by rw [HB0.out] at FR; exact FR.out.below⟩
end Go.Proofs.Ytnkmhbiklffjlaa
