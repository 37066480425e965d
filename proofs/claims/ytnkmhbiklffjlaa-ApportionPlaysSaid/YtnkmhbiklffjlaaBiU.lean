/- fundadminref04.Spread of valid weights: walked. -/
import Derived.Test.YtnkmhbiklffjlaaBiT
set_option linter.unusedVariables false
set_option linter.unusedSimpArgs false
namespace Go.Proofs.Ytnkmhbiklffjlaa
open Go.RowKit Big Ap

/-- what a function gives that appends: a slice and what it reads -/
def OutV (n : Nat) (l : List Int) (w : World) (e : Ending) (w' : World) : Prop :=
  ∃ v, e = .returned (.tuple #[v, .int .i64 0]) ∧ Reads w' 1 v n (l.map (Value.int .i64)) ∧ Below w.heap.size w w'
theorem own_grown {W wr w' : World} {v : Value} {n : Nat} {t : TypeId} {xs : List Value} (h : Below W.heap.size W wr) (ho : wr.ownsRow W.heap.size t 1 v n xs) (hg : wr.grownBy w' v.ownBlock) : Below W.heap.size W w' :=
  h.trans ⟨hg.os, hg.tape, hg.output, hg.size, fun k hk => hg.block k (by have := h.size; omega) (fun e => by have := (ho.lt k e.symm).1; omega)⟩
theorem small_b480 {x : Nat} (h : x < BB ^ 4) : x < B480 := Nat.lt_of_lt_of_le h (Nat.pow_le_pow_right BB_pos (by omega))
theorem mul_b4 {a b : Nat} (ha : a < 9223372036854775808) (hb : b < 9223372036854775808) : a * b < BB ^ 4 := by
  have h1 : a * b < BB ^ 2 * BB ^ 2 := Nat.mul_lt_mul'' (two_lt (by omega)) (two_lt (by omega))
  rwa [← Nat.pow_add] at h1
set_option maxRecDepth 100000 in
set_option maxHeartbeats 8000000 in
theorem spread4_any (T : Int) (n : Nat) (ws : List Nat) (L : List Int) (v : Value) (w : World) (hL : L = if T < 0 then (spreadL T.natAbs (sumL ws) 0 0 ws).map (- ·) else spreadL T.natAbs (sumL ws) 0 0 ws) (h : Valid w v n ws) (hpos : 0 < sumL ws) (ht1 : -1000000000000000 ≤ T) (ht2 : T ≤ 1000000000000000) :
    Calls Try.prog 16 #[.int .i64 T, v] w (OutV n L w) := by
  obtain ⟨s, hs⟩ : ∃ s, s = sumL ws := ⟨_, rfl⟩
  have hsb := h.sum
  have h1 := h.pos
  have h2 := h.small
  have HCK := Lib.hid (check4_ok n ws v w h)
  have HF := Lib.hid (fun W => far_ok T W ht1 ht2)
  rw [← hs] at HCK hsb hpos hL
  have HLD := Lib.hid (show L = listS T T.natAbs s ws n by rw [hL]; exact (listS_full T s n ws hpos h.len).symm)
  have hs0 : ((s : Int) == 0) = false := beq_eq_false_iff_ne.2 (by omega)
  obtain ⟨gv, off, cap, rfl, hc⟩ := h.reads.some (by omega)
  have HC := Lib.hid hc
  have HV := Lib.hid h
  have HS := Lib.hid (And.intro hs (And.intro hpos hsb))
  have HT := Lib.hid (And.intro ht1 ht2)
  obtain ⟨ct, V_ct⟩ : ∃ c : List Value, Hid (c = .bool (decide (T < 0)) :: lv 32 T.natAbs) := ⟨_, Lib.hid rfl⟩
  obtain ⟨cs, V_cs⟩ : ∃ c : List Value, Hid (c = .bool false :: lv 32 s) := ⟨_, Lib.hid rfl⟩
  have HFT := Lib.hid (from_op (z := T) V_ct.out rfl rfl (by omega) (by omega))
  have HFS := Lib.hid (from_op (z := (s : Int)) V_cs.out (by symm; exact decide_eq_false (by omega)) (by omega) (by omega) (by omega))
  clear hL h hs hc hpos hsb ht1 ht2
  obtain ⟨B0, hB0⟩ : ∃ B, B = w.heap.size := ⟨_, rfl⟩
  have FR := Lib.hid (show Fr B0 w w by rw [hB0]; exact Fr.start w)
  have HB0 := Lib.hid hB0
  go_enter Try.func16, Try.ntmps16
  go_wp2_with fail
  refine HCK.out.mono ?_
  rintro e w' ⟨rfl, rfl⟩
  go_wp2_with fail
  refine (HF.out _).mono ?_
  rintro e w' ⟨rfl, rfl⟩
  go_wp2
  clear hB0
  go_loopg [8, 9, 10, 11] n (fun m lv bv sv iv wr => ∃ i : Nat, iv = .int .i64 i ∧ i ≤ n ∧ n ≤ m + i ∧ sv = .int .i64 ((sumL (ws.take i) : Nat) : Int) ∧ bv = .int .i64 (sgnd T (rnd T.natAbs s (sumL (ws.take i)) : Int)) ∧ wr.ownsRow B0 3 1 lv i ((listS T T.natAbs s ws i).map (Value.int .i64)) ∧ Fr B0 w wr)
  case atStart => exact ⟨0, rfl, by omega, by omega, by simp [sumL], by rw [List.take_zero, show sumL ([] : List Nat) = 0 from rfl, rnd_zero _ _ HS.out.2.1]; unfold sgnd; split <;> rfl, World.ownsRow_nil _ _ _ _, FR.out⟩
  case round =>
    obtain ⟨i, rfl, hi, hm, rfl, rfl, hown, hfr⟩ := hrel
    have HO := Lib.hid hown
    replace FR := Lib.hid hfr
    clear hown hfr
    by_cases hin : i < n
    · obtain ⟨x, hx⟩ : ∃ x, ws[i]? = some x := ⟨ws[i]'(by have := HV.out.len; omega), List.getElem?_eq_getElem _⟩
      have hgv : gv < w.heap.size := World.block_lt_of_cell? w _ (HC.out i (.int .i64 (x : Int)) (by simp [hx]))
      have hcx : wr.cell? ⟨gv, off + i, none⟩ = some (.int .i64 (x : Int)) := by
        rw [FR.out.below.cell (p := ⟨gv, off + i, none⟩) (by rw [HB0.out]; exact hgv)]
        exact HC.out i _ (by simp [hx])
      obtain ⟨s0, hs0'⟩ : ∃ q, q = sumL (ws.take i) := ⟨_, rfl⟩
      obtain ⟨so, hso⟩ : ∃ q, q = sumL (ws.take (i + 1)) := ⟨_, rfl⟩
      have hss : so = s0 + x := by rw [hso, hs0']; exact take_sum hx
      have hle : so ≤ s := by rw [hso, HS.out.1]; exact sumL_take_le ws (i + 1)
      have hsb := HS.out.2.2
      have wq : IntKind.i64.wrap ((s0 : Int) + (x : Int)) = (so : Int) := by rw [IntWalk.i64_in _ (by omega)]; omega
      obtain ⟨bf, hbf⟩ : ∃ q, q = sgnd T (rnd T.natAbs s s0 : Int) := ⟨_, rfl⟩
      obtain ⟨z, hz⟩ : ∃ q, q = sgnd T (rnd T.natAbs s so : Int) := ⟨_, rfl⟩
      have sb : ∀ c, c ≤ s → -1000000000000000 ≤ sgnd T (rnd T.natAbs s c : Int) ∧ sgnd T (rnd T.natAbs s c : Int) ≤ 1000000000000000 := fun c hc => by
        have := rnd_le_t T.natAbs s c hc HS.out.2.1
        have := HT.out
        unfold sgnd; split <;> omega
      have zb : -1000000000000000 ≤ z ∧ z ≤ 1000000000000000 := by rw [hz]; exact sb so hle
      have bb : -1000000000000000 ≤ bf ∧ bf ≤ 1000000000000000 := by rw [hbf]; exact sb s0 (by omega)
      have wd : IntKind.i64.wrap (z - bf) = z - bf := IntWalk.i64_in _ (by omega)
      rw [← hs0', ← hbf]
      obtain ⟨X, hX⟩ : ∃ X, X = T.natAbs * so := ⟨_, rfl⟩
      obtain ⟨g, hg⟩ : ∃ g, g = Nat.gcd X s := ⟨_, rfl⟩
      obtain ⟨p, hp⟩ : ∃ p, p = X / g := ⟨_, rfl⟩
      obtain ⟨q, hq⟩ : ∃ q, q = s / g := ⟨_, rfl⟩
      obtain ⟨sx, hsx⟩ : ∃ b, b = cs1 (decide (T < 0)) X := ⟨_, rfl⟩
      obtain ⟨sn, hsn⟩ : ∃ b, b = cs1 sx p := ⟨_, rfl⟩
      have hXb : X < BB ^ 4 := by rw [hX]; exact mul_b4 (by have := HT.out; omega) (by omega)
      have hsB : s < BB ^ 4 := Nat.lt_of_lt_of_le (two_lt (by omega)) (Nat.pow_le_pow_right BB_pos (by omega))
      have hval := spread_val T so s g p q sn HS.out.2.1 (by rw [hg, hX]) (by rw [hp, hX]) hq (by rw [hsn, hsx, hX])
      have hpb : p < B480 := small_b480 (by rw [hp]; exact Nat.lt_of_le_of_lt (Nat.div_le_self _ _) hXb)
      have hqb : q < B480 := small_b480 (by rw [hq]; exact Nat.lt_of_le_of_lt (Nat.div_le_self _ _) hsB)
      obtain ⟨co, V_co⟩ : ∃ c : List Value, Hid (c = .bool false :: lv 32 so) := ⟨_, Lib.hid rfl⟩
      obtain ⟨cx, V_cx⟩ : ∃ c : List Value, Hid (c = .bool sx :: lv 32 X) := ⟨_, Lib.hid rfl⟩
      obtain ⟨cr, V_cr⟩ : ∃ c : List Value, Hid (c = rat sn p false q) := ⟨_, Lib.hid rfl⟩
      have HFO := Lib.hid (from_op (z := (so : Int)) V_co.out (by symm; exact decide_eq_false (by omega)) (by omega) (by omega) (by omega))
      have HM := Lib.hid (mul_op V_ct.out V_co.out V_cx.out hX (by rw [hsx, show ∀ b : Bool, (b != false) = b from fun b => by cases b <;> rfl]) (small_bb (by have := HT.out; omega)) (small_bb (by omega)) (b480_bb (small_b480 hXb)))
      have HMK := Lib.hid (make_op (n := sn) V_cx.out V_cs.out V_cr.out (by rw [hsn, show (sx != false) = sx by cases sx <;> rfl]) hg hp hq (b480_bb (small_b480 hXb)) (b480_bb (small_b480 hsB)) (by have := HS.out; omega) hpb hqb)
      have HR := Lib.hid (show ∀ W, Calls Try.prog 35 #[.agg cr.toArray, .int .i64 0, .int .i64 6] W (fun e w' => e = .returned (.tuple #[.int .i64 z, .int .i64 0]) ∧ Below W.heap.size W w') from rndint_op (k := 0) (mode := 6) V_cr.out hval.2.1 hpb hqb hval.2.2.1 hval.2.2.2 (by omega) (by omega) (by omega) (by rw [hz]; exact hval.1) zb.1 zb.2)
      have HNX := Lib.hid (show (listS T T.natAbs s ws (i + 1)).map (Value.int .i64) = (listS T T.natAbs s ws i).map (Value.int .i64) ++ [.int .i64 (z - bf)] by
        rw [listS_succ, List.map_append, hz, hbf, hs0', hso]; rfl)
      have HSO := Lib.hid (And.intro hso hz)
      have FR2 := Lib.hid (Fr.start wr)
      have FR0 := Lib.hid FR.out.le
      clear hx hgv hs0' hso hss hle hsb hbf hz sb zb bb hX hg hp hq hsx hsn hXb hsB hval hpb hqb
      go_upto_region 14 with fail
      refine wp_flow_new [⟨true, 8, 12, 9, 0, 0, 51, 51, cx⟩] [(46, .int .i64 T), (47, .agg ct.toArray), (48, .int .i64 (so : Int)), (49, .agg co.toArray), (50, .tuple #[.agg cx.toArray, .int .i64 0]), (45, .tuple #[.agg cx.toArray, .int .i64 0]), (51, .agg cx.toArray), (52, .int .i64 0), (13, .int .i64 0)] _ (by simp only [List.foldl_cons, List.foldl_nil, Act.put, List.setIfInBounds_toArray, List.set_cons_zero, List.set_cons_succ]; rfl) (by kernel_rfl) (by kernel_rfl) rfl ?_ ?_ ?_ ?_
      · intro W' hW'
        refine flowX_op ?_ ?_; (go_big_quiet_step (fail); (try simp only [Act.put, List.setIfInBounds_toArray, List.set_cons_zero, List.set_cons_succ]); exact wpQuiet_nil rfl)
        refine flowX_op ?_ ?_; (go_big_quiet_step ((go_at_call 33; exact Calls.below_of (HFT.out _))); (try simp only [Act.put, List.setIfInBounds_toArray, List.set_cons_zero, List.set_cons_succ]); exact wpQuiet_nil rfl)
        refine flowX_op ?_ ?_; (go_big_quiet_step (fail); (try simp only [Act.put, List.setIfInBounds_toArray, List.set_cons_zero, List.set_cons_succ]); exact wpQuiet_nil rfl)
        refine flowX_op ?_ ?_; (go_big_quiet_step ((go_at_call 33; exact Calls.below_of (HFO.out _))); (try simp only [Act.put, List.setIfInBounds_toArray, List.set_cons_zero, List.set_cons_succ]); exact wpQuiet_nil rfl)
        refine flowX_op ?_ ?_; (go_big_quiet_step ((go_at_call 32; exact Calls.below_of (HM.out _))); (try simp only [Act.put, List.setIfInBounds_toArray, List.set_cons_zero, List.set_cons_succ]); exact wpQuiet_nil rfl)
        refine flowX_op ?_ ?_; (go_big_quiet_step (fail); (try simp only [Act.put, List.setIfInBounds_toArray, List.set_cons_zero, List.set_cons_succ]); exact wpQuiet_nil rfl)
        refine flowX_op ?_ ?_; (go_big_quiet_step (fail); (try simp only [Act.put, List.setIfInBounds_toArray, List.set_cons_zero, List.set_cons_succ]); exact wpQuiet_nil rfl)
        refine flowX_op ?_ ?_; (go_big_quiet_step (fail); (try simp only [Act.put, List.setIfInBounds_toArray, List.set_cons_zero, List.set_cons_succ]); exact wpQuiet_nil rfl)
        refine flowX_skip (by rfl) ?_
        refine flowX_skip (by rfl) ?_
        refine flowX_op ?_ ?_; (go_big_quiet_step (fail); (try simp only [Act.put, List.setIfInBounds_toArray, List.set_cons_zero, List.set_cons_succ]); exact wpQuiet_nil rfl)
        exact flowX_nil
      · exact forPl _ _ (Try.alI (sizeI V_cx.out)) (forPl0)
      · exact forPl _ _ (⟨rfl, (sizeI V_cx.out), (oneI V_cx.out)⟩) (forPl0)
      intro β wx1 E
      replace FR := Lib.hid (FR.out.flow_new E rfl)
      replace FR2 := Lib.hid (FR2.out.flow_new E rfl)
      obtain ⟨b12, hb12⟩ : ∃ b, b = β 8 := ⟨_, rfl⟩
      have eb12 := E.atNew (List.mem_cons_self ..) rfl
      simp only at eb12
      rw [← hb12] at eb12
      have hZb12 : B0 ≤ b12 := by have h1 := eb12.1; have h2 := FR0.out; omega
      have Ab12 := Lib.hid eb12.2
      simp only [newPuts, List.foldl_cons, List.foldl_nil, if_true, Bool.false_eq_true, if_false, Act.put, List.setIfInBounds_toArray, List.set_cons_zero, List.set_cons_succ]
      rw [← hb12]
      replace FR0 := Lib.hid FR.out.le
      clear E eb12 hb12
      go_upto_region 15 with fail
      refine wp_flow_new [⟨true, 7, 14, 8, 0, 0, 56, 58, cr⟩] [(54, .agg cx.toArray), (55, .int .i64 (s : Int)), (56, .agg cs.toArray), (57, .tuple #[.agg cr.toArray, .int .i64 0]), (53, .tuple #[.agg cr.toArray, .int .i64 0]), (58, .agg cr.toArray), (59, .int .i64 0), (15, .int .i64 0)] _ (by simp only [List.foldl_cons, List.foldl_nil, Act.put, List.setIfInBounds_toArray, List.set_cons_zero, List.set_cons_succ]; rfl) (by kernel_rfl) (by kernel_rfl) rfl ?_ ?_ ?_ ?_
      · intro W' hW'
        have rd0 := Ab12.out.below hW'
        refine flowX_op (wpQuiet_load_g (by rfl) rfl rfl rd0 Try.underlying51 rfl (sizeI V_cx.out) (wpQuiet_nil (by simp only [Act.put, List.setIfInBounds_toArray, List.set_cons_zero, List.set_cons_succ]))) ?_
        refine flowX_op ?_ ?_; (go_big_quiet_step (fail); (try simp only [Act.put, List.setIfInBounds_toArray, List.set_cons_zero, List.set_cons_succ]); exact wpQuiet_nil rfl)
        refine flowX_op ?_ ?_; (go_big_quiet_step ((go_at_call 33; exact Calls.below_of (HFS.out _))); (try simp only [Act.put, List.setIfInBounds_toArray, List.set_cons_zero, List.set_cons_succ]); exact wpQuiet_nil rfl)
        refine flowX_op ?_ ?_; (go_big_quiet_step ((go_at_call 34; exact Calls.below_of (HMK.out _))); (try simp only [Act.put, List.setIfInBounds_toArray, List.set_cons_zero, List.set_cons_succ]); exact wpQuiet_nil rfl)
        refine flowX_op ?_ ?_; (go_big_quiet_step (fail); (try simp only [Act.put, List.setIfInBounds_toArray, List.set_cons_zero, List.set_cons_succ]); exact wpQuiet_nil rfl)
        refine flowX_op ?_ ?_; (go_big_quiet_step (fail); (try simp only [Act.put, List.setIfInBounds_toArray, List.set_cons_zero, List.set_cons_succ]); exact wpQuiet_nil rfl)
        refine flowX_op ?_ ?_; (go_big_quiet_step (fail); (try simp only [Act.put, List.setIfInBounds_toArray, List.set_cons_zero, List.set_cons_succ]); exact wpQuiet_nil rfl)
        refine flowX_skip (by rfl) ?_
        refine flowX_skip (by rfl) ?_
        refine flowX_op ?_ ?_; (go_big_quiet_step (fail); (try simp only [Act.put, List.setIfInBounds_toArray, List.set_cons_zero, List.set_cons_succ]); exact wpQuiet_nil rfl)
        exact flowX_nil
      · exact forPl _ _ (Try.alR (sizeR V_cr.out)) (forPl0)
      · exact forPl _ _ (⟨rfl, (sizeR V_cr.out), (oneR V_cr.out)⟩) (forPl0)
      intro β wx2 E
      replace FR := Lib.hid (FR.out.flow_new E rfl)
      replace FR2 := Lib.hid (FR2.out.flow_new E rfl)
      obtain ⟨b14, hb14⟩ : ∃ b, b = β 7 := ⟨_, rfl⟩
      have eb14 := E.atNew (List.mem_cons_self ..) rfl
      simp only at eb14
      rw [← hb14] at eb14
      have lb12_b14 : b12 < b14 := by have h1 := eb14.1; have h2 := Ab12.out.lt; omega
      have hZb14 : B0 ≤ b14 := by have h1 := eb14.1; have h2 := FR0.out; omega
      replace Ab12 := Lib.hid (Ab12.out.flow_new E rfl)
      have Ab14 := Lib.hid eb14.2
      simp only [newPuts, List.foldl_cons, List.foldl_nil, if_true, Bool.false_eq_true, if_false, Act.put, List.setIfInBounds_toArray, List.set_cons_zero, List.set_cons_succ]
      rw [← hb14]
      replace FR0 := Lib.hid FR.out.le
      clear E eb14 hb14
      go_upto_region 16 with fail
      refine wp_flow_new [] [(61, .agg cr.toArray), (62, .tuple #[.int .i64 z, .int .i64 0]), (60, .tuple #[.int .i64 z, .int .i64 0]), (63, .int .i64 z), (64, .int .i64 0), (16, .int .i64 z), (17, .int .i64 0)] _ (by simp only [List.foldl_cons, List.foldl_nil, Act.put, List.setIfInBounds_toArray, List.set_cons_zero, List.set_cons_succ]; rfl) (by kernel_rfl) (by kernel_rfl) rfl ?_ ?_ ?_ ?_
      · intro W' hW'
        have rd0 := Ab14.out.below hW'
        refine flowX_op (wpQuiet_load_g (by rfl) rfl rfl rd0 Try.underlying56 rfl (sizeR V_cr.out) (wpQuiet_nil (by simp only [Act.put, List.setIfInBounds_toArray, List.set_cons_zero, List.set_cons_succ]))) ?_
        refine flowX_op ?_ ?_; (go_big_quiet_step ((go_at_call 35; exact Calls.below_of (HR.out _))); (try simp only [Act.put, List.setIfInBounds_toArray, List.set_cons_zero, List.set_cons_succ]); exact wpQuiet_nil rfl)
        refine flowX_op ?_ ?_; (go_big_quiet_step (fail); (try simp only [Act.put, List.setIfInBounds_toArray, List.set_cons_zero, List.set_cons_succ]); exact wpQuiet_nil rfl)
        refine flowX_op ?_ ?_; (go_big_quiet_step (fail); (try simp only [Act.put, List.setIfInBounds_toArray, List.set_cons_zero, List.set_cons_succ]); exact wpQuiet_nil rfl)
        refine flowX_op ?_ ?_; (go_big_quiet_step (fail); (try simp only [Act.put, List.setIfInBounds_toArray, List.set_cons_zero, List.set_cons_succ]); exact wpQuiet_nil rfl)
        refine flowX_op ?_ ?_; (go_big_quiet_step (fail); (try simp only [Act.put, List.setIfInBounds_toArray, List.set_cons_zero, List.set_cons_succ]); exact wpQuiet_nil rfl)
        refine flowX_op ?_ ?_; (go_big_quiet_step (fail); (try simp only [Act.put, List.setIfInBounds_toArray, List.set_cons_zero, List.set_cons_succ]); exact wpQuiet_nil rfl)
        exact flowX_nil
      · exact forPl0
      · exact forPl0
      intro β wx3 E
      replace FR := Lib.hid (FR.out.flow_new E rfl)
      replace FR2 := Lib.hid (FR2.out.flow_new E rfl)
      replace Ab12 := Lib.hid (Ab12.out.flow_new E rfl)
      replace Ab14 := Lib.hid (Ab14.out.flow_new E rfl)
      have hE := E.below rfl
      simp only [newPuts, List.foldl_cons, List.foldl_nil, if_true, Bool.false_eq_true, if_false, Act.put, List.setIfInBounds_toArray, List.set_cons_zero, List.set_cons_succ]
      replace FR0 := Lib.hid FR.out.le
      clear E
      obtain ⟨wy, hwy⟩ : ∃ wy, wy = wx3 := ⟨_, rfl⟩
      rw [← hwy] at FR FR2 ⊢
      have HOY := Lib.hid (ownsRow_below HO.out FR2.out.below)
      clear HO hwy
      obtain ⟨i0, hi0, hz0, hz1, hz2⟩ := info_parts Try.info3
      go_wp2_with (at_builtin; refine wpList_append_own _ rfl _ _ 22 rfl B0 3 i0 _ 1 8 Try.underlying22 hi0 hz0 hz1 hz2 rfl (by decide) u8 _ _ rfl (HOY.out.alloc _) ⟨wy.heap.size, 0, none⟩ 1 1 [.int .i64 (z - bf)] rfl rfl ?_ ?_ ?_ ?_ ?_ ?_; (intro j u hu; exact cells_new wy [.int .i64 (z - bf)] 3 j u hu); (simp [Value.oneCell']); exact small_maxLen (by omega); omega; (simp; have := FR.out.le; omega); intro v' w6 hown' hgrow _)
      have HW := Lib.hid (show w6.ownsRow B0 3 1 v' (i + 1) ((listS T T.natAbs s ws (i + 1)).map (Value.int .i64)) by rw [HNX.out]; exact hown')
      have hb6 : Below w.heap.size w w6 := own_grown (wr := wy.alloc (.cells #[.int .i64 (z - bf)] 3)) (by have := (FR.out.alloc (.cells #[.int .i64 (z - bf)] 3)).below; rwa [HB0.out] at this) (by have := HOY.out.alloc (.cells #[.int .i64 (z - bf)] 3); rwa [HB0.out] at this) hgrow
      have HFR6 := Lib.hid (show Fr B0 w w6 from ⟨by rw [HB0.out]; exact hb6, by rw [HB0.out]; exact hb6.size⟩)
      clear hown' hgrow hb6
      go_roundg (gk - 1)
      case measure => omega
      case rel => exact ⟨i + 1, by go_num, by omega, by omega, by rw [← HSO.out.1], by rw [← HSO.out.1, ← HSO.out.2], HW.out, HFR6.out⟩
    · have hi2 : i = n := by omega
      subst hi2
      have HLR := Lib.hid (show (listS T T.natAbs s ws i).map (Value.int .i64) = L.map (Value.int .i64) by rw [HLD.out])
      go_wp2
      go_ret2
      exact ⟨_, rfl, by rw [← HLR.out]; exact Reads.of_own HO.out, by have := FR.out.below; rwa [HB0.out] at this⟩
end Go.Proofs.Ytnkmhbiklffjlaa
