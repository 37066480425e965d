import Derived.Test.YtmcekgapelanhaaAlI
import Derived.Test.YtmcekgapelanhaaQrB
import Derived.Test.YtmcekgapelanhaaAlE
import Derived.BigQuiet
import Derived.Deep.CutRange
set_option linter.unusedVariables false
set_option linter.unusedSimpArgs false
set_option maxRecDepth 100000
namespace Go.Proofs.Ytmcekgapelanhaa
open Go.RowKit Big
open Al Tok Ap
namespace Al
def kA : Bk := ⟨⟨#[97]⟩, 100, 0, -1, 0⟩
def kB : Bk := ⟨⟨#[98]⟩, 200, 100, 0, 0⟩
def kL : List Bk := [kA, kB]
def sA : Sh := ⟨⟨#[97]⟩, 100, -1, 10, 109⟩
def sB : Sh := ⟨⟨#[98]⟩, 300, 0, 31, 331⟩
theorem k_check : checkB kL = true := by
  refine check_of (by decide) (by decide) ?_ ?_
  · intro b hb
    simp only [kL, List.mem_cons, List.not_mem_nil, or_false] at hb
    rcases hb with rfl | rfl
    · exact ⟨nmAt_name 0, by unfold kA; decide, by unfold kA; decide, by unfold kA; decide, by unfold kA; decide, by unfold kA; decide⟩
    · exact ⟨nmAt_name 1, by unfold kB; decide, by unfold kB; decide, by unfold kB; decide, by unfold kB; decide, by unfold kB; decide⟩
  · intro k b hk
    match k with
    | 0 => simp [kL] at hk; rw [← hk]; rfl
    | 1 => simp [kL] at hk; rw [← hk]; rfl
    | k + 2 => simp [kL] at hk
theorem k_parts : Parts 41 [100, 300] [10, 31] := by
  refine ⟨[1, 0], by decide, List.pairwise_pair.2 (by unfold R; decide), rfl, ?_⟩
  intro i hi
  match i with
  | 0 => rfl
  | 1 => rfl
  | k + 2 => simp at hi; omega
theorem k_alloc {r : Int × List Sh} (h : AllocR 440 kL r) : r = (0, [sA, sB]) := by
  have hc : comm 440 kL = 41 := by decide
  have hs : sumO kL = 400 := by decide
  have hres : ∀ rs, Res (comm 440 kL) (kL.map Bk.op) rs → rs = [10, 31] := by
    intro rs h
    rw [hc] at h
    refine res_unique h ?_
    unfold Res
    rw [if_neg (by decide)]
    exact ⟨[10, 31], k_parts, rfl⟩
  cases h with
  | tot h => exact absurd h (by decide)
  | cap _ h => rw [hs] at h; exact absurd h (by decide)
  | far _ _ h => rw [hc] at h; exact absurd h (by decide)
  | net rs s _ _ _ h hm hn =>
    rw [hres rs h] at hm
    simp only [shL, kL, List.zipWith_cons_cons, List.zipWith_nil_right, List.mem_cons, List.not_mem_nil, or_false] at hm
    rcases hm with rfl | rfl <;> exact absurd hn (by decide)
  | ok rs _ _ _ h _ =>
    rw [hres rs h]; rfl
theorem k_exact : exactR (440, 1) kL = (0, [(437, 4), (1323, 4)]) := by kernel_rfl
theorem k_mk : mkQ 437 4 = some (437, 4) := by kernel_rfl
theorem k_vq : VQ (437, 4) := ⟨by unfold B480; decide, by unfold B480; decide, by decide, by decide⟩
end Al
set_option maxHeartbeats 8000000 in
theorem known_any (w : World) : Calls Try.prog 10 #[] w fun e w' => e = .returned (.bool true) ∧ Below w.heap.size w w' := by
  have HS := Lib.hid (fun (v : Value) (w : World) (h : BksAt w v kL) => alloc_any 440 kL v w h k_check)
  obtain ⟨ct, V_ct⟩ : ∃ c : List Value, Hid (c = ratZ 440 1) := ⟨_, Lib.hid rfl⟩
  obtain ⟨cs, V_cs⟩ : ∃ c : List Value, Hid (c = sA.cells) := ⟨_, Lib.hid rfl⟩
  obtain ⟨cR, V_cR⟩ : ∃ c : List Value, Hid (c = ratZ 437 4) := ⟨_, Lib.hid rfl⟩
  have HE := Lib.hid (fun (v : Value) (w : World) (h : BksAt w v kL) => exact_any (440, 1) kL v w h k_check (vq_whole (by omega) (by omega)) V_ct.out)
  have HW := Lib.hid (rwholeZ V_ct.out (by omega) (by omega))
  have HO := Lib.hid (mofQ (cR := cR) (x := 437) (y := 4) (d := 4) rfl (by omega) (by rw [k_mk]; exact V_cR.out) (by omega) (by omega) (by omega))
  have HC := Lib.hid (fun W => show Calls Try.prog 20 #[.slice none 0 0] W (fun e w' => e = .returned (.int .i64 210) ∧ Below W.heap.size W w') from acheck_any (.slice none 0 0) [] W (rd_nil W 5))
  obtain ⟨B0, hB0⟩ : ∃ B, B = w.heap.size := ⟨_, rfl⟩
  go_enter Try.func10, Try.ntmps10
  go_upto_region 2 with (refine wpList_buildRows rfl (s := 5) [kA.cells, kB.cells] rfl (by simp [Act.eval, Act.put, kA, kB, Bk.cells]) rfl (by decide) (by decide) (by intro c hc; simp only [List.mem_cons, List.not_mem_nil, or_false] at hc; rcases hc with rfl | rfl <;> rfl) (by decide) Try.underlying26 (by kernel_rfl) (by kernel_rfl) ?_)
  obtain ⟨W1, hW1⟩ : ∃ W, W = w.alloc (.cells (kA.cells ++ kB.cells).toArray 30) := ⟨_, rfl⟩
  have HB1 := Lib.hid (show BksAt W1 (.slice (some ⟨B0, 0, none⟩) 2 2) kL by rw [hW1, hB0]; exact rd_fresh w 5 2 (cellsB kL) _ (by omega) rfl)
  have HF1 := Lib.hid (show Below w.heap.size w W1 by rw [hW1]; exact (Below.refl _ _).alloc (Nat.le_refl _) _)
  have HB0 := Lib.hid hB0
  rw [← hW1, ← hB0]
  clear hW1 hB0
  go_wp2_with (go_at_call 9; refine (HS.out _ _ HB1.out).mono ?_; rintro e w2 ⟨vs, r, hr, rfl, hrd, hb2⟩)
  obtain rfl := k_alloc hr
  obtain ⟨g1, o1, c1, rfl, hcs⟩ := shs_some hrd (by decide)
  have HB2 := Lib.hid (HB1.out.below hb2)
  have HF2 := Lib.hid (HF1.out.trans (hb2.mono HF1.out.size))
  have s0 : w2.rangeAt g1 o1 sA.cells := fun j u hu => by have := hcs 0 sA rfl j u hu; simpa using this
  have HS0 := Lib.hid (show w2.rangeAt g1 o1 cs by rw [V_cs.out]; exact s0)
  have HS1 := Lib.hid (show w2.cell? ⟨g1, o1 + 9, none⟩ = some (.int .i64 331) from hcs 1 sB rfl 4 _ rfl)
  clear hr hrd hb2 s0 hcs
  go_upto_region 4 with (first | (go_at_call 13; refine (HW.out _).mono ?_; rintro e w3 ⟨rfl, hb3⟩) | (go_at_call 12; refine (HE.out _ _ (HB2.out.below hb3)).mono ?_; rintro e w4 ⟨vx, rfl, hrx, _, hb4⟩))
  rw [k_exact] at hrx ⊢
  obtain ⟨g2, o2, c2, rfl, hcx⟩ := qs_some hrx (by decide)
  have HX0 := Lib.hid (show w4.rangeAt g2 o2 cR by rw [V_cR.out]; exact fun j u hu => by have := hcx 0 (437, 4) rfl j u hu; simpa using this)
  have hF3 := HF2.out.trans (hb3.mono HF2.out.size)
  have HF4 := Lib.hid (hF3.trans (hb4.mono hF3.size))
  replace HS0 := Lib.hid (ranges_up (ranges_up HS0.out hb3) hb4)
  replace HS1 := Lib.hid (cell_up (cell_up HS1.out hb3) hb4)
  clear hrx hcx hb3 hb4 hF3
  simp only [List.length_cons, List.length_nil, Nat.zero_add, Nat.reduceAdd]
  replace HB0 := Lib.hid (show B0 = w.heap.size from HB0.out)
  have FR := Lib.hid (show Fr w.heap.size w w4 from ⟨HF4.out, HF4.out.size⟩)
  have FR0 := Lib.hid FR.out.le
  refine wp_flow_new [] [(20, .int .i64 0), (21, .bool true), (22, .bool true), (23, .slice (some ⟨g1, o1, none⟩) 2 c1), (24, .int .i64 2), (25, .bool true), (26, .bool true), (27, .bool true), (28, .slice (some ⟨g1, o1, none⟩) 2 c1), (29, .pointer (some ⟨g1, o1, none⟩)), (30, .agg cs.toArray), (31, .agg cs.toArray), (32, .bool true), (33, .bool true), (34, .bool true), (35, .slice (some ⟨g1, o1, none⟩) 2 c1), (36, .pointer (some ⟨g1, o1 + 5, none⟩)), (37, .pointer (some ⟨g1, o1 + 5 + 4, none⟩)), (38, .int .i64 331), (39, .bool true), (40, .bool true), (41, .bool true), (42, .int .i64 0), (43, .bool true), (44, .bool true), (45, .bool true), (46, .slice (some ⟨g2, o2, none⟩) 2 c2), (47, .int .i64 2), (48, .bool true), (49, .bool true), (50, .bool true), (51, .slice (some ⟨g2, o2, none⟩) 2 c2), (52, .pointer (some ⟨g2, o2, none⟩)), (53, .agg cR.toArray), (54, .agg cR.toArray), (55, .bool true), (56, .bool true), (57, .bool true), (58, .int .i64 210), (59, .bool true), (60, .bool true), (0, .bool true)] _ (by simp only [zz4, zz5, Act.put, zz1, zz2, zz3]; rfl) (by kernel_rfl) (by kernel_rfl) rfl ?_ ?_ ?_ ?_
  · intro W' hW'
    have rs := ranges_up HS0.out hW'
    have s1 := cell_up HS1.out hW'
    have rx := ranges_up HX0.out hW'
    iterate 10 (refine fxo ?_ ?_; (go_big_quiet_step (fail); (try simp only [Act.put, zz1, zz2, zz3]); exact wqn rfl))
    refine fxo (wlq (by rfl) _ _ rfl _ _ rfl _ _ rs Try.underlying38 rfl (sizeSh V_cs.out) (wqn (by simp only [Act.put, zz1, zz2, zz3]))) ?_
    refine fxo (wpQuiet_build_g (by rfl) _ _ rfl _ rfl _ (built_Sh (V_cs.out.trans rfl)) (wqn (by simp only [Act.put, zz1, zz2, zz3]))) ?_
    refine fxo (wqs (by rfl) rfl rfl rfl (by kernel_rfl) (eqS V_cs.out) (wqn (by simp only [Act.put, zz1, zz2, zz3]))) ?_
    iterate 5 (refine fxo ?_ ?_; (go_big_quiet_step (fail); (try simp only [Act.put, zz1, zz2, zz3]); exact wqn rfl))
    refine fxo (wcg (by rfl) rfl rfl (fun W h => by simp [loadVar, h, go_sem]) s1 (wqn (by simp only [Act.put, zz1, zz2, zz3]))) ?_
    iterate 14 (refine fxo ?_ ?_; (go_big_quiet_step (fail); (try simp only [Act.put, zz1, zz2, zz3]); exact wqn rfl))
    refine fxo (wlq (by rfl) _ _ rfl _ _ rfl _ _ rx Try.underlying49 rfl (sizeR V_cR.out) (wqn (by simp only [Act.put, zz1, zz2, zz3]))) ?_
    refine fxo ?_ ?_; (go_big_quiet_step ((go_at_call 16; exact Calls.below_of (HO.out _))); (try simp only [Act.put, zz1, zz2, zz3]); exact wqn rfl)
    refine fxo (wqs (by rfl) rfl rfl rfl (by kernel_rfl) (eqQ (r := (437, 4)) V_cR.out k_vq) (wqn (by simp only [Act.put, zz1, zz2, zz3]))) ?_
    iterate 2 (refine fxo ?_ ?_; (go_big_quiet_step (fail); (try simp only [Act.put, zz1, zz2, zz3]); exact wqn rfl))
    refine fxo ?_ ?_; (go_big_quiet_step ((go_at_call 20; exact Calls.below_of (HC.out _))); (try simp only [Act.put, zz1, zz2, zz3]); exact wqn rfl)
    iterate 3 (refine fxo ?_ ?_; (go_big_quiet_step (fail); (try simp only [Act.put, zz1, zz2, zz3]); exact wqn rfl))
    exact fxn
  · exact forPl0
  · exact forPl0
  intro β wx1 E
  replace FR := Lib.hid (FR.out.fnw E rfl)
  have hE := E.below rfl
  simp only [newPuts, zz4, zz5, if_true, Bool.false_eq_true, if_false, Act.put, zz1, zz2, zz3]
  replace FR0 := Lib.hid FR.out.le
  clear E
  go_wp2
  go_ret
  exact ⟨rfl, FR.out.below⟩
end Go.Proofs.Ytmcekgapelanhaa
namespace Go.Proofs.Ytmcekgapelanhaa
open Go.RowKit Al Tok Ap
theorem wpList_build0 {P : Program} {ops : Array Oper} {rest : List Oper} {o : Oper} {a : Act} {w : World} {Q : Exit → Act → World → Prop} (hg : o.guard = none) {t e : TypeId} {i : TypeInfo} (ho : o.op = .buildSlice t 0 #[])
    (hu : P.underlying t = some (.slice e)) (hi : P.info? e = some i) (h : wpList P ops Q rest (a.put o.dst (.slice (some ⟨w.heap.size, 0, none⟩) 0 0)) (w.alloc (.cells #[] e))) : wpList P ops Q (o :: rest) a w := by
  refine wpList_plain hg fun K' hK' => ?_
  unfold Oper.wp execOp
  simp [ho, Instr.buildSlice, run_underlying hu, sizeOf, typeInfo, hi, Instr.fill, newRow]
  rw [show Array.map (fun (_ : Nat) => (default : Value)) (Array.range 0) = #[] from Array.eq_empty_of_size_eq_zero (by simp)]
  exact hK' _ _ h
theorem own_empty (w : World) (base : Nat) (e : TypeId) (size : Nat) (hb : base ≤ w.heap.size) : (w.alloc (.cells #[] e)).ownsRow base e size (.slice (some ⟨w.heap.size, 0, none⟩) 0 0) 0 [] :=
  ⟨by simp, .inr ⟨w.heap.size, 0, #[], rfl, hb, heap_alloc_new _ _, Nat.le_refl _, by omega, by simp, by simp⟩⟩
theorem oneB (l : List Bk) : ∀ v ∈ cellsB l, v.oneCell' = true := by
  intro v hv
  obtain ⟨s, _, hs⟩ := List.mem_flatMap.1 hv
  simp only [Bk.cells, List.mem_cons, List.not_mem_nil, or_false] at hs
  rcases hs with rfl | rfl | rfl | rfl | rfl <;> rfl
theorem form_own {w : World} {b n s : Nat} {v : Value} {xs : List Value} {t : TypeId} (h : w.ownsRow b t s v n xs) (hn : 0 < n) : ∃ g cap, v = .slice (some ⟨g, 0, none⟩) n cap ∧ b ≤ g ∧ g < w.heap.size := by
  obtain ⟨h1, h2⟩ := h
  rcases h2 with ⟨rfl, h2⟩ | ⟨g, cap, cur, hv, hg, hr⟩
  · omega
  · refine ⟨g, cap, hv, hg, ?_⟩
    rcases Nat.lt_or_ge g w.heap.size with h | h
    · exact h
    · have := hr.1; rw [Array.getElem?_eq_none h] at this; cases this
namespace Al
theorem cellsB_set : ∀ (l : List Bk) (i : Nat) (b c : Bk) (j : Nat) (u : Value), l[i]? = some b → c.cells = b.cells.set j u → j < 5 → cellsB (l.set i c) = (cellsB l).set (i * 5 + j) u := by
  intro l
  induction l with
  | nil => intro i b c j u h; simp at h
  | cons a l ih =>
    intro i b c j u h hc hj
    cases i with
    | zero =>
      simp only [List.getElem?_cons_zero, Option.some.injEq] at h
      subst h
      simp only [List.set_cons_zero, cellsB, List.flatMap_cons, Nat.zero_mul, Nat.zero_add]
      rw [List.set_append_left _ _ (by simp [Bk.cells]; omega), hc]
    | succ i =>
      simp only [List.getElem?_cons_succ] at h
      have := ih i b c j u h hc hj
      simp only [List.set_cons_succ, cellsB, List.flatMap_cons] at this ⊢
      rw [List.set_append_right _ _ (by simp [Bk.cells]; omega), this]
      congr 2
      simp [Bk.cells]; omega
end Al
end Go.Proofs.Ytmcekgapelanhaa
namespace Go.Proofs.Ytmcekgapelanhaa
open Go.RowKit Al Tok Ap
namespace Al
theorem low_uniq {a b : Int} {d e : Nat} (hd : Nat.gcd a.natAbs d = 1) (he : Nat.gcd b.natAbs e = 1) (d0 : d ≠ 0) (e0 : e ≠ 0) (h : a * (e : Int) = b * (d : Int)) : a = b ∧ d = e := by
  have hn : a.natAbs * e = b.natAbs * d := by
    have := congrArg Int.natAbs h
    rwa [Int.natAbs_mul, Int.natAbs_mul, Int.natAbs_natCast, Int.natAbs_natCast] at this
  have h1 : d ∣ e := by
    have hc : Nat.Coprime d a.natAbs := by rw [Nat.Coprime, Nat.gcd_comm]; exact hd
    exact hc.dvd_of_dvd_mul_left (by rw [hn]; exact Nat.dvd_mul_left _ _)
  have h2 : e ∣ d := by
    have hc : Nat.Coprime e b.natAbs := by rw [Nat.Coprime, Nat.gcd_comm]; exact he
    exact hc.dvd_of_dvd_mul_left (by rw [← hn]; exact Nat.dvd_mul_left _ _)
  have hde := Nat.dvd_antisymm h1 h2
  subst hde
  exact ⟨Int.eq_of_mul_eq_mul_right (by omega) h, rfl⟩
theorem low_of {N : Int} {D : Nat} (h : D ≠ 0) : (N.sign * (N.natAbs / Nat.gcd N.natAbs D : Nat)) * (D : Int) = N * (D / Nat.gcd N.natAbs D : Nat) ∧ Nat.gcd (N.sign * (N.natAbs / Nat.gcd N.natAbs D : Nat)).natAbs (D / Nat.gcd N.natAbs D) = 1 ∧ D / Nat.gcd N.natAbs D ≠ 0 := by
  have hg := gcd_pos_of (N := N) h
  have hs := (sign_abs N (N.natAbs / Nat.gcd N.natAbs D) (fun h0 => by subst h0; simp)).1
  refine ⟨?_, ?_, ?_⟩
  · obtain ⟨a, ha⟩ := Nat.gcd_dvd_left N.natAbs D
    obtain ⟨d, hd⟩ := Nat.gcd_dvd_right N.natAbs D
    generalize Nat.gcd N.natAbs D = g at *
    have e1 : N.natAbs / g = a := by rw [ha, Nat.mul_div_cancel_left _ hg]
    have e2 : D / g = d := by rw [hd, Nat.mul_div_cancel_left _ hg]
    rw [e1, e2]
    have e3 : N = N.sign * ((g * a : Nat) : Int) := by rw [← ha]; exact (Int.sign_mul_natAbs N).symm
    have e4 : (D : Int) = (g : Int) * d := by rw [← Int.natCast_mul, ← hd]
    rw [e4]
    conv => rhs; rw [e3]
    rw [Int.natCast_mul]
    generalize N.sign = s
    grind
  · rw [hs, Nat.gcd_div (Nat.gcd_dvd_left _ _) (Nat.gcd_dvd_right _ _), Nat.div_self hg]
  · have := Nat.div_pos (Nat.le_of_dvd (by omega) (Nat.gcd_dvd_right N.natAbs D)) hg
    omega
theorem mkQ_val {N : Int} {D : Nat} (h : D ≠ 0) {r : Qn} (hr : mkQ N D = some r) : r.1 * (D : Int) = N * (r.2 : Int) ∧ r.1.natAbs ≤ N.natAbs ∧ r.2 ≤ D := by
  have hl := low_of (N := N) h
  have hs := (sign_abs N (N.natAbs / Nat.gcd N.natAbs D) (fun h0 => by subst h0; simp)).1
  unfold mkQ at hr
  split at hr
  · injection hr with hr
    subst hr
    refine ⟨hl.1, ?_, Nat.div_le_self _ _⟩
    show (N.sign * (N.natAbs / Nat.gcd N.natAbs D : Nat)).natAbs ≤ _
    rw [hs]; exact Nat.div_le_self _ _
  · cases hr
theorem mkQ_some {N : Int} {D : Nat} (h1 : N.natAbs < B480) (h2 : D < B480) : ∃ r, mkQ N D = some r := by
  unfold mkQ
  rw [if_pos ⟨Nat.lt_of_le_of_lt (Nat.div_le_self _ _) h1, Nat.lt_of_le_of_lt (Nat.div_le_self _ _) h2⟩]
  exact ⟨_, rfl⟩
theorem mkQ_of {N : Int} {D : Nat} (h : D ≠ 0) {r : Qn} (hv : VQ r) (he : r.1 * (D : Int) = N * (r.2 : Int)) : mkQ N D = some r := by
  obtain ⟨l1, l2, l3⟩ := low_of (N := N) h
  have hs := (sign_abs N (N.natAbs / Nat.gcd N.natAbs D) (fun h0 => by subst h0; simp)).1
  obtain ⟨x, hx⟩ : ∃ x, x = N.sign * (N.natAbs / Nat.gcd N.natAbs D : Nat) := ⟨_, rfl⟩
  obtain ⟨y, hy⟩ : ∃ y, y = D / Nat.gcd N.natAbs D := ⟨_, rfl⟩
  have hxy : mkQ N D = if N.natAbs / Nat.gcd N.natAbs D < B480 ∧ y < B480 then some (x, y) else none := by rw [hx, hy]; rfl
  rw [← hx] at hs
  rw [← hx, ← hy] at l1 l2
  rw [← hy] at l3
  have hu := low_uniq (a := x) (b := r.1) (d := y) (e := r.2) l2 hv.low l3 hv.pos (by
    have hD : (D : Int) ≠ 0 := by omega
    refine Int.eq_of_mul_eq_mul_right hD ?_
    grind)
  rw [hxy, ← hs, hu.1, hu.2, if_pos ⟨hv.num, hv.den⟩]
theorem big_lt {n : Nat} (h : n ≤ 10 ^ 60) : n < B480 := Nat.lt_of_le_of_lt h (by unfold B480; decide)
theorem vqz {z : Int} (h : z.natAbs ≤ 10 ^ 60) : VQ (z, 1) := ⟨big_lt h, big_lt (show 1 ≤ 10 ^ 60 by decide), show 1 ≠ 0 by decide, Nat.gcd_one_right _⟩
theorem mkQ_one {z : Int} (h : z.natAbs ≤ 10 ^ 60) {N : Int} {D : Nat} (hD : D ≠ 0) (he : z * (D : Int) = N) : mkQ N D = some (z, 1) := mkQ_of hD (vqz h) (by simpa using he)
theorem sub_whole {x y : Int} (h : (x - y).natAbs ≤ 10 ^ 60) : subQ (x, 1) (y, 1) = some (x - y, 1) := mkQ_one h (show 1 * 1 ≠ 0 by decide) (by simp [subN])
theorem exL_all {c : Qn} {S : Nat} : ∀ {l : List Bk}, (∀ b ∈ l, ∃ r, exR c S b = some r) → ∃ rs : List Qn, exL c S l = some rs ∧ rs.length = l.length ∧ ∀ (k : Nat) (b : Bk), l[k]? = some b → ∃ r, rs[k]? = some r ∧ exR c S b = some r := by
  intro l
  induction l with
  | nil => intro _; exact ⟨[], rfl, rfl, fun k b h => by simp at h⟩
  | cons a l ih =>
    intro h
    obtain ⟨r, hr⟩ := h a (by simp)
    obtain ⟨rs, h1, h2, h3⟩ := ih (fun b hb => h b (by simp [hb]))
    refine ⟨r :: rs, by simp [exL, hr, h1], by simp [h2], fun k b hk => ?_⟩
    cases k with
    | zero => simp at hk; subst hk; exact ⟨r, rfl, hr⟩
    | succ k => simp at hk; obtain ⟨q, q1, q2⟩ := h3 k b hk; exact ⟨q, by simpa using q1, q2⟩
def baseL (l : List Bk) : List Qn := l.map fun b => ((b.op : Int) + b.own, 1)
theorem Few.op_le {b : Bk} (h : Few b) : b.op ≤ 2000000000 := by have := h.sum; unfold Bk.op; omega
theorem exact_sum {l : List Bk} (hf : ∀ b ∈ l, Few b) : exactR ((sumO l : Int) + ownS l, 1) l = (0, baseL l) := by
  unfold exactR
  rw [sub_whole (by rw [Int.sub_self]; decide), Int.sub_self]
  simp only [ne_eq, not_true_eq_false, and_false, if_false]
  have key : exL (0, 1) (sumO l) l = some (baseL l) := by
    generalize sumO l = S
    induction l with
    | nil => rfl
    | cons b l ih =>
      have hb := hf b (by simp)
      have ho := hb.own
      have hp := hb.op_le
      have e : exR (0, 1) S b = some ((b.op : Int) + b.own, 1) := mkQ_one (by omega) (by omega) (by simp)
      have := ih (fun c hc => hf c (by simp [hc]))
      simp [exL, e, this, baseL]
  rw [key]
theorem exact_step {l : List Bk} {t c : Qn} (hf : ∀ b ∈ l, Few b) (hl : l.length ≤ 4) (hc : subQ t ((sumO l : Int) + ownS l, 1) = some c) (h1 : c.1.natAbs ≤ 10 ^ 20) (h2 : c.2 ≤ 10 ^ 10) (h3 : c.2 ≠ 0) :
    (sumO l = 0 ∧ c.1 ≠ 0 ∧ exactR t l = (211, [])) ∨ (¬ (sumO l = 0 ∧ c.1 ≠ 0) ∧ ∃ rs : List Qn, exactR t l = (0, rs) ∧ rs.length = l.length ∧ ∀ (k : Nat) (b : Bk), l[k]? = some b → ∃ r, rs[k]? = some r ∧ exR c (sumO l) b = some r) := by
  unfold exactR
  rw [hc]
  simp only
  by_cases h : sumO l = 0 ∧ c.1 ≠ 0
  · rw [if_pos h]; exact .inl ⟨h.1, h.2, rfl⟩
  · rw [if_neg h]
    refine .inr ⟨h, ?_⟩
    have hS := few_sum hl hf
    obtain ⟨rs, e1, e2, e3⟩ := exL_all (c := c) (S := sumO l) (l := l) (fun b hb => by
      have hb' := hf b hb
      have ho := hb'.own
      have hp := hb'.op_le
      unfold exR
      generalize sumO l = S at *
      have hM : max S 1 ≤ 8000000000 := by omega
      generalize max S 1 = M at *
      refine mkQ_some (big_lt ?_) (big_lt ?_)
      · have n1 : (c.1 * (b.op : Int)).natAbs ≤ 10 ^ 20 * 2000000000 := by rw [Int.natAbs_mul]; exact Nat.mul_le_mul h1 (by simpa using hp)
        have n2 : ((((b.op : Int) + b.own) * (c.2 : Int)) * (M : Int)).natAbs ≤ 2000010000 * 10 ^ 10 * 8000000000 := by
          rw [Int.natAbs_mul, Int.natAbs_mul]
          exact Nat.mul_le_mul (Nat.mul_le_mul (by omega) (by simpa using h2)) (by simpa using hM)
        have n3 := Int.natAbs_add_le (c.1 * (b.op : Int)) ((((b.op : Int) + b.own) * (c.2 : Int)) * (M : Int))
        have n4 : 10 ^ 20 * 2000000000 + 2000010000 * 10 ^ 10 * 8000000000 ≤ 10 ^ 60 := by decide
        omega
      · have := Nat.mul_le_mul h2 hM
        have n4 : 10 ^ 10 * 8000000000 ≤ 10 ^ 60 := by decide
        omega)
    rw [e1]
    exact ⟨rs, rfl, e2, e3⟩
theorem steps {sum : Int} {st : Qn} (hv : VQ st) (hs : sum.natAbs ≤ 10 ^ 11) (h1 : st.1.natAbs ≤ 100000) (h2 : st.2 ≤ 50) :
    ∃ o1 o2 c2 : Qn, addQ (sum, 1) st = some o1 ∧ VQ o1 ∧ addQ o1 st = some o2 ∧ VQ o2 ∧ subQ o1 (sum, 1) = some st ∧ subQ o2 (sum, 1) = some c2 ∧ VQ c2 ∧ c2.1 * (st.2 : Int) = 2 * st.1 * (c2.2 : Int) ∧ c2.1.natAbs ≤ 10 ^ 20 ∧ c2.2 ≤ 10 ^ 10 := by
  have p0 := hv.pos
  -- the first
  have b1 : (addN (sum, 1) st).natAbs ≤ 10 ^ 13 := by
    show (sum * (st.2 : Int) + st.1 * ((1 : Nat) : Int)).natAbs ≤ _
    have n1 : (sum * (st.2 : Int)).natAbs ≤ 10 ^ 11 * 50 := by rw [Int.natAbs_mul]; exact Nat.mul_le_mul hs (by simpa using h2)
    have n3 := Int.natAbs_add_le (sum * (st.2 : Int)) (st.1 * ((1 : Nat) : Int))
    rw [Int.natCast_one, Int.mul_one] at n3 ⊢
    have n4 : 10 ^ 11 * 50 + 100000 ≤ 10 ^ 13 := by decide
    omega
  obtain ⟨o1, e1⟩ := mkQ_some (N := addN (sum, 1) st) (D := 1 * st.2) (big_lt (Nat.le_trans b1 (by decide))) (big_lt (Nat.le_trans (show _ ≤ 10 ^ 30 by omega) (by decide)))
  have v1 := mkQ_valid (by omega) e1
  obtain ⟨q1, a1, d1⟩ := mkQ_val (by omega) e1
  have q1' : o1.1 * (st.2 : Int) = (sum * (st.2 : Int) + st.1) * (o1.2 : Int) := by
    have := q1
    rw [Nat.one_mul] at this
    rw [this]; show (sum * (st.2 : Int) + st.1 * ((1 : Nat) : Int)) * _ = _; rw [Int.natCast_one, Int.mul_one]
  have d1' : o1.2 ≤ 50 := by omega
  have a1' : o1.1.natAbs ≤ 10 ^ 13 := by omega
  have z1 := v1.pos
  -- the second
  have b2 : (addN o1 st).natAbs ≤ 10 ^ 15 := by
    show (o1.1 * (st.2 : Int) + st.1 * (o1.2 : Int)).natAbs ≤ _
    have n1 : (o1.1 * (st.2 : Int)).natAbs ≤ 10 ^ 13 * 50 := by rw [Int.natAbs_mul]; exact Nat.mul_le_mul a1' (by simpa using h2)
    have n2 : (st.1 * (o1.2 : Int)).natAbs ≤ 100000 * 50 := by rw [Int.natAbs_mul]; exact Nat.mul_le_mul h1 (by simpa using d1')
    have n3 := Int.natAbs_add_le (o1.1 * (st.2 : Int)) (st.1 * (o1.2 : Int))
    have n4 : 10 ^ 13 * 50 + 100000 * 50 ≤ 10 ^ 15 := by decide
    omega
  have m2 : o1.2 * st.2 ≤ 50 * 50 := Nat.mul_le_mul d1' h2
  have m20 : o1.2 * st.2 ≠ 0 := Nat.mul_ne_zero z1 p0
  obtain ⟨o2, e2⟩ := mkQ_some (N := addN o1 st) (D := o1.2 * st.2) (big_lt (Nat.le_trans b2 (by decide))) (big_lt (Nat.le_trans (show _ ≤ 10 ^ 30 by omega) (by decide)))
  have v2 := mkQ_valid m20 e2
  obtain ⟨q2, a2, d2⟩ := mkQ_val m20 e2
  have q2' : o2.1 * ((o1.2 : Int) * (st.2 : Int)) = (o1.1 * (st.2 : Int) + st.1 * (o1.2 : Int)) * (o2.2 : Int) := by
    rw [← Int.natCast_mul]; exact q2
  have d2' : o2.2 ≤ 2500 := by omega
  have a2' : o2.1.natAbs ≤ 10 ^ 15 := by omega
  have z2 := v2.pos
  -- what is left of the first
  have s1 : subQ o1 (sum, 1) = some st := by
    refine mkQ_of (by show o1.2 * 1 ≠ 0; omega) hv ?_
    show st.1 * ((o1.2 * 1 : Nat) : Int) = (o1.1 * ((1 : Nat) : Int) - sum * (o1.2 : Int)) * (st.2 : Int)
    rw [Nat.mul_one, Int.natCast_one, Int.mul_one]
    grind
  -- what is left of the second
  have b3 : (subN o2 (sum, 1)).natAbs ≤ 10 ^ 16 := by
    show (o2.1 * ((1 : Nat) : Int) - sum * (o2.2 : Int)).natAbs ≤ _
    have n1 : (sum * (o2.2 : Int)).natAbs ≤ 10 ^ 11 * 2500 := by rw [Int.natAbs_mul]; exact Nat.mul_le_mul hs (by simpa using d2')
    rw [Int.natCast_one, Int.mul_one]
    have n4 : 10 ^ 15 + 10 ^ 11 * 2500 ≤ 10 ^ 16 := by decide
    omega
  obtain ⟨c2, e3⟩ := mkQ_some (N := subN o2 (sum, 1)) (D := o2.2 * 1) (big_lt (Nat.le_trans b3 (by decide))) (big_lt (Nat.le_trans (show _ ≤ 10 ^ 30 by omega) (by decide)))
  have v3 := mkQ_valid (by omega) e3
  obtain ⟨q3, a3, d3⟩ := mkQ_val (by omega) e3
  have q3' : c2.1 * (o2.2 : Int) = (o2.1 - sum * (o2.2 : Int)) * (c2.2 : Int) := by
    have := q3
    rw [Nat.mul_one] at this
    rw [this]; show (o2.1 * ((1 : Nat) : Int) - sum * (o2.2 : Int)) * _ = _; rw [Int.natCast_one, Int.mul_one]
  refine ⟨o1, o2, c2, e1, v1, e2, v2, s1, e3, v3, ?_, ?_, ?_⟩
  · have k1 : (o1.2 : Int) ≠ 0 := by omega
    have k2 : (o2.2 : Int) ≠ 0 := by omega
    have k3 : (st.2 : Int) ≠ 0 := by omega
    refine Int.eq_of_mul_eq_mul_right (Int.mul_ne_zero (Int.mul_ne_zero k1 k2) k3) ?_
    generalize (o1.2 : Int) = x at *
    generalize (o2.2 : Int) = y at *
    generalize (st.2 : Int) = z at *
    generalize (c2.2 : Int) = u at *
    generalize o1.1 = X at *
    generalize o2.1 = Y at *
    generalize st.1 = Z at *
    generalize c2.1 = U at *
    clear hv b1 b2 b3 e1 e2 e3 v1 v2 v3 q1 q2 q3 a1 a2 a3 d1 d2 d3 d1' a1' d2' a2' s1 hs h1 h2
    grind
  · have n4 : 10 ^ 16 ≤ 10 ^ 20 := by decide
    omega
  · have n4 : 2500 ≤ 10 ^ 10 := by decide
    omega
theorem diff_same {b : Bk} {S : Nat} {st c2 r s : Qn} (hf : Few b) (hS : S ≤ 8000000000) (h1 : st.1.natAbs ≤ 100000) (h2 : st.2 ≤ 50) (p0 : st.2 ≠ 0) (p2 : c2.2 ≠ 0) (he : c2.1 * (st.2 : Int) = 2 * st.1 * (c2.2 : Int))
    (hr : exR st S b = some r) (hs : exR c2 S b = some s) : ∃ x, subQ r ((b.op : Int) + b.own, 1) = some x ∧ subQ s r = some x ∧ VQ x := by
  have hp := hf.op_le
  unfold exR at hr hs
  have hM : max S 1 ≤ 8000000000 ∧ max S 1 ≠ 0 := by omega
  generalize max S 1 = M at *
  have m1 : st.2 * M ≠ 0 := Nat.mul_ne_zero p0 hM.2
  have m2 : c2.2 * M ≠ 0 := Nat.mul_ne_zero p2 hM.2
  have v1 := mkQ_valid m1 hr
  have v2 := mkQ_valid m2 hs
  have z1 := v1.pos
  have z2 := v2.pos
  have q1 := (mkQ_val m1 hr).1
  have q2 := (mkQ_val m2 hs).1
  rw [Int.natCast_mul] at q1 q2
  have b1 : (st.1 * (b.op : Int)).natAbs ≤ 100000 * 2000000000 := by rw [Int.natAbs_mul]; exact Nat.mul_le_mul h1 (by simpa using hp)
  have b2 : st.2 * M ≤ 50 * 8000000000 := Nat.mul_le_mul h2 hM.1
  obtain ⟨x, hx⟩ := mkQ_some (N := st.1 * (b.op : Int)) (D := st.2 * M) (big_lt (Nat.le_trans b1 (by decide))) (big_lt (Nat.le_trans b2 (by decide)))
  have vx := mkQ_valid m1 hx
  have qx := (mkQ_val m1 hx).1
  rw [Int.natCast_mul] at qx
  have k1 : (st.2 : Int) ≠ 0 := by omega
  have k2 : (c2.2 : Int) ≠ 0 := by omega
  have k3 : (M : Int) ≠ 0 := by omega
  refine ⟨x, mkQ_of (by show r.2 * 1 ≠ 0; omega) vx ?_, mkQ_of (by show s.2 * r.2 ≠ 0; exact Nat.mul_ne_zero z2 z1) vx ?_, vx⟩
  · show x.1 * ((r.2 * 1 : Nat) : Int) = (r.1 * ((1 : Nat) : Int) - ((b.op : Int) + b.own) * (r.2 : Int)) * (x.2 : Int)
    rw [Nat.mul_one, Int.natCast_one, Int.mul_one]
    refine Int.eq_of_mul_eq_mul_right (Int.mul_ne_zero k1 k3) ?_
    generalize (b.op : Int) = O at *
    generalize O + b.own = A at *
    clear hr hs hx v1 v2 vx b1 b2 hf
    generalize (r.2 : Int) = y at *
    generalize (x.2 : Int) = z at *
    generalize (st.2 : Int) = q at *
    generalize (M : Int) = m at *
    generalize r.1 = Y at *
    generalize x.1 = Z at *
    generalize st.1 = P at *
    clear q2 he
    grind
  · show x.1 * ((s.2 * r.2 : Nat) : Int) = (s.1 * (r.2 : Int) - r.1 * (s.2 : Int)) * (x.2 : Int)
    rw [Int.natCast_mul]
    refine Int.eq_of_mul_eq_mul_right (Int.mul_ne_zero (Int.mul_ne_zero k1 k3) k2) ?_
    generalize (b.op : Int) = O at *
    generalize O + b.own = A at *
    clear hr hs hx v1 v2 vx b1 b2 hf
    generalize (r.2 : Int) = y at *
    generalize (s.2 : Int) = t at *
    generalize (c2.2 : Int) = u at *
    generalize (x.2 : Int) = z at *
    generalize (st.2 : Int) = q at *
    generalize (M : Int) = m at *
    generalize r.1 = Y at *
    generalize s.1 = T at *
    generalize c2.1 = U at *
    generalize x.1 = Z at *
    generalize st.1 = P at *
    grind
end Al
end Go.Proofs.Ytmcekgapelanhaa
namespace Go.Proofs.Ytmcekgapelanhaa
open Go.RowKit Big Al Tok Ap
namespace Al
def sum3 (b : Bk) : Int := b.net + b.flows + b.own
theorem sum_all : ∀ {l : List Bk}, (∀ b ∈ l, Few b) → sI (l.map sum3) = (sumO l : Int) + ownS l := by
  intro l
  have e1 : ∀ l, ownS l = sI (l.map Bk.own) := fun _ => rfl
  have e2 : ∀ l, sumO l = sumL (l.map Bk.op) := fun _ => rfl
  induction l with
  | nil => intro _; rfl
  | cons b l ih =>
    intro h
    have h1 := ih (fun c hc => h c (by simp [hc]))
    have h2 := (h b (by simp)).sum
    rw [e1, e2] at h1 ⊢
    simp only [List.map_cons, sI_cons, sumL]
    rw [h1]
    have : (b.op : Int) = b.net + b.flows := by unfold Bk.op; omega
    unfold sum3
    omega
def setFl (l : List Bk) (i : Nat) (b : Bk) (m : Int) : List Bk := l.set i { b with flows := b.flows + m }
theorem fl_get {l : List Bk} {i k : Nat} {b c : Bk} {m : Int} (hi : l[i]? = some b) (hk : l[k]? = some c) : (setFl l i b m)[k]? = some (if k = i then { c with flows := c.flows + m } else c) := by
  unfold setFl
  by_cases h : k = i
  · subst h
    rw [hi] at hk; injection hk with hk; subst hk
    rw [List.getElem?_set_self (List.getElem?_eq_some_iff.1 hi).1, if_pos rfl]
  · rw [List.getElem?_set_ne (fun e => h e.symm), if_neg h]; exact hk
theorem fl_few {l : List Bk} {i : Nat} {b : Bk} {m : Int} (hD : Drawn l) (hi : l[i]? = some b) (h1 : 0 ≤ m) (h2 : m ≤ 100000) : ∀ c ∈ setFl l i b m, Few c := by
  intro c hc
  rcases List.mem_or_eq_of_mem_set hc with hc | rfl
  · exact (hD.all c hc).few
  · have h := hD.all b (List.mem_of_getElem? hi)
    have h3 := h.sum; have h4 := h.own
    exact ⟨by show 0 ≤ b.net + (b.flows + m) ∧ b.net + (b.flows + m) ≤ _; omega, by show -10000 ≤ b.own ∧ b.own ≤ _; omega⟩
theorem fl_check {l : List Bk} {i : Nat} {b : Bk} {m : Int} (hD : Drawn l) (hi : l[i]? = some b) (h1 : 0 ≤ m) (h2 : m ≤ 100000) : checkB (setFl l i b m) = true := by
  have hl : (setFl l i b m).length = l.length := by simp [setFl]
  have hn : ∀ k c, (setFl l i b m)[k]? = some c → c.name = nmAt k := by
    intro k c hk
    have hkl : k < l.length := by rw [← hl]; exact (List.getElem?_eq_some_iff.1 hk).1
    have hx : l[k]? = some l[k] := List.getElem?_eq_getElem hkl
    rw [fl_get hi hx] at hk
    have := hD.names k _ hx
    split at hk <;> (injection hk with hk; rw [← hk]; exact this)
  refine check_of (by rw [hl]; exact hD.len.1) (by rw [hl]; exact hD.len.2) ?_ hn
  intro c hc
  have hnm : nameB c.name = true := by
    obtain ⟨k, hk⟩ := List.mem_iff_getElem?.1 hc
    rw [hn k c hk]; exact nmAt_name k
  rcases List.mem_or_eq_of_mem_set hc with hc | rfl
  · exact (hD.all c hc).ok hnm
  · have h := hD.all b (List.mem_of_getElem? hi)
    have h3 := h.sum; have h4 := h.own; have h5 := h.net; have h6 := h.flows; have h7 := h.units
    exact ⟨hnm, by show 0 ≤ b.net ∧ b.net ≤ _; omega, by show _ ≤ b.flows + m ∧ b.flows + m ≤ _; omega, by show 0 ≤ b.net + (b.flows + m) ∧ b.net + (b.flows + m) ≤ _; omega, by show _ ≤ b.own ∧ b.own ≤ _; omega, by show 0 ≤ b.units ∧ b.units ≤ _; omega⟩
theorem fl_sum {l : List Bk} {i : Nat} {b : Bk} {m : Int} (hD : Drawn l) (hi : l[i]? = some b) (h1 : 0 ≤ m) (h2 : m ≤ 100000) : (sumO (setFl l i b m) : Int) + ownS (setFl l i b m) = (sumO l : Int) + ownS l + m := by
  rw [← sum_all (fl_few hD hi h1 h2), ← sum_all (fun b hb => (hD.all b hb).few)]
  unfold setFl
  clear hD
  induction l generalizing i with
  | nil => simp at hi
  | cons a l ih =>
    cases i with
    | zero =>
      simp only [List.getElem?_cons_zero, Option.some.injEq] at hi
      subst hi
      simp only [List.set_cons_zero, List.map_cons, sI_cons, sum3]; omega
    | succ i =>
      simp only [List.getElem?_cons_succ] at hi
      have := ih hi
      simp only [List.set_cons_succ, List.map_cons, sI_cons]; omega
end Al
theorem ranges_grown {w w' : World} {b o bt : Nat} {cs : List Value} (h : w.rangeAt b o cs) (hg : w.grownBy w' (some bt)) (hne : b ≠ bt) : w'.rangeAt b o cs := fun j u hu => hg.cell (h j u hu) (fun e => hne (Option.some.inj e))
theorem wpList_newR {ops : Array Oper} {rest : List Oper} {o1 o2 : Oper} {a : Act} {w : World} {Q : Exit → Act → World → Prop} (hg1 : o1.guard = none) (hg2 : o2.guard = none) (ho1 : o1.op = .alloc 49) {x y : Operand} (ho2 : o2.op = .store 49 x y) {cs : List Value}
    (hx : (a.put o1.dst (.pointer (some ⟨w.heap.size, 0, none⟩))).eval x = .pointer (some ⟨w.heap.size, 0, none⟩)) (hy : (a.put o1.dst (.pointer (some ⟨w.heap.size, 0, none⟩))).eval y = .agg cs.toArray) (hs : (Try.prog.info? 49).map (·.size) = some cs.length) (h1 : cs.toArray.all (·.oneCell') = true)
    (h : ∀ w', Below w.heap.size w w' → At w' w.heap.size 0 cs → w'.heap.size = w.heap.size + 1 → wpList Try.prog ops Q rest ((a.put o1.dst (.pointer (some ⟨w.heap.size, 0, none⟩))).put o2.dst undef) w') : wpList Try.prog ops Q (o1 :: o2 :: rest) a w := by
  obtain ⟨z, hL, hz⟩ := Try.alR hs
  refine wpList_plain hg1 fun K hK => ?_
  have hrun := hL o1 ho1 a w
  unfold Oper.wp
  rw [hrun]
  refine hK _ _ ?_
  have hA : At (w.alloc (.cells z 49)) w.heap.size 0 z.toList := by have := At.fresh w z.toList 49 rfl; simpa using this
  have hth : (w.alloc (.cells z 49)).there w.heap.size 0 cs.length := fun j hj => hA.there j (by simp; omega)
  refine wpList_store_mid hg2 _ _ _ ho2 w.heap.size 0 cs.toArray hx hy (by simpa using hth) (by simpa using hs) h1 ?_
  refine h _ ?_ ?_ (by simp [size_sets])
  · exact below_sets (Nat.le_refl _) _ _ _ ((Below.refl _ _).alloc (Nat.le_refl _) _)
  · exact ⟨World.rangeAt_setCells_same _ _ _ _ hth, World.there_setCells hth _ _ _, by rw [size_sets]; simp⟩
set_option maxHeartbeats 16000000 in
theorem flows_any (a : Option Addr) (len cap : Nat) (z : List Int) (w : World) (hr : IsRow .i64 w a len cap z) :
    Calls Try.prog 5 #[.slice a len cap] w fun e w' => e = .returned (.bool true) ∧ Below w.heap.size w w' := by
  have ht0 := hr.tape 25
  clear hr
  go_enter Try.func5, Try.ntmps5
  go_wp2_with fail
  refine (books_any w.heap.size 0 _ ht0 (by omega)).mono ?_
  rintro e w1 ⟨v, l, at1, rfl, hD, hown, ht1, ha1, hg1⟩
  have hB1 := ((Below.refl w.heap.size w).alloc (Nat.le_refl _) (.cells #[.slice a len cap, .int .i64 0] 25)).trans (below_grownBy hg1 (Nat.le_refl _) (by simp))
  obtain ⟨bt, hbt⟩ : ∃ bt, bt = w.heap.size := ⟨_, rfl⟩
  have hown1 : w1.ownsRow (bt + 1) 30 5 v l.length (cellsB l) := by have := hown; simp at this; rw [hbt]; exact this
  clear hown ht0 hg1
  rw [← hbt] at ht1 ⊢
  obtain ⟨n, hn⟩ : ∃ n, n = l.length := ⟨_, rfl⟩
  have hl := hD.len
  rw [← hn] at hown1 hl
  obtain ⟨g, cp, rfl, hgb, hgl⟩ := form_own hown1 (by omega)
  have HBT := Lib.hid hbt
  have HO := Lib.hid hown1
  have HD := Lib.hid (And.intro hD hn)
  have HB := Lib.hid hB1
  have hbtb : ∀ {x y : World}, w.heap.size ≤ x.heap.size → x.grownBy y (some bt) → Below w.heap.size x y := fun hs hg => below_grownBy hg (by rw [HBT.out]; exact Nat.le_refl _) hs
  clear hown1 hD hB1 hbt hn
  go_wp2
  go_loopg [5, 6] n (fun m sv iv wr => ∃ k : Nat, iv = .int .i64 k ∧ sv = .int .i64 (sI ((l.take k).map sum3)) ∧ k ≤ n ∧ n ≤ m + k ∧ ∃ q, wr = w1.drewN q)
  case atStart => exact ⟨0, rfl, rfl, by omega, by omega, 0, by cases w1; rfl⟩
  case round =>
    obtain ⟨k, rfl, rfl, hk, hm, q, rfl⟩ := hrel
    obtain ⟨S, hS⟩ : ∃ S, S = sI ((l.take k).map sum3) := ⟨_, rfl⟩
    have hSb : -20000000000 ≤ S ∧ S ≤ 20000000000 := by
      have h1 := sI_bd (c := 5000000000) (by omega) ((l.take k).map sum3) (fun x hx => by
        obtain ⟨b, hb, rfl⟩ := List.mem_map.1 hx
        have hm := HD.out.1.all b (List.mem_of_mem_take hb)
        have h3 := hm.sum; have h4 := hm.own
        unfold sum3; omega)
      have h2 : ((l.take k).map sum3).length ≤ 4 := by rw [List.length_map, List.length_take]; omega
      generalize ((l.take k).map sum3).length = y at *
      omega
    by_cases hkn : k < n
    · obtain ⟨b, hb⟩ : ∃ b, l[k]? = some b := ⟨_, List.getElem?_eq_getElem (by rw [← HD.out.2]; exact hkn)⟩
      have hm' := HD.out.1.all b (List.mem_of_getElem? hb)
      have h3 := hm'.sum; have h4 := hm'.own; have h5 := hm'.net; have h6 := hm'.flows
      have hcell : ∀ j u, b.cells[j]? = some u → w1.cell? ⟨g, k * 5 + j, none⟩ = some u := fun j u hu => by
        have := HO.out.cells rfl (k * 5 + j) u (cellsB_get l k b hb j u hu)
        have hadd : (⟨g, 0, none⟩ : Addr).add (k * 5 + j) = ⟨g, 0 + (k * 5 + j), none⟩ := by unfold Addr.add; split <;> simp_all
        rw [hadd, Nat.zero_add] at this; exact this
      have c1 : w1.cell? ⟨g, k * 5 + 1, none⟩ = some (.int .i64 b.net) := hcell 1 _ rfl
      have c2 : w1.cell? ⟨g, k * 5 + 2, none⟩ = some (.int .i64 b.flows) := hcell 2 _ rfl
      have c3 : w1.cell? ⟨g, k * 5 + 3, none⟩ = some (.int .i64 b.own) := hcell 3 _ rfl
      have ww1 : IntKind.i64.wrap (b.net + b.flows) = b.net + b.flows := IntWalk.i64_in _ (by omega)
      have ww2 : IntKind.i64.wrap (b.net + b.flows + b.own) = b.net + b.flows + b.own := IntWalk.i64_in _ (by omega)
      have ww3 : IntKind.i64.wrap (S + (b.net + b.flows + b.own)) = S + (b.net + b.flows + b.own) := IntWalk.i64_in _ (by omega)
      have hst : sI ((l.take (k + 1)).map sum3) = S + (b.net + b.flows + b.own) := by
        rw [List.take_add_one, hb, List.map_append]
        show sI (((l.take k).map sum3) ++ [sum3 b]) = _
        rw [sI_snoc, ← hS]; rfl
      rw [← hS]
      have HST := Lib.hid hst
      clear hst hb hm' hS hcell
      go_wp2
      go_quiet (fail)
      go_wp2
      go_roundg (gk - 1)
      case measure => omega
      case rel => exact ⟨k + 1, by go_num, by rw [HST.out], by omega, by omega, _, rfl⟩
    · obtain rfl : k = n := by omega
      have e : l.take k = l := List.take_of_length_le (by rw [HD.out.2]; exact Nat.le_refl _)
      rw [e] at hS ⊢
      rw [← hS]
      have HS := Lib.hid (show S = (sumO l : Int) + ownS l by rw [hS]; exact sum_all (fun b hb => (HD.out.1.all b hb).few))
      clear hS hm e
      replace HO := Lib.hid (show (w1.drewN q).ownsRow (bt + 1) 30 5 (.slice (some ⟨g, 0, none⟩) k cp) k (cellsB l) from HO.out)
      replace HB := Lib.hid (below_drewN HB.out q)
      replace ht1 : IsTape (w1.drewN q) bt at1 := ht1
      obtain ⟨w1q, hw1q⟩ : ∃ x, x = w1.drewN q := ⟨_, rfl⟩
      rw [← hw1q] at HO HB ht1 ⊢
      clear hw1q hgl
      go_wp2_with fail
      refine (next_any bt at1 (k : Int) _ ht1 (by omega) (by omega)).mono ?_
      rintro e w2 ⟨u2, rfl, ht2, hg2⟩
      have hb2 := foldI_bd u2 (k : Int) (by omega)
      generalize foldI u2 (k : Int) = fi at *
      obtain ⟨i, rfl⟩ := Int.eq_ofNat_of_zero_le hb2.1
      have hin : i < k := by omega
      replace HB := Lib.hid (HB.out.trans (hbtb HB.out.size hg2))
      replace HO := Lib.hid (own_keptB HO.out hg2 (by omega))
      clear ht1 hg2 hb2
      go_wp2_with fail
      refine (next_any bt _ 100000 _ ht2 (by omega) (by omega)).mono ?_
      rintro e w3 ⟨u3, rfl, ht3, hg3⟩
      have hb3 := foldI_bd u3 100000 (by omega)
      generalize foldI u3 100000 = money at *
      replace HB := Lib.hid (HB.out.trans (hbtb HB.out.size hg3))
      replace HO := Lib.hid (own_keptB HO.out hg3 (by omega))
      clear ht2 hg3
      have hS' : -20000000000 ≤ S ∧ S ≤ 20000000000 := hSb
      obtain ⟨cs, V_cs⟩ : ∃ c : List Value, Hid (c = ratZ S 1) := ⟨_, Lib.hid rfl⟩
      obtain ⟨ct, V_ct⟩ : ∃ c : List Value, Hid (c = ratZ (S + money) 1) := ⟨_, Lib.hid rfl⟩
      have HW := Lib.hid (rwholeZ V_cs.out (by omega) (by omega))
      have HW2 := Lib.hid (rwholeZ V_ct.out (by omega) (by omega))
      have HFEW := Lib.hid (fun b hb => (HD.out.1.all b hb).few)
      have HX := Lib.hid (fun (W : World) (h : BksAt W (.slice (some ⟨g, 0, none⟩) k cp) l) => show Calls Try.prog 12 #[.agg cs.toArray, .slice (some ⟨g, 0, none⟩) k cp] W (ExactP (0, baseL l) W) by
        have := exact_any (S, 1) l _ W h HD.out.1.check (vqz (by omega)) V_cs.out
        have e : exactR (S, 1) l = (0, baseL l) := by rw [HS.out]; exact exact_sum HFEW.out
        rw [e] at this; exact this)
      have hlb : (baseL l).length = k := by rw [HD.out.2]; simp [baseL]
      obtain ⟨bi, hbi⟩ : ∃ b, l[i]? = some b := ⟨_, List.getElem?_eq_getElem (by rw [← HD.out.2]; exact hin)⟩
      have HBI := Lib.hid hbi
      have hmd := HD.out.1.all bi (List.mem_of_getElem? hbi)
      have hof := hmd.flows
      clear hbi hmd hbtb hSb
      go_upto_region 10 with (first | (go_at_call 13; refine (HW.out _).mono ?_; rintro e w4 ⟨rfl, hb4⟩) | (go_at_call 12; refine (HX.out _ (by have := Rd.of_own (ownsRow_below HO.out hb4); unfold BksAt; rw [← HD.out.2]; exact this)).mono ?_; rintro e w5 ⟨va, rfl, hra, hfra, hb5⟩))
      have hb45 := hb4.trans (hb5.mono hb4.size)
      replace HB := Lib.hid (HB.out.trans (hb45.mono HB.out.size))
      replace HO := Lib.hid (ownsRow_below HO.out hb45)
      have ht5 := ht3.below hb45
      replace hra : Rd w5 66 va (baseL l).length (cellsQ (baseL l)) := hra
      obtain ⟨ga, oa, ca, rfl, hca⟩ := qs_some hra (by omega)
      simp only [hlb]
      have HGA := Lib.hid (show bt < ga by have := hfra ga rfl; have := hb4.size; have := ht3.lt; omega)
      clear hra hfra hb4 hb5 hb45 ht3
      have hgl5 : g < w5.heap.size := (HO.out.lt g rfl).2
      have hN : (cellsB l).length = k * 5 := by rw [cellsB_len, HD.out.2]
      have HN := Lib.hid hN
      have HCA := Lib.hid hca
      have HT5 := Lib.hid ht5
      clear hN hca ht5
      obtain ⟨i0, hi, hz0, hz1, hz2⟩ := info_parts Try.infoB5
      go_upto_region 11 with (first | (refine wpList_build0 rfl rfl Try.underlying26 hi ?_) | (at_builtin; refine wpList_append_own _ rfl _ _ 26 rfl w5.heap.size 30 i0 _ 5 48 Try.underlying26 hi hz0 hz1 hz2 rfl (by decide) _ _ _ rfl (own_empty w5 w5.heap.size _ 5 (Nat.le_refl _)) ⟨g, 0, none⟩ k cp (cellsB l) rfl HN.out ?_ ?_ ?_ ?_ ?_ ?_; (intro j u hu; exact (HO.out.alloc _).cells rfl j u hu); exact oneB l; exact small_maxLen (by omega); omega; (simp); intro v' w6 hown' hgrow _))
      have hown6 : w6.ownsRow w5.heap.size 30 5 v' k (cellsB l) := by simpa using hown'
      have hb6 : Below w5.heap.size w5 w6 := ((Below.refl w5.heap.size w5).alloc (Nat.le_refl _) _).grown hgrow (by simp) (fun q hq => by have : w5.heap.size = q := Option.some.inj hq; omega)
      clear hown' hgrow hi hz0 hz1 hz2
      obtain ⟨gm, cm, rfl, hgm, hgml⟩ := form_own hown6 (by omega)
      have hc2 : w6.cell? ⟨gm, i * 5 + 2, none⟩ = some (.int .i64 bi.flows) := by
        have := hown6.cells rfl (i * 5 + 2) (.int .i64 bi.flows) (cellsB_get l i bi HBI.out 2 _ rfl)
        have hadd : (⟨gm, 0, none⟩ : Addr).add (i * 5 + 2) = ⟨gm, 0 + (i * 5 + 2), none⟩ := by unfold Addr.add; split <;> simp_all
        rw [hadd, Nat.zero_add] at this; exact this
      have hf2 : w6.frozen? ⟨gm, i * 5 + 2, none⟩ = false := hown6.frozenAt _
      have wo : IntKind.i64.wrap (bi.flows + money) = bi.flows + money := IntWalk.i64_in _ (by omega)
      have hst := hown6.stored (i * 5 + 2) (.int .i64 (bi.flows + money))
      rw [← cellsB_set l i bi { bi with flows := bi.flows + money } 2 (.int .i64 (bi.flows + money)) HBI.out rfl (by omega)] at hst
      have HST := Lib.hid (show (w6.setCell ⟨gm, i * 5 + 2, none⟩ (.int .i64 (bi.flows + money))).ownsRow w5.heap.size 30 5 (.slice (some ⟨gm, 0, none⟩) k cm) k (cellsB (setFl l i bi money)) from hst.1)
      have hb7 := hb6.grown hst.2 hb6.size (fun q hq => by injection hq with hq; omega)
      replace HB := Lib.hid (HB.out.trans (hb7.mono HB.out.size))
      replace HO := Lib.hid (ownsRow_below HO.out hb7)
      replace HT5 := Lib.hid (HT5.out.below hb7)
      have HB7 := Lib.hid hb7
      clear hst hown6 hb6 hgl5 HN hb7
      have hsl : (setFl l i bi money).length = k := by rw [HD.out.2]; simp [setFl]
      have hlm : (baseL (setFl l i bi money)).length = k := by rw [← hsl]; simp [baseL]
      go_upto_region 12 with fail
      obtain ⟨W, hW⟩ : ∃ W, W = w6.setCell ⟨gm, i * 5 + 2, none⟩ (.int .i64 (bi.flows + money)) := ⟨_, rfl⟩
      rw [← hW] at HST HB HO HT5 HB7 ⊢
      clear hW hc2 hf2 hgml hgm
      have wt : IntKind.i64.wrap (S + money) = S + money := IntWalk.i64_in _ (by omega)
      have HX2 := Lib.hid (fun (W : World) (h : BksAt W (.slice (some ⟨gm, 0, none⟩) k cm) (setFl l i bi money)) => show Calls Try.prog 12 #[.agg ct.toArray, .slice (some ⟨gm, 0, none⟩) k cm] W (ExactP (0, baseL (setFl l i bi money)) W) by
        have := exact_any (S + money, 1) (setFl l i bi money) _ W h (fl_check HD.out.1 HBI.out hb3.1 (by omega)) (vqz (by omega)) V_ct.out
        have e : exactR (S + money, 1) (setFl l i bi money) = (0, baseL (setFl l i bi money)) := by rw [HS.out, ← fl_sum HD.out.1 HBI.out hb3.1 (by omega)]; exact exact_sum (fl_few HD.out.1 HBI.out hb3.1 (by omega))
        rw [e] at this; exact this)
      go_upto_region 13 with (first | (go_at_call 13; refine (HW2.out _).mono ?_; rintro e w8 ⟨rfl, hb8⟩) | (go_at_call 12; refine (HX2.out _ (by have := Rd.of_own (ownsRow_below HST.out hb8); unfold BksAt; rw [hsl]; exact this)).mono ?_; rintro e w9 ⟨vb, rfl, hrb, _, hb9⟩))
      have hb89 := hb8.trans (hb9.mono hb8.size)
      replace HB := Lib.hid (HB.out.trans (hb89.mono HB.out.size))
      replace HO := Lib.hid (ownsRow_below HO.out hb89)
      have ht9 := HT5.out.below hb89
      replace hrb : Rd w9 66 vb (baseL (setFl l i bi money)).length (cellsQ (baseL (setFl l i bi money))) := hrb
      obtain ⟨gb, ob, cb, rfl, hcb⟩ := qs_some hrb (by omega)
      simp only [hlm]
      have hb79 := HB7.out.trans (hb89.mono HB7.out.size)
      have HA := Lib.hid (show ∀ j b, l[j]? = some b → w9.rangeAt ga (oa + j * 66) (ratZ ((b.op : Int) + b.own) 1) from fun j b hb t u hu => by
        have := cell_up (HCA.out j ((b.op : Int) + b.own, 1) (by unfold baseL; rw [List.getElem?_map, hb]; rfl) t u hu) hb79
        rw [← Nat.add_assoc] at this; exact this)
      have HBb := Lib.hid (show ∀ j b, l[j]? = some b → w9.rangeAt gb (ob + j * 66) (ratZ ((b.op : Int) + b.own + if j = i then money else 0) 1) from fun j b hb t u hu => by
        have hg := fl_get (m := money) HBI.out hb
        have hm := (HD.out.1.all b (List.mem_of_getElem? hb)).sum
        have := hcb j _ (by unfold baseL; rw [List.getElem?_map, hg]; rfl) t u (by
          rw [← hu]
          by_cases hji : j = i
          · simp only [if_pos hji]
            have e : ((Bk.op { b with flows := b.flows + money } : Nat) : Int) + b.own = (b.op : Int) + b.own + money := by unfold Bk.op; simp only; omega
            rw [e]
          · simp only [if_neg hji, Int.add_zero])
        rw [← Nat.add_assoc] at this; exact this)
      have HT9 := Lib.hid ht9
      clear hrb hcb HCA HB7 hb79 hb8 hb9 hb89 HX2 HW2 V_ct HST HT5 ht9 hlm hsl wt wo
      go_wp2
      go_loopg [14] k (fun m jv wr => ∃ j : Nat, jv = .int .i64 j ∧ j ≤ k ∧ k ≤ m + j ∧ Below w9.heap.size w9 wr)
      case atStart => exact ⟨0, rfl, by omega, by omega, Below.refl _ _⟩
      case round =>
        obtain ⟨j, rfl, hj, hm, hbr⟩ := hrel
        by_cases hjk : j < k
        · obtain ⟨b, hb⟩ : ∃ b, l[j]? = some b := ⟨_, List.getElem?_eq_getElem (by rw [← HD.out.2]; exact hjk)⟩
          have hm' := HD.out.1.all b (List.mem_of_getElem? hb)
          have hop := hm'.few.op_le
          have how := hm'.own
          obtain ⟨A, hA⟩ : ∃ A, A = (b.op : Int) + b.own := ⟨_, rfl⟩
          have hAb : -300 ≤ A ∧ A ≤ 2000000200 := by omega
          obtain ⟨dl, hdl⟩ : ∃ dl, dl = if j = i then money else 0 := ⟨_, rfl⟩
          have hdb : 0 ≤ dl ∧ dl ≤ 100000 := by rw [hdl]; split <;> omega
          obtain ⟨ka, V_ka⟩ : ∃ c : List Value, Hid (c = ratZ A 1) := ⟨_, Lib.hid rfl⟩
          obtain ⟨kb, V_kb⟩ : ∃ c : List Value, Hid (c = ratZ (A + dl) 1) := ⟨_, Lib.hid rfl⟩
          obtain ⟨cd, V_cd⟩ : ∃ c : List Value, Hid (c = ratZ dl 1) := ⟨_, Lib.hid rfl⟩
          have hra := HA.out j b hb
          have hrb := HBb.out j b hb
          rw [← hA] at hra hrb
          rw [← hdl] at hrb
          rw [← V_ka.out] at hra
          rw [← V_kb.out] at hrb
          have RA := Lib.hid (ranges_up hra hbr)
          have RB := Lib.hid (ranges_up hrb hbr)
          have hsub : subQ (A + dl, 1) (A, 1) = some (dl, 1) := by rw [sub_whole (by omega)]; congr 2; omega
          have HSUB := Lib.hid (rsubQ (cR := cd) (code := 0) V_kb.out V_ka.out (vqz (by omega)) (vqz (by omega)) (by rw [hsub]; exact V_cd.out) (by rw [hsub]; rfl))
          have VD := Lib.hid (show VQ (dl, 1) from vqz (by omega))
          have FR := Lib.hid (show Fr w9.heap.size w9 wr from ⟨hbr, hbr.size⟩)
          have FR0 := Lib.hid FR.out.le
          have HDL := Lib.hid hdl
          clear hra hrb hbr hb hm' hA hdl hsub
          go_upto_region 18 with fail
          refine wp_flow_new [⟨true, 12, 15, 13, 0, 0, 49, 131, cd, 0, cd, []⟩] [(122, .slice (some ⟨gb, ob, none⟩) k cb), (123, .int .i64 (j : Int)), (124, .pointer (some ⟨gb, ob + j * 66, none⟩)), (125, .agg kb.toArray), (126, .slice (some ⟨ga, oa, none⟩) k ca), (127, .int .i64 (j : Int)), (128, .pointer (some ⟨ga, oa + j * 66, none⟩)), (129, .agg ka.toArray), (130, .tuple #[.agg cd.toArray, .int .i64 0]), (121, .tuple #[.agg cd.toArray, .int .i64 0]), (131, .agg cd.toArray), (132, .int .i64 0), (16, .int .i64 0)] _ (by simp only [zz4, zz5, Act.put, zz1, zz2, zz3]; rfl) (by kernel_rfl) (by kernel_rfl) rfl ?_ ?_ ?_ ?_
          · intro W' hW'
            have ra := ranges_up RA.out hW'
            have rb := ranges_up RB.out hW'
            iterate 3 (refine fxo ?_ ?_; (go_big_quiet_step (fail); (try simp only [Act.put, zz1, zz2, zz3]); exact wqn rfl))
            refine fxo (wlq (by rfl) _ _ rfl _ _ rfl _ _ rb Try.underlying49 rfl (sizeR V_kb.out) (wqn (by simp only [Act.put, zz1, zz2, zz3]))) ?_
            iterate 3 (refine fxo ?_ ?_; (go_big_quiet_step (fail); (try simp only [Act.put, zz1, zz2, zz3]); exact wqn rfl))
            refine fxo (wlq (by rfl) _ _ rfl _ _ rfl _ _ ra Try.underlying49 rfl (sizeR V_ka.out) (wqn (by simp only [Act.put, zz1, zz2, zz3]))) ?_
            refine fxo ?_ ?_; (go_big_quiet_step ((go_at_call 14; exact Calls.below_of (HSUB.out _))); (try simp only [Act.put, zz1, zz2, zz3]); exact wqn rfl)
            iterate 3 (refine fxo ?_ ?_; (go_big_quiet_step (fail); (try simp only [Act.put, zz1, zz2, zz3]); exact wqn rfl))
            iterate 2 (refine fxs (by rfl) ?_)
            refine fxo ?_ ?_; (go_big_quiet_step (fail); (try simp only [Act.put, zz1, zz2, zz3]); exact wqn rfl)
            exact fxn
          · exact forPl _ _ (Try.alR (sizeR V_cd.out)) (forPl0)
          · exact forPl _ _ (stw rfl (sizeR V_cd.out) (oneR V_cd.out) (fun _ => rfl)) (forPl0)
          intro β wx1 E
          replace FR := Lib.hid (FR.out.fnw E rfl)
          obtain ⟨bd, hbd⟩ : ∃ b, b = β 12 := ⟨_, rfl⟩
          have ebd := E.atNew (List.mem_cons_self ..) rfl
          simp only at ebd
          rw [← hbd] at ebd
          have hZbd : w9.heap.size ≤ bd := by have h1 := ebd.1; have h2 := FR0.out; omega
          have Abd := Lib.hid ebd.2
          simp only [newPuts, zz4, zz5, if_true, Bool.false_eq_true, if_false, Act.put, zz1, zz2, zz3]
          rw [← hbd]
          replace FR0 := Lib.hid FR.out.le
          clear E ebd hbd
          go_upto_region 19 with fail
          by_cases hji : j = i
          · have hq : ((j : Int) == (i : Int)) = true := by simp [hji]
            have hq2 : ((j : Int) != (i : Int)) = false := by simp [hji]
            have hdl := HDL.out
            rw [if_pos hji] at hdl
            have HC := Lib.hid (rwholeZ (cr := cd) (z := money) (by rw [V_cd.out, hdl]) (by omega) (by omega))
            clear hji hdl
            refine wp_flow_new [] [(133, .int .i64 (j : Int)), (134, .int .i64 (i : Int)), (135, .bool false), (136, .bool false), (137, undef), (138, undef), (139, undef), (140, .bool false), (141, .bool false), (142, .int .i64 (j : Int)), (143, .int .i64 (i : Int)), (144, .bool true), (145, .bool true), (146, .agg cd.toArray), (147, .int .i64 money), (148, .agg cd.toArray), (149, .bool false), (150, .bool false), (151, .bool false)] _ (by simp only [zz4, zz5, Act.put, zz1, zz2, zz3]; rfl) (by kernel_rfl) (by kernel_rfl) rfl ?_ ?_ ?_ ?_
            · intro W' hW'
              have rd0 := Abd.out.below hW'
              iterate 13 (refine fxo ?_ ?_; (go_big_quiet_step (fail); (try simp only [Act.put, zz1, zz2, zz3]); exact wqn rfl))
              refine fxo (wlg (by rfl) rfl rfl rd0 Try.underlying49 rfl (sizeR V_cd.out) (wqn (by simp only [Act.put, zz1, zz2, zz3]))) ?_
              refine fxo ?_ ?_; (go_big_quiet_step (fail); (try simp only [Act.put, zz1, zz2, zz3]); exact wqn rfl)
              refine fxo ?_ ?_; (go_big_quiet_step ((go_at_call 13; exact Calls.below_of (HC.out _))); (try simp only [Act.put, zz1, zz2, zz3]); exact wqn rfl)
              refine fxo (wqs (by rfl) rfl rfl rfl (by kernel_rfl) (neQ (r := (dl, 1)) V_cd.out VD.out) (wqn (by simp only [Act.put, zz1, zz2, zz3]))) ?_
              iterate 2 (refine fxo ?_ ?_; (go_big_quiet_step (fail); (try simp only [Act.put, zz1, zz2, zz3]); exact wqn rfl))
              exact fxn
            · exact forPl0
            · exact forPl0
            intro β wx2 E
            replace FR := Lib.hid (FR.out.fnw E rfl)
            replace Abd := Lib.hid (Abd.out.fnw E rfl)
            have hE := E.below rfl
            simp only [newPuts, zz4, zz5, if_true, Bool.false_eq_true, if_false, Act.put, zz1, zz2, zz3]
            replace FR0 := Lib.hid FR.out.le
            clear E
            go_wp2
            go_roundg (gk - 1)
            case measure => omega
            case rel => exact ⟨j + 1, by go_num, by omega, by omega, FR.out.below⟩
          · have hq : ((j : Int) == (i : Int)) = false := beq_eq_false_iff_ne.2 (by omega)
            have hq2 : ((j : Int) != (i : Int)) = true := by rw [bne, hq]; rfl
            have hdl := HDL.out
            rw [if_neg hji] at hdl
            have HC := Lib.hid (rzeroQ (cR := cd) (by rw [V_cd.out, hdl]))
            clear hji hdl
            refine wp_flow_new [] [(133, .int .i64 (j : Int)), (134, .int .i64 (i : Int)), (135, .bool true), (136, .bool true), (137, .agg cd.toArray), (138, .agg cd.toArray), (139, .bool false), (140, .bool false), (141, .bool false), (142, .int .i64 (j : Int)), (143, .int .i64 (i : Int)), (144, .bool false), (145, .bool false), (146, undef), (147, undef), (148, undef), (149, undef), (150, .bool false), (151, .bool false)] _ (by simp only [zz4, zz5, Act.put, zz1, zz2, zz3]; rfl) (by kernel_rfl) (by kernel_rfl) rfl ?_ ?_ ?_ ?_
            · intro W' hW'
              have rd0 := Abd.out.below hW'
              iterate 4 (refine fxo ?_ ?_; (go_big_quiet_step (fail); (try simp only [Act.put, zz1, zz2, zz3]); exact wqn rfl))
              refine fxo (wlg (by rfl) rfl rfl rd0 Try.underlying49 rfl (sizeR V_cd.out) (wqn (by simp only [Act.put, zz1, zz2, zz3]))) ?_
              refine fxo ?_ ?_; (go_big_quiet_step ((go_at_call 15; exact Calls.below_of (HC.out _))); (try simp only [Act.put, zz1, zz2, zz3]); exact wqn rfl)
              refine fxo (wqs (by rfl) rfl rfl rfl (by kernel_rfl) (neQ (r := (dl, 1)) V_cd.out VD.out) (wqn (by simp only [Act.put, zz1, zz2, zz3]))) ?_
              iterate 12 (refine fxo ?_ ?_; (go_big_quiet_step (fail); (try simp only [Act.put, zz1, zz2, zz3]); exact wqn rfl))
              exact fxn
            · exact forPl0
            · exact forPl0
            intro β wx2 E
            replace FR := Lib.hid (FR.out.fnw E rfl)
            replace Abd := Lib.hid (Abd.out.fnw E rfl)
            have hE := E.below rfl
            simp only [newPuts, zz4, zz5, if_true, Bool.false_eq_true, if_false, Act.put, zz1, zz2, zz3]
            replace FR0 := Lib.hid FR.out.le
            clear E
            go_wp2
            go_roundg (gk - 1)
            case measure => omega
            case rel => exact ⟨j + 1, by go_num, by omega, by omega, FR.out.below⟩
        · replace HB := Lib.hid (HB.out.trans (hbr.mono HB.out.size))
          have HOr := Lib.hid (ownsRow_below HO.out hbr)
          have htr := HT9.out.below hbr
          have hga : ga ≠ bt := by
            have := HGA.out
            omega
          have HAr := Lib.hid (fun j b (hb : l[j]? = some b) => ranges_up (HA.out j b hb) hbr)
          clear HA HBb HO HT9 hm hbr
          go_wp2_with fail
          refine (range_any bt _ (-100000) 100000 _ htr (by omega) (by omega) (by omega) (by omega)).mono ?_
          rintro e w10 ⟨p, hp1, hp2, rfl, ht10, hg10⟩
          have hb10 : Below w.heap.size wr w10 := below_grownBy hg10 (by rw [HBT.out]; exact Nat.le_refl _) HB.out.size
          replace HB := Lib.hid (HB.out.trans hb10)
          replace HOr := Lib.hid (own_keptB HOr.out hg10 (by omega))
          replace HAr := Lib.hid (fun j b (hb : l[j]? = some b) => ranges_grown (HAr.out j b hb) hg10 hga)
          clear htr hb10 hg10
          go_wp2_with fail
          refine (next_any bt _ 50 _ ht10 (by omega) (by omega)).mono ?_
          rintro e w11 ⟨u4, rfl, ht11, hg11⟩
          have hb4 := foldI_bd u4 50 (by omega)
          generalize foldI u4 50 = fq at *
          have hb11 : Below w.heap.size w10 w11 := below_grownBy hg11 (by rw [HBT.out]; exact Nat.le_refl _) HB.out.size
          replace HB := Lib.hid (HB.out.trans hb11)
          replace HOr := Lib.hid (own_keptB HOr.out hg11 (by omega))
          replace HAr := Lib.hid (fun j b (hb : l[j]? = some b) => ranges_grown (HAr.out j b hb) hg11 hga)
          clear ht10 ht11 hb11 hg11 hga
          obtain ⟨qn, hqn⟩ : ∃ q : Nat, (q : Int) = 1 + fq := ⟨(1 + fq).toNat, by omega⟩
          have wq : IntKind.i64.wrap (1 + fq) = (qn : Int) := by rw [IntWalk.i64_in _ (by omega)]; exact hqn.symm
          have hqb : 1 ≤ qn ∧ qn ≤ 50 := by omega
          clear hqn hb4
          obtain ⟨st, hst⟩ := mkQ_some (N := p) (D := qn) (big_lt (Nat.le_trans (show p.natAbs ≤ 100000 by omega) (by decide))) (big_lt (Nat.le_trans hqb.2 (by decide)))
          have vst := mkQ_valid (by omega) hst
          obtain ⟨_, st1, st2⟩ := mkQ_val (by omega) hst
          have st1' : st.1.natAbs ≤ 100000 := by omega
          have st2' : st.2 ≤ 50 := by omega
          obtain ⟨o1, o2, c2, e1, v1, e2, v2, s1, s2, v3, he, hc1, hc2⟩ := steps (sum := S) vst (by omega) st1' st2'
          obtain ⟨cst, V_cst⟩ : ∃ c : List Value, Hid (c = ratZ st.1 st.2) := ⟨_, Lib.hid rfl⟩
          obtain ⟨co, V_co⟩ : ∃ c : List Value, Hid (c = ratZ o1.1 o1.2) := ⟨_, Lib.hid rfl⟩
          obtain ⟨cw, V_cw⟩ : ∃ c : List Value, Hid (c = ratZ o2.1 o2.2) := ⟨_, Lib.hid rfl⟩
          have HOF := Lib.hid (mofQ (cR := cst) (x := p) (y := (qn : Int)) (d := qn) rfl (by omega) (by rw [hst]; exact V_cst.out) (by omega) (by omega) (by omega))
          have HA1 := Lib.hid (raddQ (cR := co) (code := 0) V_cs.out V_cst.out (vqz (by omega)) vst (by rw [e1]; exact V_co.out) (by rw [e1]; rfl))
          have HA2 := Lib.hid (raddQ (cR := cw) (code := 0) V_co.out V_cst.out v1 vst (by rw [e2]; exact V_cw.out) (by rw [e2]; rfl))
          have HE1 := Lib.hid (fun (W : World) (h : BksAt W (.slice (some ⟨g, 0, none⟩) k cp) l) => exact_any o1 l _ W h HD.out.1.check v1 V_co.out)
          have HE2 := Lib.hid (fun (W : World) (h : BksAt W (.slice (some ⟨g, 0, none⟩) k cp) l) => exact_any o2 l _ W h HD.out.1.check v2 V_cw.out)
          have HK := Lib.hid (And.intro vst (And.intro st1' (And.intro st2' (And.intro he (And.intro v3 (And.intro hc1 hc2))))))
          have HS1 := Lib.hid (And.intro s1 s2)
          clear hst vst st1 st2 st1' st2' e1 v1 e2 v2 s1 s2 v3 he hc1 hc2
          go_upto_region 22 with (first | (go_at_call 16; refine (HOF.out _).mono ?_; rintro e w12 ⟨rfl, hb12⟩) | (refine wpList_newR rfl rfl rfl rfl rfl rfl (sizeR V_cst.out) (oneR V_cst.out) ?_; intro w13 hb13 hA13 hs13))
          obtain ⟨bs, hbs⟩ : ∃ b, b = w12.heap.size := ⟨_, rfl⟩
          rw [← hbs] at hA13 ⊢
          have Abs := Lib.hid hA13
          have hf := hb12.trans (hb13.mono hb12.size)
          have FR := Lib.hid (show Fr w11.heap.size w11 w13 from ⟨hf, hf.size⟩)
          have FR0 := Lib.hid FR.out.le
          clear hbs hA13 hb12 hb13 hs13 hf
          refine wp_flow_new [⟨true, 7, 18, 8, 0, 0, 49, 163, co, 0, co, []⟩] [(159, .int .i64 S), (160, .agg cs.toArray), (161, .agg cst.toArray), (162, .tuple #[.agg co.toArray, .int .i64 0]), (158, .tuple #[.agg co.toArray, .int .i64 0]), (163, .agg co.toArray), (164, .int .i64 0), (19, .int .i64 0)] _ (by simp only [zz4, zz5, Act.put, zz1, zz2, zz3]; rfl) (by kernel_rfl) (by kernel_rfl) rfl ?_ ?_ ?_ ?_
          · intro W' hW'
            have rd0 := Abs.out.below hW'
            refine fxo ?_ ?_; (go_big_quiet_step (fail); (try simp only [Act.put, zz1, zz2, zz3]); exact wqn rfl)
            refine fxo ?_ ?_; (go_big_quiet_step ((go_at_call 13; exact Calls.below_of (HW.out _))); (try simp only [Act.put, zz1, zz2, zz3]); exact wqn rfl)
            refine fxo (wlg (by rfl) rfl rfl rd0 Try.underlying49 rfl (sizeR V_cst.out) (wqn (by simp only [Act.put, zz1, zz2, zz3]))) ?_
            refine fxo ?_ ?_; (go_big_quiet_step ((go_at_call 17; exact Calls.below_of (HA1.out _))); (try simp only [Act.put, zz1, zz2, zz3]); exact wqn rfl)
            iterate 3 (refine fxo ?_ ?_; (go_big_quiet_step (fail); (try simp only [Act.put, zz1, zz2, zz3]); exact wqn rfl))
            iterate 2 (refine fxs (by rfl) ?_)
            refine fxo ?_ ?_; (go_big_quiet_step (fail); (try simp only [Act.put, zz1, zz2, zz3]); exact wqn rfl)
            exact fxn
          · exact forPl _ _ (Try.alR (sizeR V_co.out)) (forPl0)
          · exact forPl _ _ (stw rfl (sizeR V_co.out) (oneR V_co.out) (fun _ => rfl)) (forPl0)
          intro β wx1 E
          replace FR := Lib.hid (FR.out.fnw E rfl)
          obtain ⟨bo, hbo⟩ : ∃ b, b = β 7 := ⟨_, rfl⟩
          have ebo := E.atNew (List.mem_cons_self ..) rfl
          simp only at ebo
          rw [← hbo] at ebo
          have lbs_bo : bs < bo := by have h1 := ebo.1; have h2 := Abs.out.lt; omega
          have hZbo : w11.heap.size ≤ bo := by have h1 := ebo.1; have h2 := FR0.out; omega
          replace Abs := Lib.hid (Abs.out.fnw E rfl)
          have Abo := Lib.hid ebo.2
          simp only [newPuts, zz4, zz5, if_true, Bool.false_eq_true, if_false, Act.put, zz1, zz2, zz3]
          rw [← hbo]
          replace FR0 := Lib.hid FR.out.le
          clear E ebo hbo
          go_upto_region 23 with fail
          refine wp_flow_new [⟨true, 6, 20, 7, 0, 0, 49, 169, cw, 0, cw, []⟩] [(166, .agg co.toArray), (167, .agg cst.toArray), (168, .tuple #[.agg cw.toArray, .int .i64 0]), (165, .tuple #[.agg cw.toArray, .int .i64 0]), (169, .agg cw.toArray), (170, .int .i64 0), (21, .int .i64 0)] _ (by simp only [zz4, zz5, Act.put, zz1, zz2, zz3]; rfl) (by kernel_rfl) (by kernel_rfl) rfl ?_ ?_ ?_ ?_
          · intro W' hW'
            have rd0 := Abo.out.below hW'
            have rd1 := Abs.out.below hW'
            refine fxo (wlg (by rfl) rfl rfl rd0 Try.underlying49 rfl (sizeR V_co.out) (wqn (by simp only [Act.put, zz1, zz2, zz3]))) ?_
            refine fxo (wlg (by rfl) rfl rfl rd1 Try.underlying49 rfl (sizeR V_cst.out) (wqn (by simp only [Act.put, zz1, zz2, zz3]))) ?_
            refine fxo ?_ ?_; (go_big_quiet_step ((go_at_call 17; exact Calls.below_of (HA2.out _))); (try simp only [Act.put, zz1, zz2, zz3]); exact wqn rfl)
            iterate 3 (refine fxo ?_ ?_; (go_big_quiet_step (fail); (try simp only [Act.put, zz1, zz2, zz3]); exact wqn rfl))
            iterate 2 (refine fxs (by rfl) ?_)
            refine fxo ?_ ?_; (go_big_quiet_step (fail); (try simp only [Act.put, zz1, zz2, zz3]); exact wqn rfl)
            exact fxn
          · exact forPl _ _ (Try.alR (sizeR V_cw.out)) (forPl0)
          · exact forPl _ _ (stw rfl (sizeR V_cw.out) (oneR V_cw.out) (fun _ => rfl)) (forPl0)
          intro β wx2 E
          replace FR := Lib.hid (FR.out.fnw E rfl)
          obtain ⟨bw, hbw⟩ : ∃ b, b = β 6 := ⟨_, rfl⟩
          have ebw := E.atNew (List.mem_cons_self ..) rfl
          simp only at ebw
          rw [← hbw] at ebw
          have lbs_bw : bs < bw := by have h1 := ebw.1; have h2 := Abs.out.lt; omega
          have lbo_bw : bo < bw := by have h1 := ebw.1; have h2 := Abo.out.lt; omega
          have hZbw : w11.heap.size ≤ bw := by have h1 := ebw.1; have h2 := FR0.out; omega
          replace Abs := Lib.hid (Abs.out.fnw E rfl)
          replace Abo := Lib.hid (Abo.out.fnw E rfl)
          have Abw := Lib.hid ebw.2
          simp only [newPuts, zz4, zz5, if_true, Bool.false_eq_true, if_false, Act.put, zz1, zz2, zz3]
          rw [← hbw]
          replace FR0 := Lib.hid FR.out.le
          clear E ebw hbw
          obtain ⟨WF, hWF⟩ : ∃ x, x = wx2 := ⟨_, rfl⟩
          rw [← hWF] at FR Abo Abw ⊢
          clear hWF Abs
          have hz : (c2.1 ≠ 0) ↔ (st.1 ≠ 0) := by
            obtain ⟨vst, _, _, he, v3, _, _⟩ := HK.out
            have k1 : (st.2 : Int) ≠ 0 := by have := vst.pos; omega
            have k2 : (c2.2 : Int) ≠ 0 := by have := v3.pos; omega
            constructor
            · intro h h0
              rw [h0, Int.mul_zero, Int.zero_mul] at he
              rcases Int.mul_eq_zero.1 he with h1 | h1
              · exact h h1
              · exact k1 h1
            · intro h h0
              rw [h0, Int.zero_mul] at he
              rcases Int.mul_eq_zero.1 he.symm with h1 | h1
              · rcases Int.mul_eq_zero.1 h1 with h2 | h2
                · omega
                · exact h h2
              · exact k2 h1
          have hl4 : l.length ≤ 4 := by rw [← HD.out.2]; omega
          have x1 := exact_step (t := o1) (c := st) HFEW.out hl4 (by rw [← HS.out]; exact HS1.out.1) (Nat.le_trans HK.out.2.1 (by decide)) (Nat.le_trans HK.out.2.2.1 (by decide)) HK.out.1.pos
          have x2 := exact_step (t := o2) (c := c2) HFEW.out hl4 (by rw [← HS.out]; exact HS1.out.2) HK.out.2.2.2.2.2.1 HK.out.2.2.2.2.2.2 HK.out.2.2.2.2.1.pos
          have HBK := Lib.hid (fun (W : World) (h : Below w11.heap.size w11 W) => show BksAt W (.slice (some ⟨g, 0, none⟩) k cp) l by have := Rd.of_own (ownsRow_below HOr.out h); unfold BksAt; rw [← HD.out.2]; exact this)
          have HBW := Lib.hid (fun (W : World) (h : Below w11.heap.size w11 W) => HB.out.trans (h.mono HB.out.size))
          rcases x1 with ⟨y1, y2, y3⟩ | ⟨y1, rs, y2, y3, y4⟩
          · have x2' : exactR o2 l = (211, []) := by
              rcases x2 with ⟨_, _, h⟩ | ⟨h, _⟩
              · exact h
              · exact absurd ⟨y1, hz.2 y2⟩ h
            rw [y3] at HE1
            rw [x2'] at HE2
            clear x2 x2' y1 y2 y3 hz HK HS1
            go_upto_region 25 with (first | (refine wpList_load_mid rfl _ _ rfl bo 0 rfl co _ Abo.out.range Try.underlying49 rfl (sizeR V_co.out) ?_) | (go_at_call 12; refine (HE1.out _ (HBK.out _ FR.out.below)).mono ?_; rintro e w16 ⟨vc, rfl, hrc, _, hb16⟩))
            replace FR := Lib.hid (FR.out.step hb16)
            replace Abw := Lib.hid (Abw.out.below hb16)
            obtain ⟨ac, cc, rfl⟩ := Rd.form hrc
            clear hrc hb16
            go_upto_region 26 with (first | (refine wpList_load_mid rfl _ _ rfl bw 0 rfl cw _ Abw.out.range Try.underlying49 rfl (sizeR V_cw.out) ?_) | (go_at_call 12; refine (HE2.out _ (HBK.out _ FR.out.below)).mono ?_; rintro e w17 ⟨vd, rfl, hrd, _, hb17⟩))
            replace FR := Lib.hid (FR.out.step hb17)
            obtain ⟨ad, cd, rfl⟩ := Rd.form hrd
            clear hrd hb17
            go_wp2_with fail
            refine (known_any _).mono ?_
            rintro e w18 ⟨rfl, hb18⟩
            replace FR := Lib.hid (FR.out.step hb18)
            clear hb18
            go_wp2
            go_ret
            exact ⟨rfl, HBW.out _ FR.out.below⟩
          · obtain ⟨rs2, z2, z3, z4⟩ : ∃ rs2 : List Qn, exactR o2 l = (0, rs2) ∧ rs2.length = l.length ∧ ∀ (k : Nat) (b : Bk), l[k]? = some b → ∃ r, rs2[k]? = some r ∧ exR c2 (sumO l) b = some r := by
              rcases x2 with ⟨h1, h2, _⟩ | ⟨_, h⟩
              · exact absurd ⟨h1, hz.1 h2⟩ y1
              · exact h
            rw [y2] at HE1
            rw [z2] at HE2
            rw [← HD.out.2] at y3 z3
            have HJ := Lib.hid (And.intro y4 z4)
            clear x2 y1 y2 z2 y4 z4 hz HS1
            go_upto_region 25 with (first | (refine wpList_load_mid rfl _ _ rfl bo 0 rfl co _ Abo.out.range Try.underlying49 rfl (sizeR V_co.out) ?_) | (go_at_call 12; refine (HE1.out _ (HBK.out _ FR.out.below)).mono ?_; rintro e w16 ⟨vc, rfl, hrc, _, hb16⟩))
            replace FR := Lib.hid (FR.out.step hb16)
            replace Abw := Lib.hid (Abw.out.below hb16)
            replace hrc : Rd w16 66 vc rs.length (cellsQ rs) := hrc
            obtain ⟨gc, oc, cc, rfl, hcc⟩ := qs_some hrc (by omega)
            have HCC := Lib.hid hcc
            simp only [y3]
            clear hrc hb16 hcc
            go_upto_region 26 with (first | (refine wpList_load_mid rfl _ _ rfl bw 0 rfl cw _ Abw.out.range Try.underlying49 rfl (sizeR V_cw.out) ?_) | (go_at_call 12; refine (HE2.out _ (HBK.out _ FR.out.below)).mono ?_; rintro e w17 ⟨vd, rfl, hrd, _, hb17⟩))
            replace FR := Lib.hid (FR.out.step hb17)
            replace hrd : Rd w17 66 vd rs2.length (cellsQ rs2) := hrd
            obtain ⟨gd, od, cd, rfl, hcd⟩ := qs_some hrd (by omega)
            simp only [z3]
            have HRC := Lib.hid (show ∀ j r, rs[j]? = some r → w17.rangeAt gc (oc + j * 66) (ratZ r.1 r.2) from fun j r hr t u hu => by
              have := cell_up (HCC.out j r hr t u hu) hb17
              rw [← Nat.add_assoc] at this; exact this)
            have HRD := Lib.hid (show ∀ j r, rs2[j]? = some r → w17.rangeAt gd (od + j * 66) (ratZ r.1 r.2) from fun j r hr t u hu => by
              have := hcd j r hr t u hu
              rw [← Nat.add_assoc] at this; exact this)
            have HRA := Lib.hid (fun j b (hb : l[j]? = some b) => ranges_up (HAr.out j b hb) FR.out.below)
            clear hrd hb17 hcd HCC HAr Abo Abw
            go_wp2
            go_loopg [26] k (fun m jv wr => ∃ j : Nat, jv = .int .i64 j ∧ j ≤ k ∧ k ≤ m + j ∧ Below w17.heap.size w17 wr)
            case atStart => exact ⟨0, rfl, by omega, by omega, Below.refl _ _⟩
            case round =>
              obtain ⟨j, rfl, hj, hm, hbr⟩ := hrel
              by_cases hjk : j < k
              · obtain ⟨b, hb⟩ : ∃ b, l[j]? = some b := ⟨_, List.getElem?_eq_getElem (by rw [← HD.out.2]; exact hjk)⟩
                have hfb := HFEW.out b (List.mem_of_getElem? hb)
                have hop := hfb.op_le
                have how := hfb.own
                obtain ⟨r, hr1, hr2⟩ := HJ.out.1 j b hb
                obtain ⟨s, hs1, hs2⟩ := HJ.out.2 j b hb
                have hSb := few_sum hl4 HFEW.out
                obtain ⟨vst, kk1, kk2, he, v3, _, _⟩ := HK.out
                obtain ⟨x, hx1, hx2, vx⟩ := diff_same hfb hSb kk1 kk2 vst.pos v3.pos he hr2 hs2
                have vr := mkQ_valid (Nat.mul_ne_zero vst.pos (show max (sumO l) 1 ≠ 0 by omega)) hr2
                have vs := mkQ_valid (Nat.mul_ne_zero v3.pos (show max (sumO l) 1 ≠ 0 by omega)) hs2
                obtain ⟨A, hA⟩ : ∃ A, A = (b.op : Int) + b.own := ⟨_, rfl⟩
                have hAb : -10000 ≤ A ∧ A ≤ 2000010000 := by omega
                obtain ⟨ka, V_ka⟩ : ∃ c : List Value, Hid (c = ratZ A 1) := ⟨_, Lib.hid rfl⟩
                obtain ⟨kr, V_kr⟩ : ∃ c : List Value, Hid (c = ratZ r.1 r.2) := ⟨_, Lib.hid rfl⟩
                obtain ⟨ks, V_ks⟩ : ∃ c : List Value, Hid (c = ratZ s.1 s.2) := ⟨_, Lib.hid rfl⟩
                obtain ⟨kx, V_kx⟩ : ∃ c : List Value, Hid (c = ratZ x.1 x.2) := ⟨_, Lib.hid rfl⟩
                have hra := HRA.out j b hb
                have hrc := HRC.out j r hr1
                have hrd := HRD.out j s hs1
                rw [← hA] at hra hx1
                rw [← V_ka.out] at hra
                rw [← V_kr.out] at hrc
                rw [← V_ks.out] at hrd
                have RA := Lib.hid (ranges_up hra hbr)
                have RC := Lib.hid (ranges_up hrc hbr)
                have RD := Lib.hid (ranges_up hrd hbr)
                have RC0 := Lib.hid hrc
                have RD0 := Lib.hid hrd
                have HX1 := Lib.hid (rsubQ (cR := kx) (code := 0) V_kr.out V_ka.out vr (vqz (by omega)) (by rw [hx1]; exact V_kx.out) (by rw [hx1]; rfl))
                have HX2 := Lib.hid (rsubQ (cR := kx) (code := 0) V_ks.out V_kr.out vs vr (by rw [hx2]; exact V_kx.out) (by rw [hx2]; rfl))
                have VX := Lib.hid vx
                have FL := Lib.hid (show Fr w17.heap.size w17 wr from ⟨hbr, hbr.size⟩)
                have FR9 := Lib.hid FR.out
                clear FR FR0
                have FR := Lib.hid FL.out
                have FR0 := Lib.hid FR.out.le
                clear FL hra hrc hrd hbr hb hfb hr1 hr2 hs1 hs2 hx1 hx2 vx vr vs vst kk1 kk2 he v3 hA
                go_upto_region 31 with fail
                refine wp_flow_new [⟨true, 12, 27, 13, 0, 0, 49, 228, kx, 0, kx, []⟩] [(219, .slice (some ⟨gc, oc, none⟩) k cc), (220, .int .i64 (j : Int)), (221, .pointer (some ⟨gc, oc + j * 66, none⟩)), (222, .agg kr.toArray), (223, .slice (some ⟨ga, oa, none⟩) k ca), (224, .int .i64 (j : Int)), (225, .pointer (some ⟨ga, oa + j * 66, none⟩)), (226, .agg ka.toArray), (227, .tuple #[.agg kx.toArray, .int .i64 0]), (218, .tuple #[.agg kx.toArray, .int .i64 0]), (228, .agg kx.toArray), (229, .int .i64 0), (28, .int .i64 0)] _ (by simp only [zz4, zz5, Act.put, zz1, zz2, zz3]; rfl) (by kernel_rfl) (by kernel_rfl) rfl ?_ ?_ ?_ ?_
                · intro W' hW'
                  have ra := ranges_up RA.out hW'
                  have rc := ranges_up RC.out hW'
                  iterate 3 (refine fxo ?_ ?_; (go_big_quiet_step (fail); (try simp only [Act.put, zz1, zz2, zz3]); exact wqn rfl))
                  refine fxo (wlq (by rfl) _ _ rfl _ _ rfl _ _ rc Try.underlying49 rfl (sizeR V_kr.out) (wqn (by simp only [Act.put, zz1, zz2, zz3]))) ?_
                  iterate 3 (refine fxo ?_ ?_; (go_big_quiet_step (fail); (try simp only [Act.put, zz1, zz2, zz3]); exact wqn rfl))
                  refine fxo (wlq (by rfl) _ _ rfl _ _ rfl _ _ ra Try.underlying49 rfl (sizeR V_ka.out) (wqn (by simp only [Act.put, zz1, zz2, zz3]))) ?_
                  refine fxo ?_ ?_; (go_big_quiet_step ((go_at_call 14; exact Calls.below_of (HX1.out _))); (try simp only [Act.put, zz1, zz2, zz3]); exact wqn rfl)
                  iterate 3 (refine fxo ?_ ?_; (go_big_quiet_step (fail); (try simp only [Act.put, zz1, zz2, zz3]); exact wqn rfl))
                  iterate 2 (refine fxs (by rfl) ?_)
                  refine fxo ?_ ?_; (go_big_quiet_step (fail); (try simp only [Act.put, zz1, zz2, zz3]); exact wqn rfl)
                  exact fxn
                · exact forPl _ _ (Try.alR (sizeR V_kx.out)) (forPl0)
                · exact forPl _ _ (stw rfl (sizeR V_kx.out) (oneR V_kx.out) (fun _ => rfl)) (forPl0)
                intro β wx21 E
                replace FR := Lib.hid (FR.out.fnw E rfl)
                obtain ⟨bx, hbx⟩ : ∃ b, b = β 12 := ⟨_, rfl⟩
                have ebx := E.atNew (List.mem_cons_self ..) rfl
                simp only at ebx
                rw [← hbx] at ebx
                have hZbx : w17.heap.size ≤ bx := by have h1 := ebx.1; have h2 := FR0.out; omega
                have Abx := Lib.hid ebx.2
                simp only [newPuts, zz4, zz5, if_true, Bool.false_eq_true, if_false, Act.put, zz1, zz2, zz3]
                rw [← hbx]
                replace FR0 := Lib.hid FR.out.le
                clear E ebx hbx
                have hbf := FR.out.below
                go_upto_region 32 with fail
                refine wp_flow_new [⟨true, 12, 29, 13, 0, 0, 49, 240, kx, 0, kx, []⟩] [(231, .slice (some ⟨gd, od, none⟩) k cd), (232, .int .i64 (j : Int)), (233, .pointer (some ⟨gd, od + j * 66, none⟩)), (234, .agg ks.toArray), (235, .slice (some ⟨gc, oc, none⟩) k cc), (236, .int .i64 (j : Int)), (237, .pointer (some ⟨gc, oc + j * 66, none⟩)), (238, .agg kr.toArray), (239, .tuple #[.agg kx.toArray, .int .i64 0]), (230, .tuple #[.agg kx.toArray, .int .i64 0]), (240, .agg kx.toArray), (241, .int .i64 0), (30, .int .i64 0)] _ (by simp only [zz4, zz5, Act.put, zz1, zz2, zz3]; rfl) (by kernel_rfl) (by kernel_rfl) rfl ?_ ?_ ?_ ?_
                · intro W' hW'
                  have rc := ranges_up (ranges_up RC0.out hbf) hW'
                  have rd := ranges_up (ranges_up RD0.out hbf) hW'
                  iterate 3 (refine fxo ?_ ?_; (go_big_quiet_step (fail); (try simp only [Act.put, zz1, zz2, zz3]); exact wqn rfl))
                  refine fxo (wlq (by rfl) _ _ rfl _ _ rfl _ _ rd Try.underlying49 rfl (sizeR V_ks.out) (wqn (by simp only [Act.put, zz1, zz2, zz3]))) ?_
                  iterate 3 (refine fxo ?_ ?_; (go_big_quiet_step (fail); (try simp only [Act.put, zz1, zz2, zz3]); exact wqn rfl))
                  refine fxo (wlq (by rfl) _ _ rfl _ _ rfl _ _ rc Try.underlying49 rfl (sizeR V_kr.out) (wqn (by simp only [Act.put, zz1, zz2, zz3]))) ?_
                  refine fxo ?_ ?_; (go_big_quiet_step ((go_at_call 14; exact Calls.below_of (HX2.out _))); (try simp only [Act.put, zz1, zz2, zz3]); exact wqn rfl)
                  iterate 3 (refine fxo ?_ ?_; (go_big_quiet_step (fail); (try simp only [Act.put, zz1, zz2, zz3]); exact wqn rfl))
                  iterate 2 (refine fxs (by rfl) ?_)
                  refine fxo ?_ ?_; (go_big_quiet_step (fail); (try simp only [Act.put, zz1, zz2, zz3]); exact wqn rfl)
                  exact fxn
                · exact forPl _ _ (Try.alR (sizeR V_kx.out)) (forPl0)
                · exact forPl _ _ (stw rfl (sizeR V_kx.out) (oneR V_kx.out) (fun _ => rfl)) (forPl0)
                intro β wx22 E
                replace FR := Lib.hid (FR.out.fnw E rfl)
                obtain ⟨bz, hbz⟩ : ∃ b, b = β 12 := ⟨_, rfl⟩
                have ebz := E.atNew (List.mem_cons_self ..) rfl
                simp only at ebz
                rw [← hbz] at ebz
                have lbx_bz : bx < bz := by have h1 := ebz.1; have h2 := Abx.out.lt; omega
                have hZbz : w17.heap.size ≤ bz := by have h1 := ebz.1; have h2 := FR0.out; omega
                replace Abx := Lib.hid (Abx.out.fnw E rfl)
                have Abz := Lib.hid ebz.2
                simp only [newPuts, zz4, zz5, if_true, Bool.false_eq_true, if_false, Act.put, zz1, zz2, zz3]
                rw [← hbz]
                replace FR0 := Lib.hid FR.out.le
                clear E ebz hbz
                go_wp2_with (first | (refine wpList_load_mid rfl _ _ rfl bx 0 rfl kx _ Abx.out.range Try.underlying49 rfl (sizeR V_kx.out) ?_) | (refine wpList_load_mid rfl _ _ rfl bz 0 rfl kx _ Abz.out.range Try.underlying49 rfl (sizeR V_kx.out) ?_) | (refine wpList_same rfl rfl rfl rfl (by kernel_rfl) (neQ V_kx.out VX.out) ?_))
                go_roundg (gk - 1)
                case measure => omega
                case rel => exact ⟨j + 1, by go_num, by omega, by omega, FR.out.below⟩
              · go_wp2_with fail
                refine (known_any _).mono ?_
                rintro e w18 ⟨rfl, hb18⟩
                replace FR := Lib.hid ((FR.out.step hbr).step hb18)
                clear hb18
                go_wp2
                go_ret
                exact ⟨rfl, HBW.out _ FR.out.below⟩
end Go.Proofs.Ytmcekgapelanhaa
