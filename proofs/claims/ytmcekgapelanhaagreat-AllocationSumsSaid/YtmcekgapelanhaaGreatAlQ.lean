import Derived.Test.YtmcekgapelanhaaGreatAlI
import Derived.Test.YtmcekgapelanhaaGreatQrB
import Derived.Test.YtmcekgapelanhaaGreatAlE
set_option linter.unusedVariables false
set_option linter.unusedSimpArgs false
set_option maxRecDepth 100000
set_option maxHeartbeats 8000000
namespace Go.Proofs.YtmcekgapelanhaaGreat
open Go.RowKit Big
open Lib (hid)
open Al Tok Ap
namespace Al
def kA : Bk := ⟨⟨#[97]⟩, 100, 0, -1, 0⟩
def kB : Bk := ⟨⟨#[98]⟩, 200, 100, 0, 0⟩
def kL : List Bk := [kA, kB]
def sA : Sh := ⟨⟨#[97]⟩, 100, -1, 10, 109⟩
def sB : Sh := ⟨⟨#[98]⟩, 300, 0, 31, 331⟩
theorem k_check : checkB kL = true := by
 refine check_of (by decide) (by decide) ?_ ?_
 ·intro b hb
  simp only [kL, List.mem_cons, List.not_mem_nil, or_false] at hb
  rcases hb with rfl | rfl
  ·exact ⟨nmAt_name 0, by unfold kA; decide, by unfold kA; decide, by unfold kA; decide, by unfold kA; decide, by unfold kA; decide⟩
  ·exact ⟨nmAt_name 1, by unfold kB; decide, by unfold kB; decide, by unfold kB; decide, by unfold kB; decide, by unfold kB; decide⟩
 ·intro k b hk
  match k with
  | 0 => simp [kL] at hk; rw [← hk]; rfl
  | 1 => simp [kL] at hk; rw [← hk]; rfl
  | k + 2 => simp [kL] at hk
theorem k_parts : Parts 41 [100, 300] [10, 31] := by
 refine ⟨[1, 0], by decide, List.pairwise_pair.2 (by unfold R; decide), rfl, ?_⟩
 intro i hi
 match i with
 | 0 => rfl
 | 1 => rfl
 | k + 2 => simp at hi; omega
theorem k_alloc {r : Int × List Sh} (h : AllocR 440 kL r) : r = (0, [sA, sB]) := by
 have hc : comm 440 kL = 41 := by decide
 have hs : sumO kL = 400 := by decide
 have hres : ∀ rs, Res (comm 440 kL) (kL.map Bk.op) rs → rs = [10, 31] := by
  intro rs h
  rw [hc] at h
  refine res_unique h ?_
  unfold Res
  rw [if_neg (by decide)]
  exact ⟨[10, 31], k_parts, rfl⟩
 cases h with
 | tot h => exact absurd h (by decide)
 | cap _ h => rw [hs] at h; exact absurd h (by decide)
 | far _ _ h => rw [hc] at h; exact absurd h (by decide)
 | net rs s _ _ _ h hm hn =>
  rw [hres rs h] at hm
  simp only [shL, kL, List.zipWith_cons_cons, List.zipWith_nil_right, List.mem_cons, List.not_mem_nil, or_false] at hm
  rcases hm with rfl | rfl <;> exact absurd hn (by decide)
 | ok rs _ _ _ h _ =>
  rw [hres rs h]; rfl
theorem k_exact : exactR (440, 1) kL = (0, [(437, 4), (1323, 4)]) := by kernel_rfl
theorem k_mk : mkQ 437 4 = some (437, 4) := by kernel_rfl
theorem k_vq : VQ (437, 4) := ⟨by unfold B480; decide, by unfold B480; decide, by decide, by decide⟩
end Al
theorem known_any (w : World) : Calls Tryz.prog 11 #[] w fun e w' => e = .returned (.bool true) ∧ Below w.heap.size w w' := by
 have HS := hid (fun (v : Value) (w : World) (h : BksAt w v kL) => alloc_any 440 kL v w h k_check)
 obtain ⟨ct, V_ct⟩ : ∃ c : List Value, Hid (c = ratZ 440 1) := ⟨_, hid rfl⟩
 obtain ⟨cs, V_cs⟩ : ∃ c : List Value, Hid (c = sA.cells) := ⟨_, hid rfl⟩
 obtain ⟨cR, V_cR⟩ : ∃ c : List Value, Hid (c = ratZ 437 4) := ⟨_, hid rfl⟩
 have HE := hid (fun (v : Value) (w : World) (h : BksAt w v kL) => exact_any (440, 1) kL v w h k_check (vq_whole (by omega) (by omega)) V_ct.out)
 have HW := hid (rwholeZ V_ct.out (by omega) (by omega))
 have HO := hid (mofQ (cR := cR) (x := 437) (y := 4) (d := 4) rfl (by omega) (by rw [k_mk]; exact V_cR.out) (by omega) (by omega) (by omega))
 have HC := hid (fun W => show Calls Tryz.prog 12 #[.slice none 0 0] W (fun e w' => e = .returned (.int .i64 210) ∧ Below W.heap.size W w') from acheck_any (.slice none 0 0) [] W (rd_nil W 5))
 obtain ⟨B0, hB0⟩ : ∃ B, B = w.heap.size := ⟨_, rfl⟩
 go_enter Tryz.func11, Tryz.ntmps11
 go_upto_region 2 with (refine wpList_buildRows rfl (s := 5) [kA.cells, kB.cells] rfl (by simp [Act.eval, Act.put, kA, kB, Bk.cells]) rfl (by decide) (by decide) (by intro c hc; simp only [List.mem_cons, List.not_mem_nil, or_false] at hc; rcases hc with rfl | rfl <;> rfl) (by decide) Tryz.underlying28 (by kernel_rfl) (by kernel_rfl) ?_)
 obtain ⟨W1, hW1⟩ : ∃ W, W = w.alloc (.cells (kA.cells ++ kB.cells).toArray 47) := ⟨_, rfl⟩
 have HB1 := hid (show BksAt W1 (.slice (some ⟨B0, 0, none⟩) 2 2) kL by rw [hW1, hB0]; exact rd_fresh w 5 2 (cellsB kL) _ (by omega) rfl)
 have HF1 := hid (show Below w.heap.size w W1 by rw [hW1]; exact (Below.refl _ _).alloc (Nat.le_refl _) _)
 have HB0 := hid hB0
 rw [← hW1, ← hB0]
 clear hW1 hB0
 go_wp2_with (go_at_call 7; refine (HS.out _ _ HB1.out).mono ?_; rintro e w2 ⟨vs, r, hr, rfl, hrd, hb2⟩)
 obtain rfl := k_alloc hr
 obtain ⟨g1, o1, c1, rfl, hcs⟩ := shs_some hrd (by decide)
 have HB2 := hid (HB1.out.below hb2)
 have HF2 := hid (HF1.out.trans (hb2.mono HF1.out.size))
 have s0 : w2.rangeAt g1 o1 sA.cells := fun j u hu => by have := hcs 0 sA rfl j u hu; simpa using this
 have HS0 := hid (show w2.rangeAt g1 o1 cs by rw [V_cs.out]; exact s0)
 have HS1 := hid (show w2.cell? ⟨g1, o1 + 9, none⟩ = some (.int .i64 331) from hcs 1 sB rfl 4 _ rfl)
 clear hr hrd hb2 s0 hcs
 go_upto_region 4 with (first | (go_at_call 18; refine (HW.out _).mono ?_; rintro e w3 ⟨rfl, hb3⟩) | (go_at_call 9; refine (HE.out _ _ (HB2.out.below hb3)).mono ?_; rintro e w4 ⟨vx, rfl, hrx, _, hb4⟩))
 rw [k_exact] at hrx ⊢
 obtain ⟨g2, o2, c2, rfl, hcx⟩ := qs_some hrx (by decide)
 have HX0 := hid (show w4.rangeAt g2 o2 cR by rw [V_cR.out]; exact fun j u hu => by have := hcx 0 (437, 4) rfl j u hu; simpa using this)
 have hF3 := HF2.out.trans (hb3.mono HF2.out.size)
 have HF4 := hid (hF3.trans (hb4.mono hF3.size))
 replace HS0 := hid (ranges_up (ranges_up HS0.out hb3) hb4)
 replace HS1 := hid (cell_up (cell_up HS1.out hb3) hb4)
 clear hrx hcx hb3 hb4 hF3
 simp only [List.length_cons, List.length_nil, Nat.zero_add, Nat.reduceAdd]
 replace HB0 := hid (show B0 = w.heap.size from HB0.out)
 have FR := hid (show Fr w.heap.size w w4 from ⟨HF4.out, HF4.out.size⟩)
 have FR0 := hid FR.out.le
 refine wp_flow_new [] [(20, .int .i64 0), (21, .bool true), (22, .bool true), (23, .slice (some ⟨g1, o1, none⟩) 2 c1), (24, .int .i64 2), (25, .bool true), (26, .bool true), (27, .bool true), (28, .slice (some ⟨g1, o1, none⟩) 2 c1), (29, .pointer (some ⟨g1, o1, none⟩)), (30, .agg cs.toArray), (31, .agg cs.toArray), (32, .bool true), (33, .bool true), (34, .bool true), (35, .slice (some ⟨g1, o1, none⟩) 2 c1), (36, .pointer (some ⟨g1, o1 + 5, none⟩)), (37, .pointer (some ⟨g1, o1 + 5 + 4, none⟩)), (38, .int .i64 331), (39, .bool true), (40, .bool true), (41, .bool true), (42, .int .i64 0), (43, .bool true), (44, .bool true), (45, .bool true), (46, .slice (some ⟨g2, o2, none⟩) 2 c2), (47, .int .i64 2), (48, .bool true), (49, .bool true), (50, .bool true), (51, .slice (some ⟨g2, o2, none⟩) 2 c2), (52, .pointer (some ⟨g2, o2, none⟩)), (53, .agg cR.toArray), (54, .agg cR.toArray), (55, .bool true), (56, .bool true), (57, .bool true), (58, .int .i64 210), (59, .bool true), (60, .bool true), (0, .bool true)] _ (by simp only [zz4, zz5, Act.put, zz1, zz2, zz3]; rfl) (by kernel_rfl) (by kernel_rfl) rfl ?_ ?_ ?_ ?_
 ·intro W' hW'
  have rs := ranges_up HS0.out hW'
  have s1 := cell_up HS1.out hW'
  have rx := ranges_up HX0.out hW'
  iterate 10 (refine fxo ?_ ?_; (go_big_quiet_step (fail); (try simp only [Act.put, zz1, zz2, zz3]); exact wqn rfl))
  refine fxo (wlq (by rfl) _ _ rfl _ _ rfl _ _ rs Tryz.underlying37 rfl (sizeSh V_cs.out) (wqn (by simp only [Act.put, zz1, zz2, zz3]))) ?_
  refine fxo (wpQuiet_build_g (by rfl) _ _ rfl _ rfl _ (built_Sh (V_cs.out.trans rfl)) (wqn (by simp only [Act.put, zz1, zz2, zz3]))) ?_
  refine fxo (wqs (by rfl) rfl rfl rfl (by kernel_rfl) (eqS V_cs.out) (wqn (by simp only [Act.put, zz1, zz2, zz3]))) ?_
  iterate 5 (refine fxo ?_ ?_; (go_big_quiet_step (fail); (try simp only [Act.put, zz1, zz2, zz3]); exact wqn rfl))
  refine fxo (wcg (by rfl) rfl rfl (fun W h => by simp [loadVar, h, go_sem]) s1 (wqn (by simp only [Act.put, zz1, zz2, zz3]))) ?_
  iterate 14 (refine fxo ?_ ?_; (go_big_quiet_step (fail); (try simp only [Act.put, zz1, zz2, zz3]); exact wqn rfl))
  refine fxo (wlq (by rfl) _ _ rfl _ _ rfl _ _ rx Tryz.underlying27 rfl (sizeR V_cR.out) (wqn (by simp only [Act.put, zz1, zz2, zz3]))) ?_
  refine fxo ?_ ?_; (go_big_quiet_step ((go_at_call 45; exact Calls.below_of (HO.out _))); (try simp only [Act.put, zz1, zz2, zz3]); exact wqn rfl)
  refine fxo (wqs (by rfl) rfl rfl rfl (by kernel_rfl) (eqQ (r := (437, 4)) V_cR.out k_vq) (wqn (by simp only [Act.put, zz1, zz2, zz3]))) ?_
  iterate 2 (refine fxo ?_ ?_; (go_big_quiet_step (fail); (try simp only [Act.put, zz1, zz2, zz3]); exact wqn rfl))
  refine fxo ?_ ?_; (go_big_quiet_step ((go_at_call 12; exact Calls.below_of (HC.out _))); (try simp only [Act.put, zz1, zz2, zz3]); exact wqn rfl)
  iterate 3 (refine fxo ?_ ?_; (go_big_quiet_step (fail); (try simp only [Act.put, zz1, zz2, zz3]); exact wqn rfl))
  exact fxn
 ·exact forPl0
 ·exact forPl0
 intro β wx1 E
 replace FR := hid (FR.out.fnw E rfl)
 have hE := E.below rfl
 simp only [newPuts, zz4, zz5, if_true, Bool.false_eq_true, if_false, Act.put, zz1, zz2, zz3]
 replace FR0 := hid FR.out.le
 clear E
 go_wp2
 go_ret
 exact ⟨rfl, FR.out.below⟩
end Go.Proofs.YtmcekgapelanhaaGreat
namespace Go.Proofs.YtmcekgapelanhaaGreat
open Go.RowKit Al Tok Ap
theorem form_own {w : World} {b n s : Nat} {v : Value} {xs : List Value} {t : TypeId} (h : w.ownsRow b t s v n xs) (hn : 0 < n) : ∃ g cap, v = .slice (some ⟨g, 0, none⟩) n cap ∧ b ≤ g ∧ g < w.heap.size := by
 obtain ⟨h1, h2⟩ := h
 rcases h2 with ⟨rfl, h2⟩ | ⟨g, cap, cur, hv, hg, hr⟩
 ·omega
 ·refine ⟨g, cap, hv, hg, ?_⟩
  rcases Nat.lt_or_ge g w.heap.size with h | h
  ·exact h
  ·have := hr.1; rw [Array.getElem?_eq_none h] at this; cases this
namespace Al
end Al
end Go.Proofs.YtmcekgapelanhaaGreat
namespace Go.Proofs.YtmcekgapelanhaaGreat
open Go.RowKit Al Tok Ap
namespace Al
theorem low_uniq {a b : Int} {d e : Nat} (hd : Nat.gcd a.natAbs d = 1) (he : Nat.gcd b.natAbs e = 1) (d0 : d ≠ 0) (e0 : e ≠ 0) (h : a * (e : Int) = b * (d : Int)) : a = b ∧ d = e := by
 have hn : a.natAbs * e = b.natAbs * d := by
  have := congrArg Int.natAbs h
  rwa [Int.natAbs_mul, Int.natAbs_mul, Int.natAbs_natCast, Int.natAbs_natCast] at this
 have h1 : d ∣ e := by
  have hc : Nat.Coprime d a.natAbs := by rw [Nat.Coprime, Nat.gcd_comm]; exact hd
  exact hc.dvd_of_dvd_mul_left (by rw [hn]; exact Nat.dvd_mul_left _ _)
 have h2 : e ∣ d := by
  have hc : Nat.Coprime e b.natAbs := by rw [Nat.Coprime, Nat.gcd_comm]; exact he
  exact hc.dvd_of_dvd_mul_left (by rw [← hn]; exact Nat.dvd_mul_left _ _)
 have hde := Nat.dvd_antisymm h1 h2
 subst hde
 exact ⟨Int.eq_of_mul_eq_mul_right (by omega) h, rfl⟩
theorem low_of {N : Int} {D : Nat} (h : D ≠ 0) : (N.sign * (N.natAbs / Nat.gcd N.natAbs D : Nat)) * (D : Int) = N * (D / Nat.gcd N.natAbs D : Nat) ∧ Nat.gcd (N.sign * (N.natAbs / Nat.gcd N.natAbs D : Nat)).natAbs (D / Nat.gcd N.natAbs D) = 1 ∧ D / Nat.gcd N.natAbs D ≠ 0 := by
 have hg := gcd_pos_of (N := N) h
 have hs := (sign_abs N (N.natAbs / Nat.gcd N.natAbs D) (fun h0 => by subst h0; simp)).1
 refine ⟨?_, ?_, ?_⟩
 ·obtain ⟨a, ha⟩ := Nat.gcd_dvd_left N.natAbs D
  obtain ⟨d, hd⟩ := Nat.gcd_dvd_right N.natAbs D
  generalize Nat.gcd N.natAbs D = g at *
  have e1 : N.natAbs / g = a := by rw [ha, Nat.mul_div_cancel_left _ hg]
  have e2 : D / g = d := by rw [hd, Nat.mul_div_cancel_left _ hg]
  rw [e1, e2]
  have e3 : N = N.sign * ((g * a : Nat) : Int) := by rw [← ha]; exact (Int.sign_mul_natAbs N).symm
  have e4 : (D : Int) = (g : Int) * d := by rw [← Int.natCast_mul, ← hd]
  rw [e4]
  conv => rhs; rw [e3]
  rw [Int.natCast_mul]
  generalize N.sign = s
  grind
 ·rw [hs, Nat.gcd_div (Nat.gcd_dvd_left _ _) (Nat.gcd_dvd_right _ _), Nat.div_self hg]
 ·have := Nat.div_pos (Nat.le_of_dvd (by omega) (Nat.gcd_dvd_right N.natAbs D)) hg
  omega
theorem mkQ_val {N : Int} {D : Nat} (h : D ≠ 0) {r : Qn} (hr : mkQ N D = some r) : r.1 * (D : Int) = N * (r.2 : Int) ∧ r.1.natAbs ≤ N.natAbs ∧ r.2 ≤ D := by
 have hl := low_of (N := N) h
 have hs := (sign_abs N (N.natAbs / Nat.gcd N.natAbs D) (fun h0 => by subst h0; simp)).1
 unfold mkQ at hr
 split at hr
 ·injection hr with hr
  subst hr
  refine ⟨hl.1, ?_, Nat.div_le_self _ _⟩
  show (N.sign * (N.natAbs / Nat.gcd N.natAbs D : Nat)).natAbs ≤ _
  rw [hs]; exact Nat.div_le_self _ _
 ·cases hr
theorem mkQ_some {N : Int} {D : Nat} (h1 : N.natAbs < B480) (h2 : D < B480) : ∃ r, mkQ N D = some r := by
 unfold mkQ
 rw [if_pos ⟨Nat.lt_of_le_of_lt (Nat.div_le_self _ _) h1, Nat.lt_of_le_of_lt (Nat.div_le_self _ _) h2⟩]
 exact ⟨_, rfl⟩
theorem mkQ_of {N : Int} {D : Nat} (h : D ≠ 0) {r : Qn} (hv : VQ r) (he : r.1 * (D : Int) = N * (r.2 : Int)) : mkQ N D = some r := by
 obtain ⟨l1, l2, l3⟩ := low_of (N := N) h
 have hs := (sign_abs N (N.natAbs / Nat.gcd N.natAbs D) (fun h0 => by subst h0; simp)).1
 obtain ⟨x, hx⟩ : ∃ x, x = N.sign * (N.natAbs / Nat.gcd N.natAbs D : Nat) := ⟨_, rfl⟩
 obtain ⟨y, hy⟩ : ∃ y, y = D / Nat.gcd N.natAbs D := ⟨_, rfl⟩
 have hxy : mkQ N D = if N.natAbs / Nat.gcd N.natAbs D < B480 ∧ y < B480 then some (x, y) else none := by rw [hx, hy]; rfl
 rw [← hx] at hs
 rw [← hx, ← hy] at l1 l2
 rw [← hy] at l3
 have hu := low_uniq (a := x) (b := r.1) (d := y) (e := r.2) l2 hv.low l3 hv.pos (by
  have hD : (D : Int) ≠ 0 := by omega
  refine Int.eq_of_mul_eq_mul_right hD ?_
  grind)
 rw [hxy, ← hs, hu.1, hu.2, if_pos ⟨hv.num, hv.den⟩]
theorem big_lt {n : Nat} (h : n ≤ 10 ^ 60) : n < B480 := Nat.lt_of_le_of_lt h (by unfold B480; decide)
theorem vqz {z : Int} (h : z.natAbs ≤ 10 ^ 60) : VQ (z, 1) := ⟨big_lt h, big_lt (show 1 ≤ 10 ^ 60 by decide), show 1 ≠ 0 by decide, Nat.gcd_one_right _⟩
theorem mkQ_one {z : Int} (h : z.natAbs ≤ 10 ^ 60) {N : Int} {D : Nat} (hD : D ≠ 0) (he : z * (D : Int) = N) : mkQ N D = some (z, 1) := mkQ_of hD (vqz h) (by simpa using he)
theorem sub_whole {x y : Int} (h : (x - y).natAbs ≤ 10 ^ 60) : subQ (x, 1) (y, 1) = some (x - y, 1) := mkQ_one h (show 1 * 1 ≠ 0 by decide) (by simp [subN])
theorem exL_all {c : Qn} {S : Nat} : ∀ {l : List Bk}, (∀ b ∈ l, ∃ r, exR c S b = some r) → ∃ rs : List Qn, exL c S l = some rs ∧ rs.length = l.length ∧ ∀ (k : Nat) (b : Bk), l[k]? = some b → ∃ r, rs[k]? = some r ∧ exR c S b = some r := by
 intro l
 induction l with
 | nil => intro _; exact ⟨[], rfl, rfl, fun k b h => by simp at h⟩
 | cons a l ih =>
  intro h
  obtain ⟨r, hr⟩ := h a (by simp)
  obtain ⟨rs, h1, h2, h3⟩ := ih (fun b hb => h b (by simp [hb]))
  refine ⟨r :: rs, by simp [exL, hr, h1], by simp [h2], fun k b hk => ?_⟩
  cases k with
  | zero => simp at hk; subst hk; exact ⟨r, rfl, hr⟩
  | succ k => simp at hk; obtain ⟨q, q1, q2⟩ := h3 k b hk; exact ⟨q, by simpa using q1, q2⟩
theorem Few.op_le {b : Bk} (h : Few b) : b.op ≤ 2000000000 := by have := h.sum; unfold Bk.op; omega
theorem exact_step {l : List Bk} {t c : Qn} (hf : ∀ b ∈ l, Few b) (hl : l.length ≤ 4) (hc : subQ t ((sumO l : Int) + ownS l, 1) = some c) (h1 : c.1.natAbs ≤ 10 ^ 20) (h2 : c.2 ≤ 10 ^ 10) (h3 : c.2 ≠ 0) :
  (sumO l = 0 ∧ c.1 ≠ 0 ∧ exactR t l = (211, [])) ∨ (¬ (sumO l = 0 ∧ c.1 ≠ 0) ∧ ∃ rs : List Qn, exactR t l = (0, rs) ∧ rs.length = l.length ∧ ∀ (k : Nat) (b : Bk), l[k]? = some b → ∃ r, rs[k]? = some r ∧ exR c (sumO l) b = some r) := by
 unfold exactR
 rw [hc]
 simp only
 by_cases h : sumO l = 0 ∧ c.1 ≠ 0
 ·rw [if_pos h]; exact .inl ⟨h.1, h.2, rfl⟩
 ·rw [if_neg h]
  refine .inr ⟨h, ?_⟩
  have hS := few_sum hl hf
  obtain ⟨rs, e1, e2, e3⟩ := exL_all (c := c) (S := sumO l) (l := l) (fun b hb => by
   have hb' := hf b hb
   have ho := hb'.own
   have hp := hb'.op_le
   unfold exR
   generalize sumO l = S at *
   have hM : max S 1 ≤ 8000000000 := by omega
   generalize max S 1 = M at *
   refine mkQ_some (big_lt ?_) (big_lt ?_)
   ·have n1 : (c.1 * (b.op : Int)).natAbs ≤ 10 ^ 20 * 2000000000 := by rw [Int.natAbs_mul]; exact Nat.mul_le_mul h1 (by simpa using hp)
    have n2 : ((((b.op : Int) + b.own) * (c.2 : Int)) * (M : Int)).natAbs ≤ 2000010000 * 10 ^ 10 * 8000000000 := by
     rw [Int.natAbs_mul, Int.natAbs_mul]
     exact Nat.mul_le_mul (Nat.mul_le_mul (by omega) (by simpa using h2)) (by simpa using hM)
    have n3 := Int.natAbs_add_le (c.1 * (b.op : Int)) ((((b.op : Int) + b.own) * (c.2 : Int)) * (M : Int))
    have n4 : 10 ^ 20 * 2000000000 + 2000010000 * 10 ^ 10 * 8000000000 ≤ 10 ^ 60 := by decide
    omega
   ·have := Nat.mul_le_mul h2 hM
    have n4 : 10 ^ 10 * 8000000000 ≤ 10 ^ 60 := by decide
    omega)
  rw [e1]
  exact ⟨rs, rfl, e2, e3⟩
end Al
end Go.Proofs.YtmcekgapelanhaaGreat
namespace Go.Proofs.YtmcekgapelanhaaGreat
open Go.RowKit Al Tok Ap
namespace Al
theorem add_common {N1 N2 : Int} {M : Nat} {a b : Qn} (hM : M ≠ 0) (ha : mkQ N1 M = some a) (hb : mkQ N2 M = some b) {x : Qn} (hx : mkQ (N1 + N2) M = some x) : addQ a b = some x := by
 have va := mkQ_valid hM ha
 have vb := mkQ_valid hM hb
 have vx := mkQ_valid hM hx
 have q1 := (mkQ_val hM ha).1
 have q2 := (mkQ_val hM hb).1
 have q3 := (mkQ_val hM hx).1
 have hM' : (M : Int) ≠ 0 := by omega
 refine mkQ_of (Nat.mul_ne_zero va.pos vb.pos) vx ?_
 rw [Int.natCast_mul]
 show x.1 * ((a.2 : Int) * (b.2 : Int)) = (a.1 * (b.2 : Int) + b.1 * (a.2 : Int)) * (x.2 : Int)
 refine Int.eq_of_mul_eq_mul_right hM' ?_
 clear va vb vx ha hb hx
 generalize (a.2 : Int) = p at *
 generalize (b.2 : Int) = q at *
 generalize (x.2 : Int) = r at *
 generalize (M : Int) = m at *
 generalize a.1 = A at *
 generalize b.1 = B at *
 generalize x.1 = X at *
 grind
def cmpN (d : Qn) : Int := if (d.1.natAbs : Int) * ((1 : Nat) : Int) < 1 * (d.2 : Int) then -1 else if 1 * (d.2 : Int) < (d.1.natAbs : Int) * ((1 : Nat) : Int) then 1 else 0
def numE (c : Int) (M : Nat) (b : Bk) : Int := c * (b.op : Int) + ((b.op : Int) + b.own) * (M : Int)
theorem exR_one (c : Int) (S : Nat) (b : Bk) : exR (c, 1) S b = mkQ (numE c (max S 1) b) (max S 1) := by
 unfold exR numE; simp
theorem numE_sum (c : Int) (M : Nat) : ∀ l : List Bk, sI (l.map (numE c M)) = c * (sumO l : Int) + ((sumO l : Int) + ownS l) * (M : Int) := by
 have e1 : ∀ l, ownS l = sI (l.map Bk.own) := fun _ => rfl
 have e2 : ∀ l, sumO l = sumL (l.map Bk.op) := fun _ => rfl
 intro l
 induction l with
 | nil =>
  show (0 : Int) = c * ((0 : Nat) : Int) + (((0 : Nat) : Int) + 0) * (M : Int)
  simp
 | cons b l ih =>
  rw [e1, e2] at ih ⊢
  simp only [List.map_cons, sI_cons, sumL]
  rw [ih]
  unfold numE
  rw [Int.natCast_add]
  generalize (b.op : Int) = x
  generalize ((sumL (l.map Bk.op) : Nat) : Int) = y
  generalize sI (l.map Bk.own) = z
  generalize (M : Int) = m
  generalize b.own = o
  grind
theorem numE_bd {c : Int} {M : Nat} {b : Bk} (hf : Few b) (hc : c.natAbs ≤ 10 ^ 10) (hM : M ≤ 8000000000) : (numE c M b).natAbs ≤ 10 ^ 20 := by
 have ho := hf.own
 have hp := hf.op_le
 unfold numE
 have n1 : (c * (b.op : Int)).natAbs ≤ 10 ^ 10 * 2000000000 := by rw [Int.natAbs_mul]; exact Nat.mul_le_mul hc (by simpa using hp)
 have n2 : (((b.op : Int) + b.own) * (M : Int)).natAbs ≤ 2000010000 * 8000000000 := by rw [Int.natAbs_mul]; exact Nat.mul_le_mul (by omega) (by simpa using hM)
 have n3 := Int.natAbs_add_le (c * (b.op : Int)) (((b.op : Int) + b.own) * (M : Int))
 have n4 : 10 ^ 10 * 2000000000 + 2000010000 * 8000000000 ≤ 10 ^ 20 := by decide
 omega
theorem take_some {c : Int} {M : Nat} {l : List Bk} (hf : ∀ b ∈ l, Few b) (hl : l.length ≤ 4) (hc : c.natAbs ≤ 10 ^ 10) (hM : M ≤ 8000000000) (k : Nat) : ∃ e, mkQ (sI ((l.take k).map (numE c M))) M = some e := by
 have h := sI_bd (c := 10 ^ 20) (by decide) ((l.take k).map (numE c M)) (fun x hx => by
  obtain ⟨b, hb, rfl⟩ := List.mem_map.1 hx
  have := numE_bd (hf b (List.mem_of_mem_take hb)) hc hM
  have e : ((10 : Int) ^ 20) = ((10 ^ 20 : Nat) : Int) := by decide
  rw [e]
  omega)
 have h2 : ((l.take k).map (numE c M)).length ≤ 4 := by rw [List.length_map, List.length_take]; omega
 refine mkQ_some (big_lt ?_) (big_lt (Nat.le_trans hM (by decide)))
 generalize sI ((l.take k).map (numE c M)) = s at *
 generalize ((l.take k).map (numE c M)).length = y at *
 have e2 : ((10 : Int) ^ 20) = 100000000000000000000 := by decide
 rw [e2] at h
 have n4 : 400000000000000000000 ≤ 10 ^ 60 := by decide
 omega
theorem take_all {total : Int} {l : List Bk} (ht : total.natAbs ≤ 10 ^ 20) (h : ¬ (sumO l = 0 ∧ comm total l ≠ 0)) : mkQ (sI (l.map (numE (comm total l) (max (sumO l) 1)))) (max (sumO l) 1) = some (total, 1) := by
 refine mkQ_one (Nat.le_trans ht (by decide)) (by omega) ?_
 rw [numE_sum]
 by_cases h0 : sumO l = 0
 ·have hc : comm total l = 0 := by
   by_cases hc : comm total l = 0
   ·exact hc
   ·exact absurd ⟨h0, hc⟩ h
  have e : comm total l = total - (sumO l : Int) - ownS l := rfl
  rw [hc, h0] at e ⊢
  simp at e ⊢
  omega
 ·have hm : max (sumO l) 1 = sumO l := by omega
  rw [hm]
  have e : comm total l = total - (sumO l : Int) - ownS l := rfl
  rw [e]
  generalize (sumO l : Int) = s
  grind
theorem res_near {t : Int} {ws : List Nat} {rs : List Int} (h : Res t ws rs) (hz : sumL ws = 0 → t = 0) {k o : Nat} {x : Int} (hk : ws[k]? = some o) (hx : rs[k]? = some x) : (t * (o : Int) - x * ((max (sumL ws) 1 : Nat) : Int)).natAbs < max (sumL ws) 1 := by
 have hkl := (List.getElem?_eq_some_iff.1 hk).1
 have ek : ws.getD k 0 = o := by rw [List.getD_eq_getElem?_getD, hk]; rfl
 unfold Res at h
 split at h
 ·rename_i hs
  subst h
  rw [List.getElem?_map, hk] at hx
  injection hx with hx
  have hx2 : (0 : Int) = x := hx
  rw [hz hs, ← hx2]; simp; omega
 ·rename_i hs
  obtain ⟨p, hp, rfl⟩ := h
  have h1 := parts_close (by omega) hp hkl
  have hm : max (sumL ws) 1 = sumL ws := by omega
  rw [hm]
  rw [ek] at h1
  generalize sumL ws = S at *
  obtain ⟨y, hy⟩ : ∃ y, y = p.getD k 0 := ⟨_, rfl⟩
  rw [← hy] at h1
  have c1 : ((y : Int) * (S : Int)) < (t.natAbs : Int) * (o : Int) + (S : Int) := by have := h1.1; exact_mod_cast this
  have c2 : ((t.natAbs : Int) * (o : Int)) < (y : Int) * (S : Int) + (S : Int) := by have := h1.2; exact_mod_cast this
  split at hx
  ·rename_i ht
   rw [List.getElem?_map] at hx
   cases hxp : (p.map Int.ofNat)[k]? with
   | none => rw [hxp] at hx; cases hx
   | some u =>
    rw [hxp] at hx
    injection hx with hx
    have hx2 : -u = x := hx
    have hu := (getI hxp).1
    have e : x = -(y : Int) := by rw [hy]; omega
    have e3 : (t.natAbs : Int) = -t := by omega
    rw [e3, Int.neg_mul] at c1 c2
    rw [e, Int.neg_mul]
    generalize t * (o : Int) = a at *
    generalize (y : Int) * (S : Int) = b at *
    omega
  ·rename_i ht
   have hu := (getI hx).1
   have e : x = (y : Int) := by rw [hy]; omega
   have e3 : (t.natAbs : Int) = t := by omega
   rw [e3] at c1 c2
   rw [e]
   generalize t * (o : Int) = a at *
   generalize (y : Int) * (S : Int) = b at *
   omega
theorem net_sum : ∀ {l : List Bk} {rs : List Int}, rs.length = l.length → sI ((shL l rs).map Sh.net) = (sumO l : Int) + ownS l + sI rs := by
 have e1 : ∀ l, ownS l = sI (l.map Bk.own) := fun _ => rfl
 have e2 : ∀ l, sumO l = sumL (l.map Bk.op) := fun _ => rfl
 intro l
 induction l with
 | nil =>
  intro rs h
  have : rs = [] := List.eq_nil_of_length_eq_zero (by simpa using h)
  subst this; rfl
 | cons b l ih =>
  intro rs h
  cases rs with
  | nil => simp at h
  | cons x rs =>
   have h1 := ih (rs := rs) (by simpa using h)
   rw [e1, e2] at h1 ⊢
   unfold shL at h1 ⊢
   simp only [List.zipWith_cons_cons, List.map_cons, sI_cons, sumL]
   rw [h1]
   show ((b.op : Int) + b.own + x) + _ = _
   omega
theorem net_all {total : Int} {l : List Bk} {rs : List Int} (hr : Res (comm total l) (l.map Bk.op) rs) (h : ¬ (sumO l = 0 ∧ comm total l ≠ 0)) : sI ((shL l rs).map Sh.net) = total := by
 rw [net_sum (by rw [res_len hr, List.length_map]), res_sum hr]
 have e : comm total l = total - (sumO l : Int) - ownS l := rfl
 have e2 : sumO l = sumL (l.map Bk.op) := rfl
 split
 ·rename_i h0
  by_cases hc : comm total l = 0
  ·rw [e2, h0] at e ⊢; omega
  ·exact absurd ⟨by rw [e2]; exact h0, hc⟩ h
 ·omega
theorem near_one {c x : Int} {S : Nat} {b : Bk} {q : Qn} (hf : Few b) (hS : S ≤ 8000000000) (hc : c.natAbs ≤ 10 ^ 10) (hxb : -10000000000 ≤ x ∧ x ≤ 10000000000) (hq : exR (c, 1) S b = some q) (hn : (c * (b.op : Int) - x * ((max S 1 : Nat) : Int)).natAbs < max S 1) :
  ∃ d, subQ q ((b.op : Int) + b.own + x, 1) = some d ∧ VQ d ∧ cmpN d = -1 ∧ VQ ((d.1.natAbs : Int), d.2) := by
 have ho := hf.own
 have hp := hf.op_le
 rw [exR_one] at hq
 have hM : max S 1 ≤ 8000000000 ∧ max S 1 ≠ 0 := by omega
 generalize max S 1 = M at *
 have vq := mkQ_valid hM.2 hq
 obtain ⟨q1, q2, q3⟩ := mkQ_val hM.2 hq
 have hb := numE_bd (M := M) hf hc hM.1
 obtain ⟨N, hN⟩ : ∃ N, N = (b.op : Int) + b.own + x := ⟨_, rfl⟩
 have hNb : N.natAbs ≤ 20000000000 := by omega
 rw [← hN]
 have bd : (subN q (N, 1)).natAbs ≤ 10 ^ 60 := by
  show (q.1 * ((1 : Nat) : Int) - N * (q.2 : Int)).natAbs ≤ _
  have n1 : (N * (q.2 : Int)).natAbs ≤ 20000000000 * 8000000000 := by rw [Int.natAbs_mul]; exact Nat.mul_le_mul hNb (by rw [Int.natAbs_natCast]; omega)
  rw [Int.natCast_one, Int.mul_one]
  have n4 : 10 ^ 20 + 20000000000 * 8000000000 ≤ 10 ^ 60 := by decide
  omega
 have hq0 := vq.pos
 obtain ⟨d, hd⟩ := mkQ_some (N := subN q (N, 1)) (D := q.2 * 1) (big_lt bd) (big_lt (Nat.le_trans (show _ ≤ 8000000000 by omega) (by decide)))
 have vd := mkQ_valid (by omega) hd
 have d1 := (mkQ_val (by omega) hd).1
 have d1' : d.1 * (q.2 : Int) = (q.1 - N * (q.2 : Int)) * (d.2 : Int) := by
  have := d1
  rw [Nat.mul_one] at this
  rw [this]; show (q.1 * ((1 : Nat) : Int) - N * (q.2 : Int)) * _ = _; rw [Int.natCast_one, Int.mul_one]
 have key : d.1 * (M : Int) = (c * (b.op : Int) - x * (M : Int)) * (d.2 : Int) := by
  have k1 : (q.2 : Int) ≠ 0 := by omega
  refine Int.eq_of_mul_eq_mul_right k1 ?_
  unfold numE at q1
  rw [hN] at d1'
  clear hn hb q2 q3 bd hd vd vq d1 hNb hN hq hf hxb hc ho hp
  generalize (b.op : Int) = O at *
  generalize b.own = w at *
  generalize (q.2 : Int) = p at *
  generalize (d.2 : Int) = r at *
  generalize (M : Int) = m at *
  generalize q.1 = A at *
  generalize d.1 = D at *
  grind
 have hlt : d.1.natAbs < d.2 := by
  have h := congrArg Int.natAbs key
  rw [Int.natAbs_mul, Int.natAbs_mul, Int.natAbs_natCast, Int.natAbs_natCast] at h
  have hd0 := vd.pos
  have h2 : (c * (b.op : Int) - x * (M : Int)).natAbs * d.2 < M * d.2 := Nat.mul_lt_mul_of_pos_right hn (by omega)
  rw [← h, Nat.mul_comm M] at h2
  exact Nat.lt_of_mul_lt_mul_right h2
 refine ⟨d, hd, vd, ?_, ⟨by simpa using vd.num, vd.den, vd.pos, by simpa using vd.low⟩⟩
 unfold cmpN
 rw [if_pos (by omega)]
end Al
end Go.Proofs.YtmcekgapelanhaaGreat
