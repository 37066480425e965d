/- ApportionExact of valid weights, ApportionPlays: walked. -/
import Derived.Test.YtnkmhbiklffjlaaBiU
set_option linter.unusedVariables false
set_option linter.unusedSimpArgs false
namespace Go.Proofs.Ytnkmhbiklffjlaa
open Go.RowKit Ap

/-- a function of the program whose result the reference's function f4 gives too -/
def Both (f4 : FuncId) (T : Int) (v : Value) (n : Nat) (ws : List Nat) (w : World) (e : Ending) (w' : World) : Prop :=
  ∃ (va : Value) (ex : Int) (nc : Nat) (lc : List Int), e = .returned (.tuple #[va, .int .i64 ex]) ∧ Reads w' 1 va nc (lc.map (Value.int .i64)) ∧ nc ≤ 1000000 ∧ Below w.heap.size w w' ∧
    ∀ W, Valid W v n ws → Calls Try.prog f4 #[.int .i64 T, v] W fun e w' => ∃ vb, e = .returned (.tuple #[vb, .int .i64 ex]) ∧ Reads w' 1 vb nc (lc.map (Value.int .i64)) ∧ Below W.heap.size W w'
theorem split_both (T : Int) (n : Nat) (ws : List Nat) (v : Value) (w : World) (h : Valid w v n ws) (hpos : 0 < sumL ws) (ht1 : -1000000000000000 ≤ T) (ht2 : T ≤ 1000000000000000) :
    Calls Try.prog 10 #[.int .i64 T, v] w (Both 14 T v n ws w) := by
  refine (split_any T n ws v w h hpos ht1 ht2).mono ?_
  rintro e w' ⟨g, l, k1, k2, rfl, ⟨p, hp, rfl⟩, k5, k6⟩
  have hpl : p.length = n := by obtain ⟨o, _, _, h2, _⟩ := hp; rw [h2]; exact h.len
  obtain ⟨L, hL⟩ : ∃ L, L = if T < 0 then (p.map Int.ofNat).map (- ·) else p.map Int.ofNat := ⟨_, rfl⟩
  have hLl : L.length = n := by rw [hL]; split <;> simp [hpl]
  rw [← hL] at k5
  refine ⟨_, 0, n, L, rfl, reads_row k5 hLl (by have := h.small; omega), by have := h.small; omega, k6, fun W hW => ?_⟩
  refine (split4_any T n ws p L v W hL hW hpos ht1 ht2 hp).mono ?_
  rintro e w2 ⟨g2, _, _, rfl, hr, hb⟩
  exact ⟨_, rfl, reads_row hr hLl (by have := h.small; omega), hb⟩
theorem spread_both (T : Int) (n : Nat) (ws : List Nat) (v : Value) (w : World) (h : Valid w v n ws) (hpos : 0 < sumL ws) (ht1 : -1000000000000000 ≤ T) (ht2 : T ≤ 1000000000000000) :
    Calls Try.prog 12 #[.int .i64 T, v] w (Both 16 T v n ws w) := by
  refine (spread_any T n ws v w h hpos ht1 ht2).mono ?_
  rintro e w' ⟨g, l, k1, k2, rfl, hgs, k5, k6⟩
  unfold GoodS at hgs
  subst hgs
  obtain ⟨L, hL⟩ : ∃ L, L = if T < 0 then (spreadL T.natAbs (sumL ws) 0 0 ws).map (- ·) else spreadL T.natAbs (sumL ws) 0 0 ws := ⟨_, rfl⟩
  have hLl : L.length = n := by rw [hL]; split <;> simp [spread_len, h.len]
  rw [← hL] at k5
  refine ⟨_, 0, n, L, rfl, reads_row k5 hLl (by have := h.small; omega), by have := h.small; omega, k6, fun W hW => ?_⟩
  refine (spread4_any T n ws L v W hL hW hpos ht1 ht2).mono ?_
  rintro e w2 ⟨v2, rfl, hr, hb⟩
  exact ⟨_, rfl, hr, hb⟩
theorem cap_both (T : Int) (n : Nat) (ws : List Nat) (v : Value) (w : World) (h : Valid w v n ws) (hpos : 0 < sumL ws) (ht1 : -1000000000000000 ≤ T) (ht2 : T ≤ 1000000000000000) :
    Calls Try.prog 11 #[.int .i64 T, v] w (Both 15 T v n ws w) := by
  by_cases ht : T < 0
  · refine (cap_neg T n ws v w h ht).mono ?_
    rintro e w' ⟨rfl, rfl⟩
    have hr0 : ∀ W, Reads W 1 (.slice none 0 0) 0 (([] : List Int).map (Value.int .i64)) := fun W => ⟨rfl, by omega, .inl ⟨rfl, rfl⟩⟩
    refine ⟨_, 42, 0, [], rfl, hr0 _, by omega, Below.refl _ _, fun W hW => ?_⟩
    refine (cap4_neg T n ws v W hW ht).mono ?_
    rintro e w2 ⟨rfl, rfl⟩
    exact ⟨_, rfl, hr0 _, Below.refl _ _⟩
  · obtain ⟨t, rfl⟩ := Int.eq_ofNat_of_zero_le (show 0 ≤ T by omega)
    refine (cap_any t n ws v w h (by omega)).mono ?_
    rintro e w' ⟨va, p, rfl, hr, hb, hpl, hp⟩
    refine ⟨va, 0, n, p.map Int.ofNat, rfl, reads_cellsZ hr, by have := h.small; omega, hb, fun W hW => ?_⟩
    refine (cap4_any t n ws p v W hW hpos (by omega) hp).mono ?_
    rintro e w2 ⟨g2, _, _, rfl, hr2, hb2⟩
    exact ⟨_, rfl, reads_row hr2 (by simp [hpl]) (by have := h.small; omega), hb2⟩

set_option maxRecDepth 100000 in
set_option maxHeartbeats 8000000 in
theorem exact_small (T : Int) (n : Nat) (ws : List Nat) (v : Value) (w : World) (h : Valid w v n ws) (hpos : 0 < sumL ws) (ht1 : -1000000000000000 ≤ T) (ht2 : T ≤ 1000000000000000) :
    Calls Try.prog 3 #[.int .i64 T, v] w fun e w' => e = .returned (.bool true) ∧ Below w.heap.size w w' := by
  have h2 := h.small
  have hn512 : ¬ (512 : Int) < (n : Int) := by omega
  obtain ⟨gv, off, cap, hv, -⟩ := h.reads.some (by have := h.pos; omega)
  have HS := Lib.hid (fun W hW => split_both T n ws v W hW hpos ht1 ht2)
  have HC := Lib.hid (fun W hW => cap_both T n ws v W hW hpos ht1 ht2)
  have HP := Lib.hid (fun W hW => spread_both T n ws v W hW hpos ht1 ht2)
  have HV := Lib.hid h
  subst hv
  clear h hpos ht1 ht2 h2
  go_enter Try.func3, Try.ntmps3
  go_wp2_with fail
  refine (HS.out _ HV.out).mono ?_
  rintro e w1 ⟨va, ea, na, la, rfl, ra, hna, hb1, H4⟩
  have HA := Lib.hid (And.intro ra (And.intro hna H4))
  have HV1 := Lib.hid (HV.out.below hb1)
  have HB := Lib.hid hb1
  clear ra hna H4 hb1
  go_wp2_with fail
  refine (HA.out.2.2 _ HV1.out).mono ?_
  rintro e w2 ⟨vb, rfl, rb, hb2⟩
  have HRA := Lib.hid (And.intro (HA.out.1.below hb2) rb)
  have HV2 := Lib.hid (HV1.out.below hb2)
  replace HB := Lib.hid (HB.out.trans (hb2.mono HB.out.size))
  clear rb hb2
  go_wp2_with fail
  refine (HC.out _ HV2.out).mono ?_
  rintro e w3 ⟨vc, ec, nc, lc, rfl, rc, hnc, hb3, H4⟩
  have HCC := Lib.hid (And.intro rc (And.intro hnc H4))
  have HV3 := Lib.hid (HV2.out.below hb3)
  replace HRA := Lib.hid (And.intro (HRA.out.1.below hb3) (HRA.out.2.below hb3))
  replace HB := Lib.hid (HB.out.trans (hb3.mono HB.out.size))
  clear rc hnc H4 hb3
  go_wp2_with fail
  refine (HCC.out.2.2 _ HV3.out).mono ?_
  rintro e w4 ⟨vd, rfl, rd, hb4⟩
  have HRC := Lib.hid (And.intro (HCC.out.1.below hb4) rd)
  have HV4 := Lib.hid (HV3.out.below hb4)
  replace HRA := Lib.hid (And.intro (HRA.out.1.below hb4) (HRA.out.2.below hb4))
  replace HB := Lib.hid (HB.out.trans (hb4.mono HB.out.size))
  clear rd hb4
  go_wp2_with fail
  refine (HP.out _ HV4.out).mono ?_
  rintro e w5 ⟨vx, ex, nx, lx, rfl, rx, hnx, hb5, H4⟩
  have HX := Lib.hid (And.intro rx (And.intro hnx H4))
  have HV5 := Lib.hid (HV4.out.below hb5)
  replace HRA := Lib.hid (And.intro (HRA.out.1.below hb5) (HRA.out.2.below hb5))
  replace HRC := Lib.hid (And.intro (HRC.out.1.below hb5) (HRC.out.2.below hb5))
  replace HB := Lib.hid (HB.out.trans (hb5.mono HB.out.size))
  clear rx hnx H4 hb5
  go_wp2_with fail
  refine (HX.out.2.2 _ HV5.out).mono ?_
  rintro e w6 ⟨vy, rfl, ry, hb6⟩
  have HRX := Lib.hid (And.intro (HX.out.1.below hb6) ry)
  replace HRA := Lib.hid (And.intro (HRA.out.1.below hb6) (HRA.out.2.below hb6))
  replace HRC := Lib.hid (And.intro (HRC.out.1.below hb6) (HRC.out.2.below hb6))
  replace HB := Lib.hid (HB.out.trans (hb6.mono HB.out.size))
  clear ry hb6
  go_wp2_with fail
  refine (known_any _).mono ?_
  rintro e w7 ⟨rfl, hb7⟩
  replace HRA := Lib.hid (And.intro (HRA.out.1.below hb7) (HRA.out.2.below hb7))
  replace HRC := Lib.hid (And.intro (HRC.out.1.below hb7) (HRC.out.2.below hb7))
  replace HRX := Lib.hid (And.intro (HRX.out.1.below hb7) (HRX.out.2.below hb7))
  replace HB := Lib.hid (HB.out.trans (hb7.mono HB.out.size))
  clear hb7
  go_wp2_with fail
  refine (sameints_eq na la va vb _ HRA.out.1 HRA.out.2 HA.out.2.1).mono ?_
  rintro e w8 ⟨rfl, q1, rfl⟩
  have hd1 := below_drewN (Below.refl w7.heap.size w7) q1
  replace HRC := Lib.hid (And.intro (HRC.out.1.below hd1) (HRC.out.2.below hd1))
  replace HRX := Lib.hid (And.intro (HRX.out.1.below hd1) (HRX.out.2.below hd1))
  replace HB := Lib.hid (HB.out.trans (hd1.mono HB.out.size))
  clear hd1
  obtain ⟨w8, hw8⟩ : ∃ x, x = w7.drewN q1 := ⟨_, rfl⟩
  rw [← hw8] at HRC HRX HB ⊢
  clear hw8
  go_wp2_with fail
  refine (sameints_eq nc lc vc vd _ HRC.out.1 HRC.out.2 HCC.out.2.1).mono ?_
  rintro e w9 ⟨rfl, q2, rfl⟩
  have hd1 := below_drewN (Below.refl w8.heap.size w8) q2
  replace HRX := Lib.hid (And.intro (HRX.out.1.below hd1) (HRX.out.2.below hd1))
  replace HB := Lib.hid (HB.out.trans (hd1.mono HB.out.size))
  clear hd1
  obtain ⟨w9, hw9⟩ : ∃ x, x = w8.drewN q2 := ⟨_, rfl⟩
  rw [← hw9] at HRX HB ⊢
  clear hw9
  go_wp2_with fail
  refine (sameints_eq nx lx vx vy _ HRX.out.1 HRX.out.2 HX.out.2.1).mono ?_
  rintro e w10 ⟨rfl, q3, rfl⟩
  go_wp2
  go_ret
  exact ⟨rfl, below_drewN HB.out q3⟩
set_option maxRecDepth 100000 in
set_option maxHeartbeats 4000000 in
theorem plays_any (a : Option Addr) (len cap : Nat) (z : List Int) (w : World) (hr : IsRow .i64 w a len cap z) :
    Calls Try.prog 4 #[.slice a len cap] w fun e w' => e = .returned (.bool true) ∧ Below w.heap.size w w' := by
  have ht0 := hr.tape 31
  clear hr
  go_enter Try.func4, Try.ntmps4
  go_wp2_with fail
  refine (weights_any w.heap.size 0 _ ht0 (by omega)).mono ?_
  rintro e w1 ⟨T, v, ws, at1, rfl, hl1, hl8, hall, hpos, hT1, hT2, hown, ht1, ha1, hg1⟩
  have hB1 := ((Below.refl w.heap.size w).alloc (Nat.le_refl _) (.cells #[.slice a len cap, .int .i64 0] 31)).trans (below_grownBy hg1 (Nat.le_refl _) (by simp))
  have HE := Lib.hid (exact_small T ws.length ws v w1 (wp_valid hl1 hl8 hall hown) hpos hT1 hT2)
  have HB1 := Lib.hid hB1
  clear hT1 hT2 hown ht1 ha1 hg1 ht0 hB1 hall hpos hl1 hl8
  go_wp2_with fail
  refine HE.out.mono ?_
  rintro e w2 ⟨rfl, hb2⟩
  have HB2 := Lib.hid (HB1.out.trans (hb2.mono HB1.out.size))
  clear hb2
  go_wp2_with fail
  refine (known_any _).mono ?_
  rintro e w3 ⟨rfl, hb3⟩
  have HB3 := Lib.hid (HB2.out.trans (hb3.mono HB2.out.size))
  clear hb3
  go_wp2
  go_ret
  exact ⟨rfl, HB3.out⟩
end Go.Proofs.Ytnkmhbiklffjlaa
