/- fundadminref01.Sign, ToInt: walked. -/
import Derived.Test.YtnkmhbiklffjlaaBigZ
set_option linter.unusedVariables false
set_option linter.unusedSimpArgs false
namespace Go.Proofs.Ytnkmhbiklffjlaa
open Go.RowKit Big

def sgnI (neg : Bool) (v : Nat) : Int := if v = 0 then 0 else if neg = true then -1 else 1
set_option maxRecDepth 100000 in
set_option maxHeartbeats 2000000 in
theorem sign_is (neg : Bool) (v : Nat) (w : World) (hv : v < BB ^ 32) :
    Calls Try.prog 39 #[iV neg v] w fun e w' => e = .returned (.int .i64 (sgnI neg v)) ∧ Below w.heap.size w w' := by
  obtain ⟨w0, hw0, hb0, hs0, hc0, hA⟩ := box_int w neg v 51
  have HW := Lib.hid hb0
  obtain ⟨z, hz⟩ : ∃ z, z = decide (v = 0) := ⟨_, rfl⟩
  have HZ := Lib.hid (fun W => zero_is v z W hv hz)
  obtain ⟨B0, hB0⟩ : ∃ B0, B0 = w.heap.size := ⟨_, rfl⟩
  rw [← hB0] at hA hc0
  unfold iV
  obtain ⟨va, hva⟩ : ∃ va, va = (Value.bool neg :: lv 32 v).toArray := ⟨_, rfl⟩
  obtain ⟨cs, hcs⟩ : ∃ cs, cs = lv 32 v := ⟨_, rfl⟩
  have HLD := Lib.hid (show w0.rangeAt B0 1 (lv 32 v) from hA)
  have HSZ := Lib.hid (infoMlv v)
  have HZ2 := Lib.hid (fun W => show Calls Try.prog 52 #[.agg cs.toArray] W (fun e w' => e = .returned (.bool z) ∧ Below W.heap.size W w') by rw [hcs]; exact HZ.out W)
  rw [← hcs] at HLD HSZ
  rw [← hva] at hw0 ⊢
  obtain ⟨r, hr⟩ : ∃ r, r = sgnI neg v := ⟨_, rfl⟩
  have HR := Lib.hid (And.intro hr hz)
  rw [← hr]
  clear hv hb0 hs0 hA hva hcs hz hr
  go_enter Try.func39, Try.ntmps39
  go_upto_region 1 with fail
  rw [← hw0, ← hB0]
  clear hw0 hB0
  go_wp2_with (refine wpList_load_mid rfl _ _ rfl B0 1 rfl cs _ HLD.out Try.underlying49 rfl HSZ.out ?_)
  refine (HZ2.out _).mono ?_
  rintro e w1 ⟨rfl, hb1⟩
  have c1 := cell_up hc0 hb1
  have HB1 := Lib.hid (HW.out.trans (hb1.mono HW.out.size))
  clear hb1 hc0
  cases z with
  | true =>
    have HQ := Lib.hid (show (0 : Int) = r by rw [HR.out.1, sgnI, if_pos (by simpa using HR.out.2.symm)])
    go_wp2
    go_ret
    exact ⟨ret_int HQ.out, HB1.out⟩
  | false =>
    cases neg with
    | true =>
      have HQ := Lib.hid (show (-1 : Int) = r by rw [HR.out.1, sgnI, if_neg (by simpa using HR.out.2.symm), if_pos rfl])
      go_wp2
      go_ret
      exact ⟨ret_int HQ.out, HB1.out⟩
    | false =>
      have HQ := Lib.hid (show (1 : Int) = r by rw [HR.out.1, sgnI, if_neg (by simpa using HR.out.2.symm), if_neg (by simp)])
      go_wp2
      go_ret
      exact ⟨ret_int HQ.out, HB1.out⟩

/-- a number that lies in 33 cells: its sign and its magnitude -/
theorem int_cells {w : World} {b : Nat} {neg : Bool} {v : Nat} (h : w.rangeAt b 0 (Value.bool neg :: lv 32 v)) : w.cell? ⟨b, 0, none⟩ = some (.bool neg) ∧ MagAt w b 1 32 v := by
  refine ⟨?_, fun j u hu => ?_⟩
  · have := h 0 (.bool neg) rfl
    simpa using this
  · have := h (j + 1) u (by simpa using hu)
    rwa [show 0 + (j + 1) = 1 + j by omega] at this
theorem limbs_two {v N : Nat} (hv : v < BB ^ 2) (hN : IsLimbs v N) : N ≤ 2 := by
  rcases Nat.lt_or_ge 2 N with h | h
  · have h1 := hN.2 (by omega)
    have h2 := Nat.pow_le_pow_right BB_pos (show 2 ≤ N - 1 by omega)
    omega
  · exact h
theorem two_or {v x y : Nat} (hx : x < BB) (hy : y < BB) (hv : v = x + y * BB) : bits BinOp.or IntKind.u64 (IntKind.u64.wrap ((y : Int) * 4294967296)) (x : Int) = (v : Int) := by
  have e : IntKind.u64.wrap ((y : Int) * 4294967296) = ((y * 4294967296 : Nat) : Int) := by unfold BB at hy; rw [IntKind.wrap_u64]; omega
  rw [e, u64_or_nat _ _ (by unfold BB at hy; omega) (by unfold BB at hx; omega), or_low (i := 32) (by unfold BB at hx; omega) (by omega), hv]
  unfold BB; omega
set_option maxRecDepth 100000 in
set_option maxHeartbeats 4000000 in
theorem toint_is (neg : Bool) (v : Nat) (w : World) (hv : v < 9223372036854775808)
    (hcan : ∀ W, Calls Try.prog 47 #[.bool neg, mV v] W fun e w' => e = .returned (iV neg v) ∧ Below W.heap.size W w') :
    Calls Try.prog 38 #[iV neg v] w fun e w' => e = .returned (.tuple #[.int .i64 (if neg = true then -(v : Int) else (v : Int)), .bool true]) ∧ Below w.heap.size w w' := by
  have hv2 : v < BB ^ 2 := two_lt (by omega)
  have hv32 : v < BB ^ 32 := Nat.lt_of_lt_of_le hv2 (Nat.pow_le_pow_right BB_pos (by omega))
  obtain ⟨N, _, hN⟩ := is_limbs_exists v 32 hv32
  have hN2 := limbs_two hv2 hN
  have h2 := two_limbs hv2
  have l0 := lim_lt v 0
  have l1 := lim_lt v 1
  obtain ⟨w0, hw0, hb0, hs0, hc0, hA⟩ := box_int w neg v 51
  have hT : w0.there w.heap.size 0 33 := by
    intro j hj
    have hh := heap_alloc_new w (.cells (Value.bool neg :: lv 32 v).toArray 51)
    rw [← hw0] at hh
    refine ⟨?_, frozen_of_row _ _ _ _ _ hh⟩
    rw [cell_of_row _ w.heap.size (0 + j) _ 51 (0, 0) hh, Array.getElem?_eq_getElem (by rw [int_size]; omega)]; rfl
  have HW := Lib.hid hb0
  have HL := Lib.hid (fun W => limbs_is v N W hv32 hN)
  obtain ⟨B0, hB0⟩ : ∃ B0, B0 = w.heap.size := ⟨_, rfl⟩
  have hB1 : B0 < w0.heap.size := by rw [hs0, hB0]; omega
  have HBE := Lib.hid hB0
  rw [← hB0] at hA hc0 hT
  have HT := Lib.hid hT
  unfold iV at hcan ⊢
  obtain ⟨va, hva⟩ : ∃ va, va = (Value.bool neg :: lv 32 v).toArray := ⟨_, rfl⟩
  obtain ⟨rs, hrs⟩ : ∃ rs, rs = Value.bool neg :: lv 32 v := ⟨_, rfl⟩
  obtain ⟨cs, hcs⟩ : ∃ cs, cs = lv 32 v := ⟨_, rfl⟩
  have HLD := Lib.hid (show w0.rangeAt B0 1 (lv 32 v) from hA)
  have HSZ := Lib.hid (infoMlv v)
  have HC2 := Lib.hid (fun W => show Calls Try.prog 47 #[.bool neg, .agg cs.toArray] W (fun e w' => e = .returned (.agg rs.toArray) ∧ Below W.heap.size W w') by rw [hcs, hrs]; exact hcan W)
  have HL2 := Lib.hid (fun W => show Calls Try.prog 46 #[.agg cs.toArray] W (fun e w' => e = .returned (.int .i64 N) ∧ Below W.heap.size W w') by rw [hcs]; exact HL.out W)
  have HRS := Lib.hid hrs
  have HCS := Lib.hid hcs
  have HONE := Lib.hid (show rs.toArray.all (·.oneCell') = true by rw [hrs]; exact all_oneCell_toArray (int_one neg v))
  have HSA := Lib.hid (show (Try.prog.info? 51).map (·.size) = some rs.toArray.size by rw [hrs, int_size]; exact Try.infoI)
  rw [← hcs] at HLD HSZ
  rw [← hva] at hw0 ⊢
  obtain ⟨x, hx⟩ : ∃ x, x = lim v 0 := ⟨_, rfl⟩
  obtain ⟨y, hy⟩ : ∃ y, y = lim v 1 := ⟨_, rfl⟩
  have HXY := Lib.hid (And.intro hx hy)
  rw [← hx, ← hy] at h2
  rw [← hx] at l0
  rw [← hy] at l1
  have hor := two_or l0 l1 h2
  have wx : IntKind.u64.wrap (x : Int) = (x : Int) := by unfold BB at l0; rw [IntKind.wrap_u64]; omega
  have wy : IntKind.u64.wrap (y : Int) = (y : Int) := by unfold BB at l1; rw [IntKind.wrap_u64]; omega
  have HOR := Lib.hid hor
  clear hv32 hN hv2 h2 l0 l1 hb0 hs0 hA hT hcan hva hrs hcs hx hy hor
  go_enter Try.func38, Try.ntmps38
  go_upto_region 1 with fail
  rw [← hw0, ← hB0]
  clear hw0 hB0
  go_wp2_with (refine wpList_load_mid rfl _ _ rfl B0 1 rfl cs _ HLD.out Try.underlying49 rfl HSZ.out ?_)
  refine (HC2.out _).mono ?_
  rintro e w1 ⟨rfl, hb1⟩
  have hT1 := there_up HT.out hb1 hB1
  have HTH := Lib.hid (show w1.there B0 0 rs.toArray.size by rw [HRS.out, int_size]; exact hT1)
  have HST := Lib.hid (World.rangeAt_setCells_same w1 B0 0 rs (by rw [HRS.out, List.length_cons, lv_len]; exact hT1))
  have HBS := Lib.hid (below_sets (show w.heap.size ≤ B0 by rw [← HBE.out]; exact Nat.le_refl _) rs 0 w1 (HW.out.trans (hb1.mono HW.out.size)))
  obtain ⟨w2, hw2⟩ : ∃ w2, w2 = w1.setCells B0 0 rs := ⟨_, rfl⟩
  have hIC : w2.cell? ⟨B0, 0, none⟩ = some (.bool neg) ∧ MagAt w2 B0 1 32 v := by rw [hw2]; exact int_cells (by have := HST.out; rwa [HRS.out] at this ⊢)
  have HIC := Lib.hid hIC
  have HLD2 := Lib.hid (show w2.rangeAt B0 1 cs by rw [HCS.out]; exact hIC.2)
  rw [← hw2] at HBS
  have HW2 := Lib.hid hw2
  clear hb1 hT1 hw2 hIC hc0
  go_upto_region 2 with (refine wpList_store_mid rfl _ _ _ rfl B0 0 _ rfl rfl HTH.out HSA.out HONE.out ?_)
  try simp only [Act.put, List.setIfInBounds_toArray, List.set_cons_zero, List.set_cons_succ]
  try simp only [List.toList_toArray]
  rw [← HW2.out]
  go_wp2_with (refine wpList_load_mid rfl _ _ rfl B0 1 rfl cs _ HLD2.out Try.underlying49 rfl HSZ.out ?_)
  refine (HL2.out _).mono ?_
  rintro e w3 ⟨rfl, hb3⟩
  have c0 := cell_up HIC.out.1 hb3
  have hm := HIC.out.2.up hb3
  have cx := hm.get (k := 0) (by omega)
  have cy := hm.get (k := 1) (by omega)
  rw [← HXY.out.1] at cx
  rw [← HXY.out.2] at cy
  have HB3 := Lib.hid (HBS.out.trans (hb3.mono HBS.out.size))
  have hN3 : ¬ (2 : Int) < (N : Int) := by omega
  obtain ⟨V, hV⟩ : ∃ V : Int, V = (v : Int) := ⟨_, rfl⟩
  have hor := HOR.out
  rw [← hV] at hor
  have HVV := Lib.hid hV
  have hV0 : 0 ≤ V := by omega
  have hV1 : V < 9223372036854775808 := by omega
  clear hb3 hm hv hV
  cases neg with
  | true =>
    have hle : V ≤ 9223372036854775808 := by omega
    have hneg : IntKind.i64.wrap (IntKind.u64.wrap (-V)) = -V := by rw [IntKind.wrap_u64, IntKind.wrap_i64]; omega
    go_wp2
    go_ret2
    exact ⟨by rw [HVV.out]; rfl, HB3.out⟩
  | false =>
    have hpos : IntKind.i64.wrap V = V := by rw [IntKind.wrap_i64]; omega
    go_wp2
    go_ret2
    exact ⟨by rw [HVV.out]; rfl, HB3.out⟩
end Go.Proofs.Ytnkmhbiklffjlaa
