/- fundadminref01.low, small, FromInt: walked. -/
import Derived.Test.YtnkmhbiklffjlaaBigV
set_option linter.unusedVariables false
set_option linter.unusedSimpArgs false
namespace Go.Proofs.Ytnkmhbiklffjlaa
open Go.RowKit Big

theorem lv_two {v : Nat} (hv : v < BB ^ 2) : lv 32 v = [.int .u32 (lim v 0 : Nat), .int .u32 (lim v 1 : Nat), .int .u32 0, .int .u32 0, .int .u32 0, .int .u32 0, .int .u32 0, .int .u32 0, .int .u32 0, .int .u32 0, .int .u32 0, .int .u32 0, .int .u32 0, .int .u32 0, .int .u32 0, .int .u32 0, .int .u32 0, .int .u32 0, .int .u32 0, .int .u32 0, .int .u32 0, .int .u32 0, .int .u32 0, .int .u32 0, .int .u32 0, .int .u32 0, .int .u32 0, .int .u32 0, .int .u32 0, .int .u32 0, .int .u32 0, .int .u32 0] := by
  have hz : ∀ k, 2 ≤ k → lim v k = 0 := fun k hk => lim_big hv hk
  unfold lv cells dg
  simp [List.range, List.range.loop, hz]
theorem lv_size (n v : Nat) : (lv n v).toArray.size = n := by rw [List.size_toArray, lv_len]
theorem two_limbs {v : Nat} (hv : v < BB ^ 2) : v = lim v 0 + lim v 1 * BB := by
  have h1 := mod_succ v 1
  have h0 := mod_succ v 0
  rw [Nat.mod_eq_of_lt hv] at h1
  simp only [Nat.pow_zero, Nat.mul_one, Nat.mod_one, Nat.zero_add, Nat.pow_one] at h0 h1
  omega
theorem two_lt {v : Nat} (hv : v < 18446744073709551616) : v < BB ^ 2 := by unfold BB; omega
set_option maxRecDepth 100000 in
set_option maxHeartbeats 1000000 in
theorem low_is (v : Nat) (w : World) (hv : v < BB ^ 2) :
    Calls Try.prog 65 #[mV v] w fun e w' => e = .returned (.int .u64 v) ∧ Below w.heap.size w w' := by
  obtain ⟨w0, hw0, hb0, hs0, hA⟩ := box_one1 w v 49
  have HW := Lib.hid hb0
  have c0 := hA.1.get (k := 0) (by omega)
  have c1 := hA.1.get (k := 1) (by omega)
  rw [Nat.zero_add] at c0 c1
  have h2 := two_limbs hv
  have l0 := lim_lt v 0
  have l1 := lim_lt v 1
  obtain ⟨x, hx⟩ : ∃ x, x = lim v 0 := ⟨_, rfl⟩
  obtain ⟨y, hy⟩ : ∃ y, y = lim v 1 := ⟨_, rfl⟩
  rw [← hx] at c0 l0 h2
  rw [← hy] at c1 l1 h2
  have w1 : IntKind.u64.wrap (x : Int) = (x : Int) := by unfold BB at l0; rw [IntKind.wrap_u64]; omega
  have w2 : IntKind.u64.wrap (y : Int) = (y : Int) := by unfold BB at l1; rw [IntKind.wrap_u64]; omega
  have hor : bits BinOp.or IntKind.u64 (IntKind.u64.wrap ((y : Int) * 4294967296)) (x : Int) = (v : Int) := by
    have e : IntKind.u64.wrap ((y : Int) * 4294967296) = ((y * 4294967296 : Nat) : Int) := by unfold BB at l1; rw [IntKind.wrap_u64]; omega
    rw [e, u64_or_nat _ _ (by unfold BB at l1; omega) (by unfold BB at l0; omega), or_low (i := 32) (by unfold BB at l0; omega) (by omega), h2]
    unfold BB; omega
  unfold mV
  obtain ⟨va, hva⟩ : ∃ va, va = (lv 32 v).toArray := ⟨_, rfl⟩
  rw [← hva] at hw0 ⊢
  clear hv hb0 hs0 hA hx hy l0 l1 h2 hva
  go_enter Try.func65, Try.ntmps65
  go_upto_region 1 with fail
  rw [← hw0]
  clear hw0
  go_wp2
  go_ret
  exact ⟨rfl, HW.out⟩
set_option maxRecDepth 100000 in
set_option maxHeartbeats 2000000 in
theorem small_is (n : Nat) (w : World) (hn : n < BB ^ 2) :
    Calls Try.prog 64 #[.int .u64 n] w fun e w' => e = .returned (mV n) ∧ Below w.heap.size w w' := by
  obtain ⟨w1, hw1⟩ : ∃ w1, w1 = (w.alloc (.cells (lv 32 0).toArray 49)).alloc (.cells (lv 32 n).toArray 49) := ⟨_, rfl⟩
  have hR : MagOwn w1 w.heap.size 0 32 0 := by rw [hw1]; exact (MagOwn.new w 32 0 _).up ((Below.refl _ _).alloc (Nat.le_refl _) _) (by simp)
  have hO : MagOwn w1 (w.heap.size + 1) 0 32 n := by
    rw [hw1]
    have := MagOwn.new (w.alloc (.cells (lv 32 0).toArray 49)) 32 n 49
    rwa [World.size_alloc] at this
  have hb1 : Below w.heap.size w w1 := by rw [hw1]; exact ((Below.refl _ _).alloc (Nat.le_refl _) _).alloc (by simp) _
  have h2 := two_limbs hn
  have l0 := lim_lt n 0
  have l1 := lim_lt n 1
  rw [lv_zero, lv_two hn] at hw1
  obtain ⟨x, hx⟩ : ∃ x, x = lim n 0 := ⟨_, rfl⟩
  obtain ⟨y, hy⟩ : ∃ y, y = lim n 1 := ⟨_, rfl⟩
  rw [← hx] at hw1 l0 h2
  rw [← hy] at hw1 l1 h2
  have e1 : IntKind.u32.wrap (n : Int) = (x : Int) := by unfold BB at h2 l0; rw [IntKind.wrap_u32]; omega
  have e2 : IntKind.u32.wrap ((n : Int) / 4294967296) = (y : Int) := by unfold BB at h2 l0 l1; rw [IntKind.wrap_u32]; omega
  have HR := Lib.hid hR
  have HO := Lib.hid hO
  have HB := Lib.hid hb1
  unfold mV
  obtain ⟨vv, hvv⟩ : ∃ vv, vv = (lv 32 n).toArray := ⟨_, rfl⟩
  have HVV := Lib.hid hvv
  rw [← hvv]
  clear hn h2 l0 l1 hx hy hR hO hb1 hvv
  go_enter Try.func64, Try.ntmps64
  go_upto_region 3 with fail
  rw [← hw1]
  clear hw1 e1 e2
  obtain ⟨cs, hcs⟩ : ∃ cs, cs = lv 32 n := ⟨_, rfl⟩
  have HST := Lib.hid (stored_mag (v := n) HR.out)
  have HBS := Lib.hid (below_sets (Nat.le_refl w.heap.size) (lv 32 n) 0 w1 HB.out)
  have HTH := Lib.hid (show w1.there w.heap.size 0 (lv 32 n).toArray.size by rw [lv_size]; exact HR.out.there)
  have HLD := Lib.hid (show w1.rangeAt (w.heap.size + 1) 0 (lv 32 n) from HO.out.1)
  have HSZ := Lib.hid (infoMlv n)
  have HSA := Lib.hid (show (Try.prog.info? 49).map (·.size) = some (lv 32 n).toArray.size by rw [lv_size]; exact Try.infoM)
  have HONE := Lib.hid (all_oneCell_toArray (lv_one 32 n))
  have HCS := Lib.hid hcs
  have hvc : vv = cs.toArray := by rw [HVV.out, hcs]
  rw [← hcs] at HBS HTH HLD HSZ HSA HONE
  have HVC := Lib.hid hvc
  clear hcs hvc
  go_wp2_with (first
    | (refine wpList_load_mid rfl _ _ rfl (w.heap.size + 1) 0 rfl cs _ HLD.out Try.underlying49 rfl HSZ.out ?_)
    | (refine wpList_store_mid rfl _ _ _ rfl w.heap.size 0 _ rfl rfl HTH.out HSA.out HONE.out ?_))
  have hld := run_loadVar_mid (P := Try.prog) _ _ _ _ _ _ (show World.rangeAt (w1.setCells w.heap.size 0 cs) w.heap.size 0 cs by have := HST.out; rw [← HCS.out] at this; unfold MagAt at this; rwa [← HCS.out] at this) Try.underlying49 rfl HSZ.out
  try simp only [Act.put, List.setIfInBounds_toArray, List.set_cons_zero, List.set_cons_succ]
  refine bodyPost_ret (v := .agg cs.toArray) (by simp [results, Try.results64, asAddr, hld]) rfl ?_
  exact ⟨by rw [HVC.out], HBS.out⟩

/-- a number's form: canonical -/
def zV (z : Int) : Value := iV (decide (z < 0)) z.natAbs
theorem lv33_zero : (Value.bool false :: lv 32 0) = [.bool false, .int .u32 0, .int .u32 0, .int .u32 0, .int .u32 0, .int .u32 0, .int .u32 0, .int .u32 0, .int .u32 0, .int .u32 0, .int .u32 0, .int .u32 0, .int .u32 0, .int .u32 0, .int .u32 0, .int .u32 0, .int .u32 0, .int .u32 0, .int .u32 0, .int .u32 0, .int .u32 0, .int .u32 0, .int .u32 0, .int .u32 0, .int .u32 0, .int .u32 0, .int .u32 0, .int .u32 0, .int .u32 0, .int .u32 0, .int .u32 0, .int .u32 0, .int .u32 0] := by rw [lv_zero]
theorem infoI33 (b : Bool) (v : Nat) : (Try.prog.info? 51).map (·.size) = some (Value.bool b :: lv 32 v).length := by rw [List.length_cons, lv_len]; exact Try.infoI
theorem int_size (b : Bool) (v : Nat) : (Value.bool b :: lv 32 v).toArray.size = 33 := by rw [List.size_toArray, List.length_cons, lv_len]
theorem int_one (b : Bool) (v : Nat) : ∀ x ∈ Value.bool b :: lv 32 v, x.oneCell' = true := by
  intro x hx
  rcases List.mem_cons.1 hx with rfl | hx
  · rfl
  · exact lv_one 32 v x hx
theorem there33 (X : World) (t : TypeId) : (X.alloc (.cells (Value.bool false :: lv 32 0).toArray t)).there X.heap.size 0 33 := by
  intro j hj
  have hh := heap_alloc_new X (.cells (Value.bool false :: lv 32 0).toArray t)
  refine ⟨?_, frozen_of_row _ _ _ _ _ hh⟩
  rw [cell_of_row _ X.heap.size (0 + j) _ t (0, 0) hh, Array.getElem?_eq_getElem (by rw [int_size]; omega)]; rfl
set_option maxRecDepth 100000 in
set_option maxHeartbeats 2000000 in
theorem from_is (z : Int) (w : World) (hz1 : -9223372036854775808 ≤ z) (hz2 : z ≤ 9223372036854775807) :
    Calls Try.prog 33 #[.int .i64 z] w fun e w' => e = .returned (zV z) ∧ Below w.heap.size w w' := by
  obtain ⟨n, hn⟩ : ∃ n, n = z.natAbs := ⟨_, rfl⟩
  obtain ⟨s, hs⟩ : ∃ s, s = decide (z < 0) := ⟨_, rfl⟩
  have hn2 : n < BB ^ 2 := two_lt (by omega)
  obtain ⟨w1, hw1⟩ : ∃ w1, w1 = (w.alloc (.cells (Value.bool false :: lv 32 0).toArray 51)).alloc (.cells (Value.bool s :: lv 32 n).toArray 51) := ⟨_, rfl⟩
  have hR : w1.there w.heap.size 0 33 := by rw [hw1]; exact World.there_alloc (there33 w _) _
  have hO : w1.rangeAt (w.heap.size + 1) 0 (Value.bool s :: lv 32 n) := by
    rw [hw1]
    have := range_new (w.alloc (.cells (Value.bool false :: lv 32 0).toArray 51)) (Value.bool s :: lv 32 n) 51
    rwa [World.size_alloc] at this
  have hb1 : Below w.heap.size w w1 := by rw [hw1]; exact ((Below.refl _ _).alloc (Nat.le_refl _) _).alloc (by simp) _
  have h2 := two_limbs hn2
  have l0 := lim_lt n 0
  have l1 := lim_lt n 1
  rw [lv33_zero, lv_two hn2] at hw1
  obtain ⟨x, hx⟩ : ∃ x, x = lim n 0 := ⟨_, rfl⟩
  obtain ⟨y, hy⟩ : ∃ y, y = lim n 1 := ⟨_, rfl⟩
  rw [← hx] at hw1 l0 h2
  rw [← hy] at hw1 l1 h2
  have e1 : IntKind.u32.wrap (n : Int) = (x : Int) := by unfold BB at h2 l0; rw [IntKind.wrap_u32]; omega
  have e2 : IntKind.u32.wrap ((n : Int) / 4294967296) = (y : Int) := by unfold BB at h2 l0 l1; rw [IntKind.wrap_u32]; omega
  have HR := Lib.hid hR
  have HO := Lib.hid hO
  have HB := Lib.hid hb1
  unfold zV iV
  rw [← hs, ← hn]
  obtain ⟨cs, hcs⟩ : ∃ cs, cs = Value.bool s :: lv 32 n := ⟨_, rfl⟩
  have HST := Lib.hid (World.rangeAt_setCells_same w1 w.heap.size 0 (Value.bool s :: lv 32 n) (by rw [List.length_cons, lv_len]; exact hR))
  have HBS := Lib.hid (below_sets (Nat.le_refl w.heap.size) (Value.bool s :: lv 32 n) 0 w1 hb1)
  have HTH := Lib.hid (show w1.there w.heap.size 0 (Value.bool s :: lv 32 n).toArray.size by rw [int_size]; exact hR)
  have HSZ := Lib.hid (infoI33 s n)
  have HSA := Lib.hid (show (Try.prog.info? 51).map (·.size) = some (Value.bool s :: lv 32 n).toArray.size by rw [int_size]; exact Try.infoI)
  have HONE := Lib.hid (all_oneCell_toArray (int_one s n))
  rw [← hcs] at HST HBS HTH HO HSZ HSA HONE ⊢
  by_cases hneg : z < 0
  · obtain rfl : s = true := by rw [hs, decide_eq_true hneg]
    have e0 : IntKind.u64.wrap (-(IntKind.u64.wrap z)) = (n : Int) := by rw [IntKind.wrap_u64, IntKind.wrap_u64]; omega
    clear hn2 h2 l0 l1 hx hy hR hO hb1 hcs hs hn hz1 hz2
    go_enter Try.func33, Try.ntmps33
    go_upto_region 7 with fail
    rw [← hw1]
    clear hw1 e0 e1 e2
    go_wp2_with (first
      | (refine wpList_load_mid rfl _ _ rfl (w.heap.size + 1) 0 rfl cs _ HO.out Try.underlying51 rfl HSZ.out ?_)
      | (refine wpList_store_mid rfl _ _ _ rfl w.heap.size 0 _ rfl rfl HTH.out HSA.out HONE.out ?_))
    have hld := run_loadVar_mid (P := Try.prog) _ _ _ _ _ _ HST.out Try.underlying51 rfl HSZ.out
    try simp only [Act.put, List.setIfInBounds_toArray, List.set_cons_zero, List.set_cons_succ]
    refine bodyPost_ret (v := .agg cs.toArray) (by simp [results, Try.results33, asAddr, hld]) rfl ?_
    exact ⟨rfl, HBS.out⟩
  · obtain rfl : s = false := by rw [hs, decide_eq_false hneg]
    have e0 : IntKind.u64.wrap z = (n : Int) := by rw [IntKind.wrap_u64]; omega
    clear hn2 h2 l0 l1 hx hy hR hO hb1 hcs hs hn hz1 hz2
    go_enter Try.func33, Try.ntmps33
    go_upto_region 7 with fail
    rw [← hw1]
    clear hw1 e0 e1 e2
    go_wp2_with (first
      | (refine wpList_load_mid rfl _ _ rfl (w.heap.size + 1) 0 rfl cs _ HO.out Try.underlying51 rfl HSZ.out ?_)
      | (refine wpList_store_mid rfl _ _ _ rfl w.heap.size 0 _ rfl rfl HTH.out HSA.out HONE.out ?_))
    have hld := run_loadVar_mid (P := Try.prog) _ _ _ _ _ _ HST.out Try.underlying51 rfl HSZ.out
    try simp only [Act.put, List.setIfInBounds_toArray, List.set_cons_zero, List.set_cons_succ]
    refine bodyPost_ret (v := .agg cs.toArray) (by simp [results, Try.results33, asAddr, hld]) rfl ?_
    exact ⟨rfl, HBS.out⟩
end Go.Proofs.Ytnkmhbiklffjlaa
