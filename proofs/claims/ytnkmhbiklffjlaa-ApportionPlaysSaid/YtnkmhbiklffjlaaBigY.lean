/- fundadminref01.shifted, walked. -/
import Derived.Test.YtnkmhbiklffjlaaBigX
set_option linter.unusedVariables false
set_option linter.unusedSimpArgs false
namespace Go.Proofs.Ytnkmhbiklffjlaa
open Go.RowKit Big

theorem div_lt_limbs {m k s : Nat} (hm : m < BB ^ 32) (hk : k ≤ 32) : m / 2 ^ (32 * k + s) < BB ^ (32 - k) := by
  have h1 : m / 2 ^ (32 * k + s) ≤ m / BB ^ k := by
    rw [Nat.pow_add, ← BP_two, ← Nat.div_div_eq_div_mul]; exact Nat.div_le_self _ _
  have h2 : m / BB ^ k < BB ^ (32 - k) := by
    rw [Nat.div_lt_iff_lt_mul (BP k), ← Nat.pow_add, show 32 - k + k = 32 by omega]; exact hm
  omega
theorem upd_again {P i lo d : Nat} (hP : P < BB ^ i) (hlo : lo < BB) : upd (P + lo * BB ^ i) i d = P + d * BB ^ i := by
  have h := lt_succ hP hlo
  unfold upd
  rw [Nat.add_mul_mod_self_right, Nat.mod_eq_of_lt hP, Nat.div_eq_of_lt h]; simp
/-- two parts of a limb put together -/
theorem shl_num {x y s : Nat} (hx : x < BB) (hy : y < BB) (hs0 : 0 < s) (hs : s < 32) : ∃ hi : Nat, IntKind.u32.wrap ((y : Int) * 2 ^ (32 - s)) = (hi : Int) ∧ hi = y % 2 ^ s * 2 ^ (32 - s) ∧
    bits BinOp.or IntKind.u32 ((x / 2 ^ s : Nat) : Int) (hi : Int) = ((x / 2 ^ s + hi : Nat) : Int) ∧ x / 2 ^ s + hi < BB := by
  have e3 : BB = 2 ^ s * 2 ^ (32 - s) := by rw [BB_two, ← Nat.pow_add]; congr 1; omega
  obtain ⟨T, hT⟩ : ∃ T, T = 2 ^ (32 - s) := ⟨_, rfl⟩
  have hT0 : 0 < T := by rw [hT]; exact tp _
  have hcast : ((2 : Int) ^ (32 - s)) = (T : Int) := by rw [hT]; simp
  have h1 : y % 2 ^ s < 2 ^ s := Nat.mod_lt _ (tp s)
  have h2 : y % 2 ^ s * T + T ≤ BB := by rw [← Nat.succ_mul, e3, ← hT]; exact Nat.mul_le_mul_right _ h1
  have hlo : x / 2 ^ s < T := by rw [Nat.div_lt_iff_lt_mul (tp s), hT, Nat.mul_comm, ← e3]; exact hx
  have hm : y * T % BB = y % 2 ^ s * T := by rw [e3, ← hT]; exact Nat.mul_mod_mul_right _ _ _
  rw [← hT, hcast]
  refine ⟨y % 2 ^ s * T, ?_, rfl, ?_, by omega⟩
  · rw [IntKind.wrap_u32, ← hm]; unfold BB; omega
  · rw [u32_or_nat _ _ (by unfold BB at h2; omega) (by unfold BB at h2; omega), Nat.or_comm, or_low (i := 32 - s) (by rw [← hT]; exact hlo) (by rw [← hT]; exact Nat.mul_mod_left _ _), Nat.add_comm]
set_option maxRecDepth 100000 in
set_option maxHeartbeats 4000000 in
theorem shifted_is (m n : Nat) (w : World) (hm : m < BB ^ 32) (hn : n ≤ 1024) :
    Calls Try.prog 66 #[mV m, .int .i64 n] w fun e w' => e = .returned (mV (m / 2 ^ n)) ∧ Below w.heap.size w w' := by
  obtain ⟨k, hk⟩ : ∃ k, k = n / 32 := ⟨_, rfl⟩
  obtain ⟨s, hs⟩ : ∃ s, s = n % 32 := ⟨_, rfl⟩
  obtain ⟨v, hv⟩ : ∃ v, v = m / 2 ^ n := ⟨_, rfl⟩
  have hns : 32 * k + s = n := by omega
  have hvb : v < BB ^ (32 - k) := by rw [hv, ← hns]; exact div_lt_limbs hm (by omega)
  have HLIM := Lib.hid (fun i => show lim v i = lim m (i + k) / 2 ^ s + lim m (i + k + 1) % 2 ^ s * 2 ^ (32 - s) by rw [hv, ← hns]; exact shift_lim m k s i (by omega))
  have HVB := Lib.hid (And.intro hvb hm)
  obtain ⟨w0, hw0, hb0, hs0, hA⟩ := box_one1 w m 49
  obtain ⟨w1, hw1⟩ : ∃ w1, w1 = (w0.alloc (.cells (lv 32 0).toArray 49)).alloc (.cells (lv 32 0).toArray 49) := ⟨_, rfl⟩
  have hb1 : Below w0.heap.size w0 w1 := by rw [hw1]; exact ((Below.refl _ _).alloc (Nat.le_refl _) _).alloc (by simp) _
  have hR : MagOwn w1 (w.heap.size + 1) 0 32 0 := by
    rw [hw1, ← hs0]; exact (MagOwn.new w0 32 0 _).up ((Below.refl _ _).alloc (Nat.le_refl _) _) (by simp)
  have hO : MagOwn w1 (w.heap.size + 1 + 1) 0 32 0 := by
    rw [hw1, ← hs0]
    have := MagOwn.new (w0.alloc (.cells (lv 32 0).toArray 49)) 32 0 49
    rwa [World.size_alloc] at this
  have HA := Lib.hid (hA.1.up hb1)
  have HR := Lib.hid hR
  have HO := Lib.hid hO
  have HW := Lib.hid (hb0.trans (hb1.mono hb0.size))
  rw [hw0, lv_zero] at hw1
  have hq1 : (n : Int) / 32 = (k : Int) := by omega
  have hq2 : (n : Int) % 32 = (s : Int) := by omega
  have hq3 : IntKind.u64.wrap (s : Int) = (s : Int) := by rw [IntKind.wrap_u64]; omega
  have hk32 : k < 33 := by omega
  have hs32 : s < 32 := by omega
  rw [← hv]
  unfold mV
  obtain ⟨va, hva⟩ : ∃ va, va = (lv 32 m).toArray := ⟨_, rfl⟩
  obtain ⟨vv, hvv⟩ : ∃ vv, vv = (lv 32 v).toArray := ⟨_, rfl⟩
  have HVV := Lib.hid hvv
  rw [← hva] at hw1 ⊢
  rw [← hvv]
  clear hm hk hs hv hns hvb hb0 hs0 hA hb1 hR hO hw0 hva hvv
  go_enter Try.func66, Try.ntmps66
  go_upto_region 2 with fail
  rw [← hw1]
  clear hw1
  obtain ⟨B0, hB0⟩ : ∃ B0, B0 = w.heap.size := ⟨_, rfl⟩
  have HBE := Lib.hid hB0
  rw [← hB0] at HA HR HO ⊢
  clear hB0
  go_wp2
  clear hq1 hq2 hq3
  go_loopg [8] 33 (fun g iv wr => ∃ (i P : Nat), i + k ≤ 32 ∧ 33 - i ≤ g ∧ P = v % BB ^ i ∧ iv = .int .i64 i ∧ MagAt wr B0 0 32 m ∧ MagOwn wr (B0 + 1) 0 32 0 ∧ MagOwn wr (B0 + 1 + 1) 0 32 P ∧ Below w.heap.size w wr)
  case atStart => exact ⟨0, 0, by omega, by omega, by simp [Nat.mod_one], rfl, HA.out, HR.out, HO.out, HW.out⟩
  case round =>
    obtain ⟨i, P, hi, hg, hP, rfl, hA, hR, hO, hW⟩ := hrel
    have HP := Lib.hid hP
    have HA1 := Lib.hid hA
    have HR1 := Lib.hid hR
    have HO1 := Lib.hid hO
    have HW1 := Lib.hid hW
    clear hP hA hR hO hW
    by_cases hlt : i + k < 32
    · obtain ⟨j, hj⟩ : ∃ j, j = i + k := ⟨_, rfl⟩
      have hji : (i : Int) + (k : Int) = (j : Int) := by omega
      have hwij : IntKind.i64.wrap ((i : Int) + (k : Int)) = (j : Int) := by rw [hji]; exact IntWalk.i64_in _ (by omega)
      have hj32 : j < 32 := by omega
      have hi32 : i < 32 := by omega
      have ca := HA1.out.get hj32
      have co := HO1.out.1.get hi32
      have fo := HO1.out.2 i hi32
      rw [Nat.zero_add] at ca co fo
      obtain ⟨x, hx⟩ : ∃ x, x = lim m j := ⟨_, rfl⟩
      rw [← hx] at ca
      have hxl : x < BB := hx ▸ lim_lt m j
      obtain ⟨lo, hlo⟩ : ∃ lo, lo = x / 2 ^ s := ⟨_, rfl⟩
      have hlob : lo < BB := by rw [hlo]; exact Nat.lt_of_le_of_lt (Nat.div_le_self _ _) hxl
      have hshr : (x : Int) / 2 ^ s = (lo : Int) := by rw [hlo]; simp
      have HPB := Lib.hid (show P < BB ^ i by rw [HP.out]; exact Nat.mod_lt _ (BP i))
      have HO2 := Lib.hid (show MagOwn (wr.setCell ⟨B0 + 1 + 1, i, none⟩ (.int .u32 (lo : Nat))) (B0 + 1 + 1) 0 32 (P + lo * BB ^ i) by
        have := HO1.out.set hi32 hlob; rwa [upd_top HPB.out, Nat.zero_add] at this)
      have HW2 := Lib.hid (below_set1 HW1.out ⟨B0 + 1 + 1, i, none⟩ (.int .u32 (lo : Nat)) (show w.heap.size ≤ B0 + 1 + 1 by rw [← HBE.out]; omega))
      have HR2 := Lib.hid (HR1.out.setOther ⟨B0 + 1 + 1, i, none⟩ (.int .u32 (lo : Nat)) (show B0 + 1 + 1 ≠ B0 + 1 by omega))
      have HA2 := Lib.hid (HA1.out.setOther ⟨B0 + 1 + 1, i, none⟩ (.int .u32 (lo : Nat)) (show B0 + 1 + 1 ≠ B0 by omega))
      have HVI := Lib.hid (HLIM.out i)
      have HX := Lib.hid hx
      have HJ := Lib.hid hj
      by_cases hB : 0 < s ∧ j + 1 < 32
      · obtain ⟨hsp, hj1⟩ := hB
        obtain ⟨y, hy⟩ : ∃ y, y = lim m (j + 1) := ⟨_, rfl⟩
        have hyl : y < BB := hy ▸ lim_lt m (j + 1)
        obtain ⟨hi', e1, e2, e3, e4⟩ := shl_num hxl hyl hsp hs32
        rw [← hlo] at e3 e4
        obtain ⟨d, hd⟩ : ∃ d, d = lo + hi' := ⟨_, rfl⟩
        rw [← hd] at e3 e4
        have HDV := Lib.hid (show P + d * BB ^ i = v % BB ^ (i + 1) by
          rw [mod_succ, HP.out, HVI.out, ← hj, ← hx, ← hy, ← hlo, ← e2, ← hd])
        have HO3 := Lib.hid (show MagOwn ((wr.setCell ⟨B0 + 1 + 1, i, none⟩ (.int .u32 (lo : Nat))).setCell ⟨B0 + 1 + 1, i, none⟩ (.int .u32 (d : Nat))) (B0 + 1 + 1) 0 32 (P + d * BB ^ i) by
          have := HO2.out.set hi32 e4; rwa [upd_again HPB.out hlob, Nat.zero_add] at this)
        have HW3 := Lib.hid (below_set1 HW2.out ⟨B0 + 1 + 1, i, none⟩ (.int .u32 (d : Nat)) (show w.heap.size ≤ B0 + 1 + 1 by rw [← HBE.out]; omega))
        have HR3 := Lib.hid (HR2.out.setOther ⟨B0 + 1 + 1, i, none⟩ (.int .u32 (d : Nat)) (show B0 + 1 + 1 ≠ B0 + 1 by omega))
        have HA3 := Lib.hid (HA2.out.setOther ⟨B0 + 1 + 1, i, none⟩ (.int .u32 (d : Nat)) (show B0 + 1 + 1 ≠ B0 by omega))
        obtain ⟨r, hr⟩ : ∃ r, r = 32 - s := ⟨_, rfl⟩
        have hrs : (32 : Int) - (s : Int) = (r : Int) := by omega
        have hwr' : IntKind.u64.wrap (r : Int) = (r : Int) := by rw [IntKind.wrap_u64]; omega
        rw [← hr] at e1
        have hd1 : decide ((j : Int) + 1 < 32) = true := decide_eq_true (by omega)
        have cy := HA1.out.get hj1
        rw [Nat.zero_add, ← hy] at cy
        have hspi : (0 : Int) < (s : Int) := by omega
        have hr32 : r < 32 := by omega
        clear hx hj hji hlo hxl hlob hy hyl e2 e4 hd hr
        go_wp2
        go_region
        go_wp2
        go_roundg (gk - 1)
        case measure => omega
        case rel => exact ⟨i + 1, P + d * BB ^ i, by have := HJ.out; omega, by omega, HDV.out, by go_num, HA3.out, HR3.out, HO3.out, ⟨HW3.out.os, HW3.out.tape, HW3.out.output, HW3.out.size, HW3.out.block⟩⟩
      · have HDV := Lib.hid (show P + lo * BB ^ i = v % BB ^ (i + 1) by
          rw [mod_succ, HP.out, HVI.out, ← hj, ← hx, ← hlo]
          by_cases h0 : s = 0
          · subst h0; simp [Nat.mod_one]
          · have hj1 : 32 ≤ j + 1 := by omega
            rw [lim_big (k := j + 1) (i := 32) HVB.out.2 hj1]; simp)
        by_cases h0 : 0 < s
        · have hd1 : decide ((j : Int) + 1 < 32) = false := decide_eq_false (by omega)
          have hspi : (0 : Int) < (s : Int) := by omega
          clear hx hj hji hlo hxl hlob hB
          go_wp2
          go_roundg (gk - 1)
          case measure => omega
          case rel => exact ⟨i + 1, P + lo * BB ^ i, by have := HJ.out; omega, by omega, HDV.out, by go_num, HA2.out, HR2.out, HO2.out, HW2.out⟩
        · have hspi : ¬ (0 : Int) < (s : Int) := by omega
          clear hx hj hji hlo hxl hlob hB
          go_wp2
          go_roundg (gk - 1)
          case measure => omega
          case rel => exact ⟨i + 1, P + lo * BB ^ i, by have := HJ.out; omega, by omega, HDV.out, by go_num, HA2.out, HR2.out, HO2.out, HW2.out⟩
    · have hik : i + k = 32 := by omega
      have hPv : P = v := by
        rw [HP.out, show i = 32 - k by omega]
        exact Nat.mod_eq_of_lt HVB.out.1
      have hik2 : IntKind.i64.wrap ((i : Int) + (k : Int)) = 32 := by rw [show (i : Int) + (k : Int) = 32 by omega]; exact IntWalk.i64_in _ (by omega)
      subst hPv
      obtain ⟨cs, hcs⟩ : ∃ cs, cs = lv 32 P := ⟨_, rfl⟩
      have HST := Lib.hid (stored_mag (v := P) HR1.out)
      have HBS := Lib.hid (below_sets (show w.heap.size ≤ B0 + 1 by rw [← HBE.out]; omega) (lv 32 P) 0 wr HW1.out)
      have HTH := Lib.hid (show wr.there (B0 + 1) 0 (lv 32 P).toArray.size by rw [lv_size]; exact HR1.out.there)
      have HLD := Lib.hid (show wr.rangeAt (B0 + 1 + 1) 0 (lv 32 P) from HO1.out.1)
      have HSZ := Lib.hid (infoMlv P)
      have HSA := Lib.hid (show (Try.prog.info? 49).map (·.size) = some (lv 32 P).toArray.size by rw [lv_size]; exact Try.infoM)
      have HONE := Lib.hid (all_oneCell_toArray (lv_one 32 P))
      have HCS := Lib.hid hcs
      have hvc : vv = cs.toArray := by rw [HVV.out, hcs]
      rw [← hcs] at HBS HTH HLD HSZ HSA HONE
      have HVC := Lib.hid hvc
      clear hcs hvc hik hlt
      go_wp2_with (first
        | (refine wpList_load_mid rfl _ _ rfl (B0 + 1 + 1) 0 rfl cs _ HLD.out Try.underlying49 rfl HSZ.out ?_)
        | (refine wpList_store_mid rfl _ _ _ rfl (B0 + 1) 0 _ rfl rfl HTH.out HSA.out HONE.out ?_))
      have hld := run_loadVar_mid (P := Try.prog) _ _ _ _ _ _ (show World.rangeAt (wr.setCells (B0 + 1) 0 cs) (B0 + 1) 0 cs by have := HST.out; rw [← HCS.out] at this; unfold MagAt at this; rwa [← HCS.out] at this) Try.underlying49 rfl HSZ.out
      try simp only [Act.put, List.setIfInBounds_toArray, List.set_cons_zero, List.set_cons_succ]
      refine bodyPost_ret (v := .agg cs.toArray) (by simp [results, Try.results66, asAddr, hld]) rfl ?_
      exact ⟨by rw [HVC.out], HBS.out⟩
end Go.Proofs.Ytnkmhbiklffjlaa
