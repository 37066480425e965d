/- fundadminref01.Bits, walked. -/
import Derived.Test.YtnkmhbiklffjlaaBigW
set_option linter.unusedVariables false
set_option linter.unusedSimpArgs false
namespace Go.Proofs.Ytnkmhbiklffjlaa
open Go.RowKit Big

/-- a number boxed: its sign, its magnitude -/
theorem box_int (w : World) (neg : Bool) (v : Nat) (t : TypeId) : ∃ w0 : World, w0 = w.alloc (.cells (Value.bool neg :: lv 32 v).toArray t) ∧ Below w.heap.size w w0 ∧ w0.heap.size = w.heap.size + 1 ∧ w0.cell? ⟨w.heap.size, 0, none⟩ = some (.bool neg) ∧ MagAt w0 w.heap.size 1 32 v :=
  ⟨_, rfl, (Below.refl _ _).alloc (Nat.le_refl _) _, by simp, (int_new w neg v t).1, (int_new w neg v t).2⟩
theorem bits_le {x m k : Nat} (hx : x < 2 ^ k) (h : IsBits x m) : m ≤ k := by
  rcases Nat.lt_or_ge k m with hlt | hle
  · have h1 := h.2 (by omega)
    have h2 := Nat.pow_le_pow_right (show 0 < 2 by omega) (show k ≤ m - 1 by omega)
    omega
  · exact hle
theorem bits_bp {x m : Nat} (k : Nat) (hx : x < BB ^ k) (h : IsBits x m) : m ≤ 32 * k := bits_le (by rw [BP_two] at hx; exact hx) h
set_option maxRecDepth 100000 in
set_option maxHeartbeats 2000000 in
theorem bits_is (neg : Bool) (v n : Nat) (w : World) (hv : v < BB ^ 32) (hn : IsBits v n) :
    Calls Try.prog 50 #[iV neg v] w fun e w' => e = .returned (.int .i64 n) ∧ Below w.heap.size w w' := by
  obtain ⟨N, hN32, hN⟩ := is_limbs_exists v 32 hv
  have hnb : n ≤ 1024 := bits_bp 32 hv hn
  obtain ⟨w0, hw0, hb0, hs0, hc0, hA⟩ := box_int w neg v 51
  have HL := Lib.hid (fun W => limbs_is v N W hv hN)
  have HW := Lib.hid hb0
  have HA := Lib.hid hA
  have HN := Lib.hid hN
  have HBN := Lib.hid hn
  obtain ⟨B0, hB0⟩ : ∃ B0, B0 = w.heap.size := ⟨_, rfl⟩
  have HBE := Lib.hid hB0
  have hB1 : B0 < w0.heap.size := by rw [hs0, hB0]; omega
  rw [← hB0] at HA
  unfold iV
  obtain ⟨va, hva⟩ : ∃ va, va = (Value.bool neg :: lv 32 v).toArray := ⟨_, rfl⟩
  obtain ⟨cs, hcs⟩ : ∃ cs, cs = lv 32 v := ⟨_, rfl⟩
  have HLD := Lib.hid (show w0.rangeAt B0 1 (lv 32 v) from HA.out)
  have HSZ := Lib.hid (infoMlv v)
  have HL2 := Lib.hid (fun W => show Calls Try.prog 46 #[.agg cs.toArray] W (fun e w' => e = .returned (.int .i64 N) ∧ Below W.heap.size W w') by rw [hcs]; exact HL.out W)
  rw [← hcs] at HLD HSZ
  rw [← hva] at hw0 ⊢
  clear hv hn hb0 hs0 hc0 hA hva hcs hN
  go_enter Try.func50, Try.ntmps50
  go_upto_region 1 with fail
  rw [← hw0, ← hB0]
  clear hw0 hB0
  go_wp2_with (refine wpList_load_mid rfl _ _ rfl B0 1 rfl cs _ HLD.out Try.underlying49 rfl HSZ.out ?_)
  refine (HL2.out _).mono ?_
  rintro e w1 ⟨rfl, hb1⟩
  have HB1 := Lib.hid (HW.out.trans (hb1.mono HW.out.size))
  have HA1 := Lib.hid (HA.out.up hb1)
  clear hb1 hB1
  by_cases h0 : N = 0
  · subst h0
    have hv0 : v = 0 := HN.out.eq_zero
    have hn0 : n = 0 := by have := HBN.out; rw [hv0] at this; exact this.zero
    subst hn0
    clear hv0
    go_wp2
    go_ret
    exact ⟨rfl, HB1.out⟩
  · obtain ⟨j, hj⟩ : ∃ j, N = j + 1 := ⟨N - 1, by omega⟩
    have hj32 : j < 32 := by omega
    have ca := HA1.out.get hj32
    have hN2 := HN.out
    rw [hj] at hN2
    have hz : lim v j ≠ 0 := fun h => by
      have h1 := limbs_down hN2.1 h
      have h2 := hN2.2 (by omega)
      simp only [Nat.add_sub_cancel] at h2
      omega
    obtain ⟨x, hx⟩ : ∃ x, x = lim v j := ⟨_, rfl⟩
    obtain ⟨m, hm⟩ := is_bits_exists x
    have HT := Lib.hid (show 32 * j + m = n from IsBits.unique (bits_limb hN2.1 hz (by rw [← hx]; exact hm)) HBN.out)
    rw [← hx] at ca
    have hxl : x < BB := hx ▸ lim_lt v j
    have HXM := Lib.hid (And.intro hm hxl)
    have hj1 : (N : Int) - 1 = (j : Int) := by omega
    have hwj : IntKind.i64.wrap (j : Int) = (j : Int) := IntWalk.i64_in _ (by omega)
    have hw32 : IntKind.i64.wrap (32 * (j : Int)) = ((32 * j : Nat) : Int) := by rw [show (32 : Int) * (j : Int) = ((32 * j : Nat) : Int) by omega]; exact IntWalk.i64_in _ (by omega)
    have hN0 : ((N : Int) == 0) = false := beq_eq_false_iff_ne.2 (by omega)
    have hk0 : (0 : Int) ≤ (j : Int) := by omega
    clear hN2 hz hx hm hxl hj
    go_wp2
    go_loopg [4, 5] n (fun g kv xv wr => ∃ (x m K : Nat), x < BB ∧ IsBits x m ∧ K + m = n ∧ m ≤ g ∧ kv = .int .i64 K ∧ xv = .int .u32 x ∧ wr = w1)
    case atStart => exact ⟨x, m, 32 * j, HXM.out.2, HXM.out.1, HT.out, by have := HT.out; omega, by go_num, rfl, rfl⟩
    case round =>
      obtain ⟨x2, m2, K, hx2, hm2, hK, hg, rfl, rfl, hwr⟩ := hrel
      subst wr
      have HM2 := Lib.hid hm2
      have HX2 := Lib.hid hx2
      clear hm2 hx2
      by_cases hx0 : x2 = 0
      · subst hx0
        have hm0 := HM2.out.zero
        subst hm0
        have hKn : K = n := by omega
        subst hKn
        clear hK
        go_wp2
        go_ret
        exact ⟨rfl, HB1.out⟩
      · have hh := HM2.out.half (by omega)
        have HH := Lib.hid hh.2
        have hm0 := hh.1
        obtain ⟨y, hy⟩ : ∃ y, y = x2 / 2 := ⟨_, rfl⟩
        have hdiv : (x2 : Int) / 2 = (y : Int) := by omega
        have hpos : (0 : Int) < (x2 : Int) := by omega
        have HY := Lib.hid (show y < BB by have := HX2.out; omega)
        have HHY := Lib.hid (show IsBits y (m2 - 1) by rw [hy]; exact HH.out)
        clear hh hy hx0
        go_wp2
        go_roundg (gk - 1)
        case measure => omega
        case rel => exact ⟨y, m2 - 1, K + 1, HY.out, HHY.out, by omega, by omega, by go_num, rfl, rfl⟩
end Go.Proofs.Ytnkmhbiklffjlaa
