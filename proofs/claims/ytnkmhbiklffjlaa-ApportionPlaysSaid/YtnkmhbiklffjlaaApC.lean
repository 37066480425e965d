/- math/bits.Div64, walked: the quotient and the rest of a number of two words. -/
import Derived.Test.YtnkmhbiklffjlaaApB
import Derived.Test.YtnkmhbiklffjlaaApP
set_option linter.unusedVariables false
set_option linter.unusedSimpArgs false
namespace Go.Proofs.Ytnkmhbiklffjlaa
open Go.RowKit Ap

namespace Ap
theorem drewN0 (w : World) : w = w.drewN 0 := by cases w; rfl
theorem wrap_ok (a : Int) (n : Nat) (h : a = n) (hn : n < 18446744073709551616) : IntKind.u64.wrap a = (n : Int) := by rw [IntKind.wrap_u64]; omega
theorem wrap_sub2 (x z : Int) (r : Nat) (h : x - z = r) (hr : r < 18446744073709551616) : IntKind.u64.wrap (x - IntKind.u64.wrap z) = (r : Int) := by
  rw [IntKind.wrap_u64, IntKind.wrap_u64]; omega
theorem wrap_sub3 (x d z : Int) (r : Nat) (h : x + d - z = r) (hr : r < 18446744073709551616) : IntKind.u64.wrap (IntKind.u64.wrap (IntKind.u64.wrap x + d) - IntKind.u64.wrap z) = (r : Int) := by
  rw [IntKind.wrap_u64, IntKind.wrap_u64, IntKind.wrap_u64, IntKind.wrap_u64]; omega
theorem wrap_add2 (x d : Int) (r : Nat) (h : x + d = r) (hr : r < 18446744073709551616) : IntKind.u64.wrap (IntKind.u64.wrap x + d) = (r : Int) := by
  rw [IntKind.wrap_u64, IntKind.wrap_u64]; omega
theorem or_parts (hi lo s : Nat) (h : hi * 2 ^ s + lo / 2 ^ (64 - s) < 18446744073709551616) (hlt : lo / 2 ^ (64 - s) < 2 ^ s) (hlo : lo < 18446744073709551616) :
    bits .or .u64 (IntKind.u64.wrap ((hi : Int) * 2 ^ s)) ((lo : Int) / 2 ^ (64 - s)) = ((hi * 2 ^ s + lo / 2 ^ (64 - s) : Nat) : Int) := by
  have k1 : hi * 2 ^ s < 18446744073709551616 := Nat.lt_of_le_of_lt (Nat.le_add_right _ _) h
  have k2 : lo / 2 ^ (64 - s) < 18446744073709551616 := Nat.lt_of_le_of_lt (Nat.le_add_left _ _) h
  have e1 : IntKind.u64.wrap ((hi : Int) * 2 ^ s) = ((hi * 2 ^ s : Nat) : Int) := wrap_ok _ _ (by simp) k1
  have e2 : ((lo : Int) / 2 ^ (64 - s)) = ((lo / 2 ^ (64 - s) : Nat) : Int) := by simp
  rw [e1, e2, bits_or_u64_nat _ _ k1 k2]
  rw [Nat.mul_comm hi, ← Nat.two_pow_add_eq_or_of_lt hlt]
theorem div_word {B hi lo y : Nat} (hhi : hi < y) (hlo : lo < B) : (hi * B + lo) / y < B := by
  refine Nat.div_lt_of_lt_mul ?_
  have := Nat.mul_le_mul_right B (show hi + 1 ≤ y from hhi)
  rw [Nat.add_mul] at this
  omega
theorem last_two {hi lo y u L Y s d1 d0 q1 v q0 : Nat}
    (HD : ∀ x1 x2 x3 x4 : Nat, x1 * Y + x2 = u * 4294967296 + L / 4294967296 → x3 * Y + x4 = x2 * 4294967296 + L % 4294967296 → x4 < Y → x1 * 4294967296 + x3 = (hi * 18446744073709551616 + lo) / y ∧ x4 / 2 ^ s = (hi * 18446744073709551616 + lo) % y)
    (hhi : hi < y) (hlo : lo < 18446744073709551616) (hL : L = d1 * 4294967296 + d0) (hd1 : d1 < 4294967296) (hd0 : d0 < 4294967296) (hY : Y < 18446744073709551616) (hv : v = u * 4294967296 + d1 - q1 * Y) (h1 : q1 * Y ≤ u * 4294967296 + d1)
    (h3 : q0 * Y ≤ v * 4294967296 + d0) (h4 : v * 4294967296 + d0 < (q0 + 1) * Y) :
    ∃ r9 : Nat, IntKind.u64.wrap (IntKind.u64.wrap ((q1 : Int) * 4294967296) + (q0 : Int)) = (((hi * 18446744073709551616 + lo) / y : Nat) : Int) ∧
      IntKind.u64.wrap (IntKind.u64.wrap (IntKind.u64.wrap ((v : Int) * 4294967296) + (d0 : Int)) - IntKind.u64.wrap ((q0 : Int) * (Y : Int))) = (r9 : Int) ∧ (r9 : Int) / 2 ^ s = (((hi * 18446744073709551616 + lo) % y : Nat) : Int) := by
  rw [Nat.add_mul] at h4
  have e1 : L / 4294967296 = d1 := by omega
  have e2 : L % 4294967296 = d0 := by omega
  obtain ⟨k1, k2⟩ := HD q1 v q0 (v * 4294967296 + d0 - q0 * Y) (by omega) (by omega) (by omega)
  have hN : (hi * 18446744073709551616 + lo) / y < 18446744073709551616 := by
    exact div_word (B := 18446744073709551616) hhi hlo
  refine ⟨v * 4294967296 + d0 - q0 * Y, wrap_add2 _ _ _ (by omega) hN, wrap_sub3 _ _ _ _ (by rw [mulN]; omega) (by omega), ?_⟩
  rw [← k2]; simp
theorem top_X {q a r u d b Y : Nat} (h : q * a + r = u) (hY : Y = a * 4294967296 + b) (hr : r < a) (ha : a < 4294967296) (hd : d < 4294967296) : u * 4294967296 + d < (q + 1) * Y := by
  rw [hY, Nat.mul_add, ← Nat.mul_assoc, ← h, Nat.add_mul, Nat.add_mul, Nat.add_mul]
  have : 1 * a * 4294967296 ≤ 1 * a * 4294967296 + (q + 1) * b := by omega
  omega
theorem mul_small {q b : Nat} (h : q ≤ 4294967297) (hb : b < 4294967296) : q * b < 18446744073709551616 := by
  have := Nat.mul_le_mul h (show b ≤ 4294967295 by omega)
  omega
end Ap

set_option maxRecDepth 100000 in
set_option maxHeartbeats 4000000 in
theorem div64_any (hi lo y : Nat) (w : World) (hhi : hi < y) (hlo : lo < 18446744073709551616) (hy : y < 9223372036854775808) :
    Calls Try.prog 44 #[.int .u64 hi, .int .u64 lo, .int .u64 y] w fun e w' => e = .returned (.tuple #[.int .u64 (((hi * 18446744073709551616 + lo) / y : Nat) : Int), .int .u64 (((hi * 18446744073709551616 + lo) % y : Nat) : Int)]) ∧ ∃ n, w' = w.drewN n := by
  by_cases h0 : hi = 0
  · subst h0
    have hy0 : ¬ y = 0 := by omega
    have e1 : IntKind.u64.wrap ((lo : Int) / (y : Int)) = ((lo / y : Nat) : Int) := wrap_ok _ _ (by simp) (Nat.lt_of_le_of_lt (Nat.div_le_self lo y) hlo)
    go_enter Try.func44, Try.ntmps44
    go_wp2
    go_quiet (fail)
    go_wp2
    go_ret2
    refine ⟨?_, _, rfl⟩
    simp
  · go_enter Try.func44, Try.ntmps44
    go_wp2_with fail
    refine (lz64_s y w (by omega) hy).mono ?_
    rintro e w' ⟨s, rfl, s1, s2, s3, s4, rfl⟩
    have hPQ : 2 ^ s * 2 ^ (64 - s) = 18446744073709551616 := by rw [← Nat.pow_add, show s + (64 - s) = 64 by omega]
    obtain ⟨n1, n2, n3⟩ := norm_parts hi lo y _ _ hPQ hhi hlo
    have g4 := or_parts hi lo s (by omega) n3 hlo
    obtain ⟨Y, hY⟩ : ∃ Y, Y = y * 2 ^ s := ⟨_, rfl⟩
    obtain ⟨u, hu⟩ : ∃ u, u = hi * 2 ^ s + lo / 2 ^ (64 - s) := ⟨_, rfl⟩
    obtain ⟨L, hL⟩ : ∃ L, L = lo * 2 ^ s % 18446744073709551616 := ⟨_, rfl⟩
    have g5 : IntKind.u64.wrap ((lo : Int) * 2 ^ s) = (L : Int) := by rw [hL, ← wrapM]; simp
    have g1 : (y : Int) * 2 ^ s = (Y : Int) := by rw [hY]; simp
    rw [← hu] at g4 n2
    rw [← hY] at n2 s3 s4
    have hL2 : L < 18446744073709551616 := by omega
    have HD := Lib.hid (div_two hi lo y (2 ^ s) (2 ^ (64 - s)) · · · · hPQ hhi hlo)
    rw [← hY, ← hu, ← hL] at HD
    clear n1 n3 hY hu hL
    obtain ⟨a, ha⟩ : ∃ a, a = Y / 4294967296 := ⟨_, rfl⟩
    obtain ⟨b, hb⟩ : ∃ b, b = Y % 4294967296 := ⟨_, rfl⟩
    obtain ⟨d1, hd1⟩ : ∃ d1, d1 = L / 4294967296 := ⟨_, rfl⟩
    obtain ⟨d0, hd0⟩ : ∃ d0, d0 = L % 4294967296 := ⟨_, rfl⟩
    have g2 := maskN Y s4
    have g3 : (Y : Int) / 4294967296 = (a : Int) := by omega
    have g6 : (L : Int) / 4294967296 = (d1 : Int) := by omega
    have g7 := maskN L hL2
    rw [← hb] at g2
    rw [← hd0] at g7
    have ga : ¬ (a : Int) = 0 := by omega
    have HB := Lib.hid (show 2147483648 ≤ a ∧ a < 4294967296 ∧ b < 4294967296 ∧ d1 < 4294967296 ∧ d0 < 4294967296 ∧ Y = a * 4294967296 + b ∧ u < Y ∧ Y < 18446744073709551616 ∧ L = d1 * 4294967296 + d0 by omega)
    obtain ⟨q, hq⟩ : ∃ q, q = u / a := ⟨_, rfl⟩
    obtain ⟨r, hr⟩ : ∃ r, r = u % a := ⟨_, rfl⟩
    have g8 : IntKind.u64.wrap ((u : Int).tdiv (a : Int)) = (q : Int) := wrap_ok _ _ (by rw [hq]; simp [Int.tdiv_eq_ediv_of_nonneg]) (by
      rw [hq]; exact Nat.lt_of_le_of_lt (Nat.div_le_self _ _) (by omega))
    have g8' : IntKind.u64.wrap ((u : Int) / (a : Int)) = (q : Int) := wrap_ok _ _ (by rw [hq]; simp) (by
      rw [hq]; exact Nat.lt_of_le_of_lt (Nat.div_le_self _ _) (by omega))
    have g1' : IntKind.u64.wrap (Y : Int) = (Y : Int) := wrapN Y s4
    have hqr : q * a + r = u := by rw [hq, hr, Nat.mul_comm]; exact Nat.div_add_mod _ _
    have g9 : IntKind.u64.wrap ((u : Int) - IntKind.u64.wrap ((q : Int) * (a : Int))) = (r : Int) := wrap_sub2 _ _ _ (by rw [mulN]; omega) (by omega)
    have HQ := Lib.hid (show q ≤ 4294967297 ∧ r < a ∧ q * a + r = u from ⟨by rw [hq]; exact dig_first u a b (by omega) (by omega) (by omega), by rw [hr]; exact Nat.mod_lt _ (by omega), hqr⟩)
    clear hq hr hqr hd1 hd0 ha hb n2 s3 s4 hL2
    go_wp2
    go_loopg [15, 16] 4294967297 (fun n qv rv wr => ∃ q r : Nat, qv = .int .u64 q ∧ rv = .int .u64 r ∧ w = wr ∧ q * a + r = u ∧ r < 4294967296 ∧ u * 4294967296 + d1 < (q + 1) * Y ∧ q ≤ 4294967297 ∧ q ≤ n)
    case atStart => exact ⟨q, r, rfl, rfl, rfl, HQ.out.2.2, by have := HQ.out; have := HB.out; omega, top_X HQ.out.2.2 HB.out.2.2.2.2.2.1 HQ.out.2.1 HB.out.2.1 (by have := HB.out; omega), HQ.out.1, HQ.out.1⟩
    case round =>
      obtain ⟨q1, r1, rfl, rfl, rfl, h1, h2, h3, h4, h5⟩ := hrel
      have HX := Lib.hid (show u * 4294967296 + d1 < 4294967296 * Y by have := HB.out; omega)
      have HH := Lib.hid (And.intro h1 (And.intro h2 (And.intro h3 (And.intro h4 h5))))
      have s1 : IntKind.u64.wrap ((r1 : Int) + (a : Int)) = ((r1 + a : Nat) : Int) := wrap_ok _ _ (by omega) (by have := HB.out; omega)
      have s0 : IntKind.u64.wrap ((q1 : Int) * (b : Int)) = ((q1 * b : Nat) : Int) := wrap_ok _ _ (by rw [mulN]) (mul_small h4 HB.out.2.2.1)
      have s2 : IntKind.u64.wrap (4294967296 * (r1 : Int)) = ((4294967296 * r1 : Nat) : Int) := wrap_ok _ _ (by omega) (by omega)
      have s3 : IntKind.u64.wrap (((4294967296 * r1 : Nat) : Int) + (d1 : Int)) = ((4294967296 * r1 + d1 : Nat) : Int) := wrap_ok _ _ (by omega) (by have := HB.out; omega)
      obtain ⟨m, hm⟩ : ∃ m, m = q1 * b := ⟨_, rfl⟩
      obtain ⟨e, he⟩ : ∃ e, e = 4294967296 * r1 + d1 := ⟨_, rfl⟩
      obtain ⟨e2, he2⟩ : ∃ e2, e2 = 4294967296 * r1 := ⟨_, rfl⟩
      obtain ⟨r2, hr2⟩ : ∃ r2, r2 = r1 + a := ⟨_, rfl⟩
      rw [← hr2] at s1
      rw [← hm] at s0
      rw [← he2] at s2
      rw [← he, ← he2] at s3
      have HM := Lib.hid (And.intro hm (And.intro he hr2))
      clear h1 h2 h3 h4 h5 hm he he2 hr2
      by_cases p1 : (4294967296 : Int) ≤ q1
      · have hdown : u * 4294967296 + d1 < q1 * Y := by
          have hh := HH.out; have hx := HX.out; have hb := HB.out; have hmm := HM.out
          rw [hb.2.2.2.2.2.1] at hx ⊢
          exact dig_down u d1 a b q1 r1 hh.1 hx (.inl (by omega))
        have hq1 : 1 ≤ q1 := by
          apply Nat.pos_of_ne_zero; intro h0; rw [h0, Nat.zero_mul] at hdown; omega
        have s4 : IntKind.u64.wrap ((q1 : Int) - 1) = ((q1 - 1 : Nat) : Int) := wrap_ok _ _ (by omega) (by have := HH.out; omega)
        have HN := Lib.hid (show (q1 - 1) * a + r2 = u ∧ u * 4294967296 + d1 < (q1 - 1 + 1) * Y ∧ q1 - 1 ≤ 4294967296 ∧ q1 - 1 ≤ gk - 1 ∧ 1 ≤ gk by
          have hh := HH.out; have hmm := HM.out
          refine ⟨?_, ?_, by omega, by omega, by omega⟩
          · obtain ⟨q2, rfl⟩ : ∃ q2, q1 = q2 + 1 := ⟨q1 - 1, by omega⟩
            rw [hmm.2.2, Nat.add_sub_cancel]
            have := hh.1
            rw [Nat.add_mul] at this; omega
          · rw [show q1 - 1 + 1 = q1 by omega]; exact hdown)
        clear hdown hq1
        obtain ⟨q3, hq3⟩ : ∃ q3, q3 = q1 - 1 := ⟨_, rfl⟩
        rw [← hq3] at s4 HN
        clear hq3
        by_cases p3 : (4294967296 : Int) ≤ r2
        · have HF := Lib.hid (show q3 * Y ≤ u * 4294967296 + d1 ∧ u * 4294967296 + d1 < (q3 + 1) * Y by
            have hn := HN.out; have hb := HB.out
            refine ⟨?_, hn.2.1⟩
            rw [hb.2.2.2.2.2.1]
            exact dig_exit u d1 a b q3 r2 hn.1 hb.2.2.1 (.inr ⟨hn.2.2.1, by omega⟩))
          obtain ⟨v, hv⟩ : ∃ v, v = u * 4294967296 + d1 - q3 * Y := ⟨_, rfl⟩
          have k1 : IntKind.u64.wrap (IntKind.u64.wrap (IntKind.u64.wrap ((u : Int) * 4294967296) + (d1 : Int)) - IntKind.u64.wrap ((q3 : Int) * (Y : Int))) = (v : Int) := wrap_sub3 _ _ _ _ (by rw [mulN, hv]; have := HF.out; omega) (by have := HF.out; have := HB.out; rw [Nat.add_mul] at *; omega)
          have HV := Lib.hid (show v < Y ∧ v = u * 4294967296 + d1 - q3 * Y ∧ q3 * Y ≤ u * 4294967296 + d1 by have h := HF.out; rw [Nat.add_mul] at h; omega)
          clear hv
          obtain ⟨q0, hq0⟩ : ∃ q0, q0 = v / a := ⟨_, rfl⟩
          obtain ⟨r0, hr0⟩ : ∃ r0, r0 = v % a := ⟨_, rfl⟩
          have k2 : IntKind.u64.wrap ((v : Int).tdiv (a : Int)) = (q0 : Int) := wrap_ok _ _ (by rw [hq0]; simp [Int.tdiv_eq_ediv_of_nonneg]) (by
            rw [hq0]; exact Nat.lt_of_le_of_lt (Nat.div_le_self _ _) (by have := HV.out; have := HB.out; omega))
          have k2' : IntKind.u64.wrap ((v : Int) / (a : Int)) = (q0 : Int) := wrap_ok _ _ (by rw [hq0]; simp) (by
            rw [hq0]; exact Nat.lt_of_le_of_lt (Nat.div_le_self _ _) (by have := HV.out; have := HB.out; omega))
          have hqr0 : q0 * a + r0 = v := by rw [hq0, hr0, Nat.mul_comm]; exact Nat.div_add_mod _ _
          have k3 : IntKind.u64.wrap ((v : Int) - IntKind.u64.wrap ((q0 : Int) * (a : Int))) = (r0 : Int) := wrap_sub2 _ _ _ (by rw [mulN]; omega) (by have := HV.out; have := HB.out; omega)
          have HQ0 := Lib.hid (show q0 ≤ 4294967297 ∧ r0 < a ∧ q0 * a + r0 = v from ⟨by have := HV.out; have := HB.out; rw [hq0]; exact dig_first v a b (by omega) (by omega) (by omega), by have := HB.out; rw [hr0]; exact Nat.mod_lt _ (by omega), hqr0⟩)
          clear hq0 hr0 hqr0
          have HB := Lib.hid (show 2147483648 ≤ a ∧ a < 4294967296 ∧ b < 4294967296 ∧ d1 < 4294967296 ∧ d0 < 4294967296 ∧ Y = a * 4294967296 + b ∧ v < Y ∧ Y < 18446744073709551616 ∧ L = d1 * 4294967296 + d0 by have := HB.out; have := HV.out; omega)
          go_wp2
          try clear HN
          try clear s4
          try clear p3
          try clear p2
          clear HX HH HM s0 s1 s2 s3 p1 HQ g8 g8' g9 k2 k2' k3 k1
          go_loopg [16, 18] 4294967297 (fun n rv qv wr => ∃ q r : Nat, qv = .int .u64 q ∧ rv = .int .u64 r ∧ w = wr ∧ q * a + r = v ∧ r < 4294967296 ∧ v * 4294967296 + d0 < (q + 1) * Y ∧ q ≤ 4294967297 ∧ q ≤ n)
          case atStart => exact ⟨q0, r0, rfl, rfl, rfl, HQ0.out.2.2, by have := HQ0.out; have := HB.out; omega, top_X HQ0.out.2.2 HB.out.2.2.2.2.2.1 HQ0.out.2.1 HB.out.2.1 (by have := HB.out; omega), HQ0.out.1, HQ0.out.1⟩
          case round =>
            obtain ⟨q1, r1, rfl, rfl, rfl, h1, h2, h3, h4, h5⟩ := hrel
            have HX := Lib.hid (show v * 4294967296 + d0 < 4294967296 * Y by have := HB.out; omega)
            have HH := Lib.hid (And.intro h1 (And.intro h2 (And.intro h3 (And.intro h4 h5))))
            have s1 : IntKind.u64.wrap ((r1 : Int) + (a : Int)) = ((r1 + a : Nat) : Int) := wrap_ok _ _ (by omega) (by have := HB.out; omega)
            have s0 : IntKind.u64.wrap ((q1 : Int) * (b : Int)) = ((q1 * b : Nat) : Int) := wrap_ok _ _ (by rw [mulN]) (mul_small h4 HB.out.2.2.1)
            have s2 : IntKind.u64.wrap (4294967296 * (r1 : Int)) = ((4294967296 * r1 : Nat) : Int) := wrap_ok _ _ (by omega) (by omega)
            have s3 : IntKind.u64.wrap (((4294967296 * r1 : Nat) : Int) + (d0 : Int)) = ((4294967296 * r1 + d0 : Nat) : Int) := wrap_ok _ _ (by omega) (by have := HB.out; omega)
            obtain ⟨m, hm⟩ : ∃ m, m = q1 * b := ⟨_, rfl⟩
            obtain ⟨e, he⟩ : ∃ e, e = 4294967296 * r1 + d0 := ⟨_, rfl⟩
            obtain ⟨e2, he2⟩ : ∃ e2, e2 = 4294967296 * r1 := ⟨_, rfl⟩
            obtain ⟨r2, hr2⟩ : ∃ r2, r2 = r1 + a := ⟨_, rfl⟩
            rw [← hr2] at s1
            rw [← hm] at s0
            rw [← he2] at s2
            rw [← he, ← he2] at s3
            have HM := Lib.hid (And.intro hm (And.intro he hr2))
            clear h1 h2 h3 h4 h5 hm he he2 hr2
            by_cases p1 : (4294967296 : Int) ≤ q1
            · have hdown : v * 4294967296 + d0 < q1 * Y := by
                have hh := HH.out; have hx := HX.out; have hb := HB.out; have hmm := HM.out
                rw [hb.2.2.2.2.2.1] at hx ⊢
                exact dig_down v d0 a b q1 r1 hh.1 hx (.inl (by omega))
              have hq1 : 1 ≤ q1 := by
                apply Nat.pos_of_ne_zero; intro h0; rw [h0, Nat.zero_mul] at hdown; omega
              have s4 : IntKind.u64.wrap ((q1 : Int) - 1) = ((q1 - 1 : Nat) : Int) := wrap_ok _ _ (by omega) (by have := HH.out; omega)
              have HN := Lib.hid (show (q1 - 1) * a + r2 = v ∧ v * 4294967296 + d0 < (q1 - 1 + 1) * Y ∧ q1 - 1 ≤ 4294967296 ∧ q1 - 1 ≤ gk - 1 ∧ 1 ≤ gk by
                have hh := HH.out; have hmm := HM.out
                refine ⟨?_, ?_, by omega, by omega, by omega⟩
                · obtain ⟨q2, rfl⟩ : ∃ q2, q1 = q2 + 1 := ⟨q1 - 1, by omega⟩
                  rw [hmm.2.2, Nat.add_sub_cancel]
                  have := hh.1
                  rw [Nat.add_mul] at this; omega
                · rw [show q1 - 1 + 1 = q1 by omega]; exact hdown)
              clear hdown hq1
              obtain ⟨q3, hq3⟩ : ∃ q3, q3 = q1 - 1 := ⟨_, rfl⟩
              rw [← hq3] at s4 HN
              clear hq3
              by_cases p3 : (4294967296 : Int) ≤ r2
              · have HF2 := Lib.hid (show q3 * Y ≤ v * 4294967296 + d0 ∧ v * 4294967296 + d0 < (q3 + 1) * Y by
                  have hn := HN.out; have hb := HB.out
                  refine ⟨?_, hn.2.1⟩
                  rw [hb.2.2.2.2.2.1]
                  exact dig_exit v d0 a b q3 r2 hn.1 hb.2.2.1 (.inr ⟨hn.2.2.1, by omega⟩))
                obtain ⟨r9, t1, t2, t3⟩ := last_two HD.out hhi hlo HB.out.2.2.2.2.2.2.2.2 HB.out.2.2.2.1 HB.out.2.2.2.2.1 HB.out.2.2.2.2.2.2.2.1 HV.out.2.1 HF.out.1 HF2.out.1 HF2.out.2

                go_wp2
                go_ret2
                exact ⟨by simp, _, drewN0 _⟩
              · go_wp2
                go_roundg (gk - 1)
                case measure => have := HN.out; omega
                case rel => exact ⟨q3, r2, rfl, rfl, rfl, HN.out.1, by omega, HN.out.2.1, by have := HN.out; omega, HN.out.2.2.2.1⟩
            · by_cases p2 : (e : Int) < m
              · have hdown : v * 4294967296 + d0 < q1 * Y := by
                  have hh := HH.out; have hx := HX.out; have hb := HB.out; have hmm := HM.out
                  rw [hb.2.2.2.2.2.1] at hx ⊢
                  exact dig_down v d0 a b q1 r1 hh.1 hx (.inr (by rw [← hmm.1, ← hmm.2.1]; omega))
                have hq1 : 1 ≤ q1 := by
                  apply Nat.pos_of_ne_zero; intro h0; rw [h0, Nat.zero_mul] at hdown; omega
                have s4 : IntKind.u64.wrap ((q1 : Int) - 1) = ((q1 - 1 : Nat) : Int) := wrap_ok _ _ (by omega) (by have := HH.out; omega)
                have HN := Lib.hid (show (q1 - 1) * a + r2 = v ∧ v * 4294967296 + d0 < (q1 - 1 + 1) * Y ∧ q1 - 1 ≤ 4294967296 ∧ q1 - 1 ≤ gk - 1 ∧ 1 ≤ gk by
                  have hh := HH.out; have hmm := HM.out
                  refine ⟨?_, ?_, by omega, by omega, by omega⟩
                  · obtain ⟨q2, rfl⟩ : ∃ q2, q1 = q2 + 1 := ⟨q1 - 1, by omega⟩
                    rw [hmm.2.2, Nat.add_sub_cancel]
                    have := hh.1
                    rw [Nat.add_mul] at this; omega
                  · rw [show q1 - 1 + 1 = q1 by omega]; exact hdown)
                clear hdown hq1
                obtain ⟨q3, hq3⟩ : ∃ q3, q3 = q1 - 1 := ⟨_, rfl⟩
                rw [← hq3] at s4 HN
                clear hq3
                by_cases p3 : (4294967296 : Int) ≤ r2
                · have HF2 := Lib.hid (show q3 * Y ≤ v * 4294967296 + d0 ∧ v * 4294967296 + d0 < (q3 + 1) * Y by
                    have hn := HN.out; have hb := HB.out
                    refine ⟨?_, hn.2.1⟩
                    rw [hb.2.2.2.2.2.1]
                    exact dig_exit v d0 a b q3 r2 hn.1 hb.2.2.1 (.inr ⟨hn.2.2.1, by omega⟩))
                  obtain ⟨r9, t1, t2, t3⟩ := last_two HD.out hhi hlo HB.out.2.2.2.2.2.2.2.2 HB.out.2.2.2.1 HB.out.2.2.2.2.1 HB.out.2.2.2.2.2.2.2.1 HV.out.2.1 HF.out.1 HF2.out.1 HF2.out.2

                  go_wp2
                  go_ret2
                  exact ⟨by simp, _, drewN0 _⟩
                · go_wp2
                  go_roundg (gk - 1)
                  case measure => have := HN.out; omega
                  case rel => exact ⟨q3, r2, rfl, rfl, rfl, HN.out.1, by omega, HN.out.2.1, by have := HN.out; omega, HN.out.2.2.2.1⟩
              · have HF2 := Lib.hid (show q1 * Y ≤ v * 4294967296 + d0 ∧ v * 4294967296 + d0 < (q1 + 1) * Y by
                  have hh := HH.out; have hb := HB.out; have hmm := HM.out
                  refine ⟨?_, hh.2.2.1⟩
                  rw [hb.2.2.2.2.2.1]
                  exact dig_exit v d0 a b q1 r1 hh.1 hb.2.2.1 (.inl ⟨by omega, by rw [← hmm.1, ← hmm.2.1]; omega⟩))
                obtain ⟨r9, t1, t2, t3⟩ := last_two HD.out hhi hlo HB.out.2.2.2.2.2.2.2.2 HB.out.2.2.2.1 HB.out.2.2.2.2.1 HB.out.2.2.2.2.2.2.2.1 HV.out.2.1 HF.out.1 HF2.out.1 HF2.out.2

                go_wp2
                go_ret2
                exact ⟨by simp, _, drewN0 _⟩
        · go_wp2
          go_roundg (gk - 1)
          case measure => have := HN.out; omega
          case rel => exact ⟨q3, r2, rfl, rfl, rfl, HN.out.1, by omega, HN.out.2.1, by have := HN.out; omega, HN.out.2.2.2.1⟩
      · by_cases p2 : (e : Int) < m
        · have hdown : u * 4294967296 + d1 < q1 * Y := by
            have hh := HH.out; have hx := HX.out; have hb := HB.out; have hmm := HM.out
            rw [hb.2.2.2.2.2.1] at hx ⊢
            exact dig_down u d1 a b q1 r1 hh.1 hx (.inr (by rw [← hmm.1, ← hmm.2.1]; omega))
          have hq1 : 1 ≤ q1 := by
            apply Nat.pos_of_ne_zero; intro h0; rw [h0, Nat.zero_mul] at hdown; omega
          have s4 : IntKind.u64.wrap ((q1 : Int) - 1) = ((q1 - 1 : Nat) : Int) := wrap_ok _ _ (by omega) (by have := HH.out; omega)
          have HN := Lib.hid (show (q1 - 1) * a + r2 = u ∧ u * 4294967296 + d1 < (q1 - 1 + 1) * Y ∧ q1 - 1 ≤ 4294967296 ∧ q1 - 1 ≤ gk - 1 ∧ 1 ≤ gk by
            have hh := HH.out; have hmm := HM.out
            refine ⟨?_, ?_, by omega, by omega, by omega⟩
            · obtain ⟨q2, rfl⟩ : ∃ q2, q1 = q2 + 1 := ⟨q1 - 1, by omega⟩
              rw [hmm.2.2, Nat.add_sub_cancel]
              have := hh.1
              rw [Nat.add_mul] at this; omega
            · rw [show q1 - 1 + 1 = q1 by omega]; exact hdown)
          clear hdown hq1
          obtain ⟨q3, hq3⟩ : ∃ q3, q3 = q1 - 1 := ⟨_, rfl⟩
          rw [← hq3] at s4 HN
          clear hq3
          by_cases p3 : (4294967296 : Int) ≤ r2
          · have HF := Lib.hid (show q3 * Y ≤ u * 4294967296 + d1 ∧ u * 4294967296 + d1 < (q3 + 1) * Y by
              have hn := HN.out; have hb := HB.out
              refine ⟨?_, hn.2.1⟩
              rw [hb.2.2.2.2.2.1]
              exact dig_exit u d1 a b q3 r2 hn.1 hb.2.2.1 (.inr ⟨hn.2.2.1, by omega⟩))
            obtain ⟨v, hv⟩ : ∃ v, v = u * 4294967296 + d1 - q3 * Y := ⟨_, rfl⟩
            have k1 : IntKind.u64.wrap (IntKind.u64.wrap (IntKind.u64.wrap ((u : Int) * 4294967296) + (d1 : Int)) - IntKind.u64.wrap ((q3 : Int) * (Y : Int))) = (v : Int) := wrap_sub3 _ _ _ _ (by rw [mulN, hv]; have := HF.out; omega) (by have := HF.out; have := HB.out; rw [Nat.add_mul] at *; omega)
            have HV := Lib.hid (show v < Y ∧ v = u * 4294967296 + d1 - q3 * Y ∧ q3 * Y ≤ u * 4294967296 + d1 by have h := HF.out; rw [Nat.add_mul] at h; omega)
            clear hv
            obtain ⟨q0, hq0⟩ : ∃ q0, q0 = v / a := ⟨_, rfl⟩
            obtain ⟨r0, hr0⟩ : ∃ r0, r0 = v % a := ⟨_, rfl⟩
            have k2 : IntKind.u64.wrap ((v : Int).tdiv (a : Int)) = (q0 : Int) := wrap_ok _ _ (by rw [hq0]; simp [Int.tdiv_eq_ediv_of_nonneg]) (by
              rw [hq0]; exact Nat.lt_of_le_of_lt (Nat.div_le_self _ _) (by have := HV.out; have := HB.out; omega))
            have k2' : IntKind.u64.wrap ((v : Int) / (a : Int)) = (q0 : Int) := wrap_ok _ _ (by rw [hq0]; simp) (by
              rw [hq0]; exact Nat.lt_of_le_of_lt (Nat.div_le_self _ _) (by have := HV.out; have := HB.out; omega))
            have hqr0 : q0 * a + r0 = v := by rw [hq0, hr0, Nat.mul_comm]; exact Nat.div_add_mod _ _
            have k3 : IntKind.u64.wrap ((v : Int) - IntKind.u64.wrap ((q0 : Int) * (a : Int))) = (r0 : Int) := wrap_sub2 _ _ _ (by rw [mulN]; omega) (by have := HV.out; have := HB.out; omega)
            have HQ0 := Lib.hid (show q0 ≤ 4294967297 ∧ r0 < a ∧ q0 * a + r0 = v from ⟨by have := HV.out; have := HB.out; rw [hq0]; exact dig_first v a b (by omega) (by omega) (by omega), by have := HB.out; rw [hr0]; exact Nat.mod_lt _ (by omega), hqr0⟩)
            clear hq0 hr0 hqr0
            have HB := Lib.hid (show 2147483648 ≤ a ∧ a < 4294967296 ∧ b < 4294967296 ∧ d1 < 4294967296 ∧ d0 < 4294967296 ∧ Y = a * 4294967296 + b ∧ v < Y ∧ Y < 18446744073709551616 ∧ L = d1 * 4294967296 + d0 by have := HB.out; have := HV.out; omega)
            go_wp2
            try clear HN
            try clear s4
            try clear p3
            try clear p2
            clear HX HH HM s0 s1 s2 s3 p1 HQ g8 g8' g9 k2 k2' k3 k1
            go_loopg [16, 18] 4294967297 (fun n rv qv wr => ∃ q r : Nat, qv = .int .u64 q ∧ rv = .int .u64 r ∧ w = wr ∧ q * a + r = v ∧ r < 4294967296 ∧ v * 4294967296 + d0 < (q + 1) * Y ∧ q ≤ 4294967297 ∧ q ≤ n)
            case atStart => exact ⟨q0, r0, rfl, rfl, rfl, HQ0.out.2.2, by have := HQ0.out; have := HB.out; omega, top_X HQ0.out.2.2 HB.out.2.2.2.2.2.1 HQ0.out.2.1 HB.out.2.1 (by have := HB.out; omega), HQ0.out.1, HQ0.out.1⟩
            case round =>
              obtain ⟨q1, r1, rfl, rfl, rfl, h1, h2, h3, h4, h5⟩ := hrel
              have HX := Lib.hid (show v * 4294967296 + d0 < 4294967296 * Y by have := HB.out; omega)
              have HH := Lib.hid (And.intro h1 (And.intro h2 (And.intro h3 (And.intro h4 h5))))
              have s1 : IntKind.u64.wrap ((r1 : Int) + (a : Int)) = ((r1 + a : Nat) : Int) := wrap_ok _ _ (by omega) (by have := HB.out; omega)
              have s0 : IntKind.u64.wrap ((q1 : Int) * (b : Int)) = ((q1 * b : Nat) : Int) := wrap_ok _ _ (by rw [mulN]) (mul_small h4 HB.out.2.2.1)
              have s2 : IntKind.u64.wrap (4294967296 * (r1 : Int)) = ((4294967296 * r1 : Nat) : Int) := wrap_ok _ _ (by omega) (by omega)
              have s3 : IntKind.u64.wrap (((4294967296 * r1 : Nat) : Int) + (d0 : Int)) = ((4294967296 * r1 + d0 : Nat) : Int) := wrap_ok _ _ (by omega) (by have := HB.out; omega)
              obtain ⟨m, hm⟩ : ∃ m, m = q1 * b := ⟨_, rfl⟩
              obtain ⟨e, he⟩ : ∃ e, e = 4294967296 * r1 + d0 := ⟨_, rfl⟩
              obtain ⟨e2, he2⟩ : ∃ e2, e2 = 4294967296 * r1 := ⟨_, rfl⟩
              obtain ⟨r2, hr2⟩ : ∃ r2, r2 = r1 + a := ⟨_, rfl⟩
              rw [← hr2] at s1
              rw [← hm] at s0
              rw [← he2] at s2
              rw [← he, ← he2] at s3
              have HM := Lib.hid (And.intro hm (And.intro he hr2))
              clear h1 h2 h3 h4 h5 hm he he2 hr2
              by_cases p1 : (4294967296 : Int) ≤ q1
              · have hdown : v * 4294967296 + d0 < q1 * Y := by
                  have hh := HH.out; have hx := HX.out; have hb := HB.out; have hmm := HM.out
                  rw [hb.2.2.2.2.2.1] at hx ⊢
                  exact dig_down v d0 a b q1 r1 hh.1 hx (.inl (by omega))
                have hq1 : 1 ≤ q1 := by
                  apply Nat.pos_of_ne_zero; intro h0; rw [h0, Nat.zero_mul] at hdown; omega
                have s4 : IntKind.u64.wrap ((q1 : Int) - 1) = ((q1 - 1 : Nat) : Int) := wrap_ok _ _ (by omega) (by have := HH.out; omega)
                have HN := Lib.hid (show (q1 - 1) * a + r2 = v ∧ v * 4294967296 + d0 < (q1 - 1 + 1) * Y ∧ q1 - 1 ≤ 4294967296 ∧ q1 - 1 ≤ gk - 1 ∧ 1 ≤ gk by
                  have hh := HH.out; have hmm := HM.out
                  refine ⟨?_, ?_, by omega, by omega, by omega⟩
                  · obtain ⟨q2, rfl⟩ : ∃ q2, q1 = q2 + 1 := ⟨q1 - 1, by omega⟩
                    rw [hmm.2.2, Nat.add_sub_cancel]
                    have := hh.1
                    rw [Nat.add_mul] at this; omega
                  · rw [show q1 - 1 + 1 = q1 by omega]; exact hdown)
                clear hdown hq1
                obtain ⟨q3, hq3⟩ : ∃ q3, q3 = q1 - 1 := ⟨_, rfl⟩
                rw [← hq3] at s4 HN
                clear hq3
                by_cases p3 : (4294967296 : Int) ≤ r2
                · have HF2 := Lib.hid (show q3 * Y ≤ v * 4294967296 + d0 ∧ v * 4294967296 + d0 < (q3 + 1) * Y by
                    have hn := HN.out; have hb := HB.out
                    refine ⟨?_, hn.2.1⟩
                    rw [hb.2.2.2.2.2.1]
                    exact dig_exit v d0 a b q3 r2 hn.1 hb.2.2.1 (.inr ⟨hn.2.2.1, by omega⟩))
                  obtain ⟨r9, t1, t2, t3⟩ := last_two HD.out hhi hlo HB.out.2.2.2.2.2.2.2.2 HB.out.2.2.2.1 HB.out.2.2.2.2.1 HB.out.2.2.2.2.2.2.2.1 HV.out.2.1 HF.out.1 HF2.out.1 HF2.out.2

                  go_wp2
                  go_ret2
                  exact ⟨by simp, _, drewN0 _⟩
                · go_wp2
                  go_roundg (gk - 1)
                  case measure => have := HN.out; omega
                  case rel => exact ⟨q3, r2, rfl, rfl, rfl, HN.out.1, by omega, HN.out.2.1, by have := HN.out; omega, HN.out.2.2.2.1⟩
              · by_cases p2 : (e : Int) < m
                · have hdown : v * 4294967296 + d0 < q1 * Y := by
                    have hh := HH.out; have hx := HX.out; have hb := HB.out; have hmm := HM.out
                    rw [hb.2.2.2.2.2.1] at hx ⊢
                    exact dig_down v d0 a b q1 r1 hh.1 hx (.inr (by rw [← hmm.1, ← hmm.2.1]; omega))
                  have hq1 : 1 ≤ q1 := by
                    apply Nat.pos_of_ne_zero; intro h0; rw [h0, Nat.zero_mul] at hdown; omega
                  have s4 : IntKind.u64.wrap ((q1 : Int) - 1) = ((q1 - 1 : Nat) : Int) := wrap_ok _ _ (by omega) (by have := HH.out; omega)
                  have HN := Lib.hid (show (q1 - 1) * a + r2 = v ∧ v * 4294967296 + d0 < (q1 - 1 + 1) * Y ∧ q1 - 1 ≤ 4294967296 ∧ q1 - 1 ≤ gk - 1 ∧ 1 ≤ gk by
                    have hh := HH.out; have hmm := HM.out
                    refine ⟨?_, ?_, by omega, by omega, by omega⟩
                    · obtain ⟨q2, rfl⟩ : ∃ q2, q1 = q2 + 1 := ⟨q1 - 1, by omega⟩
                      rw [hmm.2.2, Nat.add_sub_cancel]
                      have := hh.1
                      rw [Nat.add_mul] at this; omega
                    · rw [show q1 - 1 + 1 = q1 by omega]; exact hdown)
                  clear hdown hq1
                  obtain ⟨q3, hq3⟩ : ∃ q3, q3 = q1 - 1 := ⟨_, rfl⟩
                  rw [← hq3] at s4 HN
                  clear hq3
                  by_cases p3 : (4294967296 : Int) ≤ r2
                  · have HF2 := Lib.hid (show q3 * Y ≤ v * 4294967296 + d0 ∧ v * 4294967296 + d0 < (q3 + 1) * Y by
                      have hn := HN.out; have hb := HB.out
                      refine ⟨?_, hn.2.1⟩
                      rw [hb.2.2.2.2.2.1]
                      exact dig_exit v d0 a b q3 r2 hn.1 hb.2.2.1 (.inr ⟨hn.2.2.1, by omega⟩))
                    obtain ⟨r9, t1, t2, t3⟩ := last_two HD.out hhi hlo HB.out.2.2.2.2.2.2.2.2 HB.out.2.2.2.1 HB.out.2.2.2.2.1 HB.out.2.2.2.2.2.2.2.1 HV.out.2.1 HF.out.1 HF2.out.1 HF2.out.2

                    go_wp2
                    go_ret2
                    exact ⟨by simp, _, drewN0 _⟩
                  · go_wp2
                    go_roundg (gk - 1)
                    case measure => have := HN.out; omega
                    case rel => exact ⟨q3, r2, rfl, rfl, rfl, HN.out.1, by omega, HN.out.2.1, by have := HN.out; omega, HN.out.2.2.2.1⟩
                · have HF2 := Lib.hid (show q1 * Y ≤ v * 4294967296 + d0 ∧ v * 4294967296 + d0 < (q1 + 1) * Y by
                    have hh := HH.out; have hb := HB.out; have hmm := HM.out
                    refine ⟨?_, hh.2.2.1⟩
                    rw [hb.2.2.2.2.2.1]
                    exact dig_exit v d0 a b q1 r1 hh.1 hb.2.2.1 (.inl ⟨by omega, by rw [← hmm.1, ← hmm.2.1]; omega⟩))
                  obtain ⟨r9, t1, t2, t3⟩ := last_two HD.out hhi hlo HB.out.2.2.2.2.2.2.2.2 HB.out.2.2.2.1 HB.out.2.2.2.2.1 HB.out.2.2.2.2.2.2.2.1 HV.out.2.1 HF.out.1 HF2.out.1 HF2.out.2

                  go_wp2
                  go_ret2
                  exact ⟨by simp, _, drewN0 _⟩
          · go_wp2
            go_roundg (gk - 1)
            case measure => have := HN.out; omega
            case rel => exact ⟨q3, r2, rfl, rfl, rfl, HN.out.1, by omega, HN.out.2.1, by have := HN.out; omega, HN.out.2.2.2.1⟩
        · have HF := Lib.hid (show q1 * Y ≤ u * 4294967296 + d1 ∧ u * 4294967296 + d1 < (q1 + 1) * Y by
            have hh := HH.out; have hb := HB.out; have hmm := HM.out
            refine ⟨?_, hh.2.2.1⟩
            rw [hb.2.2.2.2.2.1]
            exact dig_exit u d1 a b q1 r1 hh.1 hb.2.2.1 (.inl ⟨by omega, by rw [← hmm.1, ← hmm.2.1]; omega⟩))
          obtain ⟨v, hv⟩ : ∃ v, v = u * 4294967296 + d1 - q1 * Y := ⟨_, rfl⟩
          have k1 : IntKind.u64.wrap (IntKind.u64.wrap (IntKind.u64.wrap ((u : Int) * 4294967296) + (d1 : Int)) - IntKind.u64.wrap ((q1 : Int) * (Y : Int))) = (v : Int) := wrap_sub3 _ _ _ _ (by rw [mulN, hv]; have := HF.out; omega) (by have := HF.out; have := HB.out; rw [Nat.add_mul] at *; omega)
          have HV := Lib.hid (show v < Y ∧ v = u * 4294967296 + d1 - q1 * Y ∧ q1 * Y ≤ u * 4294967296 + d1 by have h := HF.out; rw [Nat.add_mul] at h; omega)
          clear hv
          obtain ⟨q0, hq0⟩ : ∃ q0, q0 = v / a := ⟨_, rfl⟩
          obtain ⟨r0, hr0⟩ : ∃ r0, r0 = v % a := ⟨_, rfl⟩
          have k2 : IntKind.u64.wrap ((v : Int).tdiv (a : Int)) = (q0 : Int) := wrap_ok _ _ (by rw [hq0]; simp [Int.tdiv_eq_ediv_of_nonneg]) (by
            rw [hq0]; exact Nat.lt_of_le_of_lt (Nat.div_le_self _ _) (by have := HV.out; have := HB.out; omega))
          have k2' : IntKind.u64.wrap ((v : Int) / (a : Int)) = (q0 : Int) := wrap_ok _ _ (by rw [hq0]; simp) (by
            rw [hq0]; exact Nat.lt_of_le_of_lt (Nat.div_le_self _ _) (by have := HV.out; have := HB.out; omega))
          have hqr0 : q0 * a + r0 = v := by rw [hq0, hr0, Nat.mul_comm]; exact Nat.div_add_mod _ _
          have k3 : IntKind.u64.wrap ((v : Int) - IntKind.u64.wrap ((q0 : Int) * (a : Int))) = (r0 : Int) := wrap_sub2 _ _ _ (by rw [mulN]; omega) (by have := HV.out; have := HB.out; omega)
          have HQ0 := Lib.hid (show q0 ≤ 4294967297 ∧ r0 < a ∧ q0 * a + r0 = v from ⟨by have := HV.out; have := HB.out; rw [hq0]; exact dig_first v a b (by omega) (by omega) (by omega), by have := HB.out; rw [hr0]; exact Nat.mod_lt _ (by omega), hqr0⟩)
          clear hq0 hr0 hqr0
          have HB := Lib.hid (show 2147483648 ≤ a ∧ a < 4294967296 ∧ b < 4294967296 ∧ d1 < 4294967296 ∧ d0 < 4294967296 ∧ Y = a * 4294967296 + b ∧ v < Y ∧ Y < 18446744073709551616 ∧ L = d1 * 4294967296 + d0 by have := HB.out; have := HV.out; omega)
          go_wp2
          try clear HN
          try clear s4
          try clear p3
          try clear p2
          clear HX HH HM s0 s1 s2 s3 p1 HQ g8 g8' g9 k2 k2' k3 k1
          go_loopg [16, 18] 4294967297 (fun n rv qv wr => ∃ q r : Nat, qv = .int .u64 q ∧ rv = .int .u64 r ∧ w = wr ∧ q * a + r = v ∧ r < 4294967296 ∧ v * 4294967296 + d0 < (q + 1) * Y ∧ q ≤ 4294967297 ∧ q ≤ n)
          case atStart => exact ⟨q0, r0, rfl, rfl, rfl, HQ0.out.2.2, by have := HQ0.out; have := HB.out; omega, top_X HQ0.out.2.2 HB.out.2.2.2.2.2.1 HQ0.out.2.1 HB.out.2.1 (by have := HB.out; omega), HQ0.out.1, HQ0.out.1⟩
          case round =>
            obtain ⟨q1, r1, rfl, rfl, rfl, h1, h2, h3, h4, h5⟩ := hrel
            have HX := Lib.hid (show v * 4294967296 + d0 < 4294967296 * Y by have := HB.out; omega)
            have HH := Lib.hid (And.intro h1 (And.intro h2 (And.intro h3 (And.intro h4 h5))))
            have s1 : IntKind.u64.wrap ((r1 : Int) + (a : Int)) = ((r1 + a : Nat) : Int) := wrap_ok _ _ (by omega) (by have := HB.out; omega)
            have s0 : IntKind.u64.wrap ((q1 : Int) * (b : Int)) = ((q1 * b : Nat) : Int) := wrap_ok _ _ (by rw [mulN]) (mul_small h4 HB.out.2.2.1)
            have s2 : IntKind.u64.wrap (4294967296 * (r1 : Int)) = ((4294967296 * r1 : Nat) : Int) := wrap_ok _ _ (by omega) (by omega)
            have s3 : IntKind.u64.wrap (((4294967296 * r1 : Nat) : Int) + (d0 : Int)) = ((4294967296 * r1 + d0 : Nat) : Int) := wrap_ok _ _ (by omega) (by have := HB.out; omega)
            obtain ⟨m, hm⟩ : ∃ m, m = q1 * b := ⟨_, rfl⟩
            obtain ⟨e, he⟩ : ∃ e, e = 4294967296 * r1 + d0 := ⟨_, rfl⟩
            obtain ⟨e2, he2⟩ : ∃ e2, e2 = 4294967296 * r1 := ⟨_, rfl⟩
            obtain ⟨r2, hr2⟩ : ∃ r2, r2 = r1 + a := ⟨_, rfl⟩
            rw [← hr2] at s1
            rw [← hm] at s0
            rw [← he2] at s2
            rw [← he, ← he2] at s3
            have HM := Lib.hid (And.intro hm (And.intro he hr2))
            clear h1 h2 h3 h4 h5 hm he he2 hr2
            by_cases p1 : (4294967296 : Int) ≤ q1
            · have hdown : v * 4294967296 + d0 < q1 * Y := by
                have hh := HH.out; have hx := HX.out; have hb := HB.out; have hmm := HM.out
                rw [hb.2.2.2.2.2.1] at hx ⊢
                exact dig_down v d0 a b q1 r1 hh.1 hx (.inl (by omega))
              have hq1 : 1 ≤ q1 := by
                apply Nat.pos_of_ne_zero; intro h0; rw [h0, Nat.zero_mul] at hdown; omega
              have s4 : IntKind.u64.wrap ((q1 : Int) - 1) = ((q1 - 1 : Nat) : Int) := wrap_ok _ _ (by omega) (by have := HH.out; omega)
              have HN := Lib.hid (show (q1 - 1) * a + r2 = v ∧ v * 4294967296 + d0 < (q1 - 1 + 1) * Y ∧ q1 - 1 ≤ 4294967296 ∧ q1 - 1 ≤ gk - 1 ∧ 1 ≤ gk by
                have hh := HH.out; have hmm := HM.out
                refine ⟨?_, ?_, by omega, by omega, by omega⟩
                · obtain ⟨q2, rfl⟩ : ∃ q2, q1 = q2 + 1 := ⟨q1 - 1, by omega⟩
                  rw [hmm.2.2, Nat.add_sub_cancel]
                  have := hh.1
                  rw [Nat.add_mul] at this; omega
                · rw [show q1 - 1 + 1 = q1 by omega]; exact hdown)
              clear hdown hq1
              obtain ⟨q3, hq3⟩ : ∃ q3, q3 = q1 - 1 := ⟨_, rfl⟩
              rw [← hq3] at s4 HN
              clear hq3
              by_cases p3 : (4294967296 : Int) ≤ r2
              · have HF2 := Lib.hid (show q3 * Y ≤ v * 4294967296 + d0 ∧ v * 4294967296 + d0 < (q3 + 1) * Y by
                  have hn := HN.out; have hb := HB.out
                  refine ⟨?_, hn.2.1⟩
                  rw [hb.2.2.2.2.2.1]
                  exact dig_exit v d0 a b q3 r2 hn.1 hb.2.2.1 (.inr ⟨hn.2.2.1, by omega⟩))
                obtain ⟨r9, t1, t2, t3⟩ := last_two HD.out hhi hlo HB.out.2.2.2.2.2.2.2.2 HB.out.2.2.2.1 HB.out.2.2.2.2.1 HB.out.2.2.2.2.2.2.2.1 HV.out.2.1 HF.out.1 HF2.out.1 HF2.out.2

                go_wp2
                go_ret2
                exact ⟨by simp, _, drewN0 _⟩
              · go_wp2
                go_roundg (gk - 1)
                case measure => have := HN.out; omega
                case rel => exact ⟨q3, r2, rfl, rfl, rfl, HN.out.1, by omega, HN.out.2.1, by have := HN.out; omega, HN.out.2.2.2.1⟩
            · by_cases p2 : (e : Int) < m
              · have hdown : v * 4294967296 + d0 < q1 * Y := by
                  have hh := HH.out; have hx := HX.out; have hb := HB.out; have hmm := HM.out
                  rw [hb.2.2.2.2.2.1] at hx ⊢
                  exact dig_down v d0 a b q1 r1 hh.1 hx (.inr (by rw [← hmm.1, ← hmm.2.1]; omega))
                have hq1 : 1 ≤ q1 := by
                  apply Nat.pos_of_ne_zero; intro h0; rw [h0, Nat.zero_mul] at hdown; omega
                have s4 : IntKind.u64.wrap ((q1 : Int) - 1) = ((q1 - 1 : Nat) : Int) := wrap_ok _ _ (by omega) (by have := HH.out; omega)
                have HN := Lib.hid (show (q1 - 1) * a + r2 = v ∧ v * 4294967296 + d0 < (q1 - 1 + 1) * Y ∧ q1 - 1 ≤ 4294967296 ∧ q1 - 1 ≤ gk - 1 ∧ 1 ≤ gk by
                  have hh := HH.out; have hmm := HM.out
                  refine ⟨?_, ?_, by omega, by omega, by omega⟩
                  · obtain ⟨q2, rfl⟩ : ∃ q2, q1 = q2 + 1 := ⟨q1 - 1, by omega⟩
                    rw [hmm.2.2, Nat.add_sub_cancel]
                    have := hh.1
                    rw [Nat.add_mul] at this; omega
                  · rw [show q1 - 1 + 1 = q1 by omega]; exact hdown)
                clear hdown hq1
                obtain ⟨q3, hq3⟩ : ∃ q3, q3 = q1 - 1 := ⟨_, rfl⟩
                rw [← hq3] at s4 HN
                clear hq3
                by_cases p3 : (4294967296 : Int) ≤ r2
                · have HF2 := Lib.hid (show q3 * Y ≤ v * 4294967296 + d0 ∧ v * 4294967296 + d0 < (q3 + 1) * Y by
                    have hn := HN.out; have hb := HB.out
                    refine ⟨?_, hn.2.1⟩
                    rw [hb.2.2.2.2.2.1]
                    exact dig_exit v d0 a b q3 r2 hn.1 hb.2.2.1 (.inr ⟨hn.2.2.1, by omega⟩))
                  obtain ⟨r9, t1, t2, t3⟩ := last_two HD.out hhi hlo HB.out.2.2.2.2.2.2.2.2 HB.out.2.2.2.1 HB.out.2.2.2.2.1 HB.out.2.2.2.2.2.2.2.1 HV.out.2.1 HF.out.1 HF2.out.1 HF2.out.2

                  go_wp2
                  go_ret2
                  exact ⟨by simp, _, drewN0 _⟩
                · go_wp2
                  go_roundg (gk - 1)
                  case measure => have := HN.out; omega
                  case rel => exact ⟨q3, r2, rfl, rfl, rfl, HN.out.1, by omega, HN.out.2.1, by have := HN.out; omega, HN.out.2.2.2.1⟩
              · have HF2 := Lib.hid (show q1 * Y ≤ v * 4294967296 + d0 ∧ v * 4294967296 + d0 < (q1 + 1) * Y by
                  have hh := HH.out; have hb := HB.out; have hmm := HM.out
                  refine ⟨?_, hh.2.2.1⟩
                  rw [hb.2.2.2.2.2.1]
                  exact dig_exit v d0 a b q1 r1 hh.1 hb.2.2.1 (.inl ⟨by omega, by rw [← hmm.1, ← hmm.2.1]; omega⟩))
                obtain ⟨r9, t1, t2, t3⟩ := last_two HD.out hhi hlo HB.out.2.2.2.2.2.2.2.2 HB.out.2.2.2.1 HB.out.2.2.2.2.1 HB.out.2.2.2.2.2.2.2.1 HV.out.2.1 HF.out.1 HF2.out.1 HF2.out.2

                go_wp2
                go_ret2
                exact ⟨by simp, _, drewN0 _⟩
end Go.Proofs.Ytnkmhbiklffjlaa
