/- Plain facts for the long division's round: a bit read, a bit set. -/
import Derived.Test.YtnkmhbiklffjlaaBigY
set_option linter.unusedVariables false
set_option linter.unusedSimpArgs false
namespace Go.Proofs.Ytnkmhbiklffjlaa
open Go.RowKit Big
namespace Big
theorem and_one {x : Nat} (hx : x < BB) : bits BinOp.and IntKind.u32 (x : Int) 1 = ((x % 2 : Nat) : Int) := by
  have := u32_and_nat x 1 (by unfold BB at hx; omega) (by omega)
  rw [Nat.and_one_is_mod] at this
  exact this
theorem bit_word {s : Nat} (hs : s < 32) : IntKind.u32.wrap ((2 : Int) ^ s) = ((2 ^ s : Nat) : Int) := by
  have h : 2 ^ s ≤ 2 ^ 31 := Nat.pow_le_pow_right (by omega) (by omega)
  have e : ((2 : Int) ^ s) = ((2 ^ s : Nat) : Int) := by simp
  have h3 : (2 : Nat) ^ 31 = 2147483648 := by decide
  rw [e]
  obtain ⟨y, hy⟩ : ∃ y, y = 2 ^ s := ⟨_, rfl⟩
  rw [← hy] at h ⊢
  rw [IntKind.wrap_u32]
  omega
theorem lim_low {q i : Nat} (hq : q % 2 ^ (i + 1) = 0) : lim q (i / 32) % 2 ^ (i % 32 + 1) = 0 := by
  obtain ⟨Q, hQ⟩ : ∃ Q, q = 2 ^ (i + 1) * Q := ⟨q / 2 ^ (i + 1), by have := Nat.mod_add_div q (2 ^ (i + 1)); omega⟩
  have e1 : 2 ^ (i + 1) = BB ^ (i / 32) * 2 ^ (i % 32 + 1) := by rw [BP_two, ← Nat.pow_add]; congr 1; omega
  have e2 : q / BB ^ (i / 32) = 2 ^ (i % 32 + 1) * Q := by
    rw [hQ, e1, Nat.mul_assoc, Nat.mul_div_cancel_left _ (BP _)]
  have e3 : BB = 2 ^ (i % 32 + 1) * 2 ^ (32 - (i % 32 + 1)) := by rw [BB_two, ← Nat.pow_add]; congr 1; omega
  unfold lim
  rw [e2, e3, Nat.mod_mul_right_mod]
  exact Nat.mul_mod_right _ _
theorem set_bit {q i y : Nat} (hq : q % 2 ^ (i + 1) = 0) (hy : y = 2 ^ (i % 32)) :
    bits BinOp.or IntKind.u32 (lim q (i / 32) : Nat) (y : Nat) = ((lim q (i / 32) + y : Nat) : Int) ∧ lim q (i / 32) + y < BB ∧ upd q (i / 32) (lim q (i / 32) + y) = q + 2 ^ i := by
  have hl := lim_lt q (i / 32)
  have hz := lim_low hq
  obtain ⟨L, hL⟩ : ∃ L, L = lim q (i / 32) := ⟨_, rfl⟩
  rw [← hL] at hl hz ⊢
  have hs : i % 32 < 32 := Nat.mod_lt _ (by omega)
  have h2 : 2 ^ (i % 32 + 1) = 2 * y := by rw [hy, Nat.pow_succ]; omega
  have hy0 : 0 < y := by rw [hy]; exact tp _
  have hyb : y < BB := by
    rw [hy, BB_two]; exact Nat.pow_lt_pow_right (by omega) hs
  have h3 : BB = 2 ^ (i % 32 + 1) * 2 ^ (32 - (i % 32 + 1)) := by rw [BB_two, ← Nat.pow_add]; congr 1; omega
  obtain ⟨T, hT⟩ : ∃ T, T = 2 ^ (32 - (i % 32 + 1)) := ⟨_, rfl⟩
  rw [← hT, h2] at h3
  rw [h2] at hz
  obtain ⟨M, hM⟩ : ∃ M, L = 2 * y * M := ⟨L / (2 * y), by have := Nat.mod_add_div L (2 * y); omega⟩
  have hMT : M < T := by
    rcases Nat.lt_or_ge M T with h | h
    · exact h
    · have := Nat.mul_le_mul_left (2 * y) h
      omega
  have hle : 2 * y * M + 2 * y ≤ 2 * y * T := by rw [← Nat.mul_succ]; exact Nat.mul_le_mul_left _ hMT
  refine ⟨?_, by omega, ?_⟩
  · rw [u32_or_nat L y (by unfold BB at hl; omega) (by unfold BB at hyb; omega), or_low (i := i % 32 + 1) (by rw [h2]; omega) (by rw [h2]; exact hz)]
  · have m1 := mod_succ q (i / 32)
    have m2 := Nat.mod_add_div q (BB ^ (i / 32 + 1))
    rw [m1, ← hL, Nat.mul_comm (BB ^ (i / 32 + 1))] at m2
    have e4 : 2 ^ i = y * BB ^ (i / 32) := by rw [hy, BP_two, ← Nat.pow_add]; congr 1; omega
    unfold upd
    rw [e4, Nat.add_mul]
    omega
theorem div_end {a b Q r : Nat} (h : a / 2 ^ 0 = Q * b + r) (hr : r < b) : Q = a / b ∧ r = a % b := by
  rw [Nat.pow_zero, Nat.div_one] at h
  have hb : 0 < b := by omega
  refine ⟨?_, ?_⟩
  · rw [h, Nat.add_comm, Nat.add_mul_div_right _ _ hb, Nat.div_eq_of_lt hr]; omega
  · rw [h, Nat.add_comm, Nat.add_mul_mod_self_right, Nat.mod_eq_of_lt hr]
theorem bits_div {a b mA nB : Nat} (ha : IsBits a mA) (hb : IsBits b (nB + 1)) (h : nB < mA) : a / 2 ^ (mA - nB) < b := by
  have h1 := hb.2 (by omega)
  rw [Nat.add_sub_cancel] at h1
  refine Nat.lt_of_lt_of_le ?_ h1
  rw [Nat.div_lt_iff_lt_mul (tp _), ← Nat.pow_add, show nB + (mA - nB) = mA by omega]
  exact ha.1
theorem bits_less {a b mA nB : Nat} (ha : IsBits a mA) (hb : IsBits b (nB + 1)) (h : mA ≤ nB) : a < b := by
  have h1 := hb.2 (by omega)
  rw [Nat.add_sub_cancel] at h1
  exact Nat.lt_of_lt_of_le (Nat.lt_of_lt_of_le ha.1 (Nat.pow_le_pow_right (by omega) h)) h1
end Big
end Go.Proofs.Ytnkmhbiklffjlaa
