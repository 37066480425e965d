/- Plain facts on magnitudes: one step of adding, subtracting, doubling, multiplying; shifting; the number of limbs and bits. -/
import Derived.Test.YtnkmhbiklffjlaaBigP
set_option linter.unusedVariables false
set_option linter.unusedSimpArgs false
namespace Go.Proofs.Ytnkmhbiklffjlaa
namespace Big

theorem pow_s (i : Nat) : BB ^ (i + 1) = BB * BB ^ i := Nat.pow_succ'
theorem lt_succ {P d i : Nat} (hP : P < BB ^ i) (hd : d < BB) : P + d * BB ^ i < BB ^ (i + 1) := by
  have : d * BB ^ i + BB ^ i ≤ BB * BB ^ i := by rw [← Nat.succ_mul]; exact Nat.mul_le_mul_right _ hd
  rw [pow_s]; omega
/-- adding: limb by limb -/
theorem sum_step {a b P c d c' i : Nat} (h : P + c * BB ^ i = a % BB ^ i + b % BB ^ i) (hv : lim a i + lim b i + c = d + c' * BB) :
    P + d * BB ^ i + c' * BB ^ (i + 1) = a % BB ^ (i + 1) + b % BB ^ (i + 1) := by
  rw [mod_succ a, mod_succ b, pow_s]
  have e := congrArg (· * BB ^ i) hv
  simp only [Nat.add_mul, Nat.mul_assoc] at e
  omega
/-- subtracting -/
theorem diff_step {a b P c d c' i : Nat} (h : P + b % BB ^ i = a % BB ^ i + c * BB ^ i) (hv : d + lim b i + c = lim a i + c' * BB) :
    P + d * BB ^ i + b % BB ^ (i + 1) = a % BB ^ (i + 1) + c' * BB ^ (i + 1) := by
  rw [mod_succ a, mod_succ b, pow_s]
  have e := congrArg (· * BB ^ i) hv
  simp only [Nat.add_mul, Nat.mul_assoc] at e
  omega
/-- doubling -/
theorem dbl_step {m P bit c d c' i : Nat} (h : P + c * BB ^ i = 2 * (m % BB ^ i) + bit) (hv : d + c' * BB = 2 * lim m i + c) :
    P + d * BB ^ i + c' * BB ^ (i + 1) = 2 * (m % BB ^ (i + 1)) + bit := by
  rw [mod_succ m, pow_s]
  have e := congrArg (· * BB ^ i) hv
  simp only [Nat.add_mul, Nat.mul_assoc] at e
  omega
/-- multiplying: one limb by one limb, into limb i + j of what is there; hi is what lies above -/
theorem mul_step {a b P x y c d c' i j : Nat} (h : P + c * BB ^ (i + j) = (a % BB ^ i) * b + x * (b % BB ^ j) * BB ^ i) (hx : x = lim a i) (hy : y = lim b j)
    (hv : x * y + lim P (i + j) + c = d + c' * BB) : upd P (i + j) d + c' * BB ^ (i + (j + 1)) = (a % BB ^ i) * b + x * (b % BB ^ (j + 1)) * BB ^ i := by
  have e := congrArg (· * BB ^ (i + j)) hv
  have u := upd_eq P (i + j) d
  have e2 : x * (b % BB ^ (j + 1)) * BB ^ i = x * (b % BB ^ j) * BB ^ i + x * y * BB ^ (i + j) := by
    rw [mod_succ b, Nat.mul_add, Nat.add_mul, hy, Nat.pow_add]
    congr 1
    simp only [Nat.mul_assoc, Nat.mul_left_comm, Nat.mul_comm]
  have e3 : c' * BB ^ (i + (j + 1)) = c' * BB * BB ^ (i + j) := by rw [← Nat.add_assoc, pow_s, Nat.mul_assoc]
  rw [e2, e3]
  simp only [Nat.add_mul] at e
  omega
/-- a row of products is done -/
theorem mul_row {a b P x i : Nat} (h : P = (a % BB ^ i) * b + x * b * BB ^ i) (hx : x = lim a i) : P = (a % BB ^ (i + 1)) * b := by
  rw [mod_succ a, Nat.add_mul, h, hx]
  congr 1
  simp only [Nat.mul_assoc, Nat.mul_left_comm, Nat.mul_comm]
/-- the number of limbs -/
def IsLimbs (v n : Nat) : Prop := v < BB ^ n ∧ (0 < n → BB ^ (n - 1) ≤ v)
theorem limbs_down {v k : Nat} (h : v < BB ^ (k + 1)) (hz : lim v k = 0) : v < BB ^ k := by
  have := mod_succ v k
  rw [Nat.mod_eq_of_lt h, hz] at this
  have h2 := Nat.mod_lt v (BP k)
  omega
theorem limbs_stop {v k : Nat} (hz : lim v k ≠ 0) : BB ^ k ≤ v := by
  refine Nat.le_of_not_lt (fun h => hz ?_)
  exact lim_big h (Nat.le_refl _)
theorem IsLimbs.unique {v n m : Nat} (hn : IsLimbs v n) (hm : IsLimbs v m) : n = m := by
  rcases Nat.lt_trichotomy n m with h | h | h
  · have h1 := hm.2 (by omega)
    have h2 := Nat.pow_le_pow_right BB_pos (show n ≤ m - 1 by omega)
    have h3 := hn.1
    omega
  · exact h
  · have h1 := hn.2 (by omega)
    have h2 := Nat.pow_le_pow_right BB_pos (show m ≤ n - 1 by omega)
    have h3 := hm.1
    omega
theorem IsLimbs.zero {n : Nat} (h : IsLimbs 0 n) : n = 0 := by
  rcases Nat.eq_zero_or_pos n with h0 | h0
  · exact h0
  · have := h.2 h0; have := BP (n - 1); omega
theorem IsLimbs.pos {v n : Nat} (h : IsLimbs v n) (hn : 0 < n) : 0 < v := by have := h.2 hn; have := BP (n - 1); omega
theorem IsLimbs.eq_zero {v : Nat} (h : IsLimbs v 0) : v = 0 := by have := h.1; simp at this; exact this
end Big
end Go.Proofs.Ytnkmhbiklffjlaa
