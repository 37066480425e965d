/- Plain facts on magnitudes: numbers as rows of limbs of 32 bits. No program in sight. -/
import Derived.WalkKit
set_option linter.unusedVariables false
set_option linter.unusedSimpArgs false
namespace Go.Proofs.Ytnkmhbiklffjlaa
namespace Big

def BB : Nat := 4294967296
theorem BB_pos : 0 < BB := by unfold BB; omega
theorem BP (k : Nat) : 0 < BB ^ k := Nat.pow_pos BB_pos
/-- limb k of a number -/
def lim (v k : Nat) : Nat := v / BB ^ k % BB
theorem lim_lt (v k : Nat) : lim v k < BB := Nat.mod_lt _ BB_pos
/-- the first n limbs -/
def dg (n v : Nat) : List Nat := (List.range n).map (lim v)
theorem dg_len (n v : Nat) : (dg n v).length = n := by simp [dg]
theorem dg_get {n k : Nat} (v : Nat) (h : k < n) : (dg n v)[k]? = some (lim v k) := by simp [dg, h]
theorem dg_getD {n k : Nat} (v : Nat) (h : k < n) : (dg n v).getD k 0 = lim v k := by simp [List.getD, dg_get v h]
theorem lim_zero (k : Nat) : lim 0 k = 0 := by simp [lim]
theorem mod_succ (v k : Nat) : v % BB ^ (k + 1) = v % BB ^ k + lim v k * BB ^ k := by
  rw [Nat.mod_pow_succ, lim, Nat.mul_comm]
theorem lim_lo {p x i k : Nat} (h : k < i) : lim (p + x * BB ^ i) k = lim p k := by
  have e : x * BB ^ i = BB ^ k * (BB * (x * BB ^ (i - k - 1))) := by
    have : BB ^ i = BB ^ k * (BB * BB ^ (i - k - 1)) := by
      rw [← Nat.pow_succ', ← Nat.pow_add]; congr 1; omega
    rw [this]
    simp only [Nat.mul_left_comm, Nat.mul_comm]
  rw [lim, e, Nat.add_mul_div_left _ _ (BP k), Nat.add_mul_mod_self_left]; rfl
theorem lim_hi {p x i k : Nat} (hp : p < BB ^ i) (h : i ≤ k) : lim (p + x * BB ^ i) k = lim x (k - i) := by
  have e : BB ^ k = BB ^ i * BB ^ (k - i) := by rw [← Nat.pow_add]; congr 1; omega
  rw [lim, e, ← Nat.div_div_eq_div_mul, Nat.add_mul_div_right _ _ (BP i), Nat.div_eq_of_lt hp, Nat.zero_add]; rfl
theorem lim_small {x k : Nat} (hx : x < BB) : lim x k = if k = 0 then x else 0 := by
  unfold lim
  split
  · rename_i h; subst h; simp [Nat.mod_eq_of_lt hx]
  · rename_i h
    have : x < BB ^ k := Nat.lt_of_lt_of_le hx (by
      have := Nat.pow_le_pow_right BB_pos (show 1 ≤ k by omega)
      simpa using this)
    rw [Nat.div_eq_of_lt this]; simp
theorem lim_big {v i k : Nat} (hv : v < BB ^ i) (h : i ≤ k) : lim v k = 0 := by
  have := lim_hi (x := 0) hv h
  simpa [lim_zero] using this
theorem eq_mod_of_lim {v w n : Nat} (h : ∀ k, k < n → lim v k = lim w k) : v % BB ^ n = w % BB ^ n := by
  induction n with
  | zero => simp [Nat.mod_one]
  | succ n ih => rw [mod_succ, mod_succ, ih (fun k hk => h k (by omega)), h n (by omega)]
theorem eq_of_lim {v w n : Nat} (hv : v < BB ^ n) (hw : w < BB ^ n) (h : ∀ k, k < n → lim v k = lim w k) : v = w := by
  have := eq_mod_of_lim h
  rwa [Nat.mod_eq_of_lt hv, Nat.mod_eq_of_lt hw] at this
theorem dg_congr {v w n : Nat} (h : ∀ k, k < n → lim v k = lim w k) : dg n v = dg n w := by
  unfold dg
  exact List.map_congr_left (fun k hk => h k (List.mem_range.1 hk))
theorem dg_inj {v w n : Nat} (hv : v < BB ^ n) (hw : w < BB ^ n) (h : dg n v = dg n w) : v = w :=
  eq_of_lim hv hw (fun k hk => by
    have h1 := dg_get v hk
    have h2 := dg_get w hk
    rw [h, h2] at h1
    injection h1 with h1
    exact h1.symm)
/-- limb i put in -/
def upd (v i x : Nat) : Nat := v % BB ^ i + x * BB ^ i + v / BB ^ (i + 1) * BB ^ (i + 1)
theorem upd_lim {v i x k : Nat} (hx : x < BB) : lim (upd v i x) k = if k = i then x else lim v k := by
  have h0 : v % BB ^ i < BB ^ i := Nat.mod_lt _ (BP i)
  have h1 : v % BB ^ i + x * BB ^ i < BB ^ (i + 1) := by
    have : x * BB ^ i + BB ^ i ≤ BB * BB ^ i := by rw [← Nat.succ_mul]; exact Nat.mul_le_mul_right _ hx
    rw [Nat.pow_succ']; omega
  unfold upd
  rcases Nat.lt_trichotomy k i with h | h | h
  · rw [if_neg (by omega), lim_lo (by omega), lim_lo h]
    unfold lim
    have e : BB ^ i = BB ^ k * BB ^ (i - k) := by rw [← Nat.pow_add]; congr 1; omega
    have hm : v % BB ^ i / BB ^ k = v / BB ^ k % BB ^ (i - k) := by rw [e, Nat.mod_mul_right_div_self]
    rw [hm]
    have e2 : BB ^ (i - k) = BB * BB ^ (i - k - 1) := by rw [← Nat.pow_succ']; congr 1; omega
    rw [e2, Nat.mod_mul_right_mod]
  · subst h
    rw [if_pos rfl, lim_lo (by omega), lim_hi h0 (Nat.le_refl _), Nat.sub_self, lim_small hx, if_pos rfl]
  · rw [if_neg (by omega), lim_hi h1 (by omega)]
    unfold lim
    rw [Nat.div_div_eq_div_mul, ← Nat.pow_add]
    congr 3; omega
theorem upd_eq (v i x : Nat) : upd v i x + lim v i * BB ^ i = v + x * BB ^ i := by
  have h1 := mod_succ v i
  have h2 := Nat.mod_add_div v (BB ^ (i + 1))
  unfold upd
  rw [Nat.mul_comm] at h2
  omega
theorem upd_lt {v i x n : Nat} (hv : v < BB ^ n) (hi : i < n) (hx : x < BB) : upd v i x < BB ^ n := by
  have h0 : v % BB ^ i < BB ^ i := Nat.mod_lt _ (BP i)
  have h1 : v % BB ^ i + x * BB ^ i < BB ^ (i + 1) := by
    have : x * BB ^ i + BB ^ i ≤ BB * BB ^ i := by rw [← Nat.succ_mul]; exact Nat.mul_le_mul_right _ hx
    rw [Nat.pow_succ']; omega
  have e : BB ^ n = BB ^ (n - (i + 1)) * BB ^ (i + 1) := by rw [← Nat.pow_add]; congr 1; omega
  have h2 : v / BB ^ (i + 1) < BB ^ (n - (i + 1)) := by
    rw [Nat.div_lt_iff_lt_mul (BP _), ← e]; exact hv
  have h3 : v / BB ^ (i + 1) * BB ^ (i + 1) + BB ^ (i + 1) ≤ BB ^ n := by
    rw [← Nat.succ_mul, e]; exact Nat.mul_le_mul_right _ h2
  unfold upd; omega
theorem dg_upd {v i x n : Nat} (hi : i < n) (hx : x < BB) : (dg n v).set i x = dg n (upd v i x) := by
  apply List.ext_getElem?
  intro k
  rw [List.getElem?_set]
  by_cases hk : k < n
  · rw [dg_get _ hk, dg_get _ hk, upd_lim hx]
    by_cases e : i = k
    · subst e; simp [dg_len, hk]
    · rw [if_neg e, if_neg (Ne.symm e)]
  · rw [if_neg (by omega), List.getElem?_eq_none (by rw [dg_len]; omega), List.getElem?_eq_none (by rw [dg_len]; omega)]
/-- comparing by the greatest limb that differs -/
theorem div_succ (v k : Nat) : v / BB ^ k = lim v k + v / BB ^ (k + 1) * BB := by
  rw [Nat.pow_succ, ← Nat.div_div_eq_div_mul]
  have := Nat.mod_add_div (v / BB ^ k) BB
  unfold lim
  rw [Nat.mul_comm] at this; omega
theorem lt_of_lim {a b k : Nat} (h : a / BB ^ (k + 1) = b / BB ^ (k + 1)) (hl : lim a k < lim b k) : a < b := by
  have h1 := div_succ a k
  have h2 := div_succ b k
  have h3 : a / BB ^ k < b / BB ^ k := by rw [h1, h2, h]; omega
  exact Nat.lt_of_not_le (fun hle => absurd (Nat.div_le_div_right hle) (Nat.not_le.2 h3))
theorem div_eq_down {a b k : Nat} (h : a / BB ^ (k + 1) = b / BB ^ (k + 1)) (hl : lim a k = lim b k) : a / BB ^ k = b / BB ^ k := by rw [div_succ a k, div_succ b k, h, hl]
end Big
end Go.Proofs.Ytnkmhbiklffjlaa
