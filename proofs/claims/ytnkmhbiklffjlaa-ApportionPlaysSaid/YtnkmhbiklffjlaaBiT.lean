/- Rounding halves to the even number: what Round gives of a ratio in lowest terms, and the parts of Spread (plain). -/
import Derived.Test.YtnkmhbiklffjlaaBiS
set_option linter.unusedVariables false
set_option linter.unusedSimpArgs false
namespace Go.Proofs.Ytnkmhbiklffjlaa
open Go.RowKit Ap

def hen (x s : Nat) : Nat := if s - x % s < x % s ∨ (x % s = s - x % s ∧ x / s % 2 = 1) then x / s + 1 else x / s
theorem rnd_hen (t s c : Nat) : rnd t s c = hen (t * c) s := rfl
theorem hen_scale (k x s : Nat) (hk : 0 < k) : hen (k * x) (k * s) = hen x s := by
  have := rnd_scale 1 s x k hk
  rwa [rnd_hen, rnd_hen, Nat.one_mul, Nat.one_mul] at this
theorem hen_red {x s g : Nat} (hg : 0 < g) (h1 : g ∣ x) (h2 : g ∣ s) : hen (x / g) (s / g) = hen x s := by
  rw [← hen_scale g (x / g) (s / g) hg, Nat.mul_div_cancel' h1, Nat.mul_div_cancel' h2]
theorem zI_cs (n : Bool) (m : Nat) : zI (cs1 n m) m = zI n m := by
  unfold zI cs1
  by_cases h : m = 0 <;> cases n <;> simp [h]
theorem above_even (n : Bool) (a q : Nat) (odd : Bool) : aboveB 6 n (cmpZ ((2 * a : Nat) : Int) (q : Int)) odd = true ↔ q < 2 * a ∨ (2 * a = q ∧ odd = true) := by
  unfold aboveB cmpZ
  simp only [show ¬ (6 = 1) by decide, show ¬ (6 = 2) by decide, show ¬ (6 = 3) by decide, show ¬ (6 = 4) by decide, show ¬ (6 = 5) by decide, if_false]
  by_cases h1 : ((2 * a : Nat) : Int) < (q : Int)
  · rw [if_pos h1, if_pos (by decide)]
    exact ⟨fun h => absurd (of_decide_eq_true h) (by decide), fun h => by omega⟩
  · rw [if_neg h1]
    by_cases h2 : (q : Int) < ((2 * a : Nat) : Int)
    · rw [if_pos h2, if_pos (by decide)]
      exact ⟨fun _ => .inl (by omega), fun _ => by decide⟩
    · rw [if_neg h2, if_neg (by decide)]
      exact ⟨fun h => .inr ⟨by omega, h⟩, fun h => h.elim (fun h => absurd h (by omega)) And.right⟩
theorem rndI_hen (n : Bool) (p q : Nat) (hq : q ≠ 0) : rndI 6 n p q = zI n (hen p q) := by
  have hr := Nat.mod_lt p (Nat.pos_of_ne_zero hq)
  unfold rndI
  simp only [zI_cs, above_even, decide_eq_true_eq]
  unfold flR flM hen zI
  generalize p % q = r at hr ⊢
  generalize p / q = d
  cases n
  · simp only [Bool.false_eq_true, false_and, if_false]
    by_cases h0 : r = 0
    · rw [if_pos h0, if_neg (by omega)]
    · rw [if_neg h0]
      by_cases h1 : q < 2 * r ∨ (2 * r = q ∧ d % 2 = 1)
      · rw [if_pos h1, if_pos (by omega)]; omega
      · rw [if_neg h1, if_neg (by omega)]
  · simp only [true_and, if_true]
    by_cases h0 : r = 0
    · subst h0
      simp only [ne_eq, not_true, if_false, if_true]
      rw [if_neg (by omega)]
    · simp only [ne_eq, h0, not_false_eq_true, if_true]
      rw [if_neg (by omega)]
      by_cases h1 : q < 2 * (q - r) ∨ (2 * (q - r) = q ∧ (d + 1) % 2 = 1)
      · rw [if_pos h1, if_neg (by omega)]; omega
      · rw [if_neg h1, if_pos (by omega)]
theorem hen_zero (s : Nat) (hs : 0 < s) : hen 0 s = 0 := by unfold hen; rw [Nat.zero_mod, Nat.zero_div, if_neg (by omega)]
theorem spread_val (T : Int) (so s g p q : Nat) (n : Bool) (hs : 0 < s) (hg : g = Nat.gcd (T.natAbs * so) s) (hp : p = T.natAbs * so / g) (hq : q = s / g) (hn : n = cs1 (cs1 (decide (T < 0)) (T.natAbs * so)) p) :
    sgnd T (rnd T.natAbs s so : Int) = rndI 6 n (p * 10 ^ 0) q ∧ n = cs1 n p ∧ q ≠ 0 ∧ Nat.gcd p q = 1 := by
  have hg0 : 0 < g := by rw [hg]; exact Nat.gcd_pos_of_pos_right _ hs
  have d1 : g ∣ T.natAbs * so := by rw [hg]; exact Nat.gcd_dvd_left _ _
  have d2 : g ∣ s := by rw [hg]; exact Nat.gcd_dvd_right _ _
  have hq0 : q ≠ 0 := by rw [hq]; have := Nat.div_pos (Nat.le_of_dvd hs d2) hg0; omega
  have hc : Nat.gcd p q = 1 := by
    rw [hp, hq, Nat.gcd_div d1 d2, ← hg]; exact Nat.div_self hg0
  refine ⟨?_, ?_, hq0, hc⟩
  · rw [Nat.pow_zero, Nat.mul_one, rndI_hen _ _ _ hq0, rnd_hen, ← hen_red hg0 d1 d2, ← hp, ← hq]
    by_cases hp0 : p = 0
    · rw [hp0, hen_zero q (Nat.pos_of_ne_zero hq0)]; unfold sgnd zI; split <;> split <;> rfl
    · have hx0 : T.natAbs * so ≠ 0 := by intro h; apply hp0; rw [hp, h, Nat.zero_div]
      rw [hn]; unfold sgnd zI cs1
      by_cases hT : T < 0 <;> simp [hT, hp0, hx0]
  · rw [hn]; unfold cs1
    by_cases hp0 : p = 0 <;> simp [hp0]
theorem rnd_le_t (t s c : Nat) (hc : c ≤ s) (hs : 0 < s) : rnd t s c ≤ t := by
  have h1 : t * c ≤ t * s := Nat.mul_le_mul_left _ hc
  have h2 := Nat.div_add_mod (t * c) s
  have h3 := Nat.mod_lt (t * c) hs
  unfold rnd
  generalize t * c % s = r at h2 h3 ⊢
  generalize t * c / s = d at h2 ⊢
  have h4 : d ≤ t := by
    have : s * d ≤ s * t := by rw [Nat.mul_comm s t]; omega
    exact Nat.le_of_mul_le_mul_left this hs
  split
  · rename_i h
    have hr : 0 < r := by omega
    rcases Nat.lt_or_ge d t with h5 | h5
    · exact h5
    · have : d = t := by omega
      subst this
      rw [Nat.mul_comm d s] at h1
      omega
  · exact h4
def stepS (T : Int) (t s : Nat) (ws : List Nat) (i : Nat) : Int := sgnd T (rnd t s (sumL (ws.take (i + 1))) : Int) - sgnd T (rnd t s (sumL (ws.take i)) : Int)
def listS (T : Int) (t s : Nat) (ws : List Nat) (k : Nat) : List Int := (List.range k).map (stepS T t s ws)
theorem listS_succ (T : Int) (t s : Nat) (ws : List Nat) (k : Nat) : listS T t s ws (k + 1) = listS T t s ws k ++ [stepS T t s ws k] := by
  unfold listS; rw [List.range_succ, List.map_append]; rfl
theorem spreadL_get (t s : Nat) : ∀ (ws : List Nat) (b c i : Nat), i < ws.length → (spreadL t s b c ws)[i]? = some ((rnd t s (c + sumL (ws.take (i + 1))) : Int) - (if i = 0 then (b : Int) else (rnd t s (c + sumL (ws.take i)) : Int)))
  | [], _, _, _, h => by simp at h
  | w :: ws, b, c, 0, _ => by simp [spreadL, sumL]
  | w :: ws, b, c, i + 1, h => by
    have ih := spreadL_get t s ws (rnd t s (c + w)) (c + w) i (by simpa using h)
    simp only [spreadL, List.getElem?_cons_succ, ih, List.take_succ_cons, sumL, Nat.add_assoc]
    congr 2
    by_cases h0 : i = 0
    · subst h0; simp [sumL]
    · simp [h0]
theorem rnd_zero (t s : Nat) (hs : 0 < s) : rnd t s 0 = 0 := by rw [rnd_hen, Nat.mul_zero, hen_zero s hs]
theorem listS_full (T : Int) (s n : Nat) (ws : List Nat) (hs : 0 < s) (hn : ws.length = n) : listS T T.natAbs s ws n = (if T < 0 then (spreadL T.natAbs s 0 0 ws).map (- ·) else spreadL T.natAbs s 0 0 ws) := by
  rw [sgnd_map]
  apply List.ext_getElem?
  intro i
  by_cases hi : i < n
  · rw [List.getElem?_map, spreadL_get _ _ _ _ _ _ (by omega)]
    unfold listS
    rw [List.getElem?_map, List.getElem?_range hi]
    simp only [Option.map_some, Nat.zero_add]
    congr 1
    unfold stepS
    by_cases h0 : i = 0
    · subst h0
      rw [List.take_zero, if_pos rfl, show sumL ([] : List Nat) = 0 from rfl, rnd_zero _ _ hs]
      unfold sgnd; split <;> simp
    · rw [if_neg h0]
      unfold sgnd; split <;> omega
  · rw [List.getElem?_eq_none (by unfold listS; simp; omega), List.getElem?_eq_none (by rw [List.length_map, spread_len]; omega)]
end Go.Proofs.Ytnkmhbiklffjlaa
