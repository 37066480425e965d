/- Names and times: token.Name, Minute, Time and the reference's, walked. -/
import Derived.Test.YtjnaeldaajckkaaTokG
import Derived.BigQuiet
set_option linter.unusedVariables false
set_option linter.unusedSimpArgs false
namespace Go.Proofs.Ytjnaeldaajckkaa
open Go.RowKit Tok

namespace Tok
def namI (n : Int) : Bool := (decide (97 ≤ n) && decide (n ≤ 122)) || (decide (48 ≤ n) && decide (n ≤ 57))
def namesFrom (s : ByteArray) (j : Nat) : Bool := (s.data.toList.drop j).all fun c => namI c.toNat
def nameB (s : ByteArray) : Bool := decide (0 < s.size) && decide (s.size ≤ 16) && !digAt s 0 && namesFrom s 0
theorem names_go (s : ByteArray) (j : Nat) (h : j < s.size) : namesFrom s j = (namI s[j].toNat && namesFrom s (j + 1)) := by
  unfold namesFrom; rw [drop_cons s j h]; rfl
theorem names_end (s : ByteArray) (j : Nat) (h : ¬ j < s.size) : namesFrom s j = true := by
  unfold namesFrom; rw [List.drop_eq_nil_of_le (by simp; omega)]; rfl
theorem namI_yes {n : Int} (h : ¬ ((n < 97 ∨ 122 < n) ∧ (n < 48 ∨ 57 < n))) : namI n = true := by
  simp only [namI, Bool.or_eq_true, Bool.and_eq_true, decide_eq_true_eq]; omega
theorem namI_no {n : Int} (h : (n < 97 ∨ 122 < n) ∧ (n < 48 ∨ 57 < n)) : namI n = false := by
  cases hh : namI n
  · rfl
  · simp only [namI, Bool.or_eq_true, Bool.and_eq_true, decide_eq_true_eq] at hh; omega
end Tok

set_option maxHeartbeats 1000000 in
theorem name_any (s : ByteArray) (w : World) :
    Calls Try.prog 29 #[.string s] w fun e w' => e = .returned (.bool (nameB s)) ∧ Below w.heap.size w w' := by
  have hF := nameB.eq_1 s
  have hd := fun h => dig_is s 0 h
  by_cases h0 : 0 < s.size
  · have z0 : ((s.size : Int) == 0) = false := beq_eq_false_iff_ne.2 (by omega)
    by_cases h1 : s.size ≤ 16
    · have z1 : ¬ (16 : Int) < s.size := by omega
      cases h2 : digAt s 0 with
      | true =>
        have HF := Lib.hid (show nameB s = false by rw [hF, h2]; simp)
        clear hF
        go_enter Try.func29, Try.ntmps29
        go_wp2_with (go_at_call 48; refine (digit_any _ _).mono ?_; rintro e w' ⟨rfl, rfl⟩)
        go_ret
        exact ⟨ret_bool HF.out.symm, Below.refl _ _⟩
      | false =>
        have HF := Lib.hid (show nameB s = namesFrom s 0 by rw [hF, h2]; simp [h0, h1])
        clear hF
        go_enter Try.func29, Try.ntmps29
        go_wp2_with (go_at_call 48; refine (digit_any _ _).mono ?_; rintro e w' ⟨rfl, rfl⟩)
        go_loopg [] (s.size) (fun n wr => ∃ k : Nat, k ≤ s.size ∧ s.size - k ≤ n ∧ wr = w.iter s k ∧ namesFrom s k = nameB s)
        case atStart => exact ⟨0, Nat.zero_le _, Nat.le_refl _, rfl, HF.out.symm⟩
        case round =>
          obtain ⟨k, hk, hn, rfl, hr⟩ := hrel
          by_cases hlt : k < s.size
          · rw [names_go s k hlt] at hr
            have HR := Lib.hid hr
            clear hr
            by_cases ha : s[k].toNat < 128
            · have hnx := fun ty => run_next_ascii (P := Try.prog) w s k ty hlt ha
              go_wp2
              all_goals first
                | (go_ret; exact ⟨ret_bool (by rw [← HR.out, namI_no (by go_light; omega)]; rfl), below_iter _ _ _⟩)
                | (go_roundg (gk - 1)
                   case measure => omega
                   case rel => exact ⟨k + 1, by omega, by omega, rfl, by rw [← HR.out, namI_yes (by go_light; omega)]; simp⟩)
            · have hnx := fun ty => run_next_any (P := Try.prog) w s k ty hlt
              have hd := (decode_high s k hlt (by omega)).1
              have HN := Lib.hid (show namI s[k].toNat = false from namI_no (by omega))
              generalize Utf8.decode s k = D at hnx hd
              have h5 : 122 < (D.1 : Int) := by omega
              have h6 : 57 < (D.1 : Int) := by omega
              go_wp2
              go_ret
              exact ⟨ret_bool (by rw [← HR.out, HN.out]; rfl), below_iter _ _ _⟩
          · have hnx := fun ty => run_next_end (P := Try.prog) w s k ty hlt
            rw [names_end s k hlt] at hr
            have HR := Lib.hid hr
            clear hr
            go_wp2
            go_ret
            exact ⟨ret_bool HR.out, below_iter _ _ _⟩
    · have z1 : (16 : Int) < s.size := by omega
      have HF := Lib.hid (show nameB s = false by rw [hF]; simp [h1])
      clear hF
      go_enter Try.func29, Try.ntmps29
      go_wp2
      go_ret
      exact ⟨ret_bool HF.out.symm, Below.refl _ _⟩
  · have z0 : ((s.size : Int) == 0) = true := beq_iff_eq.2 (by omega)
    have HF := Lib.hid (show nameB s = false by rw [hF]; simp [h0])
    clear hF
    go_enter Try.func29, Try.ntmps29
    go_wp2
    go_ret
    exact ⟨ret_bool HF.out.symm, Below.refl _ _⟩

set_option maxHeartbeats 1000000 in
theorem usable_any (s : ByteArray) (w : World) :
    Calls Try.prog 49 #[.string s] w fun e w' => e = .returned (.bool (nameB s)) ∧ w = w' := by
  have hF := nameB.eq_1 s
  by_cases h0 : 0 < s.size
  · have z0 : ¬ (s.size : Int) < 1 := by omega
    by_cases h1 : s.size ≤ 16
    · have z1 : ¬ (16 : Int) < s.size := by omega
      have hd := dig_is s 0 h0
      cases h2 : digAt s 0 with
      | true =>
        rw [h2] at hd
        simp only [digI, Bool.and_eq_true, decide_eq_true_eq] at hd
        have HF := Lib.hid (show nameB s = false by rw [hF, h2]; simp)
        clear hF
        obtain ⟨d1, d2⟩ := hd
        go_enter Try.func49, Try.ntmps49
        go_wp2
        go_ret
        exact ⟨ret_bool HF.out.symm, rfl⟩
      | false =>
        rw [h2] at hd
        have hd : (s[0].toNat : Int) < 48 ∨ (48 ≤ (s[0].toNat : Int) ∧ 57 < (s[0].toNat : Int)) := by
          simp only [digI, Bool.and_eq_false_iff, decide_eq_false_iff_not] at hd; omega
        have HF := Lib.hid (show nameB s = namesFrom s 0 by rw [hF, h2]; simp [h0, h1])
        clear hF
        go_enter Try.func49, Try.ntmps49
        rcases hd with d1 | ⟨d1, d2⟩
        all_goals
          go_wp2
          go_loopg [3] (s.size) (fun n i wr => ∃ k : Nat, k ≤ s.size ∧ s.size - k ≤ n ∧ wr = w ∧ i = .int .i64 k ∧ namesFrom s k = nameB s)
          case atStart => exact ⟨0, Nat.zero_le _, Nat.le_refl _, rfl, rfl, HF.out.symm⟩
          case round =>
            obtain ⟨k, hk, hn, rfl, rfl, hr⟩ := hrel
            by_cases hlt : k < s.size
            · rw [names_go s k hlt] at hr
              have HR := Lib.hid hr
              clear hr
              go_wp2
              all_goals first
                | (go_ret; exact ⟨ret_bool (by rw [← HR.out, namI_no (by go_light; omega)]; rfl), rfl⟩)
                | (go_roundg (gk - 1)
                   case measure => omega
                   case rel => exact ⟨k + 1, by omega, by omega, rfl, by go_num, by rw [← HR.out, namI_yes (by go_light; omega)]; simp⟩)
            · rw [names_end s k hlt] at hr
              have HR := Lib.hid hr
              clear hr
              go_wp2
              go_ret
              exact ⟨ret_bool HR.out, rfl⟩
    · have z1 : (16 : Int) < s.size := by omega
      have HF := Lib.hid (show nameB s = false by rw [hF]; simp [h1])
      clear hF
      go_enter Try.func49, Try.ntmps49
      go_wp2
      go_ret
      exact ⟨ret_bool HF.out.symm, rfl⟩
  · have z0 : (s.size : Int) < 1 := by omega
    have HF := Lib.hid (show nameB s = false by rw [hF]; simp [h0])
    clear hF
    go_enter Try.func49, Try.ntmps49
    go_wp2
    go_ret
    exact ⟨ret_bool HF.out.symm, rfl⟩
theorem rname_any (s : ByteArray) (w : World) :
    Calls Try.prog 30 #[.string s] w fun e w' => e = .returned (.bool (nameB s)) ∧ w = w' := by
  go_enter Try.func30, Try.ntmps30
  go_wp2_with (go_at_call 49; refine (usable_any _ _).mono ?_; rintro e w' ⟨rfl, rfl⟩)
  go_ret
  exact ⟨rfl, rfl⟩

namespace Tok
/-- the digit at place j, as a number -/
def dv (s : ByteArray) (j : Nat) : Int := ((s.data.toList.getD j 0).toNat : Int) - 48
theorem dv_is (s : ByteArray) (j : Nat) (h : j < s.size) : dv s j = (s[j].toNat : Int) - 48 := by
  unfold dv; rw [List.getD_eq_getElem?_getD, at_data s j h]; rfl
def minR (s : ByteArray) : Int × Int :=
  if s.size = 5 ∧ timeB s.data.toList = true then
    if 24 ≤ 10 * dv s 0 + dv s 1 ∨ 60 ≤ 10 * dv s 3 + dv s 4 then (0, 100) else (60 * (10 * dv s 0 + dv s 1) + (10 * dv s 3 + dv s 4), 0)
  else (0, 100)
theorem time_digits (s : ByteArray) (h5 : s.size = 5) (ht : timeB s.data.toList = true) : (0 ≤ dv s 0 ∧ dv s 0 ≤ 9) ∧ (0 ≤ dv s 1 ∧ dv s 1 ≤ 9) ∧ (0 ≤ dv s 3 ∧ dv s 3 ≤ 9) ∧ (0 ≤ dv s 4 ∧ dv s 4 ≤ 9) := by
  simp only [timeB, Bool.and_eq_true, beq_iff_eq] at ht
  have h0 : runAt s 0 = 2 := ht.1.1
  have h3 : runAt s 3 = 2 := ht.2
  have one : ∀ j, j < s.size → 0 < runAt s j → (0 ≤ dv s j ∧ dv s j ≤ 9) ∧ runAt s j = 1 + runAt s (j + 1) := by
    intro j hj hr
    have hd : digAt s j = true := by rw [digAt_run]; simpa using hr
    refine ⟨?_, (runAt_go s j hd).1⟩
    rw [dv_is s j hj]
    rw [← dig_is s j hj] at hd
    simp only [digI, Bool.and_eq_true, decide_eq_true_eq] at hd
    omega
  have a := one 0 (by omega) (by omega)
  have a2 : runAt s 0 = 1 + runAt s 1 := a.2
  have b := one 1 (by omega) (by omega)
  have c := one 3 (by omega) (by omega)
  have c2 : runAt s 3 = 1 + runAt s 4 := c.2
  have d := one 4 (by omega) (by omega)
  exact ⟨a.1, b.1, c.1, d.1⟩
end Tok

set_option maxHeartbeats 2000000 in
theorem minute_any (s : ByteArray) (w : World) (hs : s.size ≤ maxLen) :
    Calls Try.prog 24 #[.string s] w fun e w' => e = .returned (.tuple #[.int .i64 (minR s).1, .int .i64 (minR s).2]) ∧ ∃ n, w' = w.drewN n := by
  have hs' := hs
  have hF := minR.eq_1 s
  go_enter Try.func24, Try.ntmps24
  by_cases h5 : s.size = 5
  · have z5 : ((s.size : Int) != 5) = false := by simp [h5]
    cases ht : timeB s.data.toList with
    | true =>
      rw [if_pos ⟨h5, ht⟩] at hF
      have hd := time_digits s h5 ht
      have l0 : 0 < s.size := by omega
      have l1 : 1 < s.size := by omega
      have l3 : 3 < s.size := by omega
      have l4 : 4 < s.size := by omega
      have v0 := dv_is s 0 l0
      have v1 := dv_is s 1 l1
      have v3 := dv_is s 3 l3
      have v4 := dv_is s 4 l4
      generalize dv s 0 = a at *
      generalize dv s 1 = b at *
      generalize dv s 3 = c at *
      generalize dv s 4 = d at *
      obtain ⟨⟨a0, a9⟩, ⟨b0, b9⟩, ⟨c0, c9⟩, ⟨d0, d9⟩⟩ := hd
      have s0 : (s[0].toNat : Int) = a + 48 := by omega
      have s1 : (s[1].toNat : Int) = b + 48 := by omega
      have s3 : (s[3].toNat : Int) = c + 48 := by omega
      have s4 : (s[4].toNat : Int) = d + 48 := by omega
      clear h5 v0 v1 v3 v4
      have HF := Lib.hid hF
      clear hF
      go_wp2_with (go_at_call 45; refine (time_any _ _ hs').mono ?_; rintro e w' ⟨rfl, rfl⟩)
      go_quiet (fail)
      go_wp2
      all_goals
        go_ret2
        refine ⟨ret2_int ?_ ?_, _, rfl⟩
        all_goals (rw [HF.out]; go_light; split <;> simp only <;> omega)
    | false =>
      have HF := Lib.hid (show minR s = (0, 100) by rw [hF, if_neg (by simp [ht])])
      clear hF h5
      go_wp2_with (go_at_call 45; refine (time_any _ _ hs').mono ?_; rintro e w' ⟨rfl, rfl⟩)
      go_ret2
      exact ⟨ret2_int (by rw [HF.out]) (by rw [HF.out]), 0, rfl⟩
  · have z5 : ((s.size : Int) != 5) = true := by simp; omega
    have HF := Lib.hid (show minR s = (0, 100) by rw [hF, if_neg (by simp [h5])])
    clear hF h5
    go_wp2
    go_ret2
    exact ⟨ret2_int (by rw [HF.out]) (by rw [HF.out]), 0, rfl⟩

/-! ### the reference's Kind and Minute -/
namespace Tok
def kindR (s : ByteArray) : Int := if s.size = 0 ∨ 65536 < s.size then 0 else if lenL s.data.toList = s.size then kindL s.data.toList else 0
theorem dropD0 (s : ByteArray) : dropD s 0 = s.data.toList := rfl
end Tok
theorem kind_any (s : ByteArray) (w : World) (hs : s.size ≤ maxLen) :
    Calls Try.prog 46 #[.string s] w fun e w' => e = .returned (.int .i64 (kindR s)) ∧ w = w' := by
  have hF := kindR.eq_1 s
  unfold maxLen at hs
  go_enter Try.func46, Try.ntmps46
  by_cases h0 : s.size = 0
  · have z0 : ((s.size : Int) == 0) = true := beq_iff_eq.2 (by omega)
    rw [if_pos (.inl h0)] at hF
    have HF := Lib.hid hF
    clear hF h0
    go_wp2
    go_ret
    exact ⟨ret_int HF.out.symm, rfl⟩
  · have z0 : ((s.size : Int) == 0) = false := beq_eq_false_iff_ne.2 (by omega)
    by_cases h1 : 65536 < s.size
    · have z1 : (65536 : Int) < s.size := by omega
      rw [if_pos (.inr h1)] at hF
      have HF := Lib.hid hF
      clear hF h0 h1
      go_wp2
      go_ret
      exact ⟨ret_int HF.out.symm, rfl⟩
    · have z1 : ¬ (65536 : Int) < s.size := by omega
      rw [if_neg (by omega)] at hF
      have hb : s.size ≤ 1000000000 := by omega
      have hp : 0 < s.size := by omega
      have hl : lenL s.data.toList ≤ s.size := by
        rcases lenL_le s.data.toList with h | h
        · rwa [len_data] at h
        · exfalso; have : s.size = 0 := by rw [← len_data, h]; rfl
          omega
      rw [← dropD0] at hF hl
      generalize hn : lenL (dropD s 0) = n at *
      generalize hk : kindL (dropD s 0) = kd at *
      by_cases h2 : n = s.size
      · rw [if_pos h2] at hF
        have z2 : ((n : Int) != s.size) = false := by simp [h2]
        have HF := Lib.hid hF
        clear hF h0 h2
        go_wp2_with (go_at_call 44; refine (rnext_at s 0 _ hb hp).mono ?_; rintro e w' ⟨rfl, rfl⟩)
        go_ret
        exact ⟨ret_int HF.out.symm, rfl⟩
      · rw [if_neg h2] at hF
        have z2 : ((n : Int) != s.size) = true := by simp; omega
        have HF := Lib.hid hF
        clear hF h0 h2
        go_wp2_with (go_at_call 44; refine (rnext_at s 0 _ hb hp).mono ?_; rintro e w' ⟨rfl, rfl⟩)
        go_ret
        exact ⟨ret_int HF.out.symm, rfl⟩
namespace Tok
/-- a text is one token that is a time, where the program finds a time of day -/
theorem kind_time (s : ByteArray) : (kindR s = 4) ↔ (s.size = 5 ∧ timeB s.data.toList = true) := by
  have hd : (⟨s.data.toList.toArray⟩ : ByteArray).data.toList = s.data.toList := by simp
  have hl : timeB s.data.toList = true → wordL s.data.toList = 0 ∧ s.size ≠ 0 := by
    intro h
    simp only [timeB, Bool.and_eq_true, beq_iff_eq] at h
    have h1 := h.1.1
    cases hs : s.data.toList with
    | nil => rw [hs] at h1; simp [runL] at h1
    | cons c t =>
      rw [hs, runL_cons] at h1
      by_cases hc : dig c = true
      · refine ⟨?_, ?_⟩
        · rw [wordL, if_neg (by simp [(dig_low c hc).1])]
        · intro h0; have := congrArg List.length hs; rw [len_data, h0] at this; simp at this
      · rw [if_neg hc] at h1; omega
  unfold kindR
  constructor
  · intro h
    split at h
    · omega
    · split at h
      · rename_i h1 h2
        unfold kindL firstK at h
        unfold lenL firstN at h2
        rw [hd] at h h2
        by_cases w0 : 0 < wordL s.data.toList
        · rw [if_pos w0] at h; omega
        · rw [if_neg w0] at h h2
          by_cases t0 : timeB s.data.toList = true
          · rw [if_pos t0] at h2; exact ⟨h2.symm, t0⟩
          · rw [if_neg t0] at h
            split at h
            · split at h <;> omega
            · split at h <;> omega
      · omega
  · rintro ⟨h5, ht⟩
    have hw := hl ht
    rw [if_neg (show ¬ (s.size = 0 ∨ 65536 < s.size) by omega)]
    unfold lenL firstN kindL firstK
    have w0 : ¬ 0 < wordL s.data.toList := by omega
    rw [hd, if_neg w0, if_neg w0, if_pos ht, if_pos ht, if_pos h5.symm]
end Tok
set_option maxHeartbeats 2000000 in
theorem rminute_any (s : ByteArray) (w : World) (hs : s.size ≤ maxLen) :
    Calls Try.prog 25 #[.string s] w fun e w' => e = .returned (.tuple #[.int .i64 (minR s).1, .int .i64 (minR s).2]) ∧ ∃ n, w' = w.drewN n := by
  have hs' := hs
  have hF := minR.eq_1 s
  have hkt := kind_time s
  go_enter Try.func25, Try.ntmps25
  by_cases hk : kindR s = 4
  · have z5 : (kindR s != 4) = false := by simp [hk]
    obtain ⟨h5, ht⟩ := hkt.1 hk
    rw [if_pos ⟨h5, ht⟩] at hF
    have hd := time_digits s h5 ht
    have l0 : 0 < s.size := by omega
    have l1 : 1 < s.size := by omega
    have l3 : 3 < s.size := by omega
    have l4 : 4 < s.size := by omega
    have v0 := dv_is s 0 l0
    have v1 := dv_is s 1 l1
    have v3 := dv_is s 3 l3
    have v4 := dv_is s 4 l4
    generalize dv s 0 = a at *
    generalize dv s 1 = b at *
    generalize dv s 3 = c at *
    generalize dv s 4 = d at *
    obtain ⟨⟨a0, a9⟩, ⟨b0, b9⟩, ⟨c0, c9⟩, ⟨d0, d9⟩⟩ := hd
    have s0 : (s[0].toNat : Int) = a + 48 := by omega
    have s1 : (s[1].toNat : Int) = b + 48 := by omega
    have s3 : (s[3].toNat : Int) = c + 48 := by omega
    have s4 : (s[4].toNat : Int) = d + 48 := by omega
    clear h5 v0 v1 v3 v4 hk hkt
    have HF := Lib.hid hF
    clear hF
    go_wp2_with (go_at_call 46; refine (kind_any _ _ hs').mono ?_; rintro e w' ⟨rfl, rfl⟩)
    go_quiet (fail)
    go_wp2
    all_goals
      go_ret2
      refine ⟨ret2_int ?_ ?_, _, rfl⟩
      all_goals (rw [HF.out]; go_light; split <;> simp only <;> omega)
  · have z5 : (kindR s != 4) = true := by simpa using hk
    have HF := Lib.hid (show minR s = (0, 100) by rw [hF, if_neg (fun h => hk (hkt.2 h))])
    clear hF hkt hk
    go_wp2_with (go_at_call 46; refine (kind_any _ _ hs').mono ?_; rintro e w' ⟨rfl, rfl⟩)
    go_ret2
    exact ⟨ret2_int (by rw [HF.out]) (by rw [HF.out]), 0, rfl⟩
end Go.Proofs.Ytjnaeldaajckkaa
