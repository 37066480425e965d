/- The reference's functions of layer 10, walked: digit, letter, Space, digitAt, run, number, next. -/
import Derived.Test.YtjnaeldaajckkaaTokC
set_option linter.unusedVariables false
namespace Go.Proofs.Ytjnaeldaajckkaa
open Go.RowKit Tok

namespace Tok
/-- is the byte at place j the one with this number? -/
def byteIs (s : ByteArray) (j : Nat) (m : Int) : Bool := match s.data.toList[j]? with | some c => (c.toNat : Int) == m | none => false
def digAt (s : ByteArray) (j : Nat) : Bool := match s.data.toList[j]? with | some c => digI c.toNat | none => false
theorem byte_is (s : ByteArray) (j : Nat) (h : j < s.size) (m : Int) : ((s[j].toNat : Int) == m) = byteIs s j m := by
  unfold byteIs; rw [at_data s j h]
theorem dig_is (s : ByteArray) (j : Nat) (h : j < s.size) : digI s[j].toNat = digAt s j := by
  unfold digAt; rw [at_data s j h]
theorem byte_out (s : ByteArray) (j : Nat) (h : ¬ j < s.size) (m : Int) : byteIs s j m = false := by
  unfold byteIs; rw [List.getElem?_eq_none (by simp; omega)]
theorem dig_out (s : ByteArray) (j : Nat) (h : ¬ j < s.size) : digAt s j = false := by
  unfold digAt; rw [List.getElem?_eq_none (by simp; omega)]
theorem runAt_go (s : ByteArray) (j : Nat) (h : digAt s j = true) : runAt s j = 1 + runAt s (j + 1) ∧ j < s.size := by
  by_cases hlt : j < s.size
  · refine ⟨?_, hlt⟩
    unfold digAt at h
    rw [at_data s j hlt] at h
    unfold runAt
    rw [drop_cons s j hlt, runL_cons, if_pos (show dig s[j] = true from h)]
  · rw [dig_out s j hlt] at h; cases h
theorem runAt_no (s : ByteArray) (j : Nat) (h : digAt s j = false) : runAt s j = 0 := by
  by_cases hlt : j < s.size
  · unfold digAt at h
    rw [at_data s j hlt] at h
    unfold runAt
    rw [drop_cons s j hlt, runL_cons, if_neg (by simpa [dig] using h)]
  · unfold runAt; rw [List.drop_eq_nil_of_le (by simp; omega)]; rfl
theorem runAt_le (s : ByteArray) (j : Nat) (h : j ≤ s.size) : j + runAt s j ≤ s.size := by
  have := runL_drop_le s.data.toList j (by simpa using h); rwa [len_data] at this
end Tok

theorem rdigit_any (n : Int) (w : World) :
    Calls Try.prog 66 #[.int .u8 n] w fun e w' => e = .returned (.bool (digI n)) ∧ w = w' := by
  go_enter Try.func66, Try.ntmps66
  go_wp2
  all_goals go_ret
  all_goals (refine ⟨ret_bool ?_, rfl⟩; simp only [digI]; rw [Bool.eq_iff_iff]; simp; omega)
theorem rletter_any (n : Int) (w : World) :
    Calls Try.prog 65 #[.int .u8 n] w fun e w' => e = .returned (.bool (ltrI n)) ∧ w = w' := by
  go_enter Try.func65, Try.ntmps65
  go_wp2
  all_goals go_ret
  all_goals (refine ⟨ret_bool ?_, rfl⟩; simp only [ltrI]; rw [Bool.eq_iff_iff]; simp; omega)
theorem space_any (n : Int) (w : World) :
    Calls Try.prog 43 #[.int .u8 n] w fun e w' => e = .returned (.bool (n == 32 || n == 9 || n == 13 || n == 10)) ∧ w = w' := by
  go_enter Try.func43, Try.ntmps43
  go_wp2
  all_goals go_ret
  all_goals (refine ⟨ret_bool ?_, rfl⟩; simp [*])
theorem digitAt_any (s : ByteArray) (k : Nat) (w : World) :
    Calls Try.prog 67 #[.string s, .int .i64 k] w fun e w' => e = .returned (.bool (digAt s k)) ∧ w = w' := by
  have hd := fun h => dig_is s k h
  go_enter Try.func67, Try.ntmps67
  by_cases hlt : k < s.size
  · go_wp2_with (go_at_call 66; refine (rdigit_any _ _).mono ?_; rintro e w' ⟨rfl, rfl⟩)
    go_ret
    exact ⟨rfl, rfl⟩
  · have HD := Lib.hid (dig_out s k hlt)
    go_wp2
    go_ret
    exact ⟨ret_bool HD.out.symm, rfl⟩

theorem digitAt_i (s : ByteArray) (i : Int) (k : Nat) (w : World) (h : i = k) :
    Calls Try.prog 67 #[.string s, .int .i64 i] w fun e w' => e = .returned (.bool (digAt s k)) ∧ w = w' := by
  subst h; exact digitAt_any s k w

theorem rrun_any (s : ByteArray) (k : Nat) (w : World) (hs : s.size ≤ 1000000000000) (hk : k ≤ 1000000000000) :
    Calls Try.prog 90 #[.string s, .int .i64 k] w fun e w' => e = .returned (.int .i64 (runAt s k)) ∧ w = w' := by
  go_enter Try.func90, Try.ntmps90
  go_wp2
  go_loopg [5] (s.size) (fun m i wr => ∃ n : Nat, n ≤ s.size ∧ s.size - n ≤ m ∧ i = .int .i64 n ∧ wr = w ∧ n + runAt s (k + n) = runAt s k)
  case atStart => exact ⟨0, by omega, by omega, rfl, rfl, by simp⟩
  case round =>
    obtain ⟨n, hn, hm, rfl, rfl, hr⟩ := hrel
    have HR := Lib.hid hr
    clear hr
    obtain ⟨b, hb⟩ : ∃ b, digAt s (k + n) = b := ⟨_, rfl⟩
    cases b with
    | true =>
      have hg := runAt_go s _ hb
      have HG := Lib.hid hg.1
      have hlt := hg.2
      clear hg
      go_wp2_with (go_at_call 67; refine (digitAt_i _ _ (k + n) _ (by omega)).mono ?_; rintro e w' ⟨rfl, rfl⟩)
      go_roundg (gk - 1)
      case rel => exact ⟨n + 1, by omega, by omega, by go_num, rfl, by have := HR.out; rw [HG.out] at this; rw [← Nat.add_assoc]; omega⟩
      case measure => omega
    | false =>
      have HG := Lib.hid (runAt_no s _ hb)
      go_wp2_with (go_at_call 67; refine (digitAt_i _ _ (k + n) _ (by omega)).mono ?_; rintro e w' ⟨rfl, rfl⟩)
      go_ret
      exact ⟨ret_int (by have := HR.out; rw [HG.out] at this; omega), rfl⟩

theorem rrun_i (s : ByteArray) (i : Int) (k : Nat) (w : World) (h : i = k) (hs : s.size ≤ 1000000000000) (hk : k ≤ 1000000000000) :
    Calls Try.prog 90 #[.string s, .int .i64 i] w fun e w' => e = .returned (.int .i64 (runAt s k)) ∧ w = w' := by
  subst h; exact rrun_any s k w hs hk

namespace Tok
def refTail (s : ByteArray) (k : Nat) (minus : Bool) (n1 : Nat) : Int × Nat :=
  let n2 := if byteIs s (k + n1) 46 = true ∧ digAt s (k + n1 + 1) = true then n1 + (1 + runAt s (k + n1 + 1)) else n1
  if minus = false ∧ byteIs s (k + n2) 37 = true then (3, n2 + 1) else (2, n2)
def refNum (s : ByteArray) (k : Nat) : Int × Nat :=
  if byteIs s k 45 = true then refTail s k true (1 + runAt s (k + 1))
  else if runAt s k = 2 ∧ byteIs s (k + 2) 58 = true ∧ runAt s (k + 3) = 2 then (4, 5)
  else refTail s k false (runAt s k)
end Tok

set_option maxRecDepth 100000 in
set_option maxHeartbeats 4000000 in
theorem rnumber_any (s : ByteArray) (k : Nat) (w : World) (hs : s.size ≤ 1000000000) (hk : k < s.size) :
    Calls Try.prog 68 #[.string s, .int .i64 k] w fun e w' => e = .returned (.tuple #[.int .i64 (refNum s k).1, .int .i64 (refNum s k).2]) ∧ w = w' := by
  have hbi := fun j h m => byte_is s j h m
  have l1 := runAt_le s (k + 1) (by omega)
  have l0 := runAt_le s k (by omega)
  go_enter Try.func68, Try.ntmps68
  by_cases c0 : byteIs s k 45 = true
  · go_wp2_with fail
    refine (rrun_i _ _ (k + 1) _ (by omega) (by omega) (by omega)).mono ?_
    rintro e w' ⟨rfl, rfl⟩
    have hF := refNum.eq_1 s k
    rw [if_pos c0, refTail.eq_1] at hF
    obtain ⟨d, hd⟩ : ∃ d, runAt s (k + 1) = d := ⟨_, rfl⟩
    rw [hd] at hF l1
    have HF := Lib.hid hF
    have hP : k + (1 + d) < s.size ∨ (¬ k + (1 + d) < s.size ∧ byteIs s (k + (1 + d)) 46 = false) := by
      by_cases h : k + (1 + d) < s.size
      · exact .inl h
      · exact .inr ⟨h, byte_out s _ h 46⟩
    clear hF
    rcases hP with hP | ⟨hP, hP2⟩
    · have l2 := runAt_le s (k + (1 + d) + 1) (by omega)
      go_wp2_with (first | (go_at_call 67; refine (digitAt_i _ _ (k + (1 + d) + 1) _ (by omega)).mono ?_; rintro e w' ⟨rfl, rfl⟩) | (go_at_call 90; refine (rrun_i _ _ (k + (1 + d) + 1) _ (by omega) (by omega) (by omega)).mono ?_; rintro e w' ⟨rfl, rfl⟩))
      all_goals (go_ret2; refine ⟨?_, rfl⟩; have hF := HF.out; go_light; simp [*])
    · go_wp2
      all_goals (go_ret2; refine ⟨?_, rfl⟩; have hF := HF.out; go_light; simp [*])
  · have hF := refNum.eq_1 s k
    rw [if_neg c0, refTail.eq_1] at hF
    obtain ⟨d, hd⟩ : ∃ d, runAt s k = d := ⟨_, rfl⟩
    rw [hd] at hF l0
    by_cases h2 : d = 2
    · subst h2
      have hP : k + 2 < s.size ∨ (¬ k + 2 < s.size ∧ byteIs s (k + 2) 58 = false ∧ byteIs s (k + 2) 46 = false ∧ byteIs s (k + 2) 37 = false) := by
        by_cases h : k + 2 < s.size
        · exact .inl h
        · exact .inr ⟨h, byte_out s _ h 58, byte_out s _ h 46, byte_out s _ h 37⟩
      simp only [show k + 2 + 1 = k + 3 from rfl] at hF
      obtain ⟨x, hx⟩ : ∃ x, runAt s (k + 3) = x := ⟨_, rfl⟩
      rw [hx] at hF
      rcases hP with hP | ⟨hP, hP1, hP2, hP3⟩
      · have l2 := runAt_le s (k + 3) (by omega)
        rw [hx] at l2
        have hQ : k + (2 + (1 + x)) < s.size ∨ (¬ k + (2 + (1 + x)) < s.size ∧ byteIs s (k + (2 + (1 + x))) 37 = false) := by
          by_cases h : k + (2 + (1 + x)) < s.size
          · exact .inl h
          · exact .inr ⟨h, byte_out s _ h 37⟩
        have hX : x = 2 ∨ (x ≠ 2 ∧ ((x : Int) == 2) = false) := by
          by_cases h : x = 2
          · exact .inl h
          · exact .inr ⟨h, by simp; omega⟩
        rcases hX with rfl | ⟨hX, hX2⟩
        · have HF := Lib.hid hF
          clear hF
          have HX : True := trivial
          simp only [Nat.reduceAdd] at hQ
          rcases hQ with hQ | ⟨hQ, hQ2⟩
          all_goals
           go_wp2_with (first | (go_at_call_of 90 (Value.int IntKind.i64 (k : Int)); refine (rrun_i _ _ k _ (by omega) (by omega) (by omega)).mono ?_; rintro e w' ⟨rfl, rfl⟩) | (go_at_call 67; refine (digitAt_i _ _ (k + 3) _ (by omega)).mono ?_; rintro e w' ⟨rfl, rfl⟩) | (go_at_call 90; refine (rrun_i _ _ (k + 3) _ (by omega) (by omega) (by omega)).mono ?_; rintro e w' ⟨rfl, rfl⟩))
           all_goals (go_ret2; refine ⟨?_, rfl⟩; have hF := HF.out; (try have hX := HX.out); go_light; first | (simp [*]; done) | (simp [*]; omega) | (simp [*] at hF ⊢; simp [hF]; done) | trace_state)
        · have HX := Lib.hid hX
          clear hX
          have HF := Lib.hid hF
          clear hF
          rcases hQ with hQ | ⟨hQ, hQ2⟩
          all_goals
            go_wp2_with (first | (go_at_call_of 90 (Value.int IntKind.i64 (k : Int)); refine (rrun_i _ _ k _ (by omega) (by omega) (by omega)).mono ?_; rintro e w' ⟨rfl, rfl⟩) | (go_at_call 67; refine (digitAt_i _ _ (k + 3) _ (by omega)).mono ?_; rintro e w' ⟨rfl, rfl⟩) | (go_at_call 90; refine (rrun_i _ _ (k + 3) _ (by omega) (by omega) (by omega)).mono ?_; rintro e w' ⟨rfl, rfl⟩))
            all_goals (go_ret2; refine ⟨?_, rfl⟩; have hF := HF.out; (try have hX := HX.out); go_light; first | (simp [*]; done) | (simp [*]; omega) | (simp [*] at hF ⊢; simp [hF]; done) | trace_state)
      · have HF := Lib.hid hF
        clear hF
        go_wp2_with (go_at_call 90; refine (rrun_i _ _ k _ (by omega) (by omega) (by omega)).mono ?_; rintro e w' ⟨rfl, rfl⟩)
        all_goals (go_ret2; refine ⟨?_, rfl⟩; have hF := HF.out; (try have hX := HX.out); go_light; first | (simp [*]; done) | (simp [*]; omega) | (simp [*] at hF ⊢; simp [hF]; done) | trace_state)
    · have b2 : ((d : Int) == 2) = false := by simp; omega
      rw [if_neg (by simp [h2])] at hF
      clear h2
      have hP : k + d < s.size ∨ (¬ k + d < s.size ∧ byteIs s (k + d) 46 = false ∧ byteIs s (k + d) 37 = false) := by
        by_cases h : k + d < s.size
        · exact .inl h
        · exact .inr ⟨h, byte_out s _ h 46, byte_out s _ h 37⟩
      obtain ⟨x, hx⟩ : ∃ x, runAt s (k + d + 1) = x := ⟨_, rfl⟩
      rw [hx] at hF
      have HF := Lib.hid hF
      clear hF
      rcases hP with hP | ⟨hP, hP2, hP3⟩
      · have l2 := runAt_le s (k + d + 1) (by omega)
        rw [hx] at l2
        have hQ : k + (d + (1 + x)) < s.size ∨ (¬ k + (d + (1 + x)) < s.size ∧ byteIs s (k + (d + (1 + x))) 37 = false) := by
          by_cases h : k + (d + (1 + x)) < s.size
          · exact .inl h
          · exact .inr ⟨h, byte_out s _ h 37⟩
        rcases hQ with hQ | ⟨hQ, hQ2⟩
        all_goals
          go_wp2_with (first | (go_at_call_of 90 (Value.int IntKind.i64 (k : Int)); refine (rrun_i _ _ k _ (by omega) (by omega) (by omega)).mono ?_; rintro e w' ⟨rfl, rfl⟩) | (go_at_call 67; refine (digitAt_i _ _ (k + d + 1) _ (by omega)).mono ?_; rintro e w' ⟨rfl, rfl⟩) | (go_at_call 90; refine (rrun_i _ _ (k + d + 1) _ (by omega) (by omega) (by omega)).mono ?_; rintro e w' ⟨rfl, rfl⟩))
          all_goals (go_ret2; refine ⟨?_, rfl⟩; have hF := HF.out; (try have hX := HX.out); go_light; first | (simp [*]; done) | (simp [*]; omega) | (simp [*] at hF ⊢; simp [hF]; done) | trace_state)
      · go_wp2_with (go_at_call 90; refine (rrun_i _ _ k _ (by omega) (by omega) (by omega)).mono ?_; rintro e w' ⟨rfl, rfl⟩)
        all_goals (go_ret2; refine ⟨?_, rfl⟩; have hF := HF.out; (try have hX := HX.out); go_light; first | (simp [*]; done) | (simp [*]; omega) | (simp [*] at hF ⊢; simp [hF]; done) | trace_state)
end Go.Proofs.Ytjnaeldaajckkaa
