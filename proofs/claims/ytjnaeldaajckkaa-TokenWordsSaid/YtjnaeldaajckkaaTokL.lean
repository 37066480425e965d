/- token.Time and the reference's, walked; TokenTimes. -/
import Derived.Test.YtjnaeldaajckkaaTokK
set_option linter.unusedVariables false
set_option linter.unusedSimpArgs false
namespace Go.Proofs.Ytjnaeldaajckkaa
open Go.RowKit Tok

namespace Tok
/-- a digit's byte -/
def dgt (n : Int) : UInt8 := UInt8.ofNat (48 + n.toNat)
/-- the text of a minute of the day -/
def timeT (n : Int) : ByteArray := ⟨#[dgt (n / 60 / 10), dgt (n / 60 % 10), 58, dgt (n % 60 / 10), dgt (n % 10)]⟩
end Tok

set_option maxHeartbeats 2000000 in
theorem time_no (n : Int) (w : World) (h : n < 0 ∨ 1440 ≤ n) :
    Calls Try.prog 26 #[.int .i64 n] w fun e w' => e = .returned (.tuple #[.string ⟨#[]⟩, .int .i64 72]) ∧ Below w.heap.size w w' := by
  go_enter Try.func26, Try.ntmps26
  rcases h with h | h
  · go_wp2
    go_ret2
    exact ⟨rfl, Below.refl _ _⟩
  · have h0 : ¬ n < 0 := by omega
    go_wp2
    go_ret2
    exact ⟨rfl, Below.refl _ _⟩
theorem Tok.dig_ext (d : Int) (h0 : 0 ≤ d) (h1 : d ≤ 9) : (⟨#[48, 49, 50, 51, 52, 53, 54, 55, 56, 57]⟩ : ByteArray).extract d.toNat (d + 1).toNat = ⟨#[dgt d]⟩ := by
  have : d = 0 ∨ d = 1 ∨ d = 2 ∨ d = 3 ∨ d = 4 ∨ d = 5 ∨ d = 6 ∨ d = 7 ∨ d = 8 ∨ d = 9 := by omega
  rcases this with rfl | rfl | rfl | rfl | rfl | rfl | rfl | rfl | rfl | rfl <;> rfl
set_option maxRecDepth 100000 in
set_option maxHeartbeats 2000000 in
theorem time_yes (n : Int) (w : World) (h0 : 0 ≤ n) (h1 : n < 1440) :
    Calls Try.prog 26 #[.int .i64 n] w fun e w' => e = .returned (.tuple #[.string (timeT n), .int .i64 0]) ∧ Below w.heap.size w w' := by
  have hcv := run_convert_bytes_arg (P := Try.prog) (w.alloc (.cells #[.int .u8 (48 + n / 60 / 10), .int .u8 (48 + n / 60 % 10), .int .u8 58, .int .u8 (48 + n % 60 / 10), .int .u8 (48 + n % 10)] 5)) 64 5 Try.underlying64 Try.underlying5 w.heap.size 0 5 5 [48 + n / 60 / 10, 48 + n / 60 % 10, 58, 48 + n % 60 / 10, 48 + n % 10] rfl (fun i hi => by
    have : i = 0 ∨ i = 1 ∨ i = 2 ∨ i = 3 ∨ i = 4 := by omega
    rcases this with rfl | rfl | rfl | rfl | rfl <;> go_cell) 9 Try.underlying9
  have H0 := Lib.hid h0
  go_enter Try.func26, Try.ntmps26
  go_wp2
  go_ret2
  refine ⟨?_, (Below.refl _ _).alloc (Nat.le_refl _) _⟩
  have e : strOfNums [48 + n / 60 / 10, 48 + n / 60 % 10, 58, 48 + n % 60 / 10, 48 + n % 10] = timeT n := by
    have q : ∀ d : Int, 0 ≤ d → (48 + d).toNat = 48 + d.toNat := fun d h => by omega
    simp only [strOfNums, timeT, dgt, List.map_cons, List.map_nil]
    rw [q (n / 60 / 10) (by omega), q (n / 60 % 10) (by omega), q (n % 60 / 10) (by omega), q (n % 10) (by omega)]
    rfl
  rw [← e]
  rfl
set_option maxHeartbeats 2000000 in
theorem two_any (n : Int) (w : World) (h0 : 0 ≤ n) (h1 : n < 60) :
    Calls Try.prog 47 #[.int .i64 n] w fun e w' => e = .returned (.string ⟨#[dgt (n / 10), dgt (n % 10)]⟩) ∧ ∃ m, w' = w.drewN m := by
  have q1 : IntKind.i64.wrap (n / 10 + 1) = n / 10 + 1 := IntWalk.i64_in _ (by omega)
  have q2 : IntKind.i64.wrap (n % 10 + 1) = n % 10 + 1 := IntWalk.i64_in _ (by omega)
  go_enter Try.func47, Try.ntmps47
  go_wp2
  go_quiet (fail)
  go_wp2
  go_ret
  refine ⟨?_, _, rfl⟩
  have e1 := dig_ext (n / 10) (by omega) (by omega)
  have e2 := dig_ext (n % 10) (by omega) (by omega)
  simp only [Array.getD_eq_getD_getElem?]
  show Ending.returned (Value.string ((⟨#[48, 49, 50, 51, 52, 53, 54, 55, 56, 57]⟩ : ByteArray).extract (n / 10).toNat (n / 10 + 1).toNat ++ (⟨#[48, 49, 50, 51, 52, 53, 54, 55, 56, 57]⟩ : ByteArray).extract (n % 10).toNat (n % 10 + 1).toNat)) = _
  rw [e1, e2]
  rfl
set_option maxHeartbeats 2000000 in
theorem rtime_no (n : Int) (w : World) (h : n < 0 ∨ 1440 ≤ n) :
    Calls Try.prog 27 #[.int .i64 n] w fun e w' => e = .returned (.tuple #[.string ⟨#[]⟩, .int .i64 72]) ∧ Below w.heap.size w w' := by
  go_enter Try.func27, Try.ntmps27
  rcases h with h | h
  · go_wp2
    go_ret2
    exact ⟨rfl, Below.refl _ _⟩
  · have h0 : ¬ n < 0 := by omega
    have h2 : 1439 < n := by omega
    go_wp2
    go_ret2
    exact ⟨rfl, Below.refl _ _⟩
set_option maxHeartbeats 2000000 in
theorem rtime_yes (n : Int) (w : World) (h0 : 0 ≤ n) (h1 : n < 1440) :
    Calls Try.prog 27 #[.int .i64 n] w fun e w' => e = .returned (.tuple #[.string (timeT n), .int .i64 0]) ∧ Below w.heap.size w w' := by
  have h2 : ¬ 1439 < n := by omega
  go_enter Try.func27, Try.ntmps27
  go_wp2_with fail
  refine (two_any (n / 60) _ (by omega) (by omega)).mono ?_
  rintro e w1 ⟨rfl, m1, rfl⟩
  go_wp2_with fail
  refine (two_any (n % 60) _ (by omega) (by omega)).mono ?_
  rintro e w2 ⟨rfl, m2, rfl⟩
  go_wp2
  go_ret2
  refine ⟨?_, below_drewN (Below.refl _ _) _⟩
  have e2 : n % 60 % 10 = n % 10 := by omega
  simp only [timeT]
  rfl

theorem fold1440 (n : Int) : 0 ≤ foldI n 1440 ∧ foldI n 1440 < 1440 := foldI_bd n 1440 (by omega)
theorem Tok.min_time (k : Int) (h0 : 0 ≤ k) (h1 : k < 1440) : minR (timeT k) = (k, 0) := by
  obtain ⟨m, rfl⟩ : ∃ m : Nat, k = m := ⟨k.toNat, by omega⟩
  have h : ∀ m : Nat, m < 1440 → minR (timeT m) = ((m : Int), 0) := by decide +kernel
  exact h m (by omega)

theorem minute_b (s : ByteArray) (w : World) (hs : s.size ≤ maxLen) :
    Calls Try.prog 24 #[.string s] w fun e w' => e = .returned (.tuple #[.int .i64 (minR s).1, .int .i64 (minR s).2]) ∧ Below w.heap.size w w' :=
  (minute_any s w hs).mono fun e w' ⟨h1, n, h2⟩ => ⟨h1, by rw [h2]; exact below_drewN (Below.refl _ _) _⟩
theorem rminute_b (s : ByteArray) (w : World) (hs : s.size ≤ maxLen) :
    Calls Try.prog 25 #[.string s] w fun e w' => e = .returned (.tuple #[.int .i64 (minR s).1, .int .i64 (minR s).2]) ∧ Below w.heap.size w w' :=
  (rminute_any s w hs).mono fun e w' ⟨h1, n, h2⟩ => ⟨h1, by rw [h2]; exact below_drewN (Below.refl _ _) _⟩
/-- what Time returns, in and out of its range -/
theorem time_two (n : Int) : ∃ u e, (∀ w, Calls Try.prog 26 #[.int .i64 n] w fun x w' => x = .returned (.tuple #[.string u, .int .i64 e]) ∧ Below w.heap.size w w') ∧
    (∀ w, Calls Try.prog 27 #[.int .i64 n] w fun x w' => x = .returned (.tuple #[.string u, .int .i64 e]) ∧ Below w.heap.size w w') := by
  by_cases h : 0 ≤ n ∧ n < 1440
  · exact ⟨_, _, fun w => time_yes n w h.1 h.2, fun w => rtime_yes n w h.1 h.2⟩
  · exact ⟨_, _, fun w => time_no n w (by omega), fun w => rtime_no n w (by omega)⟩

set_option maxRecDepth 100000 in
set_option maxHeartbeats 2000000 in
theorem times_any (s : ByteArray) (n : Int) (w : World) (hs : s.size ≤ maxLen) :
    Calls Try.prog 8 #[.string s, .int .i64 n] w fun e w' => e = .returned (.bool true) ∧ Below w.heap.size w w' := by
  obtain ⟨u, er, hT, hR⟩ := time_two n
  have HT := Lib.hid hT
  have HR := Lib.hid hR
  clear hT hR
  have hk := fold1440 n
  go_enter Try.func8, Try.ntmps8
  go_wp2_with fail
  refine (minute_b s _ hs).mono ?_
  rintro e w1 ⟨rfl, b1⟩
  go_wp2_with fail
  refine (rminute_b s _ hs).mono ?_
  rintro e w2 ⟨rfl, b2⟩
  generalize (minR s).1 = x1
  generalize (minR s).2 = x2
  go_wp2_with fail
  refine (HT.out _).mono ?_
  rintro e w3 ⟨rfl, b3⟩
  go_wp2_with fail
  refine (HR.out _).mono ?_
  rintro e w4 ⟨rfl, b4⟩
  go_wp2_with fail
  refine (fold_any n 1440 _ (by omega)).mono ?_
  rintro e w5 ⟨rfl, rfl⟩
  generalize foldI n 1440 = k at *
  have hmt := min_time k hk.1 hk.2
  have HM := Lib.hid hmt
  clear hmt
  go_wp2_with fail
  refine (time_yes k _ hk.1 hk.2).mono ?_
  rintro e w6 ⟨rfl, b6⟩
  go_wp2_with fail
  refine (minute_b (timeT k) _ (small_maxLen (show (5 : Nat) ≤ 1000000000 by omega))).mono ?_
  rintro e w7 ⟨rfl, b7⟩
  rw [HM.out]
  go_wp2_with fail
  refine (known_any _).mono ?_
  rintro e w8 ⟨rfl, b8⟩
  go_wp2_with fail
  refine (name_any s _).mono ?_
  rintro e w9 ⟨rfl, b9⟩
  go_wp2_with fail
  refine (rname_any s _).mono ?_
  rintro e w10 ⟨rfl, rfl⟩
  generalize nameB s = nb
  go_wp2
  go_ret
  have g1 := b1.size
  have g2 := b2.size
  have g3 := b3.size
  have g4 := b4.size
  have g6 := b6.size
  have g7 := b7.size
  have g8 := b8.size
  exact ⟨rfl, ((((((b1.trans (b2.mono (by omega))).trans (b3.mono (by omega))).trans (b4.mono (by omega))).trans (b6.mono (by omega))).trans (b7.mono (by omega))).trans (b8.mono (by omega))).trans (b9.mono (by omega))⟩
theorem times_w (s : ByteArray) (n : Int) (w : World) (hs : s.size ≤ maxLen) (_hn : (Lit.int .i64 n).wf = true) :
    Calls Try.prog 8 #[.string s, .int .i64 n] w fun e w' => e = .returned (.bool true) ∧ Below w.heap.size w w' := times_any s n w hs
end Go.Proofs.Ytjnaeldaajckkaa
