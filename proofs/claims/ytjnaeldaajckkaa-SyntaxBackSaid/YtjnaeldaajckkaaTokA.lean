/- The small functions of package token, walked: digit, letter, run, word, time: what each returns, for every text. -/
import Derived.Test.YtjnaeldaajckkaaProg
import Derived.WalkKit
import Derived.Lib.Hide
import Derived.Deep.LoopGhost
import Derived.Deep.Light
import Derived.WalkSpells
import Derived.WalkLawsBesides
namespace Go.Proofs.Ytjnaeldaajckkaa
open Go.RowKit

namespace Tok
def digI (n : Int) : Bool := decide (48 ≤ n) && decide (n ≤ 57)
def dig (c : UInt8) : Bool := digI c.toNat
def ltrI (n : Int) : Bool := (decide (97 ≤ n) && decide (n ≤ 122)) || (decide (65 ≤ n) && decide (n ≤ 90))
def runL (l : List UInt8) : Nat := (l.takeWhile dig).length
theorem runL_cons (c : UInt8) (l : List UInt8) : runL (c :: l) = if dig c then 1 + runL l else 0 := by
  unfold runL; rw [List.takeWhile_cons]; split <;> simp; omega
theorem runL_le (l : List UInt8) : runL l ≤ l.length := (List.takeWhile_prefix dig).length_le
theorem drop_cons (s : ByteArray) (k : Nat) (h : k < s.size) : s.data.toList.drop k = s[k] :: s.data.toList.drop (k + 1) := by
  rw [List.drop_eq_getElem_cons (by simpa using h)]; rfl
end Tok
open Tok

theorem ret_bool {a b : Bool} (h : a = b) : Ending.returned (.bool a) = .returned (.bool b) := by rw [h]
theorem ret_int {k : IntKind} {a b : Int} (h : a = b) : Ending.returned (.int k a) = .returned (.int k b) := by rw [h]

theorem digit_any (n : Int) (w : World) :
    Calls Try.prog 48 #[.int .u8 n] w fun e w' => e = .returned (.bool (digI n)) ∧ w = w' := by
  go_enter Try.func48, Try.ntmps48
  go_wp2
  all_goals go_ret
  · have h : 48 ≤ n := by assumption
    exact ⟨ret_bool (by simp [digI, h]), rfl⟩
  · have h : n < 48 := by assumption
    exact ⟨ret_bool (by simp [digI]; omega), rfl⟩

theorem letter_any (n : Int) (w : World) :
    Calls Try.prog 88 #[.int .i32 n] w fun e w' => e = .returned (.bool (ltrI n)) ∧ w = w' := by
  go_enter Try.func88, Try.ntmps88
  go_wp2
  all_goals go_ret
  all_goals refine ⟨ret_bool ?_, rfl⟩
  all_goals simp only [ltrI]
  all_goals (rw [Bool.eq_iff_iff]; simp; omega)

set_option maxHeartbeats 400000 in
theorem run_any (s : ByteArray) (w : World) (hs : s.size ≤ maxLen) :
    Calls Try.prog 69 #[.string s] w fun e w' => e = .returned (.int .i64 (runL s.data.toList)) ∧ w = w' := by
  unfold maxLen at hs
  go_enter Try.func69, Try.ntmps69
  go_wp2
  go_loop [3] (fun i => ∃ k : Nat, k ≤ s.size ∧ i = .int .i64 k ∧ k + runL (s.data.toList.drop k) = runL s.data.toList) (fun i => s.size - (intOf i).toNat)
  case atStart => exact ⟨0, Nat.zero_le _, rfl, by simp⟩
  case round =>
    obtain ⟨k, hk, rfl, hr⟩ := hrel
    by_cases hlt : k < s.size
    · rw [drop_cons s k hlt, runL_cons] at hr
      unfold dig at hr
      by_cases hd : digI s[k].toNat = true
      · rw [if_pos hd] at hr
        have HR := Lib.hid hr
        clear hr
        go_wp2_with (go_at_call 48; refine (digit_any _ _).mono ?_; rintro e w' ⟨rfl, rfl⟩)
        go_round
        case rel => exact ⟨k + 1, by omega, by go_num, by have := HR.out; omega⟩
        case measure => simp [intOf]; omega
      · rw [if_neg hd] at hr
        have HR := Lib.hid hr
        clear hr
        have hd' : digI s[k].toNat = false := by simpa using hd
        clear hd
        go_wp2_with (go_at_call 48; refine (digit_any _ _).mono ?_; rintro e w' ⟨rfl, rfl⟩)
        go_ret
        exact ⟨ret_int (by have := HR.out; omega), rfl⟩
    · have he : s.data.toList.drop k = [] := List.drop_eq_nil_of_le (by simp; omega)
      rw [he] at hr
      have HR := Lib.hid hr
      clear hr he
      go_wp2
      go_ret
      exact ⟨ret_int (by have := HR.out; simp [runL] at this ⊢; omega), rfl⟩


namespace Tok
def wch (c : UInt8) : Bool := ltrI c.toNat || digI c.toNat || (c.toNat == 95)
def wordL : List UInt8 → Nat
  | [] => 0
  | c :: t => if ltrI c.toNat then 1 + (t.takeWhile wch).length else 0
/-- what the word's length is, said at place k of the text -/
def wordAt (k : Nat) (l : List UInt8) : Nat := k + if k = 0 then wordL (l.drop k) else ((l.drop k).takeWhile wch).length
theorem wordAt_zero (l : List UInt8) : wordAt 0 l = wordL l := by simp [wordAt]
theorem wordAt_end (s : ByteArray) (k : Nat) (h : s.size ≤ k) : wordAt k s.data.toList = k := by
  have he : s.data.toList.drop k = [] := List.drop_eq_nil_of_le (by simp; omega)
  unfold wordAt; rw [he]; split <;> simp [wordL]
theorem wordAt_go (s : ByteArray) (k : Nat) (h : k < s.size) (hc : ltrI s[k].toNat = true ∨ (k ≠ 0 ∧ wch s[k] = true)) : wordAt k s.data.toList = wordAt (k + 1) s.data.toList := by
  unfold wordAt
  rw [drop_cons s k h]
  by_cases hk : k = 0
  · have hl : ltrI s[k].toNat = true := by rcases hc with h | h; exact h; exact absurd hk h.1
    rw [if_pos hk, if_neg (by omega), wordL, if_pos hl]; omega
  · have hw : wch s[k] = true := by rcases hc with h | h; simp [wch, h]; exact h.2
    rw [if_neg hk, if_neg (by omega), List.takeWhile_cons, if_pos hw]; simp; omega
theorem wordAt_no (s : ByteArray) (k : Nat) (h : k < s.size) (hl : ltrI s[k].toNat = false) (hc : k = 0 ∨ wch s[k] = false) : wordAt k s.data.toList = k := by
  unfold wordAt
  rw [drop_cons s k h]
  by_cases hk : k = 0
  · rw [if_pos hk, wordL, if_neg (by simp [hl])]; rfl
  · have hw : wch s[k] = false := by rcases hc with h | h; exact absurd h hk; exact h
    rw [if_neg hk, List.takeWhile_cons, if_neg (by simp [hw])]; rfl
theorem wch_no {c : UInt8} (hl : ltrI c.toNat = false) (h1 : (c.toNat : Int) < 48 ∨ 57 < (c.toNat : Int)) (h2 : ¬ (c.toNat : Int) = 95) : wch c = false := by
  have : ¬ c.toNat = 95 := by omega
  unfold wch; simp [hl, digI, this]; omega
theorem wch_dig {c : UInt8} (h1 : 48 ≤ (c.toNat : Int)) (h2 : (c.toNat : Int) ≤ 57) : wch c = true := by
  unfold wch; simp [digI]; omega
theorem wch_und {c : UInt8} (h1 : (c.toNat : Int) = 95) : wch c = true := by
  have : c.toNat = 95 := by omega
  unfold wch; simp [this]
theorem ltr_high {n : Int} (h : 128 ≤ n) : ltrI n = false := by simp [ltrI]; omega
end Tok

theorem below_iter (w : World) (s : ByteArray) (k : Nat) : Below w.heap.size w (w.iter s k) := (Below.refl _ _).alloc (Nat.le_refl _) _

set_option maxHeartbeats 400000 in
theorem word_any (s : ByteArray) (w : World) :
    Calls Try.prog 62 #[.string s] w fun e w' => e = .returned (.int .i64 (wordL s.data.toList)) ∧ Below w.heap.size w w' := by
  go_enter Try.func62, Try.ntmps62
  go_wp2
  go_loopg [] (s.size) (fun n wr => ∃ k : Nat, k ≤ s.size ∧ s.size - k ≤ n ∧ wr = w.iter s k ∧ wordAt k s.data.toList = wordL s.data.toList)
  case atStart => exact ⟨0, Nat.zero_le _, Nat.le_refl _, rfl, wordAt_zero _⟩
  case round =>
    obtain ⟨k, hk, hn, rfl, hr⟩ := hrel
    have HR := Lib.hid hr
    clear hr
    by_cases hlt : k < s.size
    · by_cases ha : s[k].toNat < 128
      · have hnx := fun ty => run_next_ascii (P := Try.prog) w s k ty hlt ha
        by_cases hl : ltrI s[k].toNat = true
        · go_wp2_with (go_at_call 88; refine (letter_any _ _).mono ?_; rintro e w' ⟨rfl, rfl⟩)
          go_roundg (gk - 1)
          case rel => exact ⟨k + 1, by omega, by omega, rfl, by rw [← wordAt_go s k hlt (.inl hl)]; exact HR.out⟩
          case measure => omega
        · have hl' : ltrI s[k].toNat = false := by simpa using hl
          clear hl
          by_cases hk0 : k = 0
          · have HZ := Lib.hid hk0
            have hz : ((k : Int) == 0) = true := by simp [hk0]
            clear hk0
            go_wp2_with (go_at_call 88; refine (letter_any _ _).mono ?_; rintro e w' ⟨rfl, rfl⟩)
            go_ret
            exact ⟨ret_int (by rw [← HR.out, wordAt_no s k hlt hl' (.inl HZ.out)]), below_iter _ _ _⟩
          · have hz : ((k : Int) == 0) = false := by simp [hk0]
            have HZ := Lib.hid hk0
            clear hk0
            by_cases hw : wch s[k] = true
            · have hc : (48 ≤ (s[k].toNat : Int) ∧ (s[k].toNat : Int) ≤ 57) ∨ (s[k].toNat : Int) = 95 := by
                simp [wch, hl', digI] at hw; omega
              have HW := Lib.hid hw
              clear hw
              rcases hc with ⟨h1, h2⟩ | h95
              · go_wp2_with (go_at_call 88; refine (letter_any _ _).mono ?_; rintro e w' ⟨rfl, rfl⟩)
                go_roundg (gk - 1)
                case rel => exact ⟨k + 1, by omega, by omega, rfl, by rw [← wordAt_go s k hlt (.inr ⟨HZ.out, HW.out⟩)]; exact HR.out⟩
                case measure => omega
              · have h1 : 57 < (s[k].toNat : Int) := by omega
                have h2 : ((s[k].toNat : Int) != 95) = false := by simp [h95]
                clear h95
                go_wp2_with (go_at_call 88; refine (letter_any _ _).mono ?_; rintro e w' ⟨rfl, rfl⟩)
                go_roundg (gk - 1)
                case rel => exact ⟨k + 1, by omega, by omega, rfl, by rw [← wordAt_go s k hlt (.inr ⟨HZ.out, HW.out⟩)]; exact HR.out⟩
                case measure => omega
            · have hw' : wch s[k] = false := by simpa using hw
              have hc : ((s[k].toNat : Int) < 48 ∨ 57 < (s[k].toNat : Int)) ∧ ¬ (s[k].toNat : Int) = 95 := by
                simp [wch, hl', digI] at hw'; omega
              have HW := Lib.hid hw'
              clear hw hw'
              obtain ⟨hc, h95⟩ := hc
              have h2 : ((s[k].toNat : Int) != 95) = true := by simpa using h95
              clear h95
              rcases hc with h1 | h1
              all_goals
                go_wp2_with (go_at_call 88; refine (letter_any _ _).mono ?_; rintro e w' ⟨rfl, rfl⟩)
                go_ret
                exact ⟨ret_int (by rw [← HR.out, wordAt_no s k hlt hl' (.inr HW.out)]), below_iter _ _ _⟩
      · have hnx := fun ty => run_next_any (P := Try.prog) w s k ty hlt
        have hd := (decode_high s k hlt (by omega)).1
        have hno : wordAt k s.data.toList = k := wordAt_no s k hlt (ltr_high (by omega)) (.inr (wch_no (ltr_high (by omega)) (by omega) (by omega)))
        have HN := Lib.hid hno
        clear hno
        generalize Utf8.decode s k = D at hnx hd
        have hl' : ltrI D.1 = false := ltr_high (by omega)
        have h1 : 57 < (D.1 : Int) := by omega
        have h2 : ((D.1 : Int) != 95) = true := by simp; omega
        by_cases hk0 : k = 0
        · have hz : ((k : Int) == 0) = true := by simp [hk0]
          clear hk0
          go_wp2_with (go_at_call 88; refine (letter_any _ _).mono ?_; rintro e w' ⟨rfl, rfl⟩)
          go_ret
          exact ⟨ret_int (by rw [← HR.out, HN.out]), below_iter _ _ _⟩
        · have hz : ((k : Int) == 0) = false := by simp [hk0]
          clear hk0
          go_wp2_with (go_at_call 88; refine (letter_any _ _).mono ?_; rintro e w' ⟨rfl, rfl⟩)
          go_ret
          exact ⟨ret_int (by rw [← HR.out, HN.out]), below_iter _ _ _⟩
    · have hnx := fun ty => run_next_end (P := Try.prog) w s k ty hlt
      go_wp2
      go_ret
      exact ⟨ret_int (by have := HR.out; rw [wordAt_end s k (by omega)] at this; omega), below_iter _ _ _⟩

end Go.Proofs.Ytjnaeldaajckkaa
