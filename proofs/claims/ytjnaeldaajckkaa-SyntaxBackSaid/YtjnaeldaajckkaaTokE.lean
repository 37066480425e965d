/- The reference's next, walked, and that it agrees with token.first. -/
import Derived.Test.YtjnaeldaajckkaaTokD
set_option linter.unusedVariables false
set_option linter.unusedSimpArgs false
namespace Go.Proofs.Ytjnaeldaajckkaa
open Go.RowKit Tok

namespace Tok
def wchAt (s : ByteArray) (j : Nat) : Bool := match s.data.toList[j]? with | some c => wch c | none => false
def wordN (s : ByteArray) (j : Nat) : Nat := ((s.data.toList.drop j).takeWhile wch).length
theorem wordN_go (s : ByteArray) (j : Nat) (h : j < s.size) (hw : wch s[j] = true) : wordN s j = 1 + wordN s (j + 1) := by
  unfold wordN; rw [drop_cons s j h, List.takeWhile_cons, if_pos hw]; simp; omega
theorem wordN_no (s : ByteArray) (j : Nat) (h : j < s.size) (hw : wch s[j] = false) : wordN s j = 0 := by
  unfold wordN; rw [drop_cons s j h, List.takeWhile_cons, if_neg (by simp [hw])]; rfl
theorem wordN_out (s : ByteArray) (j : Nat) (h : ¬ j < s.size) : wordN s j = 0 := by
  unfold wordN; rw [List.drop_eq_nil_of_le (by simp; omega)]; rfl
def sgn (c : Int) : Bool := c == 123 || c == 125 || c == 44 || c == 59
/-- the reference's next, with c the byte at k -/
def refNext (s : ByteArray) (k : Nat) (c : Int) : Int × Nat :=
  if ltrI c = true then (1, 1 + wordN s (k + 1))
  else if sgn c = true then (5, 1)
  else if digI c = true ∨ ((c == 45) = true ∧ digAt s (k + 1) = true) then refNum s k
  else (0, 0)
theorem wch_split (c : UInt8) : wch c = (ltrI c.toNat || digI c.toNat || ((c.toNat : Int) == 95)) := by
  unfold wch
  congr 1
  rw [Bool.eq_iff_iff]; simp only [beq_iff_eq]; omega
end Tok

set_option maxRecDepth 100000 in
set_option maxHeartbeats 4000000 in
theorem rnext_any (s : ByteArray) (k : Nat) (w : World) (hs : s.size ≤ 1000000000) (hk : k < s.size) :
    Calls Try.prog 44 #[.string s, .int .i64 k] w fun e w' => e = .returned (.tuple #[.int .i64 (refNext s k s[k].toNat).1, .int .i64 (refNext s k s[k].toNat).2]) ∧ w = w' := by
  have hF := refNext.eq_1 s k s[k].toNat
  go_enter Try.func44, Try.ntmps44
  by_cases c0 : ltrI s[k].toNat = true
  · rw [if_pos c0] at hF
    have HF := Lib.hid hF
    clear hF
    go_wp2_with (go_at_call 65; refine (rletter_any _ _).mono ?_; rintro e w' ⟨rfl, rfl⟩)
    go_loopg [7] (s.size) (fun m i wr => ∃ n : Nat, 1 ≤ n ∧ k + n ≤ s.size ∧ s.size - n ≤ m ∧ i = .int .i64 n ∧ wr = w ∧ n + wordN s (k + n) = 1 + wordN s (k + 1))
    case atStart => exact ⟨1, by omega, by omega, by omega, rfl, rfl, rfl⟩
    case round =>
      obtain ⟨n, hn1, hn2, hm, rfl, rfl, hr⟩ := hrel
      have HR := Lib.hid hr
      clear hr
      by_cases hlt : k + n < s.size
      · have hx := wch_split s[k + n]
        cases hw : wch s[k + n] with
        | true =>
          have HG := Lib.hid (wordN_go s _ hlt hw)
          rw [hw] at hx
          replace hx := hx.symm
          have hc : ltrI s[k + n].toNat = true ∨ (ltrI s[k + n].toNat = false ∧ digI s[k + n].toNat = true) ∨ (ltrI s[k + n].toNat = false ∧ digI s[k + n].toNat = false ∧ ((s[k + n].toNat : Int) == 95) = true) := by
            cases h1 : ltrI s[k + n].toNat <;> cases h2 : digI s[k + n].toNat <;> simp [h1, h2] at hx ⊢
            exact hx
          clear hx hw
          rcases hc with h1 | ⟨h1, h2⟩ | ⟨h1, h2, h3⟩
          all_goals
            go_wp2_with (first | (go_at_call 65; refine (rletter_any _ _).mono ?_; rintro e w' ⟨rfl, rfl⟩) | (go_at_call 66; refine (rdigit_any _ _).mono ?_; rintro e w' ⟨rfl, rfl⟩))
            go_roundg (gk - 1)
            case rel => exact ⟨n + 1, by omega, by omega, by omega, by go_num, rfl, by have h1 := HR.out; have h2 := HG.out; rw [Nat.add_assoc] at h2; omega⟩
            case measure => omega
        | false =>
          have HG := Lib.hid (wordN_no s _ hlt hw)
          rw [hw] at hx
          replace hx := hx.symm
          simp only [Bool.or_eq_false_iff] at hx
          obtain ⟨⟨h1, h2⟩, h3⟩ := hx
          clear hw
          go_wp2_with (first | (go_at_call 65; refine (rletter_any _ _).mono ?_; rintro e w' ⟨rfl, rfl⟩) | (go_at_call 66; refine (rdigit_any _ _).mono ?_; rintro e w' ⟨rfl, rfl⟩))
          go_ret2
          exact ⟨ret2_int (by rw [HF.out]) (by rw [HF.out]; have h1 := HR.out; have h2 := HG.out; simp only; omega), rfl⟩
      · have HG := Lib.hid (wordN_out s _ hlt)
        go_wp2
        go_ret2
        exact ⟨ret2_int (by rw [HF.out]) (by rw [HF.out]; have h1 := HR.out; have h2 := HG.out; simp only; omega), rfl⟩
  · rw [if_neg c0] at hF
    have c0' : ltrI s[k].toNat = false := by simpa using c0
    clear c0
    have HF := Lib.hid hF
    clear hF
    go_wp2_with (first | (go_at_call 65; refine (rletter_any _ _).mono ?_; rintro e w' ⟨rfl, rfl⟩) | (go_at_call 66; refine (rdigit_any _ _).mono ?_; rintro e w' ⟨rfl, rfl⟩) | (go_at_call 67; refine (digitAt_i _ _ (k + 1) _ (by omega)).mono ?_; rintro e w' ⟨rfl, rfl⟩) | (go_at_call 68; refine (rnumber_any _ _ _ hs hk).mono ?_; rintro e w' ⟨rfl, rfl⟩))
    all_goals (go_ret2; refine ⟨?_, rfl⟩; have hF := HF.out; go_light; rw [hF]; clear hF HF; have hd45 : digI 45 = false := (by decide); first | (simp [*, sgn]; done) | (simp_all [sgn]; done))

/-! ### the reference agrees with the program -/
namespace Tok
theorem dig_low (c : UInt8) (h : digI c.toNat = true) : ltrI c.toNat = false ∧ sgn c.toNat = false ∧ ((c.toNat : Int) == 45) = false := by
  simp only [digI, Bool.and_eq_true, decide_eq_true_eq] at h
  refine ⟨?_, ?_, ?_⟩
  · simp [ltrI]; omega
  · simp [sgn]; omega
  · simp; omega
theorem signI_eq (c : UInt8) : (decide (0 ≤ signI c.toNat)) = sgn c.toNat := by
  have e : ((c.toNat : Int)).toNat.toUInt8 = c := by simp
  unfold signI sgn
  rw [e]
  simp only [Lib.indexByte]
  have h1 : ∀ n : UInt8, ((n == c) = true) ↔ ((c.toNat : Int) = n.toNat) := fun n => by
    rw [beq_iff_eq]
    exact ⟨fun h => by rw [h], fun h => (UInt8.toNat_inj.1 (by omega)).symm⟩
  have a1 := h1 123
  have a2 := h1 125
  have a3 := h1 44
  have a4 := h1 59
  by_cases b1 : (123 == c) = true
  · simp [b1]; left; left; left; have := a1.1 b1; simpa using this
  · by_cases b2 : (125 == c) = true
    · simp [b1, b2]; left; left; right; have := a2.1 b2; simpa using this
    · by_cases b3 : (44 == c) = true
      · simp [b1, b2, b3]; left; right; have := a3.1 b3; simpa using this
      · by_cases b4 : (59 == c) = true
        · simp [b1, b2, b3, b4]; right; have := a4.1 b4; simpa using this
        · simp [b1, b2, b3, b4]
          have n1 : ¬ (c.toNat : Int) = 123 := fun h => b1 (a1.2 (by simpa using h))
          have n2 : ¬ (c.toNat : Int) = 125 := fun h => b2 (a2.2 (by simpa using h))
          have n3 : ¬ (c.toNat : Int) = 44 := fun h => b3 (a3.2 (by simpa using h))
          have n4 : ¬ (c.toNat : Int) = 59 := fun h => b4 (a4.2 (by simpa using h))
          exact ⟨⟨⟨n1, n2⟩, n3⟩, n4⟩
end Tok
end Go.Proofs.Ytjnaeldaajckkaa
