/- The reference's next agrees with token.first: plain, no program in sight. -/
import Derived.Test.YtjnaeldaajckkaaTokE
set_option linter.unusedVariables false
set_option linter.unusedSimpArgs false
namespace Go.Proofs.Ytjnaeldaajckkaa
open Go.RowKit Tok

namespace Tok
theorem dropD_get (s : ByteArray) (k j : Nat) : (dropD s k)[j]? = s.data.toList[k + j]? := by simp [dropD]
theorem get_is (s : ByteArray) (j : Nat) (n : UInt8) (m : Int) (hm : (n.toNat : Int) = m) : (s.data.toList[j]? = some n) ↔ byteIs s j m = true := by
  unfold byteIs
  cases s.data.toList[j]? with
  | none => simp
  | some c =>
    simp only [Option.some.injEq, beq_iff_eq, ← hm]
    exact ⟨fun h => by rw [h], fun h => UInt8.toNat_inj.1 (by omega)⟩
theorem runL_dropD (s : ByteArray) (k j : Nat) : runL ((dropD s k).drop j) = runAt s (k + j) := by rw [dropD_drop]; rfl
theorem runL_dropD0 (s : ByteArray) (k : Nat) : runL (dropD s k) = runAt s k := rfl
theorem digAt_run (s : ByteArray) (j : Nat) : digAt s j = decide (0 < runAt s j) := by
  cases h : digAt s j with
  | true => have := (runAt_go s j h).1; simp; omega
  | false => have := runAt_no s j h; simp; omega
theorem isMin_is (s : ByteArray) (k : Nat) : isMin (dropD s k) = byteIs s k 45 := by
  have h1 : isMin (dropD s k) = true ↔ (dropD s k)[0]? = some 45 := by
    unfold isMin Lib.hasPrefix
    cases dropD s k with
    | nil => simp
    | cons a t => simp [List.isPrefixOf]; exact eq_comm
  rw [dropD_get, get_is s _ 45 45 rfl] at h1
  rw [Bool.eq_iff_iff]; exact h1
theorem pct_is (s : ByteArray) (k n : Nat) : Lib.hasPrefix ((dropD s k).drop n) [37] = byteIs s (k + n) 37 := by
  rw [dropD_drop]
  have h1 : Lib.hasPrefix (dropD s (k + n)) [37] = true ↔ (dropD s (k + n))[0]? = some 37 := by
    unfold Lib.hasPrefix
    cases dropD s (k + n) with
    | nil => simp
    | cons a t => simp [List.isPrefixOf]; exact eq_comm
  rw [dropD_get, get_is s _ 37 37 rfl] at h1
  rw [Bool.eq_iff_iff]; exact h1
theorem timeB_is (s : ByteArray) (k : Nat) : timeB (dropD s k) = (decide (runAt s k = 2) && byteIs s (k + 2) 58 && decide (runAt s (k + 3) = 2)) := by
  unfold timeB
  rw [runL_dropD, runL_dropD0, dropD_get]
  have := get_is s (k + 2) 58 58 rfl
  rw [Bool.eq_iff_iff]
  simp only [Bool.and_eq_true, beq_iff_eq, decide_eq_true_eq, this]
def N0 (s : ByteArray) (k : Nat) : Nat := if byteIs s k 45 = true then 1 else 0
theorem numN0_is (s : ByteArray) (k : Nat) : numN0 (dropD s k) = N0 s k := by unfold numN0 N0; rw [isMin_is]
theorem numN1_is (s : ByteArray) (k : Nat) : numN1 (dropD s k) = N0 s k + runAt s (k + N0 s k) := by unfold numN1; rw [numN0_is, runL_dropD]
theorem numD2_is (s : ByteArray) (k : Nat) : numD2 (dropD s k) = if byteIs s (k + numN1 (dropD s k)) 46 = true then runAt s (k + numN1 (dropD s k) + 1) else 0 := by
  unfold numD2
  rw [runL_dropD, dropD_get]
  have := get_is s (k + numN1 (dropD s k)) 46 46 rfl
  by_cases h : byteIs s (k + numN1 (dropD s k)) 46 = true
  · rw [if_pos h, if_pos (this.2 h), Nat.add_assoc]
  · rw [if_neg h, if_neg (fun h' => h (this.1 h'))]
theorem numberL_is (s : ByteArray) (k : Nat) : numberL (dropD s k) = if runAt s (k + N0 s k) = 0 then 0 else if numD2 (dropD s k) = 0 then numN1 (dropD s k) else numN1 (dropD s k) + (1 + numD2 (dropD s k)) := by
  unfold numberL; rw [numN0_is, runL_dropD]
/-- the number's length, in the reference's words -/
theorem number_n2 (s : ByteArray) (k : Nat) (n1 : Nat) (h1 : N0 s k + runAt s (k + N0 s k) = n1) (h0 : runAt s (k + N0 s k) ≠ 0) :
    numberL (dropD s k) = if byteIs s (k + n1) 46 = true ∧ digAt s (k + n1 + 1) = true then n1 + (1 + runAt s (k + n1 + 1)) else n1 := by
  rw [numberL_is, if_neg h0, numD2_is, numN1_is, h1, digAt_run]
  by_cases b : byteIs s (k + n1) 46 = true
  · rw [if_pos b]
    by_cases z : runAt s (k + n1 + 1) = 0
    · simp [z, b]
    · rw [if_neg z, if_pos ⟨b, by simp; omega⟩]
  · simp [b]
theorem head_dropD (s : ByteArray) (k : Nat) (h : k < s.size) : (dropD s k).headD 0 = s[k] := by rw [dropD_cons s k h]; rfl
theorem byte_self (s : ByteArray) (k : Nat) (h : k < s.size) (m : Int) : byteIs s k m = ((s[k].toNat : Int) == m) := (byte_is s k h m).symm
theorem dig_self (s : ByteArray) (k : Nat) (h : k < s.size) : digAt s k = digI s[k].toNat := (dig_is s k h).symm
/-- THE REFERENCE'S NEXT IS THE PROGRAM'S FIRST -/
theorem next_first (s : ByteArray) (k : Nat) (h : k < s.size) : refNext s k s[k].toNat = (kindL (dropD s k), lenL (dropD s k)) := by
  have hw : wordL (dropD s k) = if ltrI s[k].toNat = true then 1 + wordN s (k + 1) else 0 := by rw [dropD_cons s k h]; rfl
  have hd : (⟨(dropD s k).toArray⟩ : ByteArray).data.toList = dropD s k := by simp
  unfold kindL lenL firstK firstN pctAt
  rw [head_dropD s k h, hd]
  simp only [pct_is]
  rw [timeB_is]
  unfold refNext
  by_cases c0 : ltrI s[k].toNat = true
  · simp [c0, hw]
  · rw [if_neg c0] at hw
    rw [if_neg c0]
    simp only [hw, Nat.lt_irrefl, if_false]
    have hsg := signI_eq s[k]
    have hs45 : byteIs s k 45 = ((s[k].toNat : Int) == 45) := byte_self s k h 45
    have hdg : decide (0 < runAt s k) = digI s[k].toNat := by rw [← digAt_run, dig_self s k h]
    by_cases c1 : sgn s[k].toNat = true
    · have hx : digI s[k].toNat = false ∧ byteIs s k 45 = false := by
        rw [hs45]
        simp only [sgn, Bool.or_eq_true, beq_iff_eq] at c1
        constructor
        · simp [digI]; omega
        · simp; omega
      rw [hx.1] at hdg
      have h0 : runAt s k = 0 := by simpa using hdg
      have hn : numberL (dropD s k) = 0 := by rw [numberL_is]; unfold N0; simp [hx.2, h0]
      rw [c1] at hsg
      have hge : 0 ≤ signI s[k].toNat := by simpa using hsg
      simp [c1, h0, hn, hge]
    · rw [if_neg c1]
      have c1' : sgn s[k].toNat = false := by simpa using c1
      rw [c1'] at hsg
      have hlt : ¬ 0 ≤ signI s[k].toNat := by simpa using hsg
      by_cases c2 : digI s[k].toNat = true
      · rw [if_pos (.inl c2)]
        have hlow := dig_low s[k] c2
        rw [c2] at hdg
        have h0 : 0 < runAt s k := by simpa using hdg
        have hm : byteIs s k 45 = false := by rw [hs45]; exact hlow.2.2
        have hN0 : N0 s k = 0 := by unfold N0; simp [hm]
        have hn := number_n2 s k (runAt s k) (by rw [hN0]; simp) (by rw [hN0]; simp; omega)
        have hpos : 0 < numberL (dropD s k) := by rw [hn]; split <;> omega
        unfold refNum refTail
        rw [if_neg (by simp [hm])]
        have h45 : ¬ (s[k].toNat : Int) = 45 := by simpa using hlow.2.2
        rw [if_pos hpos, if_pos hpos, ← hn]
        by_cases t1 : runAt s k = 2 ∧ byteIs s (k + 2) 58 = true ∧ runAt s (k + 3) = 2
        · rw [if_pos t1, if_pos (by simp [t1.1, t1.2.1, t1.2.2]), if_pos (by simp [t1.1, t1.2.1, t1.2.2])]
        · have t2 : ¬ (decide (runAt s k = 2) && byteIs s (k + 2) 58 && decide (runAt s (k + 3) = 2)) = true := by
            intro hh; apply t1; simpa [and_assoc] using hh
          rw [if_neg t1, if_neg t2, if_neg t2]
          by_cases p : byteIs s (k + numberL (dropD s k)) 37 = true
          · simp [p, h45]
          · simp [p]
      · have c2' : digI s[k].toNat = false := by simpa using c2
        rw [c2'] at hdg
        have h0 : runAt s k = 0 := by simpa using hdg
        have t2 : ¬ (decide (runAt s k = 2) && byteIs s (k + 2) 58 && decide (runAt s (k + 3) = 2)) = true := by simp [h0]
        rw [if_neg t2, if_neg t2]
        by_cases c3 : ((s[k].toNat : Int) == 45) = true ∧ digAt s (k + 1) = true
        · rw [if_pos (.inr c3)]
          have hm : byteIs s k 45 = true := by rw [hs45]; exact c3.1
          have hN0 : N0 s k = 1 := by unfold N0; simp [hm]
          have h1 : 0 < runAt s (k + 1) := by have := c3.2; rw [digAt_run] at this; simpa using this
          have hn := number_n2 s k (1 + runAt s (k + 1)) (by rw [hN0]) (by rw [hN0]; omega)
          have hpos : 0 < numberL (dropD s k) := by rw [hn]; split <;> omega
          have h45 : (s[k].toNat : Int) = 45 := by simpa using c3.1
          unfold refNum refTail
          rw [if_pos hm, if_pos hpos, if_pos hpos, ← hn]
          simp [h45]
        · rw [if_neg (by rintro (h | h); exact absurd h c2; exact c3 h)]
          have hn : numberL (dropD s k) = 0 := by
            rw [numberL_is]; unfold N0
            by_cases hm : byteIs s k 45 = true
            · rw [hs45] at hm
              have : digAt s (k + 1) = false := by
                cases hh : digAt s (k + 1)
                · rfl
                · exact absurd ⟨hm, hh⟩ c3
              have hz := runAt_no s _ this
              rw [hs45]; simp [hm, hz]
            · simp [hm, h0]
          simp [hn, hlt]
end Tok
theorem rnext_at (s : ByteArray) (k : Nat) (w : World) (hs : s.size ≤ 1000000000) (hk : k < s.size) :
    Calls Try.prog 44 #[.string s, .int .i64 k] w fun e w' => e = .returned (.tuple #[.int .i64 (kindL (dropD s k)), .int .i64 (lenL (dropD s k))]) ∧ w = w' := by
  have := rnext_any s k w hs hk
  rwa [next_first s k hk] at this
end Go.Proofs.Ytjnaeldaajckkaa
