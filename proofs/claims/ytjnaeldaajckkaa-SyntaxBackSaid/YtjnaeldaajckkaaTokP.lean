/- The scanner of the rule language as a function on lists of bytes: plain, no program in sight. -/
import Derived.Test.YtjnaeldaajckkaaTokB
set_option linter.unusedVariables false
namespace Go.Proofs.Ytjnaeldaajckkaa
open Go.RowKit

namespace Tok
theorem ext_mk (s : ByteArray) (k : Nat) : s.extract k s.size = ⟨(s.data.toList.drop k).toArray⟩ := by
  apply ByteArray.ext
  apply Array.ext'
  rw [ext_drop]
def kindL (l : List UInt8) : Int := firstK ⟨l.toArray⟩ (l.headD 0).toNat
def lenL (l : List UInt8) : Nat := firstN ⟨l.toArray⟩ (l.headD 0).toNat
theorem lenL_le (l : List UInt8) : lenL l ≤ l.length ∨ l = [] := by
  cases l with
  | nil => exact .inr rfl
  | cons c t =>
    left
    have h1 : wordL (c :: t) ≤ (c :: t).length := by
      have := (List.takeWhile_prefix wch (l := t)).length_le
      simp only [wordL, List.length_cons]; split <;> omega
    have h2 := number_le (c :: t)
    have h3 : timeB (c :: t) = true → 5 ≤ (c :: t).length := by
      intro h
      simp only [timeB, Bool.and_eq_true, beq_iff_eq] at h
      have := runL_le ((c :: t).drop 3)
      rw [h.2] at this
      simp at this ⊢
      omega
    unfold lenL firstN pctAt
    simp only
    split
    · exact h1
    · split
      · exact h3 (by assumption)
      · split
        · split
          · rename_i h
            have hl : numberL (c :: t) < (c :: t).length := by
              by_cases hh : numberL (c :: t) < (c :: t).length
              · exact hh
              · have h' := h.2
                rw [List.drop_eq_nil_of_le (by simpa using hh)] at h'
                simp [Lib.hasPrefix] at h'
            exact hl
          · exact h2
        · split <;> simp
/-- a token -/
structure T where
  kind : Int
  text : List UInt8
  line : Nat
  col : Nat
def T.cells (t : T) : List Value := [.int .i64 t.kind, .string ⟨t.text.toArray⟩, .int .i64 t.line, .int .i64 t.col]
def cellsOf (l : List T) : List Value := l.flatMap T.cells
theorem cellsOf_len (l : List T) : (cellsOf l).length = l.length * 4 := by
  induction l with
  | nil => rfl
  | cons t l ih => simp [cellsOf, T.cells] at *; omega
theorem cellsOf_snoc (l : List T) (t : T) : cellsOf (l ++ [t]) = cellsOf l ++ t.cells := by simp [cellsOf]
/-- what the scanner returns -/
structure R where
  toks : List T
  pl : Nat
  pc : Nat
  err : Int
/-- the length of a comment -/
def cmt (l : List UInt8) : Nat := (l.takeWhile (· != 10)).length
theorem cmt_le (l : List UInt8) : cmt l ≤ l.length := (List.takeWhile_prefix _).length_le
theorem idx_cons (b : UInt8) (l : List UInt8) : Lib.indexByte (b :: l) 10 = if b == 10 then 0 else if Lib.indexByte l 10 == -1 then -1 else Lib.indexByte l 10 + 1 := rfl
theorem idx_ge (l : List UInt8) : -1 ≤ Lib.indexByte l 10 := by
  induction l with
  | nil => simp [Lib.indexByte]
  | cons b l ih => rw [idx_cons]; split <;> (try split) <;> omega
theorem cmt_cons (b : UInt8) (l : List UInt8) : cmt (b :: l) = if b = 10 then 0 else cmt l + 1 := by
  unfold cmt; rw [List.takeWhile_cons]; by_cases h : b = 10 <;> simp [h]
theorem cmt_index (l : List UInt8) : (Lib.indexByte l 10 < 0 ∧ cmt l = l.length) ∨ (0 ≤ Lib.indexByte l 10 ∧ Lib.indexByte l 10 = cmt l) := by
  induction l with
  | nil => left; simp [Lib.indexByte, cmt]
  | cons b l ih =>
    rw [idx_cons, cmt_cons]
    have hg := idx_ge l
    by_cases hb : b = 10
    · simp [hb]
    · have hb' : ¬ (b == 10) = true := by simpa using hb
      rw [if_neg hb', if_neg hb]
      rcases ih with ⟨h1, h2⟩ | ⟨h1, h2⟩
      · have : Lib.indexByte l 10 = -1 := by omega
        left; simp [this, h2]
      · have h3 : ¬ (Lib.indexByte l 10 == -1) = true := by simp; omega
        right; rw [if_neg h3]; omega
def isSp (c : UInt8) : Bool := c == 32 || c == 9 || c == 13
def scanF : Nat → List UInt8 → Nat → Nat → List T → R
  | 0, _, _, _, acc => ⟨acc, 0, 0, 0⟩
  | _ + 1, [], _, _, acc => ⟨acc, 0, 0, 0⟩
  | f + 1, c :: t, ln, col, acc =>
    if c = 10 then scanF f t (ln + 1) 1 acc
    else if isSp c then scanF f t ln (col + 1) acc
    else if c = 35 then scanF f ((c :: t).drop (cmt (c :: t))) ln (col + cmt (c :: t)) acc
    else if lenL (c :: t) = 0 then ⟨[], ln, col, 100⟩
    else scanF f ((c :: t).drop (lenL (c :: t))) ln (col + lenL (c :: t)) (acc ++ [⟨kindL (c :: t), (c :: t).take (lenL (c :: t)), ln, col⟩])
def scanR (l : List UInt8) : R := if 65536 < l.length then ⟨[], 0, 0, 101⟩ else scanF (l.length + 1) l 1 1 []
end Tok
end Go.Proofs.Ytjnaeldaajckkaa
