/- Plain: where the tokens stand, and what lies between them. -/
import Derived.Test.YtjnaeldaajckkaaTokR
set_option linter.unusedVariables false
set_option linter.unusedSimpArgs false
namespace Go.Proofs.Ytjnaeldaajckkaa
open Go.RowKit Tok

namespace Tok
/-- line and column behind these bytes -/
def posF : Nat → Nat → List UInt8 → Nat × Nat
  | ln, col, [] => (ln, col)
  | ln, col, c :: t => if c = 10 then posF (ln + 1) 1 t else posF ln (col + 1) t
def posOf (l : List UInt8) (i : Nat) : Nat × Nat := posF 1 1 (l.take i)
theorem posF_app (a b : List UInt8) : ∀ ln col, posF ln col (a ++ b) = posF (posF ln col a).1 (posF ln col a).2 b := by
  induction a with
  | nil => intro ln col; rfl
  | cons c t ih =>
    intro ln col
    simp only [List.cons_append, posF]
    split
    · exact ih _ _
    · exact ih _ _
theorem posOf_succ (l : List UInt8) (i : Nat) (c : UInt8) (h : l[i]? = some c) : posOf l (i + 1) = if c = 10 then ((posOf l i).1 + 1, 1) else ((posOf l i).1, (posOf l i).2 + 1) := by
  unfold posOf
  rw [List.take_add_one, h]
  show posF 1 1 (l.take i ++ [c]) = _
  rw [posF_app]
  simp only [posF]
/-- positions grow -/
theorem posOf_lt (l : List UInt8) (i j : Nat) (hij : i < j) (hj : j ≤ l.length) : (posOf l i).1 < (posOf l j).1 ∨ ((posOf l i).1 = (posOf l j).1 ∧ (posOf l i).2 < (posOf l j).2) := by
  induction j with
  | zero => omega
  | succ j ih =>
    obtain ⟨c, hc⟩ : ∃ c, l[j]? = some c := ⟨l[j]'(by omega), List.getElem?_eq_getElem (by omega)⟩
    rw [posOf_succ l j c hc]
    by_cases h : i = j
    · subst h; split <;> simp
    · have := ih (by omega) (by omega)
      split <;> simp <;> omega
theorem posOf_inj (l : List UInt8) (i j : Nat) (hij : i < j) (hj : j ≤ l.length) : posOf l i ≠ posOf l j := fun e => by
  have := posOf_lt l i j hij hj
  rw [e] at this; omega
theorem posOf_ge (l : List UInt8) (i : Nat) (h : i ≤ l.length) : 1 ≤ (posOf l i).1 ∧ 1 ≤ (posOf l i).2 ∧ (posOf l i).1 ≤ i + 1 ∧ (posOf l i).2 ≤ i + 1 := by
  induction i with
  | zero => simp [posOf, posF]
  | succ i ih =>
    obtain ⟨c, hc⟩ : ∃ c, l[i]? = some c := ⟨l[i]'(by omega), List.getElem?_eq_getElem (by omega)⟩
    have := ih (by omega)
    rw [posOf_succ l i c hc]
    split <;> simp <;> omega
/-- n bytes without a newline -/
theorem posOf_flat (l : List UInt8) (i n : Nat) (h : ∀ j, i ≤ j → j < i + n → l[j]? ≠ some 10) (hn : i + n ≤ l.length) : posOf l (i + n) = ((posOf l i).1, (posOf l i).2 + n) := by
  induction n with
  | zero => rfl
  | succ n ih =>
    obtain ⟨c, hc⟩ : ∃ c, l[i + n]? = some c := ⟨l[i + n]'(by omega), List.getElem?_eq_getElem (by omega)⟩
    have h1 := ih (fun j a b => h j a (by omega)) (by omega)
    rw [← Nat.add_assoc, posOf_succ l (i + n) c hc, if_neg, h1]
    · simp; omega
    · intro e; subst e; exact h (i + n) (by omega) (by omega) hc
/-- no newline in a comment -/
theorem cmt_flat (l : List UInt8) (j : Nat) (h : j < cmt l) : l[j]? ≠ some 10 := by
  induction l generalizing j with
  | nil => simp [cmt] at h
  | cons c t ih =>
    rw [cmt_cons] at h
    by_cases hc : c = 10
    · rw [if_pos hc] at h; omega
    · rw [if_neg hc] at h
      cases j with
      | zero => simpa using hc
      | succ j => simpa using ih j (by omega)
theorem cmt_stop (l : List UInt8) : l[cmt l]? = none ∨ l[cmt l]? = some 10 := by
  induction l with
  | nil => left; rfl
  | cons c t ih =>
    rw [cmt_cons]
    by_cases hc : c = 10
    · rw [if_pos hc]; right; simp [hc]
    · rw [if_neg hc]; simpa using ih
/-- no newline in a token -/
theorem token_flat (l : List UInt8) (j : Nat) (h : j < lenL l) : l[j]? ≠ some 10 := by
  intro e
  have hj : j < l.length := (List.getElem?_eq_some_iff.1 e).1
  have he : l = l.take j ++ 10 :: l.drop (j + 1) := by
    have h1 : l.drop j = 10 :: l.drop (j + 1) := by
      rw [List.drop_eq_getElem_cons hj]
      congr 1
      rw [List.getElem?_eq_getElem hj] at e
      injection e
    rw [← h1, List.take_append_drop]
  have hN : Neutral (10 :: l.drop (j + 1)) := neutral_cons (by decide) (by decide) (by decide) (by decide)
  by_cases h0 : j = 0
  · subst h0
    cases l with
    | nil => simp at hj
    | cons c t =>
      simp at e
      subst e
      have : lenL (10 :: t) = 0 := by
        have w : wordL (10 :: t) = 0 := by show (if ltrI ((10 : UInt8).toNat) = true then 1 + (t.takeWhile wch).length else 0) = 0; exact if_neg (by decide)
        have rl : runL (10 :: t) = 0 := by rw [runL_cons, if_neg (by decide)]
        have ti : timeB (10 :: t) = false := by unfold timeB; rw [rl]; rfl
        have mi : isMin (10 :: t) = false := by
          cases hh : isMin (10 :: t)
          · rfl
          · exact absurd (isMin_head _ _ hh) (by decide)
        have nu : numberL (10 :: t) = 0 := by unfold numberL numN0; rw [mi]; simp [rl]
        have sg : ¬ 0 ≤ signI (((10 : UInt8) :: t).headD 0).toNat := by show ¬ 0 ≤ signI ((10 : UInt8).toNat); decide
        rw [lenL_eq, w, ti, nu, if_neg (by omega), if_neg (by simp), if_neg (by omega), if_neg sg]
      omega
  · have hne : l.take j ≠ [] := by
      intro e2; have : (l.take j).length = 0 := by rw [e2]; rfl
      rw [List.length_take] at this; omega
    have h1 := lenL_app (l.take j) _ hne hN
    rw [← he] at h1
    have h2 : lenL (l.take j) ≤ (l.take j).length := by
      rcases lenL_le (l.take j) with h | h
      · exact h
      · exact absurd h hne
    rw [List.length_take] at h2
    omega
/-- the state of 'blank' behind these bytes: none where it says no; else whether a comment runs -/
def blankC (cm : Bool) (c : UInt8) : Bool := if c = 10 then false else if c = 35 then true else cm
def blankS : Bool → List UInt8 → Option Bool
  | cm, [] => some cm
  | cm, c :: t => if blankC cm c = false ∧ isSp c = false ∧ c ≠ 10 then none else blankS (blankC cm c) t
theorem blankS_app (a b : List UInt8) : ∀ cm, blankS cm (a ++ b) = match blankS cm a with | none => none | some cm' => blankS cm' b := by
  induction a with
  | nil => intro cm; rfl
  | cons c t ih =>
    intro cm
    simp only [List.cons_append, blankS]
    split
    · rfl
    · exact ih _
theorem blankS_flat (a : List UInt8) (h : ∀ c ∈ a, c ≠ 10) : blankS true a = some true := by
  induction a with
  | nil => rfl
  | cons c t ih =>
    have hc : c ≠ 10 := h c (by simp)
    have e : blankC true c = true := by unfold blankC; rw [if_neg hc]; split <;> rfl
    rw [blankS, e, if_neg (by simp)]
    exact ih fun d hd => h d (by simp [hd])
/-- the tokens from place i on, the last one having ended at place e: each stands where it says, and what lies between is blank -/
def Lay (l : List UInt8) : Nat → List T → Prop
  | e, [] => ∃ b, blankS false (l.drop e) = some b
  | e, t :: ts => ∃ p, e ≤ p ∧ p + t.text.length ≤ l.length ∧ (l.drop p).take t.text.length = t.text ∧ t.text ≠ [] ∧ posOf l p = (t.line, t.col) ∧ (∃ b, blankS false ((l.drop e).take (p - e)) = some b) ∧ Lay l (p + t.text.length) ts

theorem gap_snoc (l : List UInt8) (e i n : Nat) (hi : e ≤ i) (b b' : Bool) (h : blankS false ((l.drop e).take (i - e)) = some b) (h' : blankS b ((l.drop i).take n) = some b') : blankS false ((l.drop e).take (i + n - e)) = some b' := by
  have : (l.drop e).take (i + n - e) = (l.drop e).take (i - e) ++ (l.drop i).take n := by
    rw [show i + n - e = (i - e) + n by omega, List.take_add, List.drop_drop, show e + (i - e) = i by omega]
  rw [this, blankS_app, h]
  exact h'
/-- what the scanner says is where it stands -/
theorem scanF_lay (l : List UInt8) : ∀ (f i e ln col : Nat) (acc : List T) (b : Bool), l.length - i < f → e ≤ i → i ≤ l.length → posOf l i = (ln, col) → blankS false ((l.drop e).take (i - e)) = some b → (b = true → l[i]? = none ∨ l[i]? = some 10) →
    (scanF f (l.drop i) ln col acc).err = 0 → ∃ ts, (scanF f (l.drop i) ln col acc).toks = acc ++ ts ∧ Lay l e ts
  | 0, i, e, ln, col, acc, b, hf, _, _, _, _, _, _ => by omega
  | f + 1, i, e, ln, col, acc, b, hf, he, hi, hp, hb, hc, herr => by
    by_cases hlt : i < l.length
    · have hd : l.drop i = l[i] :: l.drop (i + 1) := List.drop_eq_getElem_cons hlt
      have hget : l[i]? = some l[i] := List.getElem?_eq_getElem hlt
      generalize l[i] = c at *
      have hone : (l.drop i).take 1 = [c] := by rw [hd]; rfl
      rw [hd, scanF] at herr ⊢
      by_cases q10 : c = 10
      · rw [if_pos q10] at herr ⊢
        refine scanF_lay l f (i + 1) e (ln + 1) 1 acc false (by omega) (by omega) (by omega) ?_ ?_ (by simp) herr
        · rw [posOf_succ l i c hget, if_pos q10, hp]
        · refine gap_snoc l e i 1 he b false hb ?_
          rw [hone, q10]
          cases b <;> rfl
      · have hbf : b = false := by
          cases b
          · rfl
          · rcases hc rfl with h | h
            · rw [h] at hget; cases hget
            · rw [h] at hget; injection hget with h2; exact absurd h2.symm q10
        subst hbf
        rw [if_neg q10] at herr ⊢
        by_cases qs : isSp c = true
        · rw [if_pos qs] at herr ⊢
          refine scanF_lay l f (i + 1) e ln (col + 1) acc false (by omega) (by omega) (by omega) ?_ ?_ (by simp) herr
          · rw [posOf_succ l i c hget, if_neg q10, hp]
          · refine gap_snoc l e i 1 he false false hb ?_
            rw [hone]
            have h35 : c ≠ 35 := by rintro rfl; exact absurd qs (by decide)
            simp [blankS, blankC, q10, h35, qs]
        · rw [if_neg qs] at herr ⊢
          rw [← hd] at herr ⊢
          by_cases q35 : c = 35
          · rw [if_pos q35] at herr ⊢
            have hcl := cmt_le (l.drop i)
            have hcs := cmt_stop (l.drop i)
            have hcf := cmt_flat (l.drop i)
            have hc1 : 1 ≤ cmt (l.drop i) := by rw [hd, cmt_cons, if_neg q10]; omega
            generalize cmt (l.drop i) = n at *
            rw [List.length_drop] at hcl
            rw [List.drop_drop] at herr ⊢
            rw [List.getElem?_drop] at hcs
            refine scanF_lay l f (i + n) e ln (col + n) acc true (by omega) (by omega) (by omega) ?_ ?_ (fun _ => hcs) herr
            · rw [posOf_flat l i n (fun j h1 h2 => by have := hcf (j - i) (by omega); rw [List.getElem?_drop, show i + (j - i) = j by omega] at this; exact this) (by omega), hp]
            · refine gap_snoc l e i n he false true hb ?_
              obtain ⟨m, rfl⟩ : ∃ m, n = m + 1 := ⟨n - 1, by omega⟩
              have ht : (l.drop i).take (m + 1) = c :: (l.drop (i + 1)).take m := by rw [hd]; rfl
              rw [ht, blankS]
              have e1 : blankC false c = true := by unfold blankC; rw [if_neg q10, if_pos q35]
              rw [e1, if_neg (by simp)]
              refine blankS_flat _ fun d hd2 => ?_
              rintro rfl
              obtain ⟨j, hj, hje⟩ := List.getElem_of_mem hd2
              have hjm : j < m := by rw [List.length_take] at hj; omega
              have := hcf (j + 1) (by omega)
              apply this
              rw [List.getElem?_drop]
              have h3 : ((l.drop (i + 1)).take m)[j]? = some 10 := by rw [List.getElem?_eq_getElem hj, hje]
              rw [List.getElem?_take, if_pos hjm, List.getElem?_drop] at h3
              rw [show i + (j + 1) = i + 1 + j by omega]; exact h3
          · rw [if_neg q35] at herr ⊢
            by_cases qn : lenL (l.drop i) = 0
            · rw [if_pos qn] at herr; exact absurd herr (show ¬ (100 : Int) = 0 by decide)
            · rw [if_neg qn] at herr ⊢
              have hlf := token_flat (l.drop i)
              have hle : lenL (l.drop i) ≤ (l.drop i).length := by
                rcases lenL_le (l.drop i) with h | h
                · exact h
                · rw [hd] at h; cases h
              generalize hk : kindL (l.drop i) = kd at *
              generalize lenL (l.drop i) = n at *
              rw [List.length_drop] at hle
              rw [List.drop_drop] at herr ⊢
              have htl : ((l.drop i).take n).length = n := by rw [List.length_take, List.length_drop]; omega
              obtain ⟨ts, h1, h2⟩ := scanF_lay l f (i + n) (i + n) ln (col + n) (acc ++ [⟨kd, (l.drop i).take n, ln, col⟩]) false (by omega) (Nat.le_refl _) (by omega)
                (by rw [posOf_flat l i n (fun j h1 h2 => by have := hlf (j - i) (by omega); rw [List.getElem?_drop, show i + (j - i) = j by omega] at this; exact this) (by omega), hp]) (by simp [blankS]) (by simp) herr
              refine ⟨⟨kd, (l.drop i).take n, ln, col⟩ :: ts, by rw [h1]; simp, i, he, by simp only [htl]; omega, by simp only [htl], ?_, hp, ⟨false, hb⟩, by simp only [htl]; exact h2⟩
              intro h0
              have h0' : (l.drop i).take n = [] := h0
              rw [h0'] at htl
              simp at htl
              omega
    · have hnil : l.drop i = [] := List.drop_eq_nil_of_le (by omega)
      rw [hnil, scanF]
      refine ⟨[], by simp, b, ?_⟩
      have : (l.drop e).take (i - e) = l.drop e := List.take_of_length_le (by rw [List.length_drop]; omega)
      rw [this] at hb
      exact hb
theorem scanR_lay (l : List UInt8) (h : (scanR l).err = 0) : Lay l 0 (scanR l).toks := by
  unfold scanR at h ⊢
  split at h
  · exact absurd h (by decide)
  · rename_i q
    rw [if_neg q]
    obtain ⟨ts, h1, h2⟩ := scanF_lay l (l.length + 1) 0 0 1 1 [] false (by omega) (Nat.le_refl _) (by omega) rfl rfl (by simp) h
    rw [List.drop_zero] at h1
    rw [h1]; exact h2
end Tok
end Go.Proofs.Ytjnaeldaajckkaa
