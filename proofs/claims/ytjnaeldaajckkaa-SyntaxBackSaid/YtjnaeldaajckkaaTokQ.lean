/- Plain laws of the scanner: a token's text scans to itself; texts joined with a space scan to the same tokens. -/
import Derived.Test.YtjnaeldaajckkaaTokJ
set_option linter.unusedVariables false
set_option linter.unusedSimpArgs false
namespace Go.Proofs.Ytjnaeldaajckkaa
open Go.RowKit Tok

namespace Tok
/-- what may stand behind a token without turning it -/
def Neutral (r : List UInt8) : Prop := ∀ c t, r = c :: t → wch c = false ∧ c ≠ 46 ∧ c ≠ 58 ∧ c ≠ 37
theorem neutral_nil : Neutral [] := fun c t h => by cases h
theorem neutral_cons {c : UInt8} {t : List UInt8} (h1 : wch c = false) (h2 : c ≠ 46) (h3 : c ≠ 58) (h4 : c ≠ 37) : Neutral (c :: t) := fun d u h => by injection h with e1 e2; subst e1; exact ⟨h1, h2, h3, h4⟩
theorem wch_dig_no {c : UInt8} (h : wch c = false) : dig c = false := by
  unfold wch at h; simp only [Bool.or_eq_false_iff] at h; exact h.1.2
theorem neutral_run {r : List UInt8} (h : Neutral r) : runL r = 0 := by
  cases r with
  | nil => rfl
  | cons c t => rw [runL_cons, if_neg (by simp [wch_dig_no (h c t rfl).1])]
theorem runL_app (t r : List UInt8) (h : Neutral r) : runL (t ++ r) = runL t := by
  induction t with
  | nil => rw [List.nil_append, neutral_run h]; rfl
  | cons c t ih => rw [List.cons_append, runL_cons, runL_cons, ih]
theorem tw_app (t r : List UInt8) (h : Neutral r) : (t ++ r).takeWhile wch = t.takeWhile wch := by
  induction t with
  | nil =>
    cases r with
    | nil => rfl
    | cons c t => simp [List.takeWhile_cons, (h c t rfl).1]
  | cons c t ih => rw [List.cons_append, List.takeWhile_cons, List.takeWhile_cons, ih]
theorem wordL_app (t r : List UInt8) (ht : t ≠ []) (h : Neutral r) : wordL (t ++ r) = wordL t := by
  cases t with
  | nil => exact absurd rfl ht
  | cons c t => simp only [List.cons_append, wordL, tw_app t r h]
/-- a byte that no neutral text begins with is found in the token alone -/
theorem get_app (t r : List UInt8) (i : Nat) (c : UInt8) (hi : i ≤ t.length) (hr : ∀ d u, r = d :: u → d ≠ c) : ((t ++ r)[i]? = some c) ↔ (t[i]? = some c) := by
  by_cases hlt : i < t.length
  · rw [List.getElem?_append_left hlt]
  · have : i = t.length := by omega
    subst this
    rw [List.getElem?_append_right (Nat.le_refl _), Nat.sub_self, List.getElem?_eq_none (Nat.le_refl _)]
    cases r with
    | nil => simp
    | cons d u => simp [hr d u rfl]
theorem runL_drop_app (t r : List UInt8) (k : Nat) (hk : k ≤ t.length) (h : Neutral r) : runL ((t ++ r).drop k) = runL (t.drop k) := by
  rw [List.drop_append_of_le_length hk, runL_app _ _ h]
theorem timeB_app (t r : List UInt8) (h : Neutral r) : timeB (t ++ r) = timeB t := by
  unfold timeB
  rw [runL_app t r h]
  by_cases h2 : runL t = 2
  · have hl : 2 ≤ t.length := by have := runL_le t; omega
    have hg := get_app t r 2 58 hl (fun d u e => (h d u e).2.2.1)
    by_cases hlt : t[2]? = some 58
    · have hl3 : 3 ≤ t.length := by
        by_cases hh : 2 < t.length
        · omega
        · rw [List.getElem?_eq_none (by omega)] at hlt; cases hlt
      rw [runL_drop_app t r 3 hl3 h]
      rw [hg.2 hlt, hlt]
    · have : ¬ (t ++ r)[2]? = some 58 := fun e => hlt (hg.1 e)
      have e1 : ((t ++ r)[2]? == some 58) = false := beq_eq_false_iff_ne.2 this
      have e2 : (t[2]? == some 58) = false := beq_eq_false_iff_ne.2 hlt
      rw [e1, e2, Bool.and_false, Bool.false_and, Bool.false_and]
  · have e : (runL t == 2) = false := beq_eq_false_iff_ne.2 h2
    simp only [e, Bool.false_and]
theorem isMin_app (t r : List UInt8) (ht : t ≠ []) : isMin (t ++ r) = isMin t := by
  cases t with
  | nil => exact absurd rfl ht
  | cons c t => simp [isMin, Lib.hasPrefix, List.isPrefixOf]
theorem isMin_head (c : UInt8) (t : List UInt8) (h : isMin (c :: t) = true) : c = 45 := by
  simp [isMin, Lib.hasPrefix, List.isPrefixOf] at h; exact h.symm
theorem numN0_app (t r : List UInt8) (ht : t ≠ []) : numN0 (t ++ r) = numN0 t := by unfold numN0; rw [isMin_app t r ht]
theorem numN1_app (t r : List UInt8) (ht : t ≠ []) (h : Neutral r) : numN1 (t ++ r) = numN1 t := by
  unfold numN1; rw [numN0_app t r ht, runL_drop_app t r _ (numN0_le t) h]
theorem numD2_app (t r : List UInt8) (ht : t ≠ []) (h : Neutral r) : numD2 (t ++ r) = numD2 t := by
  unfold numD2
  rw [numN1_app t r ht h]
  have hg := get_app t r (numN1 t) 46 (numN1_le t) (fun d u e => (h d u e).2.1)
  by_cases hd : t[numN1 t]? = some 46
  · rw [if_pos (hg.2 hd), if_pos hd]
    have : numN1 t + 1 ≤ t.length := by
      by_cases hh : numN1 t < t.length
      · omega
      · rw [List.getElem?_eq_none (by omega)] at hd; cases hd
    exact runL_drop_app t r _ this h
  · rw [if_neg (fun e => hd (hg.1 e)), if_neg hd]
theorem numberL_app (t r : List UInt8) (ht : t ≠ []) (h : Neutral r) : numberL (t ++ r) = numberL t := by
  unfold numberL
  rw [numN0_app t r ht, runL_drop_app t r _ (numN0_le t) h, numD2_app t r ht h, numN1_app t r ht h]
def pctL (l : List UInt8) (n : Nat) : Bool := Lib.hasPrefix (l.drop n) [37]
theorem pctL_get (l : List UInt8) (n : Nat) : pctL l n = true ↔ l[n]? = some 37 := by
  unfold pctL Lib.hasPrefix
  rw [← List.head?_drop]
  cases l.drop n with
  | nil => simp
  | cons a t => simp [List.isPrefixOf]; exact eq_comm
theorem pctL_app (t r : List UInt8) (n : Nat) (hn : n ≤ t.length) (h : Neutral r) : pctL (t ++ r) n = pctL t n := by
  rw [Bool.eq_iff_iff, pctL_get, pctL_get]
  exact get_app t r n 37 hn (fun d u e => (h d u e).2.2.2)
theorem mk_data (l : List UInt8) : (⟨l.toArray⟩ : ByteArray).data.toList = l := by simp
theorem kindL_eq (l : List UInt8) : kindL l = if 0 < wordL l then 1 else if timeB l then 4 else if 0 < numberL l then (if ((l.headD 0).toNat : Int) ≠ 45 ∧ pctL l (numberL l) = true then 3 else 2) else if 0 ≤ signI (l.headD 0).toNat then 5 else 0 := by
  unfold kindL firstK; rw [mk_data]; rfl
theorem lenL_eq (l : List UInt8) : lenL l = if 0 < wordL l then wordL l else if timeB l then 5 else if 0 < numberL l then (if ((l.headD 0).toNat : Int) ≠ 45 ∧ pctL l (numberL l) = true then numberL l + 1 else numberL l) else if 0 ≤ signI (l.headD 0).toNat then 1 else 0 := by
  unfold lenL firstN; rw [mk_data]; rfl
theorem headD_app (t r : List UInt8) (ht : t ≠ []) : (t ++ r).headD 0 = t.headD 0 := by cases t <;> simp_all
theorem kindL_app (t r : List UInt8) (ht : t ≠ []) (h : Neutral r) : kindL (t ++ r) = kindL t := by
  rw [kindL_eq, kindL_eq, wordL_app t r ht h, timeB_app t r h, numberL_app t r ht h, headD_app t r ht, pctL_app t r _ (number_le t) h]
theorem lenL_app (t r : List UInt8) (ht : t ≠ []) (h : Neutral r) : lenL (t ++ r) = lenL t := by
  rw [lenL_eq, lenL_eq, wordL_app t r ht h, timeB_app t r h, numberL_app t r ht h, headD_app t r ht, pctL_app t r _ (number_le t) h]

/-! ### the token alone -/
theorem runL_take (l : List UInt8) (n : Nat) : runL (l.take n) = min (runL l) n := by
  induction l generalizing n with
  | nil => simp [runL]
  | cons c t ih =>
    cases n with
    | zero => simp [runL]
    | succ n =>
      rw [List.take_succ_cons, runL_cons, runL_cons, ih]
      split <;> omega
theorem tw_take (l : List UInt8) (n : Nat) : ((l.take n).takeWhile wch).length = min (l.takeWhile wch).length n := by
  induction l generalizing n with
  | nil => simp
  | cons c t ih =>
    cases n with
    | zero => simp
    | succ n =>
      rw [List.take_succ_cons, List.takeWhile_cons, List.takeWhile_cons]
      split
      · simp [ih]
      · simp
theorem wordL_take (l : List UInt8) (n : Nat) : wordL (l.take n) = min (wordL l) n := by
  cases l with
  | nil => simp [wordL]
  | cons c t =>
    cases n with
    | zero => simp [wordL]
    | succ n =>
      rw [List.take_succ_cons]
      simp only [wordL, tw_take]
      split <;> omega
theorem runL_drop_take (l : List UInt8) (n k : Nat) : runL ((l.take n).drop k) = min (runL (l.drop k)) (n - k) := by
  rw [List.drop_take, runL_take]
theorem get_take (l : List UInt8) (n i : Nat) : (l.take n)[i]? = if i < n then l[i]? else none := List.getElem?_take
/-- the number's own text -/
theorem number_take (l : List UInt8) (n : Nat) (h0 : 0 < numberL l) (hn : n = numberL l ∨ (n = numberL l + 1 ∧ pctL l (numberL l) = true)) : numberL (l.take n) = numberL l := by
  have hle := number_le l
  have hd0 : runL (l.drop (numN0 l)) ≠ 0 := by
    intro h; unfold numberL at h0; rw [if_pos h] at h0; omega
  have hN : numberL l = if numD2 l = 0 then numN1 l else numN1 l + (1 + numD2 l) := by
    unfold numberL; rw [if_neg hd0]
  have hge : numN1 l ≤ numberL l := by rw [hN]; split <;> omega
  have hN1 : numN1 l = numN0 l + runL (l.drop (numN0 l)) := rfl
  have hn1 : numN1 l ≤ n := by omega
  have hne : l ≠ [] := by rintro rfl; simp [runL] at hd0
  have hnpos : 0 < n := by omega
  have m0 : isMin (l.take n) = isMin l := by
    cases l with
    | nil => exact absurd rfl hne
    | cons c t => cases n with
      | zero => omega
      | succ n => simp [isMin, Lib.hasPrefix, List.isPrefixOf]
  have n0 : numN0 (l.take n) = numN0 l := by unfold numN0; rw [m0]
  have r0 : runL ((l.take n).drop (numN0 l)) = runL (l.drop (numN0 l)) := by rw [runL_drop_take]; omega
  have n1 : numN1 (l.take n) = numN1 l := by unfold numN1; rw [n0, r0]
  have hpc : n = numberL l + 1 → l[numberL l]? = some 37 := fun e => by
    rcases hn with h | ⟨_, h⟩
    · omega
    · exact (pctL_get l _).1 h
  have d2 : numD2 (l.take n) = numD2 l := by
    unfold numD2
    rw [n1, get_take, runL_drop_take]
    by_cases hd : l[numN1 l]? = some 46
    · rw [if_pos hd]
      have hD : numD2 l = runL (l.drop (numN1 l + 1)) := by unfold numD2; rw [if_pos hd]
      by_cases hz : runL (l.drop (numN1 l + 1)) = 0
      · rw [hz]; simp
      · have : numN1 l < n := by rw [hN, if_neg (by omega)] at hn; omega
        rw [if_pos this, if_pos hd]
        rw [hN, if_neg (by omega)] at hn
        omega
    · rw [if_neg hd]
      have : ¬ (if numN1 l < n then l[numN1 l]? else none) = some 46 := by
        split
        · exact hd
        · simp
      rw [if_neg this]
  unfold numberL
  rw [n0, r0, n1, d2]
theorem headD_take (l : List UInt8) (n : Nat) (h : 0 < n) : (l.take n).headD 0 = l.headD 0 := by
  cases l with
  | nil => simp
  | cons c t => cases n with
    | zero => omega
    | succ n => rfl
theorem self_token (l : List UInt8) (h : lenL l ≠ 0) : kindL (l.take (lenL l)) = kindL l ∧ lenL (l.take (lenL l)) = lenL l := by
  have hk := kindL_eq l
  have hl := lenL_eq l
  rw [kindL_eq (l.take _), lenL_eq (l.take _)]
  generalize lenL l = n at *
  rw [wordL_take, headD_take l n (by omega)]
  by_cases w0 : 0 < wordL l
  · rw [if_pos w0] at hk hl
    have : 0 < min (wordL l) n := by omega
    rw [if_pos this, if_pos this, hk, hl]; simp
  · rw [if_neg w0] at hk hl
    have : ¬ 0 < min (wordL l) n := by omega
    rw [if_neg this, if_neg this]
    by_cases t0 : timeB l = true
    · rw [if_pos t0] at hk hl
      have ht : timeB (l.take n) = true := by
        subst hl
        simp only [timeB, Bool.and_eq_true, beq_iff_eq] at t0 ⊢
        rw [runL_take, runL_drop_take, get_take]
        refine ⟨⟨by omega, by simpa using t0.1.2⟩, by omega⟩
      rw [if_pos ht, if_pos ht, hk, hl]; simp
    · rw [if_neg t0] at hk hl
      by_cases m0 : 0 < numberL l
      · rw [if_pos m0] at hk hl
        have hn : n = numberL l ∨ (n = numberL l + 1 ∧ pctL l (numberL l) = true) := by
          split at hl
          · rename_i hp; exact .inr ⟨hl, hp.2⟩
          · exact .inl hl
        have ht : ¬ timeB (l.take n) = true := by
          intro ht
          simp only [timeB, Bool.and_eq_true, beq_iff_eq] at ht
          rw [runL_take, get_take] at ht
          obtain ⟨⟨h1, h2⟩, _⟩ := ht
          have h2n : 2 < n := by
            by_cases hh : 2 < n
            · exact hh
            · rw [if_neg hh] at h2; cases h2
          rw [if_pos h2n] at h2
          have hr : runL l = 2 := by omega
          have hmin : isMin l = false := by
            cases l with
            | nil => simp [runL] at hr
            | cons c t =>
              rw [runL_cons] at hr
              by_cases hc : dig c = true
              · cases hh : isMin (c :: t)
                · rfl
                · have : c = 45 := isMin_head c t hh
                  subst this; exact absurd hc (by decide)
              · rw [if_neg hc] at hr; omega
          have e0 : numN0 l = 0 := by unfold numN0; rw [hmin]; rfl
          have e1 : numN1 l = 2 := by unfold numN1; rw [e0]; simpa using hr
          have e2 : numD2 l = 0 := by unfold numD2; rw [e1, h2]; simp
          have e3 : numberL l = 2 := by
            unfold numberL; rw [e0, e1, e2]; simp [hr]
          rcases hn with h | ⟨h, hp⟩
          · omega
          · rw [e3] at hp
            have := (pctL_get l 2).1 hp
            rw [h2] at this; simp at this
        have hnum := number_take l n m0 hn
        rw [if_neg ht, if_neg ht, hnum, if_pos m0, if_pos m0, hk]
        have hp : (¬ ((l.headD 0).toNat : Int) = 45) → pctL (l.take n) (numberL l) = pctL l (numberL l) := fun h45 => by
          rw [Bool.eq_iff_iff, pctL_get, pctL_get, get_take]
          rcases hn with h | ⟨h, hp⟩
          · rw [if_neg (by omega)]
            by_cases hh : pctL l (numberL l) = true
            · rw [if_pos ⟨h45, hh⟩] at hl; omega
            · rw [pctL_get] at hh; simp [hh]
          · rw [if_pos (by omega)]
        by_cases h45 : ((l.headD 0).toNat : Int) = 45
        · have hno : ∀ b : Bool, ¬ (((l.headD 0).toNat : Int) ≠ 45 ∧ b = true) := fun b h => h.1 h45
          rw [if_neg (hno _), if_neg (hno _), if_neg (hno _)]
          rw [if_neg (hno _)] at hl
          exact ⟨rfl, hl.symm⟩
        · rw [hp h45]
          exact ⟨rfl, hl.symm⟩
      · rw [if_neg m0] at hk hl
        by_cases s0 : 0 ≤ signI (l.headD 0).toNat
        · rw [if_pos s0] at hk hl
          subst hl
          have ht : ¬ timeB (l.take 1) = true := by
            intro ht
            simp only [timeB, Bool.and_eq_true, beq_iff_eq] at ht
            rw [runL_take] at ht; omega
          have hm : ¬ 0 < numberL (l.take 1) := by
            intro hm
            have h1 : runL ((l.take 1).drop (numN0 (l.take 1))) ≠ 0 := by
              intro h; unfold numberL at hm; rw [if_pos h] at hm; omega
            rw [runL_drop_take] at h1
            have h0 : numN0 (l.take 1) = 0 := by omega
            rw [h0] at h1
            have hr : runL l ≠ 0 := by intro h; apply h1; simp [h]
            have hmin : isMin l = false := by
              cases l with
              | nil => simp [runL] at hr
              | cons c t =>
                rw [runL_cons] at hr
                by_cases hc : dig c = true
                · cases hh : isMin (c :: t)
                  · rfl
                  · have : c = 45 := isMin_head c t hh
                    subst this; exact absurd hc (by decide)
                · rw [if_neg hc] at hr; omega
            apply m0
            unfold numberL numN1
            have e0 : numN0 l = 0 := by unfold numN0; rw [hmin]; rfl
            rw [e0, List.drop_zero, if_neg hr]
            split <;> omega
          rw [if_neg ht, if_neg ht, if_neg hm, if_neg hm, if_pos s0, if_pos s0, hk]; simp
        · rw [if_neg s0] at hl; omega

/-! ### texts of tokens -/
/-- a token whose text scans to it, whatever neutral stands behind -/
structure Good (t : T) : Prop where
  ne : t.text ≠ []
  kind : ∀ r, Neutral r → kindL (t.text ++ r) = t.kind
  len : ∀ r, Neutral r → lenL (t.text ++ r) = t.text.length
theorem good_mk (l : List UInt8) (ln col : Nat) (h : lenL l ≠ 0) : Good ⟨kindL l, l.take (lenL l), ln, col⟩ := by
  have hs := self_token l h
  have hle : lenL l ≤ l.length := by
    rcases lenL_le l with h1 | h1
    · exact h1
    · exfalso; apply h; subst h1; rw [lenL_eq]; decide
  have hne : l.take (lenL l) ≠ [] := by
    intro e; have : (l.take (lenL l)).length = 0 := by rw [e]; rfl
    rw [List.length_take] at this; omega
  exact ⟨hne, fun r hr => by rw [kindL_app _ r hne hr]; exact hs.1, fun r hr => by rw [lenL_app _ r hne hr]; simp only [List.length_take]; rw [hs.2]; omega⟩
theorem scanF_good : ∀ (f : Nat) (l : List UInt8) (ln col : Nat) (acc : List T), (∀ t ∈ acc, Good t) → ∀ t ∈ (scanF f l ln col acc).toks, Good t
  | 0, _, _, _, acc, h => h
  | f + 1, [], _, _, acc, h => h
  | f + 1, c :: t, ln, col, acc, h => by
    rw [scanF]
    split
    · exact scanF_good f t _ _ acc h
    · split
      · exact scanF_good f t _ _ acc h
      · split
        · exact scanF_good f _ _ _ acc h
        · split
          · intro t ht; cases ht
          · rename_i hn
            refine scanF_good f _ _ _ _ ?_
            intro t ht
            rcases List.mem_append.1 ht with ht | ht
            · exact h t ht
            · rw [List.mem_singleton] at ht
              subst ht
              exact good_mk _ _ _ hn
theorem scanR_good (l : List UInt8) : ∀ t ∈ (scanR l).toks, Good t := by
  unfold scanR
  split
  · intro t ht; cases ht
  · exact scanF_good _ _ _ _ [] (by intro t ht; cases ht)
def textSum (l : List T) : Nat := (l.map fun t => t.text.length).sum
theorem scanF_sum : ∀ (f : Nat) (l : List UInt8) (ln col : Nat) (acc : List T), textSum (scanF f l ln col acc).toks ≤ textSum acc + l.length
  | 0, _, _, _, acc => by simp [scanF]
  | f + 1, [], _, _, acc => by simp [scanF]
  | f + 1, c :: t, ln, col, acc => by
    rw [scanF]
    split
    · have := scanF_sum f t (ln + 1) 1 acc; simp; omega
    · split
      · have := scanF_sum f t ln (col + 1) acc; simp; omega
      · split
        · have := scanF_sum f ((c :: t).drop (cmt (c :: t))) ln (col + cmt (c :: t)) acc
          simp only [List.length_drop] at this
          omega
        · split
          · simp [textSum]
          · have := scanF_sum f ((c :: t).drop (lenL (c :: t))) ln (col + lenL (c :: t)) (acc ++ [⟨kindL (c :: t), (c :: t).take (lenL (c :: t)), ln, col⟩])
            have h2 : lenL (c :: t) ≤ (c :: t).length := by
              rcases lenL_le (c :: t) with h | h
              · exact h
              · cases h
            simp only [textSum, List.map_append, List.sum_append, List.map_cons, List.map_nil, List.sum_cons, List.sum_nil, List.length_take, List.length_drop] at this ⊢
            omega
theorem good_first (t : T) (h : Good t) (r : List UInt8) (hr : Neutral r) : ∃ c u, t.text ++ r = c :: u ∧ c ≠ 10 ∧ isSp c = false ∧ c ≠ 35 := by
  obtain ⟨c, u, hc⟩ : ∃ c u, t.text = c :: u := by
    cases ht : t.text with
    | nil => exact absurd ht h.ne
    | cons c u => exact ⟨c, u, rfl⟩
  refine ⟨c, u ++ r, by rw [hc]; rfl, ?_⟩
  have hl := h.len r hr
  have hlen : t.text.length ≠ 0 := by rw [hc]; simp
  have key : ∀ d : UInt8, ltrI d.toNat = false → dig d = false → ((d.toNat : Int) == 45) = false → sgn d.toNat = false → c ≠ d := by
    intro d h1 h2 h3 h4 e
    subst e
    rw [hc, List.cons_append, lenL_eq] at hl
    have w : wordL (c :: (u ++ r)) = 0 := by simp [wordL, h1]
    have rl : runL (c :: (u ++ r)) = 0 := by rw [runL_cons, if_neg (by simp [h2])]
    have ti : timeB (c :: (u ++ r)) = false := by unfold timeB; rw [rl]; rfl
    have mi : isMin (c :: (u ++ r)) = false := by
      cases hh : isMin (c :: (u ++ r))
      · rfl
      · have := isMin_head _ _ hh; subst this; exact absurd h3 (by decide)
    have nu : numberL (c :: (u ++ r)) = 0 := by
      unfold numberL numN0; rw [mi]; simp [rl]
    have sg : ¬ 0 ≤ signI ((c :: (u ++ r)).headD 0).toNat := by
      have := signI_eq c; rw [h4] at this; simpa using this
    rw [w, ti, nu, if_neg (by omega), if_neg (by simp), if_neg (by omega), if_neg sg] at hl
    rw [hc] at hlen; simp at hl
  refine ⟨key 10 (by decide) (by decide) (by decide) (by decide), ?_, key 35 (by decide) (by decide) (by decide) (by decide)⟩
  cases hs : isSp c
  · rfl
  · rcases isSp_yes hs with h | h | h
    · exact absurd h (key 32 (by decide) (by decide) (by decide) (by decide))
    · exact absurd h.2 (key 9 (by decide) (by decide) (by decide) (by decide))
    · exact absurd h.2.2 (key 13 (by decide) (by decide) (by decide) (by decide))
/-- one token is scanned -/
theorem scanF_token (f : Nat) (t : T) (h : Good t) (r : List UInt8) (hr : Neutral r) (ln col : Nat) (acc : List T) :
    scanF (f + 1) (t.text ++ r) ln col acc = scanF f r ln (col + t.text.length) (acc ++ [⟨t.kind, t.text, ln, col⟩]) := by
  obtain ⟨c, u, he, h1, h2, h3⟩ := good_first t h r hr
  have hl := h.len r hr
  have hk := h.kind r hr
  have hlen : t.text.length ≠ 0 := fun e => h.ne (List.length_eq_zero_iff.1 e)
  have e1 : (t.text ++ r).drop t.text.length = r := List.drop_left
  have e2 : (t.text ++ r).take t.text.length = t.text := List.take_left
  rw [he] at hl hk e1 e2 ⊢
  rw [scanF, if_neg h1, if_neg (by simp [h2]), if_neg h3, hl, if_neg hlen, hk, e1, e2]
theorem scanF_space (f : Nat) (r : List UInt8) (ln col : Nat) (acc : List T) : scanF (f + 1) (32 :: r) ln col acc = scanF f r ln (col + 1) acc := by
  rw [scanF, if_neg (by decide), if_pos (by decide)]
/-- the texts, joined with one space -/
def joinL : List T → List UInt8
  | [] => []
  | [t] => t.text
  | t :: u :: l => t.text ++ 32 :: joinL (u :: l)
/-- the same kinds and texts -/
def SameKT (a b : List T) : Prop := a.map (fun t => (t.kind, t.text)) = b.map (fun t => (t.kind, t.text))
theorem neutral_space (r : List UInt8) : Neutral (32 :: r) := neutral_cons (by decide) (by decide) (by decide) (by decide)
theorem scanF_join : ∀ (l : List T) (f : Nat) (ln col : Nat) (acc : List T), (∀ t ∈ l, Good t) → (joinL l).length < f →
    ∃ l', scanF f (joinL l) ln col acc = ⟨acc ++ l', 0, 0, 0⟩ ∧ SameKT l l' ∧ ∀ t ∈ l', t.line = ln
  | [], f, ln, col, acc, hg, hf => by
    obtain ⟨f', rfl⟩ : ∃ f', f = f' + 1 := ⟨f - 1, by omega⟩
    exact ⟨[], by simp [joinL, scanF], rfl, by intro t ht; cases ht⟩
  | [t], f, ln, col, acc, hg, hf => by
    have h1 := (hg t (by simp))
    have hpos : 0 < t.text.length := List.length_pos_iff.2 h1.ne
    simp only [joinL] at hf ⊢
    obtain ⟨f', rfl⟩ : ∃ f', f = f' + 1 + 1 := ⟨f - 2, by omega⟩
    have := scanF_token (f' + 1) t h1 [] neutral_nil ln col acc
    rw [List.append_nil] at this
    rw [this]
    exact ⟨[⟨t.kind, t.text, ln, col⟩], by simp [scanF], rfl, by simp⟩
  | t :: u :: l, f, ln, col, acc, hg, hf => by
    have h1 := (hg t (by simp))
    have hpos : 0 < t.text.length := List.length_pos_iff.2 h1.ne
    simp only [joinL, List.length_append, List.length_cons] at hf ⊢
    obtain ⟨f', rfl⟩ : ∃ f', f = f' + 1 + 1 := ⟨f - 2, by omega⟩
    rw [scanF_token (f' + 1) t h1 _ (neutral_space _) ln col acc, scanF_space]
    obtain ⟨l', e1, e2, e3⟩ := scanF_join (u :: l) f' ln (col + t.text.length + 1) (acc ++ [⟨t.kind, t.text, ln, col⟩]) (fun x hx => hg x (by simp at hx ⊢; exact .inr hx)) (by omega)
    refine ⟨⟨t.kind, t.text, ln, col⟩ :: l', by rw [e1]; simp, ?_, ?_⟩
    · unfold SameKT at e2 ⊢; simp only [List.map_cons] at e2 ⊢; rw [e2]
    · intro x hx; rcases List.mem_cons.1 hx with rfl | hx
      · rfl
      · exact e3 x hx
theorem joinL_snoc (l : List T) (t : T) : joinL (l ++ [t]) = if l = [] then t.text else joinL l ++ 32 :: t.text := by
  induction l with
  | nil => rfl
  | cons a l ih =>
    cases l with
    | nil => simp [joinL]
    | cons b l =>
      rw [if_neg (by simp)] at ih ⊢
      simp only [List.cons_append, joinL] at ih ⊢
      rw [ih]; simp
theorem joinL_len (l : List T) : (joinL l).length ≤ textSum l + l.length := by
  induction l with
  | nil => simp [joinL]
  | cons a l ih =>
    cases l with
    | nil => simp [joinL, textSum]
    | cons b l => simp only [joinL, textSum, List.length_append, List.length_cons, List.map_cons, List.sum_cons] at ih ⊢; omega
end Tok
end Go.Proofs.Ytjnaeldaajckkaa
