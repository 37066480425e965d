/- Blocks printed as tokens, and parsed back: plain, no program in sight. -/
import Derived.Test.YtjnaeldaajckkaaSyP
set_option linter.unusedVariables false
set_option linter.unusedSimpArgs false
namespace Go.Proofs.Ytjnaeldaajckkaa
open Go.RowKit Tok

namespace Syn
def kt (t : T) : Int × List UInt8 := (t.kind, t.text)
def kindV (v : List UInt8) : Int := if v = [44] then 5 else kindL v
def clauseK (c : Cl) : List (Int × List UInt8) := (1, c.word) :: (c.vals.map (fun v => (kindV v, v)) ++ [(5, [59])])
def GoodC (c : Cl) : Prop := c.word ≠ sClass ∧ ∀ v ∈ c.vals, v = [44] ∨ (kindL v ≠ 0 ∧ kindL v ≠ 5)
def clsK (cs : List Cl) : List (Int × List UInt8) := cs.flatMap clauseK
def classK (c : Cb) : List (Int × List UInt8) := (1, sClass) :: (1, c.name) :: (5, [123]) :: (clsK c.cls ++ [(5, [125])])
def blockK (b : Bk) : List (Int × List UInt8) := (1, sFund) :: (1, b.name) :: (5, [123]) :: (clsK b.cls ++ (b.cbs.flatMap classK ++ [(5, [125])]))
def blocksK (l : List Bk) : List (Int × List UInt8) := l.flatMap blockK
def GoodB (b : Bk) : Prop := (∀ c ∈ b.cls, GoodC c) ∧ ∀ k ∈ b.cbs, ∀ c ∈ k.cls, GoodC c
/-- without the places -/
def sC (c : Cl) : List UInt8 × List (List UInt8) := (c.word, c.vals)
def sK (k : Cb) : List UInt8 × List (List UInt8 × List (List UInt8)) := (k.name, k.cls.map sC)
def sB (b : Bk) : List UInt8 × List (List UInt8 × List (List UInt8)) × List (List UInt8 × List (List UInt8 × List (List UInt8))) := (b.name, b.cls.map sC, b.cbs.map sK)
theorem map_cons_of {ts : List T} {p : Int × List UInt8} {ps : List (Int × List UInt8)} (h : ts.map kt = p :: ps) : ∃ t r, ts = t :: r ∧ t.kind = p.1 ∧ t.text = p.2 ∧ r.map kt = ps := by
  cases ts with
  | nil => cases h
  | cons t r =>
    simp only [List.map_cons, List.cons.injEq] at h
    exact ⟨t, r, rfl, by rw [← h.1]; rfl, by rw [← h.1]; rfl, h.2⟩
theorem map_app_of {ts : List T} {ps qs : List (Int × List UInt8)} (h : ts.map kt = ps ++ qs) : ∃ a b, ts = a ++ b ∧ a.map kt = ps ∧ b.map kt = qs := List.map_eq_append_iff.1 h
theorem vals_back : ∀ (vs : List (List UInt8)) (ts r : List T), (∀ v ∈ vs, v = [44] ∨ (kindL v ≠ 0 ∧ kindL v ≠ 5)) → ts.map kt = vs.map (fun v => (kindV v, v)) ++ [(5, [59])] → valsP (ts ++ r) = .ok (vs, r)
  | [], ts, r, _, h => by
    obtain ⟨t, q, rfl, h1, h2, h3⟩ := map_cons_of h
    obtain rfl : q = [] := by simpa using h3
    have hs : sgn t 59 = true := by unfold sgn; rw [h1, h2]; rfl
    show valsP (t :: r) = _
    rw [valsP, if_pos hs]
  | v :: vs, ts, r, hg, h => by
    obtain ⟨t, q, rfl, h1, h2, h3⟩ := map_cons_of h
    have ih := vals_back vs q r (fun x hx => hg x (List.mem_cons_of_mem _ hx)) h3
    have hv := hg v (List.mem_cons_self ..)
    have h1 : t.kind = kindV v := h1
    have h2 : t.text = v := h2
    have hs : ¬ sgn t 59 = true := by
      unfold sgn
      rw [h1, h2]
      unfold kindV
      rcases hv with rfl | ⟨_, h5⟩
      · decide
      · by_cases hc : v = [44]
        · subst hc; decide
        · rw [if_neg hc]; simp [h5]
    have ho : valOk t = true := by
      unfold valOk
      rw [h1, h2]
      unfold kindV
      by_cases hc : v = [44]
      · subst hc; decide
      · rw [if_neg hc]
        rcases hv with hv | ⟨h0, h5⟩
        · exact absurd hv hc
        · simp [h0, h5]
    show valsP (t :: (q ++ r)) = _
    rw [valsP, if_neg hs, if_pos ho, ih]
    simp only [h2]
theorem clause_back {c : Cl} {ts r : List T} (hg : GoodC c) (h : ts.map kt = clauseK c) : ∃ t q, ts = t :: q ∧ t.kind = 1 ∧ t.text = c.word ∧ clauseP (ts ++ r) = .ok (⟨c.word, c.vals, t.line, t.col⟩, r) := by
  obtain ⟨t, q, rfl, h1, h2, h3⟩ := map_cons_of h
  have h1 : t.kind = 1 := h1
  have h2 : t.text = c.word := h2
  refine ⟨t, q, rfl, h1, h2, ?_⟩
  show clauseP (t :: (q ++ r)) = _
  have hw : (wrd t && t.text != sClass) = true := by unfold wrd; rw [h1, h2]; simp [hg.1]
  rw [clauseP_cons, if_pos hw, vals_back c.vals q r hg.2 h3, h2]
theorem cls_back : ∀ (cs : List Cl) (ts r : List T), (∀ c ∈ cs, GoodC c) → ts.map kt = clsK cs ++ [(5, [125])] → ∃ cs', clsP (ts ++ r) = .ok (cs', r) ∧ cs'.map sC = cs.map sC
  | [], ts, r, _, h => by
    obtain ⟨t, q, rfl, h1, h2, h3⟩ := map_cons_of h
    obtain rfl : q = [] := by simpa using h3
    have hs : sgn t 125 = true := by unfold sgn; rw [h1, h2]; rfl
    exact ⟨[], by show clsP (t :: r) = _; rw [clsP_cons, if_pos hs], rfl⟩
  | c :: cs, ts, r, hg, h => by
    have h : ts.map kt = clauseK c ++ (clsK cs ++ [(5, [125])]) := by rw [h]; simp [clsK]
    obtain ⟨a, b, rfl, ha, hb⟩ := map_app_of h
    obtain ⟨cs', i1, i2⟩ := cls_back cs b r (fun x hx => hg x (List.mem_cons_of_mem _ hx)) hb
    obtain ⟨t, q, rfl, k1, k2, k3⟩ := clause_back (r := b ++ r) (hg c (List.mem_cons_self ..)) ha
    have hs : ¬ sgn t 125 = true := by unfold sgn; rw [k1]; simp
    refine ⟨⟨c.word, c.vals, t.line, t.col⟩ :: cs', ?_, by simp [i2, sC]⟩
    rw [List.append_assoc]
    show clsP (t :: (q ++ (b ++ r))) = _
    rw [List.cons_append] at k3
    rw [clsP_cons, if_neg hs, k3]
    simp only [i1]
theorem head_back {w n : List UInt8} {ts r : List T} (h : ts.map kt = [(1, w), (1, n), (5, [123])]) : ∃ t q, ts = t :: q ∧ t.kind = 1 ∧ t.text = w ∧ headP (ts ++ r) = .ok ((n, t.line, t.col), r) := by
  obtain ⟨t, q, rfl, h1, h2, h3⟩ := map_cons_of h
  obtain ⟨u, q, rfl, h4, h5, h6⟩ := map_cons_of h3
  obtain ⟨b, q, rfl, h7, h8, h9⟩ := map_cons_of h6
  obtain rfl : q = [] := by simpa using h9
  refine ⟨t, _, rfl, h1, h2, ?_⟩
  have hw : wrd u = true := by unfold wrd; rw [h4]; rfl
  have hb : sgn b 123 = true := by unfold sgn; rw [h7, h8]; rfl
  show headP (t :: u :: b :: r) = _
  unfold headP
  simp only [hw, hb, if_true, h5]
theorem class_back {k : Cb} {ts r : List T} (hg : ∀ c ∈ k.cls, GoodC c) (h : ts.map kt = classK k) : ∃ t q k', ts = t :: q ∧ isW t sClass = true ∧ classP (ts ++ r) = .ok (k', r) ∧ sK k' = sK k := by
  have h : ts.map kt = [(1, sClass), (1, k.name), (5, [123])] ++ (clsK k.cls ++ [(5, [125])]) := h
  obtain ⟨a, b, rfl, ha, hb⟩ := map_app_of h
  obtain ⟨t, q, rfl, k1, k2, k3⟩ := head_back (r := b ++ r) ha
  obtain ⟨cs', i1, i2⟩ := cls_back k.cls b r hg hb
  refine ⟨t, q ++ b, ⟨k.name, cs', t.line, t.col⟩, rfl, by unfold isW wrd; rw [k1, k2]; decide, ?_, by simp [sK, i2]⟩
  rw [List.append_assoc]
  unfold classP
  rw [k3]
  simp only [i1]
theorem classes_back : ∀ (ks : List Cb) (ts r : List T), (∀ k ∈ ks, ∀ c ∈ k.cls, GoodC c) → ts.map kt = ks.flatMap classK ++ [(5, [125])] → ∃ ks', bodyP (ts ++ r) = .ok (([], ks'), r) ∧ ks'.map sK = ks.map sK
  | [], ts, r, _, h => by
    obtain ⟨t, q, rfl, h1, h2, h3⟩ := map_cons_of h
    obtain rfl : q = [] := by simpa using h3
    have hs : sgn t 125 = true := by unfold sgn; rw [h1, h2]; rfl
    exact ⟨[], by show bodyP (t :: r) = _; rw [bodyP_cons, if_pos hs], rfl⟩
  | k :: ks, ts, r, hg, h => by
    have h : ts.map kt = classK k ++ (ks.flatMap classK ++ [(5, [125])]) := by rw [h]; simp
    obtain ⟨a, b, rfl, ha, hb⟩ := map_app_of h
    obtain ⟨ks', i1, i2⟩ := classes_back ks b r (fun x hx => hg x (List.mem_cons_of_mem _ hx)) hb
    obtain ⟨t, q, k', rfl, k1, k2, k3⟩ := class_back (r := b ++ r) (hg k (List.mem_cons_self ..)) ha
    have hs : ¬ sgn t 125 = true := by
      unfold isW wrd at k1
      simp only [Bool.and_eq_true, beq_iff_eq] at k1
      unfold sgn; rw [k1.1]; simp
    refine ⟨k' :: ks', ?_, by simp [i2, k3]⟩
    rw [List.append_assoc]
    show bodyP (t :: (q ++ (b ++ r))) = _
    rw [List.cons_append] at k2
    rw [bodyP_cons, if_neg hs, if_pos k1, k2]
    simp only [i1]
theorem body_back : ∀ (cs : List Cl) (ks : List Cb) (ts r : List T), (∀ c ∈ cs, GoodC c) → (∀ k ∈ ks, ∀ c ∈ k.cls, GoodC c) → ts.map kt = clsK cs ++ (ks.flatMap classK ++ [(5, [125])]) → ∃ cs' ks', bodyP (ts ++ r) = .ok ((cs', ks'), r) ∧ cs'.map sC = cs.map sC ∧ ks'.map sK = ks.map sK
  | [], ks, ts, r, _, hk, h => by
    obtain ⟨ks', h1, h2⟩ := classes_back ks ts r hk h
    exact ⟨[], ks', h1, rfl, h2⟩
  | c :: cs, ks, ts, r, hg, hk, h => by
    have h : ts.map kt = clauseK c ++ (clsK cs ++ (ks.flatMap classK ++ [(5, [125])])) := by rw [h]; simp [clsK]
    obtain ⟨a, b, rfl, ha, hb⟩ := map_app_of h
    obtain ⟨cs', ks', i1, i2, i3⟩ := body_back cs ks b r (fun x hx => hg x (List.mem_cons_of_mem _ hx)) hk hb
    have hc := hg c (List.mem_cons_self ..)
    obtain ⟨t, q, rfl, k1, k2, k3⟩ := clause_back (r := b ++ r) hc ha
    have hs : ¬ sgn t 125 = true := by unfold sgn; rw [k1]; simp
    have hw : ¬ isW t sClass = true := by
      unfold isW
      rw [k2]
      simp [hc.1]
    refine ⟨⟨c.word, c.vals, t.line, t.col⟩ :: cs', ks', ?_, by simp [i2, sC], i3⟩
    rw [List.append_assoc]
    show bodyP (t :: (q ++ (b ++ r))) = _
    rw [List.cons_append] at k3
    rw [bodyP_cons, if_neg hs, if_neg hw, k3]
    simp only [i1]
theorem fund_back {b : Bk} {ts r : List T} (hg : GoodB b) (h : ts.map kt = blockK b) : ∃ t q b', ts = t :: q ∧ fundP (ts ++ r) = .ok (b', r) ∧ sB b' = sB b := by
  have h : ts.map kt = [(1, sFund), (1, b.name), (5, [123])] ++ (clsK b.cls ++ (b.cbs.flatMap classK ++ [(5, [125])])) := h
  obtain ⟨a, d, rfl, ha, hb⟩ := map_app_of h
  obtain ⟨t, q, rfl, k1, k2, k3⟩ := head_back (r := d ++ r) ha
  obtain ⟨cs', ks', i1, i2, i3⟩ := body_back b.cls b.cbs d r hg.1 hg.2 hb
  refine ⟨t, q ++ d, ⟨b.name, cs', ks', t.line, t.col⟩, rfl, ?_, by simp [sB, i2, i3]⟩
  rw [List.append_assoc]
  show fundP (t :: (q ++ (d ++ r))) = _
  have hw : isW t sFund = true := by unfold isW wrd; rw [k1, k2]; decide
  rw [List.cons_append] at k3
  rw [fundP_cons, if_pos hw, k3]
  simp only [i1]
theorem blocks_back : ∀ (l : List Bk) (ts : List T), (∀ b ∈ l, GoodB b) → ts.map kt = blocksK l → ∃ l', blocksP ts = .ok l' ∧ l'.map sB = l.map sB
  | [], ts, _, h => by
    obtain rfl : ts = [] := by simpa [blocksK] using h
    exact ⟨[], rfl, rfl⟩
  | b :: l, ts, hg, h => by
    have h : ts.map kt = blockK b ++ blocksK l := by rw [h]; simp [blocksK]
    obtain ⟨a, d, rfl, ha, hb⟩ := map_app_of h
    obtain ⟨l', i1, i2⟩ := blocks_back l d (fun x hx => hg x (List.mem_cons_of_mem _ hx)) hb
    obtain ⟨t, q, b', rfl, k1, k2⟩ := fund_back (r := d) (hg b (List.mem_cons_self ..)) ha
    refine ⟨b' :: l', ?_, by simp [i2, k2]⟩
    rw [List.cons_append] at k1
    show blocksP (t :: (q ++ d)) = _
    rw [blocksP_cons, k1]
    simp only [i1]
/-- an error ahead of what follows, or a success: the same with anything behind -/
def ExtP {α : Type} (x y : Except (List T) (α × List T)) (r : List T) : Prop := match x with
  | .error [] => True
  | .error (t :: s) => y = .error (t :: s ++ r)
  | .ok (a, s) => y = .ok (a, s ++ r)
theorem vals_ext (r : List T) : ∀ l : List T, ExtP (valsP l) (valsP (l ++ r)) r
  | [] => trivial
  | t :: l => by
    have ih := vals_ext r l
    rw [List.cons_append, valsP, valsP]
    by_cases h1 : sgn t 59 = true
    · rw [if_pos h1, if_pos h1]; rfl
    · rw [if_neg h1, if_neg h1]
      by_cases h2 : valOk t = true
      · rw [if_pos h2, if_pos h2]
        cases hv : valsP l with
        | error s =>
          rw [hv] at ih
          cases s with
          | nil => trivial
          | cons u s => simp only [ExtP] at ih ⊢; rw [ih]
        | ok p => rw [hv] at ih; simp only [ExtP] at ih ⊢; rw [ih]
      · rw [if_neg h2, if_neg h2]; rfl
theorem clause_ext (r : List T) : ∀ l : List T, ExtP (clauseP l) (clauseP (l ++ r)) r
  | [] => trivial
  | t :: l => by
    have ih := vals_ext r l
    rw [List.cons_append, clauseP_cons, clauseP_cons]
    by_cases h1 : (wrd t && t.text != sClass) = true
    · rw [if_pos h1, if_pos h1]
      cases hv : valsP l with
      | error s =>
        rw [hv] at ih
        cases s with
        | nil => trivial
        | cons u s => simp only [ExtP] at ih ⊢; rw [ih]
      | ok p => rw [hv] at ih; simp only [ExtP] at ih ⊢; rw [ih]
    · rw [if_neg h1, if_neg h1]; rfl
theorem head_ext (r : List T) : ∀ l : List T, ExtP (headP l) (headP (l ++ r)) r
  | [] => trivial
  | [t] => trivial
  | [t, n] => by
    unfold headP
    by_cases h : wrd n = true
    · simp only [h, if_true]; trivial
    · simp only [h, List.cons_append, List.nil_append]; rfl
  | t :: n :: b :: l => by
    unfold headP
    by_cases h : wrd n = true
    · by_cases h2 : sgn b 123 = true
      · simp only [h, h2, if_true, List.cons_append]; rfl
      · simp only [h, h2, if_true, List.cons_append]; rfl
    · simp only [h, List.cons_append]; rfl
theorem cls_ext (r : List T) : ∀ (n : Nat) (l : List T), l.length ≤ n → ExtP (clsP l) (clsP (l ++ r)) r
  | _, [], _ => by rw [clsP_nil]; trivial
  | 0, t :: l, h => absurd h (by simp)
  | n + 1, t :: l, h => by
    rw [List.cons_append, clsP_cons, clsP_cons]
    by_cases h1 : sgn t 125 = true
    · rw [if_pos h1, if_pos h1]; rfl
    · rw [if_neg h1, if_neg h1]
      have ic := clause_ext r (t :: l)
      have tc := clause_tl (t :: l)
      rw [List.cons_append] at ic
      cases hc : clauseP (t :: l) with
      | error s =>
        rw [hc] at ic
        cases s with
        | nil => trivial
        | cons u s => simp only [ExtP] at ic ⊢; rw [ic]
      | ok p =>
        rw [hc] at ic tc
        simp only [ExtP] at ic
        rw [ic]
        have ih := cls_ext r n p.2 (by have := tc.2; simp only [List.length_cons] at this h; omega)
        simp only
        cases hq : clsP p.2 with
        | error s =>
          rw [hq] at ih
          cases s with
          | nil => trivial
          | cons u s => simp only [ExtP] at ih ⊢; rw [ih]
        | ok q => rw [hq] at ih; simp only [ExtP] at ih ⊢; rw [ih]
theorem class_ext (r : List T) (l : List T) : ExtP (classP l) (classP (l ++ r)) r := by
  unfold classP
  have ic := head_ext r l
  cases hc : headP l with
  | error s =>
    rw [hc] at ic
    cases s with
    | nil => trivial
    | cons u s => simp only [ExtP] at ic ⊢; rw [ic]
  | ok p =>
    rw [hc] at ic
    simp only [ExtP] at ic
    rw [ic]
    have ih := cls_ext r _ p.2 (Nat.le_refl _)
    simp only
    cases hq : clsP p.2 with
    | error s =>
      rw [hq] at ih
      cases s with
      | nil => trivial
      | cons u s => simp only [ExtP] at ih ⊢; rw [ih]
    | ok q => rw [hq] at ih; simp only [ExtP] at ih ⊢; rw [ih]
theorem body_ext (r : List T) : ∀ (n : Nat) (l : List T), l.length ≤ n → ExtP (bodyP l) (bodyP (l ++ r)) r
  | _, [], _ => by rw [bodyP_nil]; trivial
  | 0, t :: l, h => absurd h (by simp)
  | n + 1, t :: l, h => by
    rw [List.cons_append, bodyP_cons, bodyP_cons]
    by_cases h1 : sgn t 125 = true
    · rw [if_pos h1, if_pos h1]; rfl
    · rw [if_neg h1, if_neg h1]
      by_cases h2 : isW t sClass = true
      · rw [if_pos h2, if_pos h2]
        have ic := class_ext r (t :: l)
        have tc := class_tl (t :: l)
        rw [List.cons_append] at ic
        cases hc : classP (t :: l) with
        | error s =>
          rw [hc] at ic
          cases s with
          | nil => trivial
          | cons u s => simp only [ExtP] at ic ⊢; rw [ic]
        | ok p =>
          rw [hc] at ic tc
          simp only [ExtP] at ic
          rw [ic]
          have ih := body_ext r n p.2 (by have := tc.2; simp only [List.length_cons] at this h; omega)
          simp only
          cases hq : bodyP p.2 with
          | error s =>
            rw [hq] at ih
            cases s with
            | nil => trivial
            | cons u s => simp only [ExtP] at ih ⊢; rw [ih]
          | ok q => rw [hq] at ih; simp only [ExtP] at ih ⊢; rw [ih]
      · rw [if_neg h2, if_neg h2]
        have ic := clause_ext r (t :: l)
        have tc := clause_tl (t :: l)
        rw [List.cons_append] at ic
        cases hc : clauseP (t :: l) with
        | error s =>
          rw [hc] at ic
          cases s with
          | nil => trivial
          | cons u s => simp only [ExtP] at ic ⊢; rw [ic]
        | ok p =>
          rw [hc] at ic tc
          simp only [ExtP] at ic
          rw [ic]
          have ih := body_ext r n p.2 (by have := tc.2; simp only [List.length_cons] at this h; omega)
          simp only
          cases hq : bodyP p.2 with
          | error s =>
            rw [hq] at ih
            cases s with
            | nil => trivial
            | cons u s => simp only [ExtP] at ih ⊢; rw [ih]
          | ok q => rw [hq] at ih; simp only [ExtP] at ih ⊢; rw [ih]
theorem fund_ext (r : List T) : ∀ l : List T, ExtP (fundP l) (fundP (l ++ r)) r
  | [] => trivial
  | t :: l => by
    rw [List.cons_append, fundP_cons, fundP_cons]
    by_cases h1 : isW t sFund = true
    · rw [if_pos h1, if_pos h1]
      have ic := head_ext r (t :: l)
      rw [List.cons_append] at ic
      cases hc : headP (t :: l) with
      | error s =>
        rw [hc] at ic
        cases s with
        | nil => trivial
        | cons u s => simp only [ExtP] at ic ⊢; rw [ic]
      | ok p =>
        rw [hc] at ic
        simp only [ExtP] at ic
        rw [ic]
        have ih := body_ext r _ p.2 (Nat.le_refl _)
        simp only
        cases hq : bodyP p.2 with
        | error s =>
          rw [hq] at ih
          cases s with
          | nil => trivial
          | cons u s => simp only [ExtP] at ih ⊢; rw [ih]
        | ok q => rw [hq] at ih; simp only [ExtP] at ih ⊢; rw [ih]
    · rw [if_neg h1, if_neg h1]; rfl
/-- a text with an error is refused at the same token whatever follows -/
theorem blocks_ext (r : List T) : ∀ (n : Nat) (l : List T) (t : T) (s : List T), l.length ≤ n → blocksP l = .error (t :: s) → blocksP (l ++ r) = .error (t :: s ++ r)
  | _, [], _, _, _, h => by rw [blocksP_nil] at h; cases h
  | 0, t :: l, _, _, h, _ => absurd h (by simp)
  | n + 1, u :: l, t, s, h, he => by
    rw [blocksP_cons] at he
    rw [List.cons_append, blocksP_cons]
    have ic := fund_ext r (u :: l)
    have tc := fund_tl (u :: l)
    rw [List.cons_append] at ic
    cases hc : fundP (u :: l) with
    | error x =>
      rw [hc] at ic he
      simp only [Except.error.injEq] at he
      subst he
      simp only [ExtP] at ic
      rw [ic]
    | ok p =>
      rw [hc] at ic tc he
      simp only [ExtP] at ic
      rw [ic]
      simp only at he ⊢
      cases hq : blocksP p.2 with
      | error x =>
        rw [hq] at he
        simp only [Except.error.injEq] at he
        subst he
        rw [blocks_ext r n p.2 t s (by have := tc.2; simp only [List.length_cons] at this h; omega) hq]
      | ok q => rw [hq] at he; cases he
end Syn
end Go.Proofs.Ytjnaeldaajckkaa
