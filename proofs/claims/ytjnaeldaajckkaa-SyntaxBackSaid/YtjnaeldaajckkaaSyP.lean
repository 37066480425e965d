/- The parser of the rule language as functions on lists of tokens: plain, no program in sight. An error hands back the tokens that are left: the first of them is the one at fault. -/
import Derived.Test.YtjnaeldaajckkaaTokP
set_option linter.unusedVariables false
set_option linter.unusedSimpArgs false
namespace Go.Proofs.Ytjnaeldaajckkaa
open Go.RowKit Tok

namespace Syn
/-- a clause -/
structure Cl where
  word : List UInt8
  vals : List (List UInt8)
  line : Nat
  col : Nat
/-- a class -/
structure Cb where
  name : List UInt8
  cls : List Cl
  line : Nat
  col : Nat
/-- a fund -/
structure Bk where
  name : List UInt8
  cls : List Cl
  cbs : List Cb
  line : Nat
  col : Nat
def sgn (t : T) (c : UInt8) : Bool := t.kind == 5 && t.text == [c]
def wrd (t : T) : Bool := t.kind == 1
def sClass : List UInt8 := [99, 108, 97, 115, 115]
def sFund : List UInt8 := [102, 117, 110, 100]
def isW (t : T) (s : List UInt8) : Bool := wrd t && t.text == s
/-- may stand among a clause's values -/
def valOk (t : T) : Bool := t.kind != 0 && (t.kind != 5 || t.text == [44])
/-- the values of a clause, up to its semicolon -/
def valsP : List T → Except (List T) (List (List UInt8) × List T)
  | [] => .error []
  | t :: r => if sgn t 59 = true then .ok ([], r) else if valOk t = true then (match valsP r with | .error s => .error s | .ok (v, r') => .ok (t.text :: v, r')) else .error (t :: r)
def clauseP : List T → Except (List T) (Cl × List T)
  | [] => .error []
  | t :: r => if (wrd t && t.text != sClass) = true then (match valsP r with | .error s => .error s | .ok (v, r') => .ok (⟨t.text, v, t.line, t.col⟩, r')) else .error (t :: r)
/-- a word that is known to be there, a name, an opening brace: the name and the word's place -/
def headP : List T → Except (List T) ((List UInt8 × Nat × Nat) × List T)
  | [] => .error []
  | t :: r => match r with
    | [] => .error []
    | n :: r2 => if wrd n = true then (match r2 with
      | [] => .error []
      | b :: r3 => if sgn b 123 = true then .ok ((n.text, t.line, t.col), r3) else .error (b :: r3)) else .error (n :: r2)
def clsF : Nat → List T → Except (List T) (List Cl × List T)
  | 0, l => .error l
  | _ + 1, [] => .error []
  | f + 1, t :: r => if sgn t 125 = true then .ok ([], r) else match clauseP (t :: r) with
    | .error s => .error s
    | .ok (c, r') => match clsF f r' with
      | .error s => .error s
      | .ok (cs, r'') => .ok (c :: cs, r'')
/-- the clauses of a class, up to its closing brace -/
def clsP (l : List T) : Except (List T) (List Cl × List T) := clsF (l.length + 1) l
def classP (l : List T) : Except (List T) (Cb × List T) := match headP l with
  | .error s => .error s
  | .ok (h, r) => match clsP r with
    | .error s => .error s
    | .ok (cs, r') => .ok (⟨h.1, cs, h.2.1, h.2.2⟩, r')
def bodyF : Nat → List T → Except (List T) ((List Cl × List Cb) × List T)
  | 0, l => .error l
  | _ + 1, [] => .error []
  | f + 1, t :: r => if sgn t 125 = true then .ok (([], []), r) else if isW t sClass = true then (match classP (t :: r) with
      | .error s => .error s
      | .ok (c, r') => match bodyF f r' with
        | .error s => .error s
        | .ok (p, r'') => .ok ((p.1, c :: p.2), r''))
    else match clauseP (t :: r) with
      | .error s => .error s
      | .ok (c, r') => match bodyF f r' with
        | .error s => .error s
        | .ok (p, r'') => .ok ((c :: p.1, p.2), r'')
def bodyP (l : List T) : Except (List T) ((List Cl × List Cb) × List T) := bodyF (l.length + 1) l
def fundP : List T → Except (List T) (Bk × List T)
  | [] => .error []
  | t :: r => if isW t sFund = true then (match headP (t :: r) with
      | .error s => .error s
      | .ok (h, r) => match bodyP r with
        | .error s => .error s
        | .ok (p, r') => .ok (⟨h.1, p.1, p.2, h.2.1, h.2.2⟩, r'))
    else .error (t :: r)
def blocksF : Nat → List T → Except (List T) (List Bk)
  | 0, l => .error l
  | _ + 1, [] => .ok []
  | f + 1, t :: r => match fundP (t :: r) with
    | .error s => .error s
    | .ok (b, r') => match blocksF f r' with
      | .error s => .error s
      | .ok bs => .ok (b :: bs)
def blocksP (l : List T) : Except (List T) (List Bk) := blocksF (l.length + 1) l
/-- what is left is a tail of what there was -/
def Tl {α : Type} (l : List T) (x : Except (List T) (α × List T)) : Prop := match x with
  | .error s => s <:+ l
  | .ok (_, r) => r <:+ l ∧ r.length < l.length
theorem tl_up {α : Type} {l l' : List T} {x : Except (List T) (α × List T)} (h : Tl l x) (hs : l <:+ l') : Tl l' x := by
  cases x with
  | error s => exact h.trans hs
  | ok p => exact ⟨h.1.trans hs, Nat.lt_of_lt_of_le h.2 hs.length_le⟩
theorem vals_tl : ∀ l : List T, Tl l (valsP l)
  | [] => List.suffix_refl _
  | t :: r => by
    unfold valsP
    split
    · exact ⟨List.suffix_cons .., by simp⟩
    · split
      · have h := vals_tl r
        cases hv : valsP r with
        | error s => rw [hv] at h; exact List.IsSuffix.trans h (List.suffix_cons ..)
        | ok p => rw [hv] at h; exact ⟨h.1.trans (List.suffix_cons ..), Nat.lt_succ_of_lt h.2⟩
      · exact List.suffix_refl _
theorem clauseP_cons (t : T) (r : List T) : clauseP (t :: r) = if (wrd t && t.text != sClass) = true then (match valsP r with | .error s => .error s | .ok (v, r') => .ok (⟨t.text, v, t.line, t.col⟩, r')) else .error (t :: r) := rfl
theorem clause_tl : ∀ l : List T, Tl l (clauseP l)
  | [] => List.suffix_refl _
  | t :: r => by
    rw [clauseP_cons]
    split
    · have h := vals_tl r
      cases hv : valsP r with
      | error s => rw [hv] at h; exact List.IsSuffix.trans h (List.suffix_cons ..)
      | ok p => rw [hv] at h; exact ⟨h.1.trans (List.suffix_cons ..), Nat.lt_succ_of_lt h.2⟩
    · exact List.suffix_refl _
theorem head_tl (l : List T) : Tl l (headP l) := by
  unfold headP
  match l with
  | [] => exact List.suffix_refl _
  | [t] => exact List.nil_suffix
  | t :: n :: r2 =>
    simp only
    split
    · match r2 with
      | [] => exact List.nil_suffix
      | b :: r3 =>
        simp only
        split
        · exact ⟨((List.suffix_cons b r3).trans (List.suffix_cons n _)).trans (List.suffix_cons t _), by simp; omega⟩
        · exact (List.suffix_cons n _).trans (List.suffix_cons t _)
    · exact List.suffix_cons t _
theorem clsF_tl : ∀ (f : Nat) (l : List T), Tl l (clsF f l)
  | 0, l => List.suffix_refl _
  | _ + 1, [] => List.suffix_refl _
  | f + 1, t :: r => by
    unfold clsF
    split
    · exact ⟨List.suffix_cons .., by simp⟩
    · have h := clause_tl (t :: r)
      cases hc : clauseP (t :: r) with
      | error s => rw [hc] at h; exact h
      | ok p =>
        rw [hc] at h
        have h2 := clsF_tl f p.2
        simp only
        cases hq : clsF f p.2 with
        | error s => rw [hq] at h2; exact List.IsSuffix.trans h2 h.1
        | ok q => rw [hq] at h2; exact ⟨h2.1.trans h.1, Nat.lt_trans h2.2 h.2⟩
/-- enough fuel is enough -/
theorem clsF_fuel : ∀ (f g : Nat) (l : List T), l.length < f → l.length < g → clsF f l = clsF g l
  | 0, _, l, h, _ => absurd h (by omega)
  | _, 0, l, _, h => absurd h (by omega)
  | _ + 1, _ + 1, [], _, _ => rfl
  | f + 1, g + 1, t :: r, h1, h2 => by
    unfold clsF
    split
    · rfl
    · have h := clause_tl (t :: r)
      cases hc : clauseP (t :: r) with
      | error s => rfl
      | ok p =>
        rw [hc] at h
        have h3 := h.2
        simp only [List.length_cons] at h1 h2 h3
        simp only
        rw [clsF_fuel f g p.2 (by omega) (by omega)]
theorem clsP_nil : clsP [] = .error [] := rfl
theorem clsP_cons (t : T) (r : List T) : clsP (t :: r) = if sgn t 125 = true then .ok ([], r) else match clauseP (t :: r) with
    | .error s => .error s
    | .ok (c, r') => match clsP r' with
      | .error s => .error s
      | .ok (cs, r'') => .ok (c :: cs, r'') := by
  unfold clsP
  rw [clsF]
  split
  · rfl
  · have h := clause_tl (t :: r)
    cases hc : clauseP (t :: r) with
    | error s => rfl
    | ok p =>
      rw [hc] at h
      have h3 := h.2
      simp only
      rw [clsF_fuel (t :: r).length (p.2.length + 1) p.2 h3 (by omega)]
theorem cls_tl (l : List T) : Tl l (clsP l) := clsF_tl (l.length + 1) l
theorem class_tl (l : List T) : Tl l (classP l) := by
  unfold classP
  have h := head_tl l
  cases hh : headP l with
  | error s => rw [hh] at h; exact h
  | ok p =>
    rw [hh] at h
    have h2 := cls_tl p.2
    simp only
    cases hc : clsP p.2 with
    | error s => rw [hc] at h2; exact List.IsSuffix.trans h2 h.1
    | ok q => rw [hc] at h2; exact ⟨h2.1.trans h.1, Nat.lt_trans h2.2 h.2⟩
theorem bodyF_tl : ∀ (f : Nat) (l : List T), Tl l (bodyF f l)
  | 0, l => List.suffix_refl _
  | _ + 1, [] => List.suffix_refl _
  | f + 1, t :: r => by
    unfold bodyF
    split
    · exact ⟨List.suffix_cons .., by simp⟩
    · split
      · have h := class_tl (t :: r)
        cases hc : classP (t :: r) with
        | error s => rw [hc] at h; exact h
        | ok p =>
          rw [hc] at h
          have h2 := bodyF_tl f p.2
          simp only
          cases hq : bodyF f p.2 with
          | error s => rw [hq] at h2; exact List.IsSuffix.trans h2 h.1
          | ok q => rw [hq] at h2; exact ⟨h2.1.trans h.1, Nat.lt_trans h2.2 h.2⟩
      · have h := clause_tl (t :: r)
        cases hc : clauseP (t :: r) with
        | error s => rw [hc] at h; exact h
        | ok p =>
          rw [hc] at h
          have h2 := bodyF_tl f p.2
          simp only
          cases hq : bodyF f p.2 with
          | error s => rw [hq] at h2; exact List.IsSuffix.trans h2 h.1
          | ok q => rw [hq] at h2; exact ⟨h2.1.trans h.1, Nat.lt_trans h2.2 h.2⟩
theorem bodyF_fuel : ∀ (f g : Nat) (l : List T), l.length < f → l.length < g → bodyF f l = bodyF g l
  | 0, _, l, h, _ => absurd h (by omega)
  | _, 0, l, _, h => absurd h (by omega)
  | _ + 1, _ + 1, [], _, _ => rfl
  | f + 1, g + 1, t :: r, h1, h2 => by
    unfold bodyF
    split
    · rfl
    · split
      · have h := class_tl (t :: r)
        cases hc : classP (t :: r) with
        | error s => rfl
        | ok p =>
          rw [hc] at h
          have h3 := h.2
          simp only [List.length_cons] at h1 h2 h3
          simp only
          rw [bodyF_fuel f g p.2 (by omega) (by omega)]
      · have h := clause_tl (t :: r)
        cases hc : clauseP (t :: r) with
        | error s => rfl
        | ok p =>
          rw [hc] at h
          have h3 := h.2
          simp only [List.length_cons] at h1 h2 h3
          simp only
          rw [bodyF_fuel f g p.2 (by omega) (by omega)]
theorem bodyP_nil : bodyP [] = .error [] := rfl
theorem bodyP_cons (t : T) (r : List T) : bodyP (t :: r) = if sgn t 125 = true then .ok (([], []), r) else if isW t sClass = true then (match classP (t :: r) with
      | .error s => .error s
      | .ok (c, r') => match bodyP r' with
        | .error s => .error s
        | .ok (p, r'') => .ok ((p.1, c :: p.2), r''))
    else match clauseP (t :: r) with
      | .error s => .error s
      | .ok (c, r') => match bodyP r' with
        | .error s => .error s
        | .ok (p, r'') => .ok ((c :: p.1, p.2), r'') := by
  unfold bodyP
  rw [bodyF]
  split
  · rfl
  · split
    · have h := class_tl (t :: r)
      cases hc : classP (t :: r) with
      | error s => rfl
      | ok p =>
        rw [hc] at h
        simp only
        rw [bodyF_fuel (t :: r).length (p.2.length + 1) p.2 h.2 (by omega)]
    · have h := clause_tl (t :: r)
      cases hc : clauseP (t :: r) with
      | error s => rfl
      | ok p =>
        rw [hc] at h
        simp only
        rw [bodyF_fuel (t :: r).length (p.2.length + 1) p.2 h.2 (by omega)]
theorem body_tl (l : List T) : Tl l (bodyP l) := bodyF_tl (l.length + 1) l
theorem fundP_cons (t : T) (r : List T) : fundP (t :: r) = if isW t sFund = true then (match headP (t :: r) with
      | .error s => .error s
      | .ok (h, r) => match bodyP r with
        | .error s => .error s
        | .ok (p, r') => .ok (⟨h.1, p.1, p.2, h.2.1, h.2.2⟩, r'))
    else .error (t :: r) := rfl
theorem fund_tl : ∀ l : List T, Tl l (fundP l)
  | [] => List.suffix_refl _
  | t :: r => by
    rw [fundP_cons]
    split
    · have h := head_tl (t :: r)
      cases hh : headP (t :: r) with
      | error s => rw [hh] at h; exact h
      | ok p =>
        rw [hh] at h
        have h2 := body_tl p.2
        simp only
        cases hc : bodyP p.2 with
        | error s => rw [hc] at h2; exact List.IsSuffix.trans h2 h.1
        | ok q => rw [hc] at h2; exact ⟨h2.1.trans h.1, Nat.lt_trans h2.2 h.2⟩
    · exact List.suffix_refl _
theorem blocksF_fuel : ∀ (f g : Nat) (l : List T), l.length < f → l.length < g → blocksF f l = blocksF g l
  | 0, _, l, h, _ => absurd h (by omega)
  | _, 0, l, _, h => absurd h (by omega)
  | _ + 1, _ + 1, [], _, _ => rfl
  | f + 1, g + 1, t :: r, h1, h2 => by
    unfold blocksF
    have h := fund_tl (t :: r)
    cases hc : fundP (t :: r) with
    | error s => rfl
    | ok p =>
      rw [hc] at h
      have h3 := h.2
      simp only [List.length_cons] at h1 h2 h3
      simp only
      rw [blocksF_fuel f g p.2 (by omega) (by omega)]
theorem blocksP_nil : blocksP [] = .ok [] := rfl
theorem blocksP_cons (t : T) (r : List T) : blocksP (t :: r) = match fundP (t :: r) with
    | .error s => .error s
    | .ok (b, r') => match blocksP r' with
      | .error s => .error s
      | .ok bs => .ok (b :: bs) := by
  unfold blocksP
  rw [blocksF]
  have h := fund_tl (t :: r)
  cases hc : fundP (t :: r) with
  | error s => rfl
  | ok p =>
    rw [hc] at h
    simp only
    rw [blocksF_fuel (t :: r).length (p.2.length + 1) p.2 h.2 (by omega)]
/-- the place of the first token of those that are left -/
def posP : List T → Nat × Nat
  | [] => (0, 0)
  | t :: _ => (t.line, t.col)
theorem suff_drop {l s : List T} (h : s <:+ l) : l.drop (l.length - s.length) = s := by
  obtain ⟨p, rfl⟩ := h
  rw [List.length_append, Nat.add_sub_cancel, List.drop_left]
end Syn
end Go.Proofs.Ytjnaeldaajckkaa
