/- Plain facts on registers: bytes and lots compared; sorted lists; taking and giving units. No program in sight. -/
import Derived.WalkKit
import Derived.Lib.Bytealg
set_option linter.unusedVariables false
set_option linter.unusedSimpArgs false
namespace Go.Proofs.Ythhmpdjjfoplgaa
namespace Reg
open Go.Op (bytesLess)
theorem tl (a : ByteArray) : a.toList = a.data.toList := ByteArray.toList_eq a
theorem bl_irr : ∀ a : List UInt8, bytesLess a a = false
  | [] => rfl
  | a :: x => by simp [bytesLess, bl_irr x]
theorem bl_trans : ∀ a b c : List UInt8, bytesLess a b = true → bytesLess b c = true → bytesLess a c = true
  | _, _, [], _, h => by simp [bytesLess] at h
  | _, [], _ :: _, h, _ => by simp [bytesLess] at h
  | [], _ :: _, _ :: _, _, _ => rfl
  | a :: x, b :: y, c :: z, h, k => by
    simp only [bytesLess, Bool.or_eq_true, Bool.and_eq_true, decide_eq_true_eq, beq_iff_eq] at h k ⊢
    rcases h with h | ⟨rfl, h⟩
    · rcases k with k | ⟨rfl, k⟩
      · exact .inl (UInt8.lt_trans h k)
      · exact .inl h
    · rcases k with k | ⟨rfl, k⟩
      · exact .inl k
      · exact .inr ⟨rfl, bl_trans x y z h k⟩
theorem bl_total : ∀ a b : List UInt8, bytesLess a b = false → bytesLess b a = false → a = b
  | [], [], _, _ => rfl
  | [], _ :: _, h, _ => by simp [bytesLess] at h
  | _ :: _, [], _, h => by simp [bytesLess] at h
  | a :: x, b :: y, h, k => by
    simp only [bytesLess, Bool.or_eq_false_iff, Bool.and_eq_false_iff, decide_eq_false_iff_not, beq_eq_false_iff_ne] at h k
    have e : a = b := by
      have h1 := h.1; have k1 := k.1
      rw [UInt8.not_lt] at h1 k1
      exact UInt8.le_antisymm k1 h1
    subst e
    have h2 := h.2.resolve_left (fun h => h rfl)
    have k2 := k.2.resolve_left (fun h => h rfl)
    rw [bl_total x y h2 k2]
theorem cb_eq : ∀ a b : List UInt8, Lib.compareBytes a b = if bytesLess a b = true then -1 else if a == b then 0 else 1
  | [], [] => rfl
  | [], _ :: _ => rfl
  | _ :: _, [] => rfl
  | a :: x, b :: y => by
    rw [Lib.compareBytes, cb_eq x y]
    by_cases h : a < b
    · simp [bytesLess, h]
    · by_cases k : b < a
      · have hne : a ≠ b := fun e => by subst e; exact h k
        simp [bytesLess, h, k, hne]
      · have e : a = b := by
          rw [UInt8.not_lt] at h k
          exact UInt8.le_antisymm k h
        subst e
        simp [bytesLess, h]

/-- a lot -/
structure Lot where
  nom : ByteArray
  hol : ByteArray
  ser : Int
  units : Int
def Lot.cells (x : Lot) : List Value := [.string x.nom, .string x.hol, .int .i64 x.ser, .int .i64 x.units]
def cellsL (l : List Lot) : List Value := l.flatMap Lot.cells
theorem cellsL_len (l : List Lot) : (cellsL l).length = l.length * 4 := by
  induction l with
  | nil => rfl
  | cons a l ih => simp only [cellsL, List.flatMap_cons, List.length_append, List.length_cons] at ih ⊢; rw [ih]; simp [Lot.cells]; omega
theorem cellsL_app (a b : List Lot) : cellsL (a ++ b) = cellsL a ++ cellsL b := by simp [cellsL]
theorem cellsL_one (l : List Lot) : ∀ u ∈ cellsL l, u.oneCell' = true := by
  intro u hu
  obtain ⟨x, _, hx⟩ := List.mem_flatMap.1 hu
  simp [Lot.cells] at hx
  rcases hx with rfl | rfl | rfl | rfl <;> rfl
theorem cellsL_get (l : List Lot) (i : Nat) (t : Lot) (h : l[i]? = some t) : (cellsL l)[i * 4]? = some (.string t.nom) ∧ (cellsL l)[i * 4 + 1]? = some (.string t.hol) ∧ (cellsL l)[i * 4 + 2]? = some (.int .i64 t.ser) ∧ (cellsL l)[i * 4 + 3]? = some (.int .i64 t.units) := by
  induction l generalizing i with
  | nil => simp at h
  | cons a l ih =>
    cases i with
    | zero => simp at h; subst h; simp [cellsL, Lot.cells]
    | succ i =>
      have := ih i (by simpa using h)
      simp only [cellsL, List.flatMap_cons, Lot.cells, List.cons_append, List.nil_append] at this ⊢
      have e : ∀ j, (i + 1) * 4 + j = (i * 4 + j) + 1 + 1 + 1 + 1 := fun j => by omega
      refine ⟨?_, ?_, ?_, ?_⟩
      · rw [show (i + 1) * 4 = (i * 4) + 1 + 1 + 1 + 1 by omega]; simpa using this.1
      · rw [e 1]; simpa using this.2.1
      · rw [e 2]; simpa using this.2.2.1
      · rw [e 3]; simpa using this.2.2.2

/-- one text ahead of another -/
def sLt (a b : ByteArray) : Bool := bytesLess a.toList b.toList
def sEq (a b : ByteArray) : Bool := a.toList == b.toList
theorem sEq_iff (a b : ByteArray) : sEq a b = true ↔ a = b := by
  unfold sEq; rw [beq_iff_eq, tl, tl]
  exact ⟨fun h => ByteArray.ext (Array.ext' h), fun h => by rw [h]⟩
theorem sEq_refl (a : ByteArray) : sEq a a = true := (sEq_iff a a).2 rfl
theorem sLt_irr (a : ByteArray) : sLt a a = false := bl_irr _
theorem sLt_trans {a b c : ByteArray} (h : sLt a b = true) (k : sLt b c = true) : sLt a c = true := bl_trans _ _ _ h k
theorem sLt_total {a b : ByteArray} (h : sLt a b = false) (k : sLt b a = false) : a = b :=
  (sEq_iff a b).1 (beq_iff_eq.2 (bl_total _ _ h k))
theorem sLt_asym {a b : ByteArray} (h : sLt a b = true) : sLt b a = false := by
  cases k : sLt b a
  · rfl
  · have := sLt_trans h k; rw [sLt_irr] at this; cases this
theorem sLt_ne {a b : ByteArray} (h : sLt a b = true) : a ≠ b := by rintro rfl; rw [sLt_irr] at h; cases h
/-- -1, 0, 1 -/
def sCmp (a b : ByteArray) : Int := Lib.compareBytes a.data.toList b.data.toList
theorem sCmp_eq (a b : ByteArray) : sCmp a b = if sLt a b = true then -1 else if sEq a b = true then 0 else 1 := by
  unfold sCmp sLt sEq; rw [cb_eq, tl, tl]
theorem sCmp_lt {a b : ByteArray} (h : sLt a b = true) : sCmp a b = -1 := by rw [sCmp_eq, if_pos h]
theorem sCmp_same (a : ByteArray) : sCmp a a = 0 := by rw [sCmp_eq, if_neg (by rw [sLt_irr]; simp), if_pos (sEq_refl a)]
theorem sCmp_gt {a b : ByteArray} (h : sLt b a = true) : sCmp a b = 1 := by
  rw [sCmp_eq, if_neg (by rw [sLt_asym h]; simp), if_neg]
  rw [sEq_iff]; exact (sLt_ne h).symm
theorem s_tri (a b : ByteArray) : sLt a b = true ∨ a = b ∨ sLt b a = true := by
  cases h : sLt a b
  · cases k : sLt b a
    · exact .inr (.inl (sLt_total h k))
    · exact .inr (.inr rfl)
  · exact .inl rfl

/-- one lot ahead of another: by nominee, holder, series -/
def lotLt (a b : Lot) : Bool := if a.nom = b.nom then (if a.hol = b.hol then decide (a.ser < b.ser) else sLt a.hol b.hol) else sLt a.nom b.nom
def sameKey (a b : Lot) : Prop := a.nom = b.nom ∧ a.hol = b.hol ∧ a.ser = b.ser
theorem lotLt_irr (a b : Lot) (h : sameKey a b) : lotLt a b = false := by
  obtain ⟨h1, h2, h3⟩ := h
  simp [lotLt, h1, h2, h3]
theorem lot_tri (a b : Lot) : lotLt a b = true ∨ sameKey a b ∨ lotLt b a = true := by
  unfold lotLt sameKey
  by_cases h1 : a.nom = b.nom
  · by_cases h2 : a.hol = b.hol
    · simp [h1, h2]; omega
    · rcases s_tri a.hol b.hol with h | h | h
      · simp [h1, h2, h]
      · exact absurd h h2
      · simp [h1, h2, Ne.symm h2, h]
  · rcases s_tri a.nom b.nom with h | h | h
    · simp [h1, h]
    · exact absurd h h1
    · simp [h1, Ne.symm h1, h]
theorem lotLt_trans {a b c : Lot} (h : lotLt a b = true) (k : lotLt b c = true) : lotLt a c = true := by
  unfold lotLt at *
  by_cases h1 : a.nom = b.nom
  · rw [if_pos h1] at h
    by_cases k1 : b.nom = c.nom
    · rw [if_pos k1] at k
      rw [if_pos (h1.trans k1)]
      by_cases h2 : a.hol = b.hol
      · rw [if_pos h2] at h
        by_cases k2 : b.hol = c.hol
        · rw [if_pos k2] at k
          rw [if_pos (h2.trans k2)]
          simp at h k ⊢; omega
        · rw [if_neg k2] at k
          rw [if_neg (by rw [h2]; exact k2), h2]; exact k
      · rw [if_neg h2] at h
        by_cases k2 : b.hol = c.hol
        · rw [if_neg (by rw [← k2]; exact h2), ← k2]; exact h
        · rw [if_neg k2] at k
          have := sLt_trans h k
          rw [if_neg (sLt_ne this)]; exact this
    · rw [if_neg k1] at k
      rw [if_neg (by rw [h1]; exact k1), h1]; exact k
  · rw [if_neg h1] at h
    by_cases k1 : b.nom = c.nom
    · rw [if_neg (by rw [← k1]; exact h1), ← k1]; exact h
    · rw [if_neg k1] at k
      have := sLt_trans h k
      rw [if_neg (sLt_ne this)]; exact this
theorem lotLt_asym {a b : Lot} (h : lotLt a b = true) : lotLt b a = false := by
  cases k : lotLt b a
  · rfl
  · have := lotLt_trans h k; rw [lotLt_irr a a ⟨rfl, rfl, rfl⟩] at this; cases this
theorem lotLt_key {a b : Lot} (h : lotLt a b = true) : ¬ sameKey a b := fun k => by rw [lotLt_irr _ _ k] at h; cases h
/-- the program's comparison -/
def place (a b : Lot) : Int := if lotLt a b = true then -1 else if lotLt b a = true then 1 else 0
theorem place_lt {a b : Lot} (h : lotLt a b = true) : place a b = -1 := if_pos h
theorem place_gt {a b : Lot} (h : lotLt b a = true) : place a b = 1 := by rw [place, if_neg (by rw [lotLt_asym h]; simp), if_pos h]
theorem place_same {a b : Lot} (h : sameKey a b) : place a b = 0 := by
  rw [place, if_neg (by rw [lotLt_irr _ _ h]; simp), if_neg (by rw [lotLt_irr _ _ ⟨h.1.symm, h.2.1.symm, h.2.2.symm⟩]; simp)]
theorem place_neg_iff (a b : Lot) : place a b < 0 ↔ lotLt a b = true := by
  rcases lot_tri a b with h | h | h
  · simp [place_lt h, h]
  · simp [place_same h, lotLt_irr _ _ h]
  · simp [place_gt h, lotLt_asym h]
theorem place_zero_iff (a b : Lot) : place a b = 0 ↔ sameKey a b := by
  rcases lot_tri a b with h | h | h
  · simp [place_lt h, lotLt_key h]
  · simp [place_same h, h]
  · have : ¬ sameKey a b := fun k => lotLt_key h ⟨k.1.symm, k.2.1.symm, k.2.2.symm⟩
    simp [place_gt h, this]
end Reg
end Go.Proofs.Ythhmpdjjfoplgaa
