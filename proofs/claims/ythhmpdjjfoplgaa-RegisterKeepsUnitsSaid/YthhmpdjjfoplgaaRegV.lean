/- Plain facts on holders: the units of each name, and the one list of them in order. -/
import Derived.Test.YthhmpdjjfoplgaaRegS
set_option linter.unusedVariables false
set_option linter.unusedSimpArgs false
namespace Go.Proofs.Ythhmpdjjfoplgaa
namespace Reg

structure Hol where
  name : ByteArray
  units : Int
instance : Inhabited Hol := ⟨⟨⟨#[]⟩, 0⟩⟩
def Hol.cells (x : Hol) : List Value := [.string x.name, .int .i64 x.units]
def cellsH (l : List Hol) : List Value := l.flatMap Hol.cells
theorem cellsH_len (l : List Hol) : (cellsH l).length = l.length * 2 := by
  induction l with
  | nil => rfl
  | cons a l ih => simp only [cellsH, List.flatMap_cons, List.length_append, List.length_cons] at ih ⊢; rw [ih]; simp [Hol.cells]; omega
theorem cellsH_app (a b : List Hol) : cellsH (a ++ b) = cellsH a ++ cellsH b := by simp [cellsH]
theorem cellsH_one (l : List Hol) : ∀ u ∈ cellsH l, u.oneCell' = true := by
  intro u hu
  obtain ⟨x, _, hx⟩ := List.mem_flatMap.1 hu
  simp [Hol.cells] at hx
  rcases hx with rfl | rfl <;> rfl
theorem cellsH_get (l : List Hol) (i : Nat) (t : Hol) (h : l[i]? = some t) : (cellsH l)[i * 2]? = some (.string t.name) ∧ (cellsH l)[i * 2 + 1]? = some (.int .i64 t.units) := by
  induction l generalizing i with
  | nil => simp at h
  | cons a l ih =>
    cases i with
    | zero => simp at h; subst h; simp [cellsH, Hol.cells]
    | succ i =>
      have := ih i (by simpa using h)
      simp only [cellsH, List.flatMap_cons, Hol.cells, List.cons_append, List.nil_append] at this ⊢
      have e : ∀ j, (i + 1) * 2 + j = (i * 2 + j) + 1 + 1 := fun j => by omega
      refine ⟨?_, ?_⟩
      · rw [show (i + 1) * 2 = (i * 2) + 1 + 1 by omega]; simpa using this.1
      · rw [e 1]; simpa using this.2
/-- the name under which a lot is held -/
def nameOf (x : Lot) : ByteArray := if x.nom.size = 0 then x.hol else x.nom
/-- all units of a name -/
def tot (l : List Lot) (s : ByteArray) : Int := sumU (l.filter fun x => decide (nameOf x = s))
theorem tot_app (a b : List Lot) (s : ByteArray) : tot (a ++ b) s = tot a s + tot b s := by unfold tot; rw [List.filter_append, sumU_app]
theorem tot_one (x : Lot) (s : ByteArray) : tot [x] s = if nameOf x = s then x.units else 0 := by
  unfold tot
  by_cases h : nameOf x = s <;> simp [h, sumU]
def named (l : List Lot) (s : ByteArray) : Prop := ∃ x ∈ l, nameOf x = s
/-- the holders of lots, in any order -/
def HSet (l : List Lot) (hs : List Hol) : Prop := hs.Pairwise (fun a b => a.name ≠ b.name) ∧ ∀ h : Hol, h ∈ hs ↔ named l h.name ∧ h.units = tot l h.name
/-- the holders of lots, in order -/
def IsHold (l : List Lot) (hs : List Hol) : Prop := hs.Pairwise (fun a b => sLt a.name b.name = true) ∧ ∀ h : Hol, h ∈ hs ↔ named l h.name ∧ h.units = tot l h.name
theorem nodup_of_lt {hs : List Hol} (h : hs.Pairwise (fun a b => sLt a.name b.name = true)) : hs.Nodup := h.imp fun hab e => by rw [e, sLt_irr] at hab; cases hab
theorem IsHold.unique {l : List Lot} {a b : List Hol} (ha : IsHold l a) (hb : IsHold l b) : a = b := by
  refine List.Perm.eq_of_pairwise (le := fun a b : Hol => sLt a.name b.name = true) (fun x y _ _ h1 h2 => by rw [sLt_asym h1] at h2; cases h2) ha.1 hb.1 ?_
  exact (List.perm_ext_iff_of_nodup (nodup_of_lt ha.1) (nodup_of_lt hb.1)).2 fun h => (ha.2 h).trans (hb.2 h).symm
theorem HSet.sorted {l : List Lot} {hs ds : List Hol} (h : HSet l hs) (hp : ds.Perm hs) (hsrt : ∀ i j (hi : i < ds.length) (hj : j < ds.length), i < j → sLt ds[j].name ds[i].name = false) : IsHold l ds := by
  refine ⟨?_, fun x => (hp.mem_iff).trans (h.2 x)⟩
  have hne : ds.Pairwise (fun a b => a.name ≠ b.name) := (hp.pairwise_iff (fun {x y} hxy => Ne.symm hxy)).2 h.1
  rw [List.pairwise_iff_getElem] at hne ⊢
  intro i j hi hj hij
  rcases s_tri ds[i].name ds[j].name with h1 | h1 | h1
  · exact h1
  · exact absurd h1 (hne i j hi hj hij)
  · rw [hsrt i j hi hj hij] at h1; cases h1
theorem tot_bd (l : List Lot) (s : ByteArray) (h : ∀ x ∈ l, 0 ≤ x.units) : 0 ≤ tot l s ∧ tot l s ≤ sumU l := by
  induction l with
  | nil => simp [tot, sumU]
  | cons x l ih =>
    have h1 := ih (fun y hy => h y (by simp [hy]))
    have h2 := h x (by simp)
    have e : tot (x :: l) s = tot [x] s + tot l s := tot_app [x] l s
    rw [e, tot_one, sumU]
    split <;> omega
theorem named_snoc {l : List Lot} {k : Nat} {x : Lot} (hx : l[k]? = some x) (s : ByteArray) : named (l.take (k + 1)) s ↔ named (l.take k) s ∨ nameOf x = s := by
  obtain ⟨h1, h2⟩ := List.getElem?_eq_some_iff.1 hx
  unfold named
  rw [List.take_succ_eq_append_getElem h1, h2]
  constructor
  · rintro ⟨y, hy, e⟩
    rcases List.mem_append.1 hy with hy | hy
    · exact .inl ⟨y, hy, e⟩
    · simp at hy; exact .inr (by rw [← hy]; exact e)
  · rintro (⟨y, hy, e⟩ | e)
    · exact ⟨y, List.mem_append_left _ hy, e⟩
    · exact ⟨x, by simp, e⟩
theorem tot_snoc {l : List Lot} {k : Nat} {x : Lot} (hx : l[k]? = some x) (s : ByteArray) : tot (l.take (k + 1)) s = tot (l.take k) s + if nameOf x = s then x.units else 0 := by
  obtain ⟨h1, h2⟩ := List.getElem?_eq_some_iff.1 hx
  rw [List.take_succ_eq_append_getElem h1, h2, tot_app, tot_one]
end Reg
end Go.Proofs.Ythhmpdjjfoplgaa
