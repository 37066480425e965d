/- The statements' parameters opened: an account, a register. -/
import Derived.Test.YthhmpdjjfoplgaaRfB
import Derived.ProofKit
import Derived.OpenShut
import Derived.Deep.Slices
import Derived.Deep.Strs
import Derived.Lib.SmallJoins
set_option linter.unusedVariables false
set_option linter.unusedSimpArgs false
namespace Go.Proofs.Ythhmpdjjfoplgaa
open Go.RowKit Reg Go.ChangeShapes Go.WideShapes Go.ChangeAt Go.Joins Go.Deep

theorem Try.cells26 : Try.prog.cellsOf 26 = 2 := by kernel_rfl
theorem Try.cells41 : Try.prog.cellsOf 41 = 4 := by kernel_rfl
theorem Try.cells24 : Try.prog.cellsOf 24 = 1 := by kernel_rfl
theorem Try.cells9 : Try.prog.cellsOf 9 = 1 := by kernel_rfl
theorem Try.cells3 : Try.prog.cellsOf 3 = 1 := by kernel_rfl
theorem Try.cells22 : Try.prog.cellsOf 22 = 1 := by kernel_rfl
theorem list2 {cs : List Value} (h : cs.length = 2) : ∃ a b, cs = [a, b] := by
  match cs, h with
  | [a, b], _ => exact ⟨a, b, rfl⟩
theorem list4 {cs : List Value} (h : cs.length = 4) : ∃ a b c d, cs = [a, b, c, d] := by
  match cs, h with
  | [a, b, c, d], _ => exact ⟨a, b, c, d, rfl⟩
instance : Inhabited Lot := ⟨⟨⟨#[]⟩, ⟨#[]⟩, 0, 0⟩⟩
set_option maxRecDepth 100000
section
variable {H : Type} {enc : TypeId × Value → H} {w : World} {base : Nat} {spare : Nat → Bool} {held : Bool}
theorem account_cells {n : Nat} {cs : List Value} {x : DataW H × List MemPlace} (h : DataW.trod enc Try.prog w base spare held n 26 cs = some x) : ∃ a b : ByteArray, cs = [.string a, .string b] ∧ a.size ≤ maxLen ∧ b.size ≤ maxLen := by
  obtain ⟨y0, y1, m, _, hl, h0, h1⟩ := trod_struct2 Try.underlying26 h
  rw [Try.cells26] at hl
  obtain ⟨c0, c1, rfl⟩ := list2 hl
  simp only [Try.cells9] at h0 h1
  obtain ⟨a, e0, _, ha⟩ := DataW.trod_string Try.underlying9 h0
  obtain ⟨b, e1, _, hb⟩ := DataW.trod_string Try.underlying9 h1
  simp at e0 e1
  exact ⟨a, b, by rw [e0, e1], ha, hb⟩
theorem lot_cells {n : Nat} {cs : List Value} {x : DataW H × List MemPlace} (h : DataW.trod enc Try.prog w base spare held n 41 cs = some x) : ∃ l : Lot, cs = l.cells := by
  obtain ⟨y0, y1, y2, m, _, hl, h0, h1, h2⟩ := trod_struct3 Try.underlying41 h
  rw [Try.cells41] at hl
  obtain ⟨c0, c1, c2, c3, rfl⟩ := list4 hl
  simp only [Try.cells3, Try.cells26] at h0 h1 h2
  obtain ⟨a, b, e0, _, _⟩ := account_cells h0
  obtain ⟨s, e1, _, _⟩ := DataW.trod_int Try.underlying3 h1
  obtain ⟨u, e2, _, _⟩ := DataW.trod_int Try.underlying3 h2
  simp at e0 e1 e2
  exact ⟨⟨a, b, s, u⟩, by rw [e0.1, e0.2, e1, e2]; rfl⟩
theorem lots_cells {n : Nat} {cs : List Value} {x : DataW H × List MemPlace} (h : DataW.trod enc Try.prog w base spare held n 22 cs = some x) : ∃ (A : Option Addr) (cap : Nat) (l : List Lot), cs = [.slice A l.length cap] ∧ LotsAt w (.slice A l.length cap) l := by
  rcases open_slice Try.underlying22 h with ⟨rfl, _⟩ | ⟨a, len, cap, m, k, D, Pl, rfl, _, hlc, hcm, hm, _, hx⟩
  · exact ⟨none, 0, [], rfl, by simp [cellsL], by decide, none, 0, rfl, fun h => by simp at h⟩
  · have hlm : len ≤ m := by rw [hm]; split <;> omega
    rw [Try.cells41] at hx
    obtain ⟨f, hf⟩ := choose_lt (α := Lot) (n := len) (p := fun i y => w.cells? base (a.add (i * 4)) 4 = some y.cells) (fun i hi => by
      obtain ⟨cs', h1, h2⟩ := hx i (by omega)
      obtain ⟨y, rfl⟩ := lot_cells h2
      exact ⟨y, h1⟩)
    have hlen : ((List.range len).map f).length = len := by simp
    refine ⟨some a, cap, (List.range len).map f, by rw [hlen], by rw [cellsL_len], by rw [hlen]; exact Nat.le_trans hlc hcm, some a, cap, rfl, fun h0 => ?_⟩
    have hcell : ∀ i, i < len → ∀ j, j < 4 → w.cell? ((a.add (i * 4)).add j) = (f i).cells[j]? := fun i hi j hj => (World.cells?_some (hf i hi)).2.2 j hj
    have hsp : a.spot = none := by
      have := hcell 0 (by rw [hlen] at h0; exact h0) 0 (by omega)
      cases hs : a.spot with
      | none => rfl
      | some p => exfalso; simp [World.cell?, Addr.add, hs, Lot.cells] at this; split at this <;> simp at this
    obtain ⟨g, off, sp⟩ := a
    simp only at hsp
    subst hsp
    refine ⟨g, off, rfl, fun j u hj => ?_⟩
    have hjl : j < len * 4 := by
      have := (List.getElem?_eq_some_iff.1 hj).1
      rwa [cellsL_len, hlen] at this
    have hi : j / 4 < len := by omega
    have hr := hcell (j / 4) hi (j % 4) (by omega)
    rw [add_lit, add_lit] at hr
    have e : off + j / 4 * 4 + j % 4 = off + j := by omega
    rw [e] at hr
    rw [hr]
    obtain ⟨q0, q1, q2, q3⟩ := cellsL_get ((List.range len).map f) (j / 4) (f (j / 4)) (by simp [hi])
    have hcase : j % 4 = 0 ∨ j % 4 = 1 ∨ j % 4 = 2 ∨ j % 4 = 3 := by omega
    rcases hcase with hm4 | hm4 | hm4 | hm4 <;> rw [hm4]
    · rw [show j / 4 * 4 = j by omega] at q0; rw [q0] at hj; exact hj
    · rw [show j / 4 * 4 + 1 = j by omega] at q1; rw [q1] at hj; exact hj
    · rw [show j / 4 * 4 + 2 = j by omega] at q2; rw [q2] at hj; exact hj
    · rw [show j / 4 * 4 + 3 = j by omega] at q3; rw [q3] at hj; exact hj
theorem open_account {r : Reach} {b0 : Nat} {v : Value} {d : DataW H} {p : List MemPlace} (hv : Value.okWide Try.prog w r b0 26 v) (h : DataW.Trod enc Try.prog w base spare held 26 v d p) :
    ∃ a b : ByteArray, v = .agg #[.string a, .string b] ∧ a.size ≤ maxLen ∧ b.size ≤ maxLen := by
  obtain ⟨cs, rfl, hsz⟩ := okWide_struct Try.underlying26 hv
  rw [Try.cells26] at hsz
  obtain ⟨c0, c1, rfl⟩ := array2 hsz
  obtain ⟨fuel, hf⟩ := h
  obtain ⟨a, b, e, ha, hb⟩ := account_cells hf
  simp [Value.cells] at e
  exact ⟨a, b, by rw [e.1, e.2], ha, hb⟩
theorem open_register {r : Reach} {b0 : Nat} {v : Value} {d : DataW H} {p : List MemPlace} (hv : Value.okWide Try.prog w r b0 24 v) (h : DataW.Trod enc Try.prog w base spare held 24 v d p) :
    ∃ (A : Option Addr) (cap : Nat) (l : List Lot), v = .agg #[.slice A l.length cap] ∧ LotsAt w (.slice A l.length cap) l := by
  obtain ⟨cs, rfl, hsz⟩ := okWide_struct Try.underlying24 hv
  rw [Try.cells24] at hsz
  obtain ⟨c0, hc0⟩ : ∃ c0, cs.toList = [c0] := by
    have : cs.toList.length = 1 := by simpa using hsz
    match hq : cs.toList, this with
    | [c0], _ => exact ⟨c0, rfl⟩
  have hcs : cs = #[c0] := by rw [← Array.toArray_toList (xs := cs), hc0]
  subst hcs
  obtain ⟨fuel, hf⟩ := h
  obtain ⟨y0, m, _, hl, h0⟩ := trod_struct1 Try.underlying24 hf
  simp only [Try.cells22] at h0
  obtain ⟨A, cap, l, e, hL⟩ := lots_cells h0
  simp [Value.cells] at e
  subst e
  exact ⟨A, cap, l, rfl, hL⟩
end
end Go.Proofs.Ythhmpdjjfoplgaa
