/- Transfers: plain facts; the world in which one begins. -/
import Derived.Test.YthhmpdjjfoplgaaRfG
set_option linter.unusedVariables false
set_option linter.unusedSimpArgs false
namespace Go.Proofs.Ythhmpdjjfoplgaa
open Go.RowKit Reg

namespace Reg
/-- a lot in another account's name -/
def toA (nm hl : ByteArray) (y : Lot) : Lot := ⟨nm, hl, y.ser, y.units⟩
def movL (l : List Lot) (f1 f2 t1 t2 : ByteArray) (n : Int) : List Lot := giveL (takeR f1 f2 l n).1 ((takeR f1 f2 l n).2.map (toA t1 t2))
def trnE (l : List Lot) (f1 f2 t1 t2 : ByteArray) (n : Int) : Int :=
  if checkB l = false then 250 else if acctB f1 f2 = false then 251 else if acctB t1 t2 = false then 251 else if n < 0 ∨ 1000000000000000 < n then 253 else if 256 < (movL l f1 f2 t1 t2 n).length then 254 else 0
def trnL (l : List Lot) (f1 f2 t1 t2 : ByteArray) (n : Int) : List Lot := if trnE l f1 f2 t1 t2 n = 0 then movL l f1 f2 t1 t2 n else []
def trnN (l : List Lot) (f1 f2 t1 t2 : ByteArray) (n : Int) : Int := if trnE l f1 f2 t1 t2 n = 0 then sumU (takeR f1 f2 l n).2 else 0
/-- the answer, whole -/
def TrnIs (l : List Lot) (f1 f2 t1 t2 : ByteArray) (n : Int) (er : Int) (la : List Lot) (m : Int) : Prop := trnE l f1 f2 t1 t2 n = er ∧ trnL l f1 f2 t1 t2 n = la ∧ trnN l f1 f2 t1 t2 n = m
theorem TrnIs.bad {l : List Lot} {f1 f2 t1 t2 : ByteArray} {n er : Int} (h : trnE l f1 f2 t1 t2 n = er) (h0 : er ≠ 0) : TrnIs l f1 f2 t1 t2 n er [] 0 := ⟨h, by unfold trnL; rw [h, if_neg h0], by unfold trnN; rw [h, if_neg h0]⟩
theorem trn_cases (l : List Lot) (f1 f2 t1 t2 : ByteArray) (n : Int) :
    (checkB l = false ∧ TrnIs l f1 f2 t1 t2 n 250 [] 0) ∨
    (checkB l = true ∧ acctB f1 f2 = false ∧ TrnIs l f1 f2 t1 t2 n 251 [] 0) ∨
    (checkB l = true ∧ acctB f1 f2 = true ∧ acctB t1 t2 = false ∧ TrnIs l f1 f2 t1 t2 n 251 [] 0) ∨
    (checkB l = true ∧ acctB f1 f2 = true ∧ acctB t1 t2 = true ∧ n < 0 ∧ TrnIs l f1 f2 t1 t2 n 253 [] 0) ∨
    (checkB l = true ∧ acctB f1 f2 = true ∧ acctB t1 t2 = true ∧ ¬ n < 0 ∧ 1000000000000000 < n ∧ TrnIs l f1 f2 t1 t2 n 253 [] 0) ∨
    (checkB l = true ∧ acctB f1 f2 = true ∧ acctB t1 t2 = true ∧ ¬ n < 0 ∧ ¬ 1000000000000000 < n ∧ 256 < (movL l f1 f2 t1 t2 n).length ∧ TrnIs l f1 f2 t1 t2 n 254 [] 0) ∨
    (checkB l = true ∧ acctB f1 f2 = true ∧ acctB t1 t2 = true ∧ ¬ n < 0 ∧ ¬ 1000000000000000 < n ∧ ¬ 256 < (movL l f1 f2 t1 t2 n).length ∧ TrnIs l f1 f2 t1 t2 n 0 (movL l f1 f2 t1 t2 n) (sumU (takeR f1 f2 l n).2)) := by
  cases h1 : checkB l
  · exact .inl ⟨rfl, TrnIs.bad (by simp [trnE, h1]) (by omega)⟩
  refine .inr ?_
  cases h2 : acctB f1 f2
  · exact .inl ⟨rfl, rfl, TrnIs.bad (by simp [trnE, h1, h2]) (by omega)⟩
  refine .inr ?_
  cases h3 : acctB t1 t2
  · exact .inl ⟨rfl, rfl, rfl, TrnIs.bad (by simp [trnE, h1, h2, h3]) (by omega)⟩
  refine .inr ?_
  by_cases h4 : n < 0
  · exact .inl ⟨rfl, rfl, rfl, h4, TrnIs.bad (by simp [trnE, h1, h2, h3, h4]) (by omega)⟩
  refine .inr ?_
  by_cases h5 : 1000000000000000 < n
  · exact .inl ⟨rfl, rfl, rfl, h4, h5, TrnIs.bad (by simp [trnE, h1, h2, h3, h5]) (by omega)⟩
  refine .inr ?_
  have e1 : ¬ (n < 0 ∨ 1000000000000000 < n) := by omega
  by_cases h6 : 256 < (movL l f1 f2 t1 t2 n).length
  · exact .inl ⟨rfl, rfl, rfl, h4, h5, h6, TrnIs.bad (by unfold trnE; rw [h1, h2, h3, if_neg (by simp), if_neg (by simp), if_neg (by simp), if_neg e1, if_pos h6]) (by omega)⟩
  · have hE : trnE l f1 f2 t1 t2 n = 0 := by unfold trnE; rw [h1, h2, h3, if_neg (by simp), if_neg (by simp), if_neg (by simp), if_neg e1, if_neg h6]
    exact .inr ⟨rfl, rfl, rfl, h4, h5, h6, hE, by unfold trnL; rw [hE, if_pos rfl], by unfold trnN; rw [hE, if_pos rfl]⟩
theorem sumU_nonneg (m : List Lot) (h : ∀ x ∈ m, 0 ≤ x.units) : 0 ≤ sumU m := by
  have := (sumU_take m m.length h).2
  rwa [List.take_length] at this
theorem sumU_map (nm hl : ByteArray) (m : List Lot) : sumU (m.map (toA nm hl)) = sumU m := by
  induction m with
  | nil => rfl
  | cons x m ih => simp only [List.map_cons, sumU, ih, toA]
/-- all that a transfer's walk needs to know of its lists -/
structure TrnF (l : List Lot) (f1 f2 : ByteArray) (n : Int) (lo lt lc td L1 : List Lot) : Prop where
  own : ownL f1 f2 l = lo
  oth : othL f1 f2 l = lt
  takp : takeP lo n = (lc, td)
  takr : takeR f1 f2 l n = (L1, td)
  give : giveL lt lc = L1
  ulo : ∀ x ∈ lo, 1 ≤ x.units ∧ x.units ≤ 1000000000000000
  ult : ∀ x ∈ lt, 0 ≤ x.units
  ulc : ∀ x ∈ lc, 0 ≤ x.units
  utd : ∀ x ∈ td, 0 ≤ x.units ∧ x.units ≤ 1000000000000000
  uL1 : ∀ x ∈ L1, 0 ≤ x.units
  slt : Srt lt
  sL1 : Srt L1
  nlo : lo.length ≤ 256
  nlt : lt.length ≤ 256
  nlc : lc.length ≤ 256
  ntd : td.length ≤ 256
  nL1 : L1.length ≤ 256
  sum1 : sumU lt + sumU lc ≤ 1000000000000000
  sum2 : sumU L1 + sumU td ≤ 1000000000000000
theorem trn_facts {l : List Lot} (h1 : checkB l = true) (f1 f2 : ByteArray) (n : Int) (hn : ¬ n < 0) : ∃ lo lt lc td L1, TrnF l f1 f2 n lo lt lc td L1 := by
  obtain ⟨g1, g2, g3, g4, g5⟩ := check_facts h1
  have hn0 : 0 ≤ n := by omega
  have hplain := redeem_plain f1 f2 l n hn0 (fun x hx => (g5 x hx).1) g4
  have htb := (take_both f1 f2 l n hn0 (fun x hx => (g5 x hx).1)).1
  obtain ⟨u1, u2⟩ := own_units (nm := f1) (hl := f2) g5
  obtain ⟨s1, s2⟩ := own_split f1 f2 l
  have s3 := takeP_len (ownL f1 f2 l) n
  obtain ⟨t1, t2, t3⟩ := takeP_sum (ownL f1 f2 l) n hn0 (fun x hx => (u1 x hx).1)
  have hso : Srt (othL f1 f2 l) := List.Pairwise.sublist List.filter_sublist g4
  have hle := takeR_len f1 f2 l n
  have hgs := give_sum (othL f1 f2 l) (takeP (ownL f1 f2 l) n).1
  have hgp := give_pos (othL f1 f2 l) (takeP (ownL f1 f2 l) n).1 u2 t2
  have t3' : ∀ x ∈ (takeP (ownL f1 f2 l) n).2, 0 ≤ x.units := fun x hx => by have := t3 x hx; omega
  have z1 := sumU_nonneg _ t2
  have z2 := sumU_nonneg _ t3'
  have z3 := sumU_nonneg _ u2
  refine ⟨_, _, (takeP (ownL f1 f2 l) n).1, (takeP (ownL f1 f2 l) n).2, (takeR f1 f2 l n).1, rfl, rfl, rfl, by rw [← htb], hplain, u1, u2, t2, fun x hx => ⟨t3' x hx, ?_⟩, by rw [← hplain]; exact hgp, hso, takeR_srt f1 f2 l n g4, by omega, by omega, by omega, by omega, by omega, by omega, ?_⟩
  · have := sumU_mem _ t3' x hx; omega
  · rw [← hplain, hgs]; omega
end Reg
/-- the world in which a transfer begins -/
def W4 (w : World) (A : Option Addr) (n cap : Nat) (f1 f2 t1 t2 : ByteArray) : World := (((w.alloc (.cells #[.slice A n cap] 24)).alloc (.cells #[.string f1, .string f2] 26)).alloc (.cells #[.string t1, .string t2] 26)).alloc (.cells #[.slice none 0 0] 24)
theorem W4.size_ {w : World} {A : Option Addr} {n cap : Nat} {f1 f2 t1 t2 : ByteArray} : (W4 w A n cap f1 f2 t1 t2).heap.size = w.heap.size + 1 + 1 + 1 + 1 := by simp [W4]
theorem W4.below (w : World) (A : Option Addr) (n cap : Nat) (f1 f2 t1 t2 : ByteArray) : Below w.heap.size w (W4 w A n cap f1 f2 t1 t2) := ((((Below.refl w.heap.size w).alloc (Nat.le_refl _) _).alloc (by simp) _).alloc (by simp only [World.size_alloc]; omega) _).alloc (by simp only [World.size_alloc]; omega) _
theorem W4.kept {w w1 : World} {A : Option Addr} {n cap : Nat} {f1 f2 t1 t2 : ByteArray} (hb : Below (W4 w A n cap f1 f2 t1 t2).heap.size (W4 w A n cap f1 f2 t1 t2) w1) :
    w1.cell? ⟨w.heap.size, 0, none⟩ = some (.slice A n cap) ∧ w1.cell? ⟨w.heap.size + 1, 0, none⟩ = some (.string f1) ∧ w1.cell? ⟨w.heap.size + 1, 1, none⟩ = some (.string f2) ∧ w1.cell? ⟨w.heap.size + 1 + 1, 0, none⟩ = some (.string t1) ∧ w1.cell? ⟨w.heap.size + 1 + 1, 1, none⟩ = some (.string t2) ∧
    w1.cell? ⟨w.heap.size + 1 + 1 + 1, 0, none⟩ = some (.slice none 0 0) ∧ w1.frozen? ⟨w.heap.size + 1 + 1 + 1, 0, none⟩ = false ∧ w.heap.size + 1 + 1 + 1 < w1.heap.size ∧ Below w.heap.size w w1 := by
  have hs := hb.size
  rw [W4.size_] at hs
  refine ⟨cell_up (by unfold W4; go_cell) hb, cell_up (by unfold W4; go_cell) hb, cell_up (by unfold W4; go_cell) hb, cell_up (by unfold W4; go_cell) hb, cell_up (by unfold W4; go_cell) hb, cell_up (by unfold W4; go_cell) hb, ?_, by omega, (W4.below w A n cap f1 f2 t1 t2).trans (hb.mono (W4.below w A n cap f1 f2 t1 t2).size)⟩
  rw [hb.frozen (p := ⟨w.heap.size + 1 + 1 + 1, 0, none⟩) (by rw [W4.size_]; simp)]
  unfold W4
  exact World.frozen?_alloc_at _ _ _ _ (by simp)
/-- what a transfer hands back -/
def TrnP (la : List Lot) (m er : Int) (w : World) (e : Ending) (w' : World) : Prop :=
  ∃ va, e = .returned (.tuple #[.agg #[va], .int .i64 m, .int .i64 er]) ∧ Own w' w.heap.size va la ∧ Below w.heap.size w w'
theorem ret_trn {w w1 : World} {B : Nat} {va : Value} {la : List Lot} {m er : Int} {e : Ending} (he : e = .returned (.tuple #[.agg #[va], .int .i64 m, .int .i64 er])) (ha : Own w1 B va la) (hB : w.heap.size ≤ B) (hw : Below w.heap.size w w1) : TrnP la m er w e w1 :=
  ⟨va, he, ha.base hB, hw⟩
/-- one cell of an own row set -/
theorem owns_set {w : World} {B g cap n j : Nat} {e : TypeId} {size : Nat} {xs : List Value} {u : Value} (h : w.ownsRow B e size (.slice (some ⟨g, 0, none⟩) n cap) n xs) : (w.setCell ⟨g, j, none⟩ u).ownsRow B e size (.slice (some ⟨g, 0, none⟩) n cap) n (xs.set j u) := by
  obtain ⟨h1, h2⟩ := h
  refine ⟨by simpa using h1, ?_⟩
  rcases h2 with ⟨h, _⟩ | ⟨g', cap', cur, hv, hbg, hg, hnc, hcm, hcs, htk⟩
  · cases h
  · injection hv with e1 e2 e3
    injection e1 with e1
    injection e1 with e1
    subst e1 e3
    refine .inr ⟨g, cap, cur.setIfInBounds j u, rfl, hbg, ?_, hnc, hcm, by simpa using hcs, ?_⟩
    · simp [World.setCell, Array.getElem?_modify, hg]
    · rw [Array.toList_setIfInBounds, List.take_set, htk]
namespace Reg
theorem cells_to (l : List Lot) (i : Nat) (y : Lot) (nm hl : ByteArray) (h : l[i]? = some y) : ((cellsL l).set (i * 4) (.string nm)).set (i * 4 + 1) (.string hl) = cellsL (l.set i (toA nm hl y)) := by
  induction l generalizing i with
  | nil => simp at h
  | cons a l ih =>
    cases i with
    | zero => simp at h; subst h; simp [cellsL, Lot.cells, toA]
    | succ i =>
      have := ih i (by simpa using h)
      simp only [cellsL, List.flatMap_cons, Lot.cells, List.cons_append, List.nil_append, List.set_cons_succ] at this ⊢
      rw [show (i + 1) * 4 + 1 = (i * 4 + 1 + 3) + 1 by omega, show (i + 1) * 4 = (i * 4 + 3) + 1 by omega]
      simp only [List.set_cons_succ]
      rw [this]
/-- the first k lots in another name -/
def mixA (nm hl : ByteArray) (td : List Lot) (k : Nat) : List Lot := (td.take k).map (toA nm hl) ++ td.drop k
theorem mix_len (nm hl : ByteArray) (td : List Lot) (k : Nat) : (mixA nm hl td k).length = td.length := by simp [mixA]; omega
theorem mix_zero (nm hl : ByteArray) (td : List Lot) : mixA nm hl td 0 = td := by simp [mixA]
theorem mix_all (nm hl : ByteArray) (td : List Lot) (k : Nat) (h : td.length ≤ k) : mixA nm hl td k = td.map (toA nm hl) := by simp [mixA, List.take_of_length_le h, List.drop_eq_nil_of_le h]
theorem mix_get (nm hl : ByteArray) (td : List Lot) (k : Nat) (y : Lot) (h : td[k]? = some y) : (mixA nm hl td k)[k]? = some y := by
  have hk := (List.getElem?_eq_some_iff.1 h).1
  unfold mixA
  rw [List.getElem?_append_right (by simp; omega)]
  simp [Nat.min_eq_left (Nat.le_of_lt hk), h]
theorem mix_next (nm hl : ByteArray) (td : List Lot) (k : Nat) (y : Lot) (h : td[k]? = some y) : (mixA nm hl td k).set k (toA nm hl y) = mixA nm hl td (k + 1) := by
  obtain ⟨hk, hy⟩ := List.getElem?_eq_some_iff.1 h
  unfold mixA
  have hln : ((td.take k).map (toA nm hl)).length = k := by simp; omega
  rw [List.set_append_right _ _ (by omega), hln, Nat.sub_self, List.drop_eq_getElem_cons hk, List.set_cons_zero, List.take_succ_eq_append_getElem hk, hy, List.map_append, List.append_assoc]
  rfl
end Reg
theorem Own.toA {w : World} {B g cap i n : Nat} {l : List Lot} {y : Lot} {nm hl : ByteArray} (h : Own w B (.slice (some ⟨g, 0, none⟩) n cap) l) (hn : n = l.length) (hy : l[i]? = some y) : Own ((w.setCell ⟨g, i * 4, none⟩ (.string nm)).setCell ⟨g, i * 4 + 1, none⟩ (.string hl)) B (.slice (some ⟨g, 0, none⟩) n cap) (l.set i (Reg.toA nm hl y)) := by
  unfold Own at h ⊢
  rw [List.length_set, ← hn]
  rw [← hn] at h
  have := owns_set (j := i * 4 + 1) (u := .string hl) (owns_set (j := i * 4) (u := .string nm) h)
  rwa [cells_to l i y nm hl hy] at this
theorem own_at_any {w : World} {B cap : Nat} {A : Option Addr} {n : Nat} {l : List Lot} (h : Own w B (.slice A n cap) l) : ∀ k x, l[k]? = some x → ∃ g, A = some ⟨g, 0, none⟩ ∧ B ≤ g ∧ g < w.heap.size ∧ (∀ o, w.frozen? ⟨g, o, none⟩ = false) ∧ CellsAt w g (k * 4) x := by
  intro k x hx
  have hk := (List.getElem?_eq_some_iff.1 hx).1
  obtain ⟨g, c, hv, h1, h2, h3, h4⟩ := h.at_ (by omega)
  injection hv with hv _ _
  exact ⟨g, hv, h1, h2, h3, h4 k x hx⟩
end Go.Proofs.Ythhmpdjjfoplgaa
