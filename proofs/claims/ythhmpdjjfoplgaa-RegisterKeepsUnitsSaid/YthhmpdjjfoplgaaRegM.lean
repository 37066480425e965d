/- slices.Insert of one lot into a row of the call's own: walked. -/
import Derived.Test.YthhmpdjjfoplgaaRegL
import Derived.Laws.CopyOwn
import Derived.Lib.AppendZerosOnto
import Derived.Lib.Overlaps
import Derived.Laws.NewBlocks
set_option linter.unusedVariables false
set_option linter.unusedSimpArgs false
namespace Go.Proofs.Ythhmpdjjfoplgaa
open Go.RowKit Reg

/-- copy of elements of so many cells into a row that is known whole -/
theorem run_copy_k {P : Program} (w : World) (dT sT ty elem : TypeId) (sz g o dLen dCap : Nat) (ad : Addr) (sLen sCap : Nat) (cur : Array Value) (t : TypeId) (cs : List Value)
    (hu : P.underlying dT = some (.slice elem)) (hs : (P.info? elem).map (·.size) = some sz) (hg : w.heap[g]? = some (.cells cur t (0, 0))) (hn : cs.length = Nat.min sLen dLen * sz)
    (hsrc : ∀ j v, cs[j]? = some v → w.cell? (ad.add j) = some v) (hfit : o + cs.length ≤ cur.size) (h1 : ∀ v ∈ cs, v.oneCell' = true) :
    (Builtin.copy_ #[dT, sT] ty #[.slice (some ⟨g, o, none⟩) dLen dCap, .slice (some ad) sLen sCap]).run P w = .ok (goInt (Nat.min sLen dLen)) (w.setRow g (cur.toList.take o ++ (cs ++ cur.toList.drop (o + cs.length))).toArray) := by
  have hl := run_loadCells_list (P := P) w ad cs hsrc
  have hst := run_storeCells_at P g o t cs 0 cur w hg (by simpa using hfit) h1
  cases hq : P.info? elem with
  | none => simp [hq] at hs
  | some i =>
    have hi : i.size = sz := by simpa [hq] using hs
    simp [Builtin.copy_, run_underlying hu, Builtin.lenOf, Builtin.firstCells, sizeOf, typeInfo, hq, hi, ← hn, hl, hst]
theorem wpList_copy_k {P : Program} {w : World} {ops : Array Oper} {rest : List Oper} {o : Oper} {a : Act} {Q : Exit → Act → World → Prop} (hgd : o.guard = none) (d s : Operand) (dT sT : TypeId)
    (ho : o.op = .call { callee := .builtin .copy, args := #[d, s], argTypes := #[dT, sT] }) (elem : TypeId) (hu : P.underlying dT = some (.slice elem)) (sz : Nat) (hsz : (P.info? elem).map (·.size) = some sz)
    (g off dLen dCap : Nat) (ad : Addr) (sLen sCap : Nat) (hd : a.eval d = .slice (some ⟨g, off, none⟩) dLen dCap) (hs : a.eval s = .slice (some ad) sLen sCap)
    (cur : List Value) (t : TypeId) (hg : w.heap[g]? = some (.cells cur.toArray t (0, 0))) (cs : List Value) (hn : cs.length = Nat.min sLen dLen * sz)
    (hsrc : ∀ j v, cs[j]? = some v → w.cell? (ad.add j) = some v) (hfit : off + cs.length ≤ cur.length) (h1 : ∀ v ∈ cs, v.oneCell' = true) (B : Nat) (w0 : World) (hb : Below B w0 w) (hBg : B ≤ g)
    (h : ∀ w', Hid (w'.heap[g]? = some (.cells (splice cur off cs).toArray t (0, 0))) → Below B w0 w' → (∀ k, k ≠ g → w'.heap[k]? = w.heap[k]?) → wpList P ops Q rest (a.put o.dst (goInt (Nat.min sLen dLen))) w') : wpList P ops Q (o :: rest) a w := by
  refine wpList_plain hgd fun K hK => ?_
  have hrun := run_copy_k (P := P) w dT sT o.type elem sz g off dLen dCap ad sLen sCap cur.toArray t cs hu hsz hg hn hsrc (by simpa using hfit) h1
  unfold Oper.wp
  simp [execOp, ho, resolve, invoke, builtin, hd, hs, hrun, Result.andThen]
  exact hK _ _ (h _ (show _ = _ by simpa [splice] using setRow_heap w g _ _ t _ hg) (below_setRow hb hBg _) (fun k hk => setRow_other w g k _ hk))
/-- the operation that writes this slot, chosen by looking -/
theorem at_slot {P : Program} {ops : Array Oper} {Q : Exit → Act → World → Prop} {rest : List Oper} {a : Act} {w : World} (n : Nat) {op : Op} {ty : TypeId} {ps : String} {af : Array Edge} {gd : Option (Nat × Bool)} (h : wpList P ops Q (⟨some n, op, ty, ps, af, gd⟩ :: rest) a w) : wpList P ops Q (⟨some n, op, ty, ps, af, gd⟩ :: rest) a w := h
theorem Try.sizeLot : (Try.prog.info? 41).map (·.size) = some 4 := by kernel_rfl

set_option maxRecDepth 100000 in
set_option maxHeartbeats 4000000 in
theorem insert_end (v : Value) (l : List Lot) (x : Lot) (vb B : Nat) (w : World) (ho : Own w B v l) (hn : l.length ≤ 5000) (hB : B ≤ w.heap.size)
    (hvb : w.heap[vb]? = some (.cells #[.string x.nom, .string x.hol, .int .i64 x.ser, .int .i64 x.units] 41 (0, 0))) :
    Calls Try.prog 62 #[v, .int .i64 l.length, .slice (some ⟨vb, 0, none⟩) 1 1] w fun e w' => ∃ v', e = .returned v' ∧ Own w' B v' (l ++ [x]) ∧ Below B w w' := by
  obtain ⟨i0, hi, hz0, hz1, hz2⟩ := info_parts Try.info41
  have hnews : ∀ j u, x.cells[j]? = some u → w.cell? ((⟨vb, 0, none⟩ : Addr).add j) = some u := by
    intro j u hu
    have hadd : (⟨vb, 0, none⟩ : Addr).add j = ⟨vb, j, none⟩ := by unfold Addr.add; split <;> simp_all
    rw [hadd, cell_of_row w vb j _ _ (0, 0) hvb]
    simpa [Lot.cells] using hu
  have HW := Lib.hid hnews
  have HO := Lib.hid ho
  have hform := ho.2
  clear hnews hvb ho
  rcases hform with ⟨rfl, h0⟩ | ⟨g, cap, cur, rfl, hbg, hg, hnc, hcm, _⟩
  · have hl0 := List.eq_nil_of_length_eq_zero h0
    subst hl0
    clear h0 hn
    go_enter Try.func62, Try.ntmps62
    go_wp2_with (at_builtin; refine wpList_append_own _ rfl _ _ 22 rfl B 41 i0 _ 4 48 Try.underlying22 hi hz0 hz1 hz2 rfl (by decide) _ _ _ rfl HO.out ⟨vb, 0, none⟩ 1 1 x.cells rfl rfl HW.out (one_lot x) (small_maxLen (by simp)) (by simp) hB ?_; intro v' w1 ho1 hg1 _; have HO1 := Lib.hid ho1; have HG1 := Lib.hid hg1; clear ho1 hg1)
    go_ret
    exact ⟨_, rfl, own_snoc HO1.out (by simp), below_grown (Below.refl _ _) HO.out HG1.out hB⟩
  · unfold maxLen at hcm
    clear hg
    go_enter Try.func62, Try.ntmps62
    go_wp2_with (at_builtin; refine wpList_append_own _ rfl _ _ 22 rfl B 41 i0 _ 4 48 Try.underlying22 hi hz0 hz1 hz2 rfl (by decide) (.slice (some ⟨g, 0, none⟩) l.length cap) _ _ rfl HO.out ⟨vb, 0, none⟩ 1 1 x.cells rfl rfl HW.out (one_lot x) (small_maxLen (by omega)) (by omega) hB ?_; intro v' w1 ho1 hg1 _; have HO1 := Lib.hid ho1; have HG1 := Lib.hid hg1; clear ho1 hg1)
    all_goals (go_ret; exact ⟨_, rfl, own_snoc HO1.out (by simp), below_grown (Below.refl _ _) HO.out HG1.out hB⟩)

namespace Reg
theorem cells_take (l : List Lot) (i : Nat) : cellsL (l.take i) = (cellsL l).take (i * 4) := by
  induction l generalizing i with
  | nil => simp [cellsL]
  | cons a l ih =>
    cases i with
    | zero => simp [cellsL]
    | succ i =>
      have := ih i
      simp only [cellsL, List.take_succ_cons, List.flatMap_cons] at this ⊢
      rw [this, show (i + 1) * 4 = a.cells.length + i * 4 by simp [Lot.cells]; omega, List.take_length_add_append]
theorem cells_drop (l : List Lot) (i : Nat) : cellsL (l.drop i) = (cellsL l).drop (i * 4) := by
  induction l generalizing i with
  | nil => simp [cellsL]
  | cons a l ih =>
    cases i with
    | zero => simp [cellsL]
    | succ i =>
      have := ih i
      simp only [cellsL, List.drop_succ_cons, List.flatMap_cons] at this ⊢
      rw [this, show (i + 1) * 4 = a.cells.length + i * 4 by simp [Lot.cells]; omega, List.drop_length_add_append]
theorem splice_two {α : Type} (L xs ds : List α) (i : Nat) (h : i + xs.length + ds.length ≤ L.length) :
    (splice (splice L i xs) (i + xs.length) ds).take (i + xs.length + ds.length) = L.take i ++ (xs ++ ds) := by
  have h1 : (splice L i xs).take (i + xs.length) = L.take i ++ xs := by
    unfold splice
    rw [← List.append_assoc, List.take_append_of_le_length (by simp; omega), List.take_of_length_le (by simp; omega)]
  unfold splice at *
  rw [← List.append_assoc, List.take_append_of_le_length (by simp; omega), List.take_of_length_le (by simp; omega), h1, List.append_assoc]
theorem splice_rev {α : Type} (L xs ds : List α) (i : Nat) (h : i + xs.length + ds.length ≤ L.length) :
    (splice (splice L (i + xs.length) ds) i xs).take (i + xs.length + ds.length) = L.take i ++ (xs ++ ds) := by
  unfold splice
  have e1 : (L.take (i + xs.length) ++ (ds ++ L.drop (i + xs.length + ds.length))).take i = L.take i := by
    rw [List.take_append_of_le_length (by simp; omega), List.take_take]; congr 1; omega
  have e2 : (L.take (i + xs.length) ++ (ds ++ L.drop (i + xs.length + ds.length))).drop (i + xs.length) = ds ++ L.drop (i + xs.length + ds.length) := List.drop_left' (by simp; omega)
  rw [e1, e2, ← List.append_assoc xs, ← List.append_assoc (L.take i), List.take_append_of_le_length (by simp; omega), List.take_of_length_le (by simp; omega)]
end Reg
end Go.Proofs.Ythhmpdjjfoplgaa
