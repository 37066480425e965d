/- slices.Insert of one lot ahead of others, where there is room: in place. All roads together. -/
import Derived.Test.YthhmpdjjfoplgaaRegN
import Derived.Laws.Externs
set_option linter.unusedVariables false
set_option linter.unusedSimpArgs false
namespace Go.Proofs.Ythhmpdjjfoplgaa
open Go.RowKit Reg

theorem Try.sizeOfLot : ∀ w, (Go.sizeOf 41).run Try.prog w = .ok 4 w := fun w => by kernel_rfl

set_option maxRecDepth 100000 in
set_option maxHeartbeats 4000000 in
theorem insert_shift (l : List Lot) (i g cap : Nat) (x : Lot) (vb B : Nat) (w : World) (ho : Own w B (.slice (some ⟨g, 0, none⟩) l.length cap) l) (hi : i < l.length) (hn : l.length ≤ 5000) (hB : B ≤ w.heap.size) (hroom : l.length + 1 ≤ cap) (hne : vb ≠ g)
    (hvb : w.heap[vb]? = some (.cells #[.string x.nom, .string x.hol, .int .i64 x.ser, .int .i64 x.units] 41 (0, 0))) :
    Calls Try.prog 62 #[.slice (some ⟨g, 0, none⟩) l.length cap, .int .i64 i, .slice (some ⟨vb, 0, none⟩) 1 1] w fun e w' => ∃ v', e = .returned v' ∧ Own w' B v' (l.take i ++ x :: l.drop i) ∧ Below B w w' := by
  have hform := ho.2
  obtain ⟨n, hnn⟩ : ∃ n, n = l.length := ⟨_, rfl⟩
  have hcl := cellsL_len l
  have hcells : ∀ j u, (cellsL l)[j]? = some u → w.cell? ⟨g, j, none⟩ = some u := fun j u hu => by
    have := World.ownsRow.cells ho (g := g) rfl j u hu
    rw [add_lit, Nat.zero_add] at this; exact this
  obtain ⟨cur, hbg, hg, hcm, hcs, htk⟩ : ∃ cur : Array Value, B ≤ g ∧ w.heap[g]? = some (.cells cur 41 (0, 0)) ∧ cap ≤ maxLen ∧ cur.size = cap * 4 ∧ cur.toList.take (l.length * 4) = cellsL l := by
    rcases hform with ⟨h, _⟩ | ⟨g', cap', cur, h, hbg, hg, hnc, hcm, hcs, htk⟩
    · cases h
    · injection h with h1 h2 h3
      injection h1 with h1
      injection h1 with h1
      subst h1 h3
      exact ⟨cur, hbg, hg, hcm, hcs, htk⟩
  rw [← hnn] at hcl hi hn hroom htk ⊢
  have hov : ∀ lb cb, (callFunc 71 #[.slice (some ⟨vb, 0, none⟩) 1 1, .slice (some ⟨g, (i + 1) * 4, none⟩) lb cb]).run Try.prog w = .ok (.value (.bool false)) w := fun lb cb => by
    rw [run_callFunc_extern Try.func71 (by kernel_rfl) (by kernel_rfl) (by kernel_rfl) (e := Extern.SlicesOverlaps.overlaps #[22, 22] #[4]) (by kernel_rfl),
      Lib.run_overlaps_apart w 22 4 41 Try.underlying22 4 Try.sizeOfLot ⟨vb, 0, none⟩ ⟨g, (i + 1) * 4, none⟩ 1 1 lb cb hne 41 41 4 cur.size (by simp [World.shape?, hvb]) (by simp [World.shape?, hg]) (by omega) (by simp [World.frozen?, hvb]) (by simp [World.frozen?, hvb])]
    rfl
  have hdl : (cellsL (l.drop i)).length = (n - i) * 4 := by rw [cells_drop, List.length_drop, hcl]; omega
  have HG0 := Lib.hid (show w.heap[g]? = some (.cells cur.toList.toArray 41 (0, 0)) by simpa using hg)
  have HV := Lib.hid hvb
  have HC := Lib.hid hcells
  have HN := Lib.hid hnn
  have HR := Lib.hid (And.intro hcs htk)
  have HDL := Lib.hid hdl
  have hgw : g < w.heap.size := (Array.getElem?_eq_some_iff.1 hg).1
  have hz2 : ¬ ((i : Int) = (n : Int)) := by omega
  have hz3 : ¬ ((cap : Int) < (n : Int) + 1) := by omega
  have hw0 : IntKind.i64.wrap ((n : Int) + 1) = (n : Int) + 1 := IntWalk.i64_in _ (by omega)
  have hw1 : IntKind.i64.wrap ((i : Int) + 1) = (i : Int) + 1 := IntWalk.i64_in _ (by omega)
  have hb1 : (0 : Int) ≤ (i : Int) + 1 := by omega
  have htn : ((i : Int) + 1).toNat = i + 1 := by omega
  have hb0 : (0 : Int) ≤ (n : Int) + 1 := by omega
  have htn0 : ((n : Int) + 1).toNat = n + 1 := by omega
  have hin : i ≤ n := by omega
  have hin1 : i ≤ n + 1 := by omega
  have hb3 : (i : Int) ≤ (n : Int) + 1 := by omega
  have hci : ¬ (cap = i) := by omega
  have hci1 : ¬ (cap = i + 1) := by omega
  unfold maxLen at hcm
  clear hform hg hvb hcells hnn hcs htk hdl ho hcl
  go_enter Try.func62, Try.ntmps62
  go_upto_region 15 with (simp only [hov])
  refine wp_region_still_tail 8 (by kernel_rfl) (by kernel_rfl) ?_
  simp only [List.take_succ_cons, List.take_zero, List.drop_succ_cons, List.drop_zero]
  change wpStill _ _ (World.drew _) _ _ _
  repeat still_step
  refine wpStill_nil ?_
  change wpList _ _ _ _ _ (World.drew _)
  refine wpList_copy_k rfl _ _ _ _ rfl 41 Try.underlying22 4 Try.sizeLot g ((i + 1) * 4) (n - i) (cap - (i + 1)) ⟨g, i * 4, none⟩ (n + 1 - i) (cap - i) rfl rfl cur.toList 41 HG0.out (cellsL (l.drop i)) ?_ ?_ ?_ ?_ B w (below_drew (Below.refl _ _ |>.mono hB)) hbg ?_
  · rw [HDL.out]; simp only [Nat.min_def]; split <;> omega
  · intro j u hj
    rw [add_lit]
    show w.cell? _ = _
    rw [cells_drop, List.getElem?_drop] at hj
    exact HC.out _ _ hj
  · rw [HDL.out, Array.length_toList, HR.out.1]; omega
  · intro u hu; rw [cells_drop] at hu; exact cellsL_one l u (List.mem_of_mem_drop hu)
  intro w2 hg2 hb2 hk2
  have HB2 := Lib.hid hb2
  have HV2 := Lib.hid (show w2.heap[vb]? = some (.cells #[.string x.nom, .string x.hol, .int .i64 x.ser, .int .i64 x.units] 41 (0, 0)) by rw [hk2 vb hne]; exact HV.out)
  have HSL := Lib.hid (show (splice cur.toList ((i + 1) * 4) (cellsL (l.drop i))).length = cap * 4 by rw [length_splice _ _ _ (by rw [HDL.out, Array.length_toList, HR.out.1]; omega), Array.length_toList, HR.out.1])
  clear hb2 hk2
  have HN1 := Lib.hid (show x.cells.length = Nat.min 1 (n + 1 - i) * 4 by simp only [Lot.cells, List.length_cons, List.length_nil, Nat.min_def]; split <;> omega)
  have HS1 := Lib.hid (show ∀ j u, x.cells[j]? = some u → w2.cell? ((⟨vb, 0, none⟩ : Addr).add j) = some u from fun j u hu => by
    rw [add_lit, Nat.zero_add, cell_of_row w2 vb j _ _ (0, 0) HV2.out]
    simpa [Lot.cells] using hu)
  have HF1 := Lib.hid (show i * 4 + x.cells.length ≤ (splice cur.toList ((i + 1) * 4) (cellsL (l.drop i))).length by rw [HSL.out]; simp [Lot.cells]; omega)
  go_wp2_with ((with_reducible refine at_slot 82 ?_); refine wpList_copy_k rfl _ _ _ _ rfl 41 Try.underlying22 4 Try.sizeLot g (i * 4) (n + 1 - i) (cap - i) ⟨vb, 0, none⟩ 1 1 rfl rfl (splice cur.toList ((i + 1) * 4) (cellsL (l.drop i))) 41 hg2.out x.cells ?_ ?_ ?_ (one_lot x) B w ?_ hbg ?_; exact HN1.out; exact HS1.out; exact HF1.out; exact HB2.out; intro w3 hg3 hb3 hk3; have HB3 := Lib.hid hb3; clear hb3 hk3)
  go_ret
  refine ⟨.slice (some ⟨g, 0, none⟩) (n + 1) cap, rfl, ?_, HB3.out⟩
  have hsp := splice_rev cur.toList x.cells (cellsL (l.drop i)) (i * 4) (by have h1 := HR.out.1; have h2 : cur.toList.length = cur.size := Array.length_toList; rw [HDL.out, h2, h1]; simp only [Lot.cells, List.length_cons, List.length_nil]; omega)
  have hx4 : x.cells.length = 4 := rfl
  have htt : cur.toList.take (i * 4) = cellsL (l.take i) := by
    rw [cells_take, ← HR.out.2, List.take_take]; congr 1; omega
  rw [HDL.out, hx4, show i * 4 + 4 = (i + 1) * 4 by omega, htt] at hsp
  have hll : (l.take i ++ x :: l.drop i).length = n + 1 := by simp [← HN.out]; omega
  refine ⟨?_, .inr ⟨g, cap, _, by rw [hll], hbg, hg3.out, by rw [hll]; exact hroom, by unfold maxLen; exact hcm, ?_, ?_⟩⟩
  · rw [cellsL_len]
  · rw [List.size_toArray, length_splice _ _ _ HF1.out, HSL.out]
  · rw [hll, show (n + 1) * 4 = (i + 1) * 4 + (n - i) * 4 by omega, hsp, cellsL_app]
    simp [cellsL]

/-- slices.Insert of one lot -/
theorem insert_any (v : Value) (l : List Lot) (i : Nat) (x : Lot) (vb B : Nat) (w : World) (ho : Own w B v l) (hi : i ≤ l.length) (hn : l.length ≤ 5000) (hB : B ≤ w.heap.size) (hne : v.ownBlock ≠ some vb)
    (hvb : w.heap[vb]? = some (.cells #[.string x.nom, .string x.hol, .int .i64 x.ser, .int .i64 x.units] 41 (0, 0))) :
    Calls Try.prog 62 #[v, .int .i64 i, .slice (some ⟨vb, 0, none⟩) 1 1] w fun e w' => ∃ v', e = .returned v' ∧ Own w' B v' (l.take i ++ x :: l.drop i) ∧ Below B w w' := by
  by_cases he : i = l.length
  · subst he
    simpa using insert_end v l x vb B w ho hn hB hvb
  · have hlt : i < l.length := by omega
    rcases ho.2 with ⟨h1, h2⟩ | ⟨g, cap, cur, hv, hbg, hg, hnc, hcm, hcs, htk⟩
    · omega
    · subst hv
      by_cases hroom : l.length + 1 ≤ cap
      · exact insert_shift l i g cap x vb B w ho hlt hn hB hroom (fun e => hne (by rw [e]; rfl)) hvb
      · exact insert_grow l i g cap x vb B w ho hlt hn hB (by omega) hnc hvb
end Go.Proofs.Ythhmpdjjfoplgaa
