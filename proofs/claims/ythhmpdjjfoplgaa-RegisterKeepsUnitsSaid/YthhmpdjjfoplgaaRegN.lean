/- slices.Insert of one lot ahead of others, no room: a new row. -/
import Derived.Test.YthhmpdjjfoplgaaRegM
set_option linter.unusedVariables false
set_option linter.unusedSimpArgs false
namespace Go.Proofs.Ythhmpdjjfoplgaa
open Go.RowKit Reg

theorem add_lit (b o j : Nat) : (⟨b, o, none⟩ : Addr).add j = ⟨b, o + j, none⟩ := by unfold Addr.add; split <;> simp_all

set_option maxRecDepth 100000 in
set_option maxHeartbeats 4000000 in
theorem insert_grow (l : List Lot) (i g cap : Nat) (x : Lot) (vb B : Nat) (w : World) (ho : Own w B (.slice (some ⟨g, 0, none⟩) l.length cap) l) (hi : i < l.length) (hn : l.length ≤ 5000) (hB : B ≤ w.heap.size) (hroom : cap < l.length + 1) (hnc : l.length ≤ cap)
    (hvb : w.heap[vb]? = some (.cells #[.string x.nom, .string x.hol, .int .i64 x.ser, .int .i64 x.units] 41 (0, 0))) :
    Calls Try.prog 62 #[.slice (some ⟨g, 0, none⟩) l.length cap, .int .i64 i, .slice (some ⟨vb, 0, none⟩) 1 1] w fun e w' => ∃ v', e = .returned v' ∧ Own w' B v' (l.take i ++ x :: l.drop i) ∧ Below B w w' := by
  obtain ⟨i0, hi0, hz0, hzs, hzb⟩ := info_parts Try.info41
  obtain rfl : cap = l.length := by omega
  obtain ⟨n, hnn⟩ : ∃ n, n = l.length := ⟨_, rfl⟩
  have hcl := cellsL_len l
  have hcells : ∀ j u, (cellsL l)[j]? = some u → w.cell? ⟨g, j, none⟩ = some u := fun j u hu => by
    have := World.ownsRow.cells ho (g := g) rfl j u hu
    rw [add_lit, Nat.zero_add] at this; exact this
  rw [← hnn] at hcl hi hn ⊢
  have hgw : g < w.heap.size := World.block_lt_of_cell? w ⟨g, 0, none⟩ (hcells 0 _ (List.getElem?_eq_getElem (by omega)))
  have hvw : vb < w.heap.size := (Array.getElem?_eq_some_iff.1 hvb).1
  have hz2 : ¬ ((i : Int) = (n : Int)) := by omega
  have hz3 : (n : Int) < (n : Int) + 1 := by omega
  have hkk : (n : Int) + 1 - (i : Int) = ((n + 1 - i : Nat) : Int) := by omega
  have hik : i + (n + 1 - i) = n + 1 := by omega
  have hold : (Builtin.firstCells i0.size i (.slice (some ⟨g, 0, none⟩) i n)).run Try.prog w.drew = .ok (cellsL (l.take i)).toArray w.drew := by
    rw [hzs]
    exact run_firstCells_some w.drew 4 i ⟨g, 0, none⟩ i n (cellsL (l.take i)) (by rw [cells_take, List.length_take]; omega) (fun j u hj => by
      rw [add_lit, Nat.zero_add]
      rw [cells_take, List.getElem?_take] at hj
      split at hj
      · exact hcells j u hj
      · cases hj)
  have hrz : ∀ ty, (Builtin.append_ #[22, 3] ty #[.slice (some ⟨g, 0, none⟩) i n, .int .i64 ((n : Int) + 1 - (i : Int))]).run Try.prog w =
      .ok (.slice (some ⟨w.heap.size, 0, none⟩) (n + 1) (grownCap w (n + 1) n 41)) (w.drew.alloc (.cells ((cellsL (l.take i)).toArray ++ Builtin.zeroCells (Value.cells (.agg #[.string ByteArray.empty, .string ByteArray.empty, .int .i64 0, .int .i64 0])) (n + 1 - i) ++ Builtin.zeroCells (Value.cells (.agg #[.string ByteArray.empty, .string ByteArray.empty, .int .i64 0, .int .i64 0])) (grownCap w (n + 1) n 41 - (n + 1))) 41)) := fun ty => by
    have h := Lib.run_append_grow_zeros w 22 3 ty 41 i0 _ .i64 .i64 Try.underlying22 Try.underlying3 hi0 hz0 (some ⟨g, 0, none⟩) i n (cellsL (l.take i)) hold (n + 1 - i) (by omega) (by omega) (by omega) (by omega) (by rw [hzb]; omega) (by rw [hzb, hik]; exact growslice_fits (by omega) (by omega))
    rw [hik] at h
    rw [hkk]
    exact h
  obtain ⟨G, hG⟩ : ∃ G, G = grownCap w (n + 1) n 41 := ⟨_, rfl⟩
  rw [← hG] at hrz
  have hGn : n + 1 ≤ G := by rw [hG]; exact grownCap_ge w _ _ _
  have hG63 : G ≤ maxLen := by rw [hG]; exact grownCap_le_maxLen w (n + 1) n 41 (small_maxLen (by omega))
  obtain ⟨RL, hRL⟩ : ∃ RL : List Value, RL = ((cellsL (l.take i)).toArray ++ Builtin.zeroCells (Value.cells (.agg #[.string ByteArray.empty, .string ByteArray.empty, .int .i64 0, .int .i64 0])) (n + 1 - i) ++ Builtin.zeroCells (Value.cells (.agg #[.string ByteArray.empty, .string ByteArray.empty, .int .i64 0, .int .i64 0])) (G - (n + 1))).toList := ⟨_, rfl⟩
  have hRA : (cellsL (l.take i)).toArray ++ Builtin.zeroCells (Value.cells (.agg #[.string ByteArray.empty, .string ByteArray.empty, .int .i64 0, .int .i64 0])) (n + 1 - i) ++ Builtin.zeroCells (Value.cells (.agg #[.string ByteArray.empty, .string ByteArray.empty, .int .i64 0, .int .i64 0])) (G - (n + 1)) = RL.toArray := by rw [hRL]
  have htl : (cellsL (l.take i)).length = i * 4 := by rw [cells_take, List.length_take]; omega
  have hRlen : RL.length = G * 4 := by
    rw [hRL]
    simp [size_zeroCells, Value.cells, htl]
    omega
  have hRtake : RL.take (i * 4) = cellsL (l.take i) := by
    rw [hRL]
    simp only [Array.toList_append, List.append_assoc]
    rw [← htl]; exact List.take_left
  rw [hRA] at hrz
  have hW1 : (w.drew.alloc (.cells RL.toArray 41)).heap[w.heap.size]? = some (.cells RL.toArray 41 (0, 0)) := heap_alloc_new w.drew _
  have HW1 := Lib.hid hW1
  have HR := Lib.hid (And.intro hRlen hRtake)
  have HC := Lib.hid hcells
  have HV := Lib.hid hvb
  have HN := Lib.hid hnn
  have HCL := Lib.hid hcl
  have HN1 := Lib.hid (show x.cells.length = Nat.min 1 (n + 1 - i) * 4 by simp only [Lot.cells, List.length_cons, List.length_nil, Nat.min_def]; split <;> omega)
  have HS1 := Lib.hid (show ∀ j u, x.cells[j]? = some u → (w.drew.alloc (.cells RL.toArray 41)).cell? ((⟨vb, 0, none⟩ : Addr).add j) = some u from fun j u hu => by
    rw [add_lit, Nat.zero_add]
    refine cell_alloc (w := w.drew) ?_ _
    show w.cell? _ = _
    rw [cell_of_row w vb j _ _ (0, 0) hvb]
    simpa [Lot.cells] using hu)
  have HF1 := Lib.hid (show i * 4 + x.cells.length ≤ RL.length by rw [hRlen]; simp [Lot.cells]; omega)
  have HB1 := Lib.hid (show Below w.heap.size w (w.drew.alloc (.cells RL.toArray 41)) from (below_drew (Below.refl _ _)).alloc (Nat.le_refl _) _)
  have hw1 : IntKind.i64.wrap ((i : Int) + 1) = (i : Int) + 1 := IntWalk.i64_in _ (by omega)
  have hb1 : (0 : Int) ≤ (i : Int) + 1 := by omega
  have htn : ((i : Int) + 1).toNat = i + 1 := by omega
  have hin : i ≤ n := by omega
  have hGi : ¬ (G = i) := by omega
  have hGi1 : ¬ (G = i + 1) := by omega
  have hni : ¬ (n = i) := by omega
  unfold maxLen at hG63
  clear hRA hRL hRlen hRtake hW1 hold hkk hik hcells hvb ho hnn hcl hG htl hnc hroom
  go_enter Try.func62, Try.ntmps62
  go_upto_region 11 with (first
    | (at_builtin; refine Lib.wpList_append_run _ rfl _ _ _ _ rfl _ _ rfl rfl _ _ (hrz _) ?_)
    | ((with_reducible refine at_slot 45 ?_); refine wpList_copy_k rfl _ _ _ _ rfl 41 Try.underlying22 4 Try.sizeLot w.heap.size (i * 4) _ _ ⟨vb, 0, none⟩ 1 1 rfl rfl RL 41 HW1.out x.cells ?_ ?_ ?_ (one_lot x) w.heap.size w ?_ (Nat.le_refl _) ?_; exact HN1.out; exact HS1.out; exact HF1.out; exact HB1.out; intro w2 hg2 hb2 hk2; have HB2 := Lib.hid hb2; have HK2 := Lib.hid hk2; clear hb2 hk2))
  simp only [Act.put, List.setIfInBounds_toArray, List.set_cons_zero, List.set_cons_succ]
  refine wp_region_still_tail 8 (by kernel_rfl) (by kernel_rfl) ?_
  simp only [List.take_succ_cons, List.take_zero, List.drop_succ_cons, List.drop_zero]
  change wpStill _ _ (World.drew _) _ _ _
  repeat still_step
  refine wpStill_nil ?_
  change wpList _ _ _ _ _ (World.drew _)
  have hdl : (cellsL (l.drop i)).length = (n - i) * 4 := by rw [cells_drop, List.length_drop, HCL.out]; omega
  have hsl : (splice RL (i * 4) x.cells).length = G * 4 := by rw [length_splice _ _ _ HF1.out, HR.out.1]
  refine wpList_copy_k rfl _ _ _ _ rfl 41 Try.underlying22 4 Try.sizeLot w.heap.size ((i + 1) * 4) (n - i) (G - (i + 1)) ⟨g, i * 4, none⟩ (n - i) (n - i) rfl rfl (splice RL (i * 4) x.cells) 41 hg2.out (cellsL (l.drop i)) ?_ ?_ ?_ ?_ w.heap.size w (below_drew HB2.out) (Nat.le_refl _) ?_
  · rw [hdl]; simp [Nat.min_def]
  · intro j u hj
    rw [add_lit]
    show w2.cell? _ = _
    refine cell_belowB ?_ HB2.out hgw
    rw [cells_drop, List.getElem?_drop] at hj
    exact HC.out _ _ hj
  · rw [hsl, hdl]; omega
  · intro u hu; rw [cells_drop] at hu; exact cellsL_one l u (List.mem_of_mem_drop hu)
  · intro w3 hg3 hb3 hk3
    have HB3 := Lib.hid hb3
    have HDL := Lib.hid (And.intro hdl hsl)
    clear hb3 hk3 hdl hsl
    go_wp2
    go_ret
    refine ⟨.slice (some ⟨w.heap.size, 0, none⟩) (n + 1) G, rfl, ?_, HB3.out.mono hB⟩
    have hsp := splice_two RL x.cells (cellsL (l.drop i)) (i * 4) (by rw [HR.out.1, HDL.out.1]; simp [Lot.cells]; omega)
    have hx4 : x.cells.length = 4 := rfl
    rw [HDL.out.1, hx4, HR.out.2, show i * 4 + 4 = (i + 1) * 4 by omega] at hsp
    have hll : (l.take i ++ x :: l.drop i).length = n + 1 := by simp [← HN.out]; omega
    refine ⟨?_, .inr ⟨w.heap.size, G, _, by rw [hll], hB, hg3.out, by rw [hll]; exact hGn, by unfold maxLen; exact hG63, ?_, ?_⟩⟩
    · rw [cellsL_len]
    · rw [List.size_toArray, length_splice _ _ _ (by rw [HDL.out.1, HDL.out.2]; omega), HDL.out.2]
    · rw [hll, show (n + 1) * 4 = (i + 1) * 4 + (n - i) * 4 by omega, hsp, cellsL_app]
      simp [cellsL]
end Go.Proofs.Ythhmpdjjfoplgaa
