/- slices.SortFunc over holders, as register.Holders calls it: walked; with it register.Holders whole. -/
import Derived.Test.YthhmpdjjfoplgaaRegX
import Derived.Test.YthhmpdjjfoplgaaRegY
import Derived.Shelf.SlSortCmp.NoneTotal
set_option linter.unusedVariables false
set_option linter.unusedSimpArgs false
namespace Go.Proofs.Ythhmpdjjfoplgaa
open Go.RowKit Reg Go.Maps Go.Shelf Go.Lib Go.Sort

theorem flat_of (l : List Hol) : flatK Hol.cells 2 l.toArray = (cellsH l).toArray := by
  refine ext_get! (by simp [cellsH_len]) fun t ht => ?_
  have ht2 : t < l.length * 2 := by simpa using ht
  rw [get_flatK _ _ _ _ (by simpa using ht2)]
  have hi : t / 2 < l.length := by omega
  obtain ⟨h0, h1⟩ := cellsH_get l (t / 2) l[t / 2] (by simp [hi])
  have hx : l.toArray[t / 2]! = l[t / 2] := by simp [hi]
  rw [hx]
  rcases Nat.mod_two_eq_zero_or_one t with hm | hm
  · have e : t / 2 * 2 = t := by omega
    rw [e] at h0
    rw [hm]
    have hlt : t < (cellsH l).length := by rw [cellsH_len]; omega
    rw [List.getElem!_toArray, List.getElem!_eq_getElem?_getD (l := cellsH l), h0]
    rfl
  · have e : t / 2 * 2 + 1 = t := by omega
    rw [e] at h1
    rw [hm]
    rw [List.getElem!_toArray, List.getElem!_eq_getElem?_getD (l := cellsH l), h1]
    rfl
theorem take_put (cur : Array Value) (xs : List Value) (h : xs.length ≤ cur.size) : (putCells id 0 xs.toArray cur).toList.take xs.length = xs := by
  apply List.ext_getElem?
  intro j
  by_cases hj : j < xs.length
  · rw [List.getElem?_take_of_lt hj, Array.getElem?_toList]
    simp [putCells, hj, show j < cur.size by omega]
  · rw [List.getElem?_take_eq_none (by omega), List.getElem?_eq_none (by omega)]
theorem holdsK_own {w : World} {B g cap : Nat} {l : List Hol} (h : OwnH w B (.slice (some ⟨g, 0, none⟩) l.length cap) l) : HoldsK Hol.cells 2 w g 0 l.toArray := by
  unfold HoldsK
  rw [flat_of]
  intro j hj
  have hj' : j < (cellsH l).length := by simpa using hj
  have hc := World.ownsRow.cells h (g := g) rfl j (cellsH l)[j] (by simp [hj'])
  rcases h.2 with ⟨h1, _⟩ | ⟨g', cap', cur, hv, hbg, hg, _⟩
  · cases h1
  · cases hv
    refine ⟨?_, by simp [World.frozen?, hg]⟩
    rw [add_lit] at hc
    simpa [hj'] using hc
theorem ownH_sorted {w : World} {B g cap n : Nat} {os : Array Obj} {l ds : List Hol} (h : OwnH w B (.slice (some ⟨g, 0, none⟩) l.length cap) l) (hl : ds.length = l.length) :
    OwnH (sortWorldK Hol.cells 2 w g 0 n ds.toArray os) B (.slice (some ⟨g, 0, none⟩) l.length cap) ds ∧ w.grownBy (sortWorldK Hol.cells 2 w g 0 n ds.toArray os) (some g) := by
  unfold sortWorldK putRowK
  rw [flat_of]
  rcases h.2 with ⟨h1, _⟩ | ⟨g', cap', cur, hv, hbg, hg, h1, h2, h3, h4⟩
  · cases h1
  · cases hv
    have hlt : g < w.heap.size := (Array.getElem?_eq_some_iff.1 hg).1
    refine ⟨⟨cellsH_len _, .inr ⟨g, cap, putCells id 0 (cellsH ds).toArray cur, by rw [hl], hbg, ?_, by omega, h2, by simp [putCells, h3], ?_⟩⟩, ⟨rfl, rfl, rfl, by simp, fun k hk hne => ?_⟩⟩
    · rw [heap_grow_old _ _ (by simpa using hlt)]
      simp [putRow, mapBlock, Sort.ahead, Array.getElem?_modify, hg, onCells]
    · rw [← cellsH_len]
      refine take_put cur _ ?_
      rw [cellsH_len, hl, h3]
      exact Nat.mul_le_mul_right 2 h1
    · rw [heap_grow_old _ _ (by simpa using hk)]
      have : g ≠ k := fun e => hne (by rw [e])
      simp [putRow, mapBlock, Sort.ahead, Array.getElem?_modify, this]

set_option maxHeartbeats 1000000 in
theorem closure_any (x y : Hol) (W : World) : Calls Try.prog 53 #[.agg (Hol.cells x).toArray, .agg (Hol.cells y).toArray] W fun e w' => e = .returned (.int .i64 (sCmp x.name y.name)) ∧ ∃ q os', w' = grow (W.drewN q) os' := by
  unfold Hol.cells
  go_enter Try.func53, Try.ntmps53
  go_wp2_with (go_at_call 54; refine (scmp_any _ _ _).mono ?_; rintro e w' ⟨rfl, rfl⟩)
  go_ret
  exact ⟨rfl, 0, _, by rw [alloc_eq_grow, alloc_eq_grow, grow_grow]; rfl⟩
theorem lt_hol (x y : Hol) : ltOf (fun x y : Hol => sCmp x.name y.name) x y = sLt x.name y.name := by
  show decide (sCmp x.name y.name < 0) = sLt x.name y.name
  rcases s_tri x.name y.name with h | h | h
  · rw [sCmp_lt h, h]; rfl
  · rw [h, sCmp_same, sLt_irr]; rfl
  · rw [sCmp_gt h, sLt_asym h]; rfl
theorem swo_hol : SWO (ltOf fun x y : Hol => sCmp x.name y.name) where
  irrefl x := by rw [lt_hol]; exact sLt_irr _
  trans x y z h1 h2 := by rw [lt_hol] at *; exact sLt_trans h1 h2
  ntrans x y z h1 h2 := by
    rw [lt_hol] at *
    cases h : sLt x.name z.name with
    | false => rfl
    | true =>
      rcases s_tri y.name z.name with k | k | k
      · rw [k] at h2; cases h2
      · rw [k, h] at h1; cases h1
      · rw [sLt_trans h k] at h1; cases h1

set_option maxHeartbeats 1000000 in
theorem sortH : SortH := by
  intro v hs B w hown hn
  have eg : ∀ args w, (callFunc 53 args).run Try.prog w = .ok (.enter 53 args) w := enters_of Try.func53 (by kernel_rfl) rfl
  rcases hown.2 with ⟨rfl, h0⟩ | ⟨g, cap, cur, rfl, hbg, hg, h1, h2, h3, h4⟩
  · have hl := List.eq_nil_of_length_eq_zero h0
    subst hl
    have hcon := AnyF.slices_SortFunc_none Try.holSort none 0 (.func (.func 53) #[] #[]) w
    change Calls Try.prog 52 _ _ _ at hcon
    refine hcon.mono ?_
    rintro e w' ⟨rfl, rfl⟩
    exact ⟨rfl, [], List.Perm.refl _, by intro i j hi; simp at hi, hown, ⟨rfl, rfl, rfl, Nat.le_refl _, fun _ _ _ => rfl⟩⟩
  · have hcon := AnyQ.slices_SortFunc Try.holSort 2 Try.isAgg64 Try.sizeOf64 Hol.cells (fun _ => rfl) (fun x v hv => by simp [Hol.cells] at hv; rcases hv with rfl | rfl <;> rfl) (fun x y : Hol => sCmp x.name y.name) swo_hol 53 #[] g 0 cap hs.toArray w eg
      (fun _ _ _ _ x y => closure_any x y _) (holdsK_own hown) (Array.getElem?_eq_some_iff.1 hg).1 (by simp; omega)
    change Calls Try.prog 52 _ _ _ at hcon
    refine hcon.mono ?_
    rintro e w' ⟨rfl, d', n, os, hp, hsr, rfl⟩
    have hsz : d'.size = hs.length := by simpa using hp.1
    have hds : d'.toList.length = hs.length := by simpa using hsz
    obtain ⟨q1, q2⟩ := ownH_sorted (n := n) (os := os) (ds := d'.toList) hown hds
    rw [Array.toArray_toList] at q1 q2
    refine ⟨rfl, d'.toList, ?_, ?_, q1, q2⟩
    · have := hp.2.2
      rw [show hs.toArray.size = d'.size by simp [hsz]] at this
      rw [Array.extract_size, show d'.size = hs.toArray.size by simp [hsz], Array.extract_size] at this
      exact this
    · intro i j hi hj hij
      have := hsr i j (Nat.zero_le _) hij (by simpa [hsz] using hj)
      rw [lt_hol] at this
      have e1 : d'[i]! = d'.toList[i] := by simp at hi; simp [hi]
      have e2 : d'[j]! = d'.toList[j] := by simp at hj; simp [hj]
      rw [e1, e2] at this
      exact this
theorem holders_any (v : Value) (l : List Lot) (w : World) (h : LotsAt w v l) (hc : checkB l = true) :
    Calls Try.prog 32 #[regV v] w fun e w' => ∃ v' hs, e = .returned (.tuple #[v', .int .i64 0]) ∧ OwnH w' w.heap.size v' hs ∧ IsHold l hs ∧ Below w.heap.size w w' := holders_at sortH v l w h hc
end Go.Proofs.Ythhmpdjjfoplgaa
