/- register.give, walked: it puts lots among sorted lots. -/
import Derived.Test.YthhmpdjjfoplgaaRegO
set_option linter.unusedVariables false
set_option linter.unusedSimpArgs false
namespace Go.Proofs.Ythhmpdjjfoplgaa
open Go.RowKit Reg

namespace Reg
theorem cells_set (l : List Lot) (i : Nat) (y : Lot) (k : Int) (h : l[i]? = some y) : (cellsL l).set (i * 4 + 3) (.int .i64 (y.units + k)) = cellsL (l.set i (y.more k)) := by
  induction l generalizing i with
  | nil => simp at h
  | cons a l ih =>
    cases i with
    | zero => simp at h; subst h; simp [cellsL, Lot.cells, Lot.more]
    | succ i =>
      have := ih i (by simpa using h)
      simp only [cellsL, List.flatMap_cons, Lot.cells, List.cons_append, List.nil_append, List.set_cons_succ] at this ⊢
      rw [show (i + 1) * 4 = (i * 4 + 3) + 1 by omega]
      simp only [List.set_cons_succ]
      rw [this]
theorem found_yes {l : List Lot} {x : Lot} (h : foundB l x = true) : ∃ y, l[pos l x]? = some y ∧ sameKey y x ∧ putL l x = l.set (pos l x) (y.more x.units) := by
  unfold foundB at h
  cases hy : l[pos l x]? with
  | none => rw [hy] at h; cases h
  | some y =>
    rw [hy] at h
    have hk : sameKey y x := by simpa using h
    obtain ⟨h1, h2⟩ := List.getElem?_eq_some_iff.1 hy
    refine ⟨y, rfl, hk, ?_⟩
    have := (put_pos l x).1 h1 (by rw [h2]; exact hk)
    rw [this, h2]
theorem found_no {l : List Lot} {x : Lot} (h : foundB l x = false) : putL l x = l.take (pos l x) ++ x :: l.drop (pos l x) := by
  refine (put_pos l x).2 (fun h1 hk => ?_)
  unfold foundB at h
  rw [List.getElem?_eq_getElem h1] at h
  simp at h
  exact h hk
theorem give_snoc {l more : List Lot} {k : Nat} {x : Lot} (hx : more[k]? = some x) : giveL l (more.take (k + 1)) = putL (giveL l (more.take k)) x := by
  obtain ⟨h1, h2⟩ := List.getElem?_eq_some_iff.1 hx
  rw [List.take_succ_eq_append_getElem h1, h2]
  simp [giveL]
theorem give_sum (l more : List Lot) : sumU (giveL l more) = sumU l + sumU more := by
  induction more generalizing l with
  | nil => simp [giveL, sumU]
  | cons x more ih => have := ih (putL l x); simp only [giveL, List.foldl_cons, sumU] at this ⊢; rw [this, put_sum]; omega
theorem give_len (l more : List Lot) : (giveL l more).length ≤ l.length + more.length := by
  induction more generalizing l with
  | nil => simp [giveL]
  | cons x more ih => have h1 := ih (putL l x); have h2 := put_len l x; simp only [giveL, List.foldl_cons, List.length_cons] at h1 ⊢; omega
theorem give_pos (l more : List Lot) (h1 : ∀ x ∈ l, 0 ≤ x.units) (h2 : ∀ x ∈ more, 0 ≤ x.units) : ∀ x ∈ giveL l more, 0 ≤ x.units := by
  induction more generalizing l with
  | nil => exact h1
  | cons y more ih =>
    refine ih (putL l y) (fun z hz => ?_) (fun z hz => h2 z (by simp [hz]))
    have hy := h2 y (by simp)
    rcases put_mem l y z hz with h | h | ⟨q, hq, _, rfl⟩
    · exact h1 z h
    · rw [h]; exact hy
    · have := h1 q hq; simp only [Lot.more]; omega
theorem sumU_take (l : List Lot) (k : Nat) (h : ∀ x ∈ l, 0 ≤ x.units) : sumU (l.take k) ≤ sumU l ∧ 0 ≤ sumU (l.take k) := by
  have h1 := sumU_split l k
  have a : ∀ m : List Lot, (∀ x ∈ m, 0 ≤ x.units) → 0 ≤ sumU m := by
    intro m hm
    induction m with
    | nil => simp [sumU]
    | cons x m ih => have := ih (fun y hy => hm y (by simp [hy])); have := hm x (by simp); simp only [sumU]; omega
  have h2 := a (l.drop k) (fun x hx => h x (List.mem_of_mem_drop hx))
  have h3 := a (l.take k) (fun x hx => h x (List.mem_of_mem_take hx))
  omega
end Reg
theorem Own.bump {w : World} {B g cap i n : Nat} {l : List Lot} {y : Lot} {k : Int} (h : Own w B (.slice (some ⟨g, 0, none⟩) n cap) l) (hy : l[i]? = some y) : Own (w.setCell ⟨g, i * 4 + 3, none⟩ (.int .i64 (y.units + k))) B (.slice (some ⟨g, 0, none⟩) n cap) (l.set i (y.more k)) := by
  obtain ⟨h1, h2⟩ := h
  refine ⟨by simp [cellsL_len], ?_⟩
  rcases h2 with ⟨h, _⟩ | ⟨g', cap', cur, hv, hbg, hg, hnc, hcm, hcs, htk⟩
  · cases h
  · injection hv with e1 e2 e3
    injection e1 with e1
    injection e1 with e1
    subst e1 e2 e3
    refine .inr ⟨g, cap, cur.setIfInBounds (i * 4 + 3) (.int .i64 (y.units + k)), by simp, hbg, ?_, by simpa using hnc, hcm, by simpa using hcs, ?_⟩
    · simp [World.setCell, Array.getElem?_modify, hg]
    · rw [List.length_set, Array.toList_setIfInBounds, List.take_set, htk, cells_set l i y k hy]
/-- where a row of the call's own lies -/
theorem Own.at_ {w : World} {B : Nat} {v : Value} {l : List Lot} (h : Own w B v l) (hn : 0 < l.length) : ∃ g cap, v = .slice (some ⟨g, 0, none⟩) l.length cap ∧ B ≤ g ∧ g < w.heap.size ∧ (∀ o, w.frozen? ⟨g, o, none⟩ = false) ∧ ∀ k x, l[k]? = some x → CellsAt w g (k * 4) x := by
  have hc := fun g => World.ownsRow.cells h (g := g)
  rcases h.2 with ⟨_, h2⟩ | ⟨g, cap, cur, hv, hbg, hg, _⟩
  · omega
  · refine ⟨g, cap, hv, hbg, (Array.getElem?_eq_some_iff.1 hg).1, fun o => by simp [World.frozen?, hg], fun k x hx => ?_⟩
    obtain ⟨c0, c1, c2, c3⟩ := cellsL_get l k x hx
    have hh := hc g (by rw [hv]; rfl)
    refine ⟨?_, ?_, ?_, ?_⟩
    · have := hh _ _ c0; rwa [add_lit, Nat.zero_add] at this
    · have := hh _ _ c1; rwa [add_lit, Nat.zero_add] at this
    · have := hh _ _ c2; rwa [add_lit, Nat.zero_add] at this
    · have := hh _ _ c3; rwa [add_lit, Nat.zero_add] at this

set_option maxRecDepth 100000 in
set_option maxHeartbeats 4000000 in
theorem give_any (v vm : Value) (l more : List Lot) (w : World) (hl : LotsAt w v l) (hm : LotsAt w vm more) (hs : Srt l) (hn : l.length ≤ 1000) (hmn : more.length ≤ 1000)
    (hu : ∀ x ∈ l, 0 ≤ x.units) (hmu : ∀ x ∈ more, 0 ≤ x.units) (hsum : sumU l + sumU more ≤ 4000000000000000) :
    Calls Try.prog 42 #[v, vm] w fun e w' => ∃ v', e = .returned v' ∧ Own w' w.heap.size v' (giveL l more) ∧ Below w.heap.size w w' := by
  have HS := Lib.hid hs
  have HU := Lib.hid (And.intro hu (And.intro hmu hsum))
  have HCL := Lib.hid (clone_any v l w hl (by omega))
  have HM := Lib.hid hm
  by_cases h0 : more.length = 0
  · obtain ⟨A, cap, rfl⟩ := hm.nil h0
    have hl0 := List.eq_nil_of_length_eq_zero h0
    subst hl0
    clear hl hm hs hu hmu hsum h0 hmn
    go_enter Try.func42, Try.ntmps42
    go_wp2_with (go_at_call 60; refine HCL.out.mono ?_; rintro e w1 ⟨v1, rfl, ho1, hb1⟩; have HO1 := Lib.hid ho1; have HB1 := Lib.hid hb1; clear ho1 hb1)
    go_loopg [5, 14] 1 (fun m a i wr => a = v1 ∧ i = .int .i64 0 ∧ wr = w1)
    case atStart => exact ⟨rfl, rfl, rfl⟩
    case round =>
      obtain ⟨rfl, rfl, rfl⟩ := hrel
      go_wp2
      go_ret
      exact ⟨_, rfl, HO1.out, HB1.out⟩
  · obtain ⟨g, off, cap, rfl, hc⟩ := hm.some (by omega)
    obtain ⟨n, hnn⟩ : ∃ n, n = more.length := ⟨_, rfl⟩
    rw [← hnn] at hmn h0 ⊢
    have HN := Lib.hid hnn
    have HC := Lib.hid hc
    clear hnn hc hl hm hs hu hmu hsum
    go_enter Try.func42, Try.ntmps42
    go_wp2_with (go_at_call 60; refine HCL.out.mono ?_; rintro e w1 ⟨v1, rfl, ho1, hb1⟩; have HO1 := Lib.hid ho1; have HB1 := Lib.hid hb1; clear ho1 hb1)
    go_loopg [5, 14] n (fun m a i wr => ∃ k : Nat, k ≤ n ∧ n - k ≤ m ∧ i = .int .i64 k ∧ Own wr w.heap.size a (giveL l (more.take k)) ∧ Below w.heap.size w wr)
    case atStart => exact ⟨0, by omega, by omega, rfl, by simpa [giveL] using HO1.out, HB1.out⟩
    case round =>
      obtain ⟨k, hk, hm, rfl, hoa, hbl⟩ := hrel
      have hsz : w.heap.size ≤ wr.heap.size := hbl.size
      have HOA := Lib.hid hoa
      have HBL := Lib.hid hbl
      clear hoa hbl
      by_cases hlt : k < n
      · obtain ⟨x, hx⟩ : ∃ x, more[k]? = some x := ⟨more[k]'(by rw [← HN.out]; exact hlt), by simp [← HN.out, hlt]⟩
        obtain ⟨c0, c1, c2, c3⟩ := (HC.out k x hx).below HBL.out
        have HGS := Lib.hid (give_snoc (l := l) hx)
        have hxm := List.mem_of_getElem? hx
        have hxb := HU.out.2.1 x hxm
        have hxs := sumU_mem more HU.out.2.1 x hxm
        have hos := give_sum l (more.take k)
        have hot := sumU_take more k HU.out.2.1
        have hop := give_pos l (more.take k) HU.out.1 (fun y hy => HU.out.2.1 y (List.mem_of_mem_take hy))
        have hol := give_len l (more.take k)
        rw [List.length_take] at hol
        have hosrt := give_srt l (more.take k) HS.out
        have hl0 := (sumU_take l 0 HU.out.1)
        have hbound : sumU (giveL l (more.take k)) ≤ 4000000000000000 ∧ x.units ≤ 4000000000000000 := by
          have := HU.out.2.2
          have h0 : 0 ≤ sumU l := by have := sumU_take l l.length HU.out.1; rw [List.take_length] at this; exact this.2
          omega
        obtain ⟨o, ho⟩ : ∃ o, o = giveL l (more.take k) := ⟨_, rfl⟩
        rw [← ho] at HOA HGS hop hol hosrt hbound
        have HOP := Lib.hid (And.intro hop hosrt)
        have HX := Lib.hid hx
        obtain ⟨hb1, hb2⟩ := hbound
        have HBS := Lib.hid (fun W (h : LotsAt W u5 o) => bsearch_any u5 o x W h hosrt (by omega))
        have hpl := pos_le o x
        clear hx hxm hxs hos hot hop hosrt hl0 ho
        cases hf : foundB o x with
        | true =>
          obtain ⟨y, hy, hky, hput⟩ := found_yes hf
          simp only [hf] at HBS
          obtain ⟨hpn, hpe⟩ := List.getElem?_eq_some_iff.1 hy
          obtain ⟨ga, capa, hva, hgb, hgl, hgf, hgc⟩ := HOA.out.at_ (by omega)
          obtain ⟨d0, d1, d2, d3⟩ := hgc _ _ hy
          subst hva
          have hyb := HOP.out.1 y (List.mem_of_getElem? hy)
          have hyu := sumU_mem o HOP.out.1 y (List.mem_of_getElem? hy)
          have hadd : IntKind.i64.wrap (y.units + x.units) = y.units + x.units := IntWalk.i64_in _ (by omega)
          have HPUT := Lib.hid hput
          have HY := Lib.hid hy
          obtain ⟨q, hq⟩ : ∃ q, q = pos o x := ⟨_, rfl⟩
          rw [← hq] at HBS HPUT HY hpn d0 d1 d2 d3
          clear hf hput hky hpe hgc hyu hy hq hpl
          go_wp2_with fail
          refine (HBS.out _ ((HOA.out.alloc _).lots)).mono ?_
          rintro e w2 ⟨rfl, hb2'⟩
          have e3 := cell_up (cell_alloc d3 (.cells #[.string x.nom, .string x.hol, .int .i64 x.ser, .int .i64 x.units] 41)) hb2'
          have x3 := cell_up (show (wr.alloc (.cells #[.string x.nom, .string x.hol, .int .i64 x.ser, .int .i64 x.units] 41)).cell? ⟨wr.heap.size, 3, none⟩ = some (.int .i64 x.units) by go_cell) hb2'
          have f2 : ∀ j, w2.frozen? ⟨ga, j, none⟩ = false := fun j => by rw [hb2'.frozen (p := ⟨ga, j, none⟩) (by simp; omega), ((Below.refl wr.heap.size wr).alloc (Nat.le_refl _) _).frozen (p := ⟨ga, j, none⟩) hgl]; exact hgf j
          have HO2 := Lib.hid ((HOA.out.alloc (.cells #[.string x.nom, .string x.hol, .int .i64 x.ser, .int .i64 x.units] 41)).below hb2')
          have HB2 := Lib.hid ((HBL.out.alloc hsz (.cells #[.string x.nom, .string x.hol, .int .i64 x.ser, .int .i64 x.units] 41)).trans (hb2'.mono (by simp; omega)))
          clear hb2' d0 d1 d2 d3 hgf
          go_wp2
          go_region
          go_wp2
          have HE := Lib.hid (And.intro ((HO2.out.bump (k := x.units) HY.out)) (below_set HB2.out ⟨ga, q * 4 + 3, none⟩ (.int .i64 (y.units + x.units)) hgb))
          go_roundg (gk - 1)
          case measure => omega
          case rel =>
            have hlen : (o.set q (y.more x.units)).length = o.length := by simp
            exact ⟨k + 1, by omega, by omega, by go_num, by rw [HGS.out, HPUT.out]; exact HE.out.1.drew, below_drew HE.out.2⟩
        | false =>
          have HPUT := Lib.hid (found_no hf)
          simp only [hf] at HBS
          clear hf
          obtain ⟨q, hq⟩ : ∃ q, q = pos o x := ⟨_, rfl⟩
          rw [← hq] at HBS HPUT hpl
          clear hq
          go_wp2_with fail
          refine (HBS.out _ ((HOA.out.alloc _).lots)).mono ?_
          rintro e w2 ⟨rfl, hb2'⟩
          have x0 := cell_up (show (wr.alloc (.cells #[.string x.nom, .string x.hol, .int .i64 x.ser, .int .i64 x.units] 41)).cell? ⟨wr.heap.size, 0, none⟩ = some (.string x.nom) by go_cell) hb2'
          have x1 := cell_up (show (wr.alloc (.cells #[.string x.nom, .string x.hol, .int .i64 x.ser, .int .i64 x.units] 41)).cell? ⟨wr.heap.size, 1, none⟩ = some (.string x.hol) by go_cell) hb2'
          have x2 := cell_up (show (wr.alloc (.cells #[.string x.nom, .string x.hol, .int .i64 x.ser, .int .i64 x.units] 41)).cell? ⟨wr.heap.size, 2, none⟩ = some (.int .i64 x.ser) by go_cell) hb2'
          have x3 := cell_up (show (wr.alloc (.cells #[.string x.nom, .string x.hol, .int .i64 x.ser, .int .i64 x.units] 41)).cell? ⟨wr.heap.size, 3, none⟩ = some (.int .i64 x.units) by go_cell) hb2'
          have HO2 := Lib.hid ((HOA.out.alloc (.cells #[.string x.nom, .string x.hol, .int .i64 x.ser, .int .i64 x.units] 41)).below hb2')
          have HB2 := Lib.hid ((HBL.out.alloc hsz (.cells #[.string x.nom, .string x.hol, .int .i64 x.ser, .int .i64 x.units] 41)).trans (hb2'.mono (by simp; omega)))
          have hs2 : w.heap.size ≤ w2.heap.size := HB2.out.size
          clear hb2'
          go_wp2_with fail
          refine (insert_any u5 o q x w2.heap.size w.heap.size _ (HO2.out.alloc _) hpl (by omega) (by first | omega | (simp <;> omega)) (HO2.out.ne (.inl (Nat.le_refl _))) (heap_alloc_new w2 _)).mono ?_
          rintro e w3 ⟨v3, rfl, ho3, hb3⟩
          have HE := Lib.hid (And.intro ho3 ((HB2.out.alloc hs2 _).trans hb3))
          clear ho3 hb3
          go_wp2
          go_roundg (gk - 1)
          case measure => omega
          case rel => exact ⟨k + 1, by omega, by omega, by go_num, by rw [HGS.out, HPUT.out]; exact HE.out.1, HE.out.2⟩
      · go_wp2
        go_ret
        exact ⟨_, rfl, by have := HOA.out; rwa [List.take_of_length_le (by have := HN.out; omega)] at this, HBL.out⟩
end Go.Proofs.Ythhmpdjjfoplgaa
