/- law25.awake, walked: the examples of the chapter. -/
import Derived.Test.YthhmpdjjfoplgaaRfA
set_option linter.unusedVariables false
set_option linter.unusedSimpArgs false
namespace Go.Proofs.Ythhmpdjjfoplgaa
open Go.RowKit Reg Go.Maps

theorem ex_redeem (v : Value) (w : World) (h : LotsAt w v exL) :
    Calls Try.prog 19 #[.agg #[v], .agg #[.string ⟨#[98, 97, 110, 107]⟩, .string ⟨#[97, 110, 110]⟩], .int .i64 6] w fun e w' =>
      ∃ A c A2 c2, e = .returned (.tuple #[.agg #[.slice A 3 c], .slice A2 2 c2, .int .i64 0]) ∧ Own w' w.heap.size (.slice A2 2 c2) exTaken ∧ Below w.heap.size w w' := by
  have h1 := redeem_any v exL sBank sAnn 6 w h
  rw [ex_redL, ex_redE] at h1
  refine h1.mono ?_
  rintro e w' ⟨va, vb, rfl, ha, hb, hB⟩
  obtain ⟨A, c, rfl⟩ := Rd.form ha.lots
  obtain ⟨A2, c2, rfl⟩ := Rd.form hb.lots
  exact ⟨A, c, A2, c2, rfl, hb, hB⟩
def exHold : List Hol := [⟨sBank, 15⟩, ⟨sSmith, 4⟩]
theorem ex_tot (s : ByteArray) : tot exL s = (if sSmith = s then 4 else 0) + (if sBank = s then 15 else 0) := by
  unfold tot exL
  have e1 : nameOf ⟨⟨#[]⟩, sSmith, 0, 4⟩ = sSmith := by rfl
  have e2 : nameOf ⟨sBank, sAnn, 3, 5⟩ = sBank := by rfl
  have e3 : nameOf ⟨sBank, sAnn, 7, 9⟩ = sBank := by rfl
  have e4 : nameOf ⟨sBank, sBob, 3, 1⟩ = sBank := by rfl
  simp only [List.filter_cons, List.filter_nil, e1, e2, e3, e4]
  by_cases h1 : sSmith = s <;> by_cases h2 : sBank = s <;> simp [h1, h2, sumU]
theorem ex_named (s : ByteArray) : named exL s ↔ s = sBank ∨ s = sSmith := by
  unfold named exL
  have e1 : nameOf ⟨⟨#[]⟩, sSmith, 0, 4⟩ = sSmith := by rfl
  have e2 : nameOf ⟨sBank, sAnn, 3, 5⟩ = sBank := by rfl
  have e3 : nameOf ⟨sBank, sAnn, 7, 9⟩ = sBank := by rfl
  have e4 : nameOf ⟨sBank, sBob, 3, 1⟩ = sBank := by rfl
  simp only [List.mem_cons, List.not_mem_nil, or_false, exists_eq_or_imp, exists_eq_left, e1, e2, e3, e4]
  constructor
  · rintro (h | h | h | h) <;> simp [← h]
  · rintro (rfl | rfl) <;> simp
theorem ex_ne : sBank ≠ sSmith := by decide +kernel
theorem ex_hold : IsHold exL exHold := by
  refine ⟨?_, fun h => ?_⟩
  · simp only [exHold, List.pairwise_cons, List.mem_singleton, forall_eq, List.not_mem_nil, false_imp_iff, implies_true, List.Pairwise.nil, and_true]
    decide +kernel
  · rw [ex_named, ex_tot]
    obtain ⟨nm, u⟩ := h
    simp only [exHold, List.mem_cons, List.not_mem_nil, or_false, Hol.mk.injEq]
    constructor
    · rintro (⟨rfl, rfl⟩ | ⟨rfl, rfl⟩)
      · simp [ex_ne.symm]
      · simp [ex_ne]
    · rintro ⟨rfl | rfl, h⟩
      · simp [ex_ne.symm] at h; exact .inl ⟨rfl, h⟩
      · simp [ex_ne] at h; exact .inr ⟨rfl, h⟩
theorem ex_holders (v : Value) (w : World) (h : LotsAt w v exL) :
    Calls Try.prog 32 #[.agg #[v]] w fun e w' =>
      ∃ g c, e = .returned (.tuple #[.slice (some ⟨g, 0, none⟩) 2 c, .int .i64 0]) ∧ w'.cell? ⟨g, 0, none⟩ = some (.string ⟨#[98, 97, 110, 107]⟩) ∧ w'.cell? ⟨g, 1, none⟩ = some (.int .i64 15) ∧ w'.cell? ⟨g, 2, none⟩ = some (.string ⟨#[115, 109, 105, 116, 104]⟩) ∧ w'.cell? ⟨g, 3, none⟩ = some (.int .i64 4) ∧ Below w.heap.size w w' := by
  refine (holders_any v exL w h ex_check).mono ?_
  rintro e w' ⟨v', hs, rfl, ho, hh, hB⟩
  obtain rfl := hh.unique ex_hold
  have hc := fun g hg => World.ownsRow.cells ho (g := g) hg
  rcases ho.2 with ⟨_, h0⟩ | ⟨g, cap, cur, rfl, _⟩
  · cases h0
  · have hcc := hc g rfl
    refine ⟨g, cap, rfl, ?_, ?_, ?_, ?_, hB⟩
    · have := hcc 0 (.string ⟨#[98, 97, 110, 107]⟩) rfl; rwa [add_lit] at this
    · have := hcc 1 (.int .i64 15) rfl; rwa [add_lit] at this
    · have := hcc 2 (.string ⟨#[115, 109, 105, 116, 104]⟩) rfl; rwa [add_lit] at this
    · have := hcc 3 (.int .i64 4) rfl; rwa [add_lit] at this

theorem new_up {W w2 : World} {v : Value} {t : TypeId} (hb : Below (W.alloc (.cells #[v] t)).heap.size (W.alloc (.cells #[v] t)) w2) : w2.cell? ⟨W.heap.size, 0, none⟩ = some v ∧ w2.frozen? ⟨W.heap.size, 0, none⟩ = false := by
  refine ⟨cell_up (by go_cell) hb, ?_⟩
  rw [hb.frozen (p := ⟨W.heap.size, 0, none⟩) (by simp)]
  exact World.frozen?_alloc_at _ _ _ _ (by simp)
theorem up_two {w2 w3 : World} {v : Value} {g : Nat} (h : w2.cell? ⟨g, 0, none⟩ = some v ∧ w2.frozen? ⟨g, 0, none⟩ = false) (hb : Below w2.heap.size w2 w3) : w3.cell? ⟨g, 0, none⟩ = some v ∧ w3.frozen? ⟨g, 0, none⟩ = false := by
  refine ⟨cell_up h.1 hb, ?_⟩
  rw [hb.frozen (p := ⟨g, 0, none⟩) (World.block_lt_of_cell? w2 _ h.1)]
  exact h.2
theorem two_set {W : World} {g b : Nat} {u x0 x1 : Value} (h : W.cell? ⟨b, 0, none⟩ = some x0 ∧ W.cell? ⟨b, 1, none⟩ = some x1) (hne : g ≠ b) : (W.setCell ⟨g, 0, none⟩ u).cell? ⟨b, 0, none⟩ = some x0 ∧ (W.setCell ⟨g, 0, none⟩ u).cell? ⟨b, 1, none⟩ = some x1 :=
  ⟨(World.cell?_setCell_far _ _ _ _ hne).trans h.1, (World.cell?_setCell_far _ _ _ _ hne).trans h.2⟩

set_option maxRecDepth 100000 in
set_option maxHeartbeats 4000000 in
theorem awake_any (w : World) :
    Calls Try.prog 13 #[] w fun e w' => e = .returned (.bool true) ∧ Below w.heap.size w w' := by
  obtain ⟨w0, hw0⟩ : ∃ w0 : World, w0 = w.alloc (.cells #[.string ⟨#[98, 97, 110, 107]⟩, .string ⟨#[97, 110, 110]⟩] 26) := ⟨_, rfl⟩
  have hb0 : Below w.heap.size w w0 := by rw [hw0]; exact (Below.refl _ _).alloc (Nat.le_refl _) _
  have c0 : w0.cell? ⟨w.heap.size, 0, none⟩ = some (.string ⟨#[98, 97, 110, 107]⟩) := by rw [hw0]; go_cell
  have c1 : w0.cell? ⟨w.heap.size, 1, none⟩ = some (.string ⟨#[97, 110, 110]⟩) := by rw [hw0]; go_cell
  have hz0 : w.heap.size < w0.heap.size := by rw [hw0]; simp
  have HB0 := Lib.hid hb0
  go_enter Try.func13, Try.ntmps13
  go_upto_region 2 with fail
  rw [← hw0]
  clear hw0 hb0
  have c0' : w0.drew.cell? ⟨w.heap.size, 0, none⟩ = some (.string ⟨#[98, 97, 110, 107]⟩) := c0
  have c1' : w0.drew.cell? ⟨w.heap.size, 1, none⟩ = some (.string ⟨#[97, 110, 110]⟩) := c1
  go_cut [2, 3, 4] from 8 to 14 (fun p t e wx => ∃ (P : Nat) (A A2 : Option Addr) (cA cA2 : Nat), p = .pointer (some ⟨P, 0, none⟩) ∧ t = .slice A2 2 cA2 ∧ e = .int .i64 0 ∧ wx.cell? ⟨P, 0, none⟩ = some (.slice A 3 cA) ∧
    wx.cell? ⟨w.heap.size, 0, none⟩ = some (.string ⟨#[98, 97, 110, 107]⟩) ∧ wx.cell? ⟨w.heap.size, 1, none⟩ = some (.string ⟨#[97, 110, 110]⟩) ∧ LotsAt wx t exTaken ∧ Below w.heap.size w wx)
  case first =>
    go_region_held3 (fun W : World => W.cell? ⟨w.heap.size, 0, none⟩ = some (.string ⟨#[98, 97, 110, 107]⟩) ∧ W.cell? ⟨w.heap.size, 1, none⟩ = some (.string ⟨#[97, 110, 110]⟩)) (first | exact ⟨c0, c1⟩ | exact ⟨d0, d1⟩ | exact ⟨f0, f1⟩ | exact ⟨cell_alloc f0 _, cell_alloc f1 _⟩ | exact ⟨cell_alloc d0 _, cell_alloc d1 _⟩ | exact ⟨cell_alloc c0' _, cell_alloc c1' _⟩ | (refine two_set ⟨f0, f1⟩ ?_; omega) | (simp [*]; done)) (first
      | (go_at_call 35; refine (example_any _).mono ?_; rintro e w2 ⟨v, rfl, hl, hb2⟩; have hz2 : w0.heap.size ≤ w2.heap.size := Nat.le_trans (by first | exact Nat.le_refl _ | (simp; done)) hb2.size; have d0 := cell_up (by first | exact c0' | exact cell_alloc c0' _) hb2; have d1 := cell_up (by first | exact c1' | exact cell_alloc c1' _) hb2; (try (have pp : w2.cell? ⟨w0.heap.size, 0, none⟩ = some (.slice none 0 0) ∧ w2.frozen? ⟨w0.heap.size, 0, none⟩ = false := new_up (W := w0.drew) hb2)))
      | (go_at_call 19; refine (ex_redeem v _ ?_).mono ?_; (first | exact hl | exact Rd.alloc hl _); rintro e w3 ⟨A, cA, A2, cA2, rfl, hl3, hb3⟩; have f0 := cell_up (by first | exact d0 | exact cell_alloc d0 _) hb3; have f1 := cell_up (by first | exact d1 | exact cell_alloc d1 _) hb3; (first | (have qq1 := (up_two pp hb3).1; have qq2 := (up_two pp hb3).2) | (have qq1 : w3.cell? ⟨w2.heap.size, 0, none⟩ = some (.slice none 0 0) := (new_up hb3).1; have qq2 : w3.frozen? ⟨w2.heap.size, 0, none⟩ = false := (new_up hb3).2) | skip)))
    all_goals go_wp2_with fail
    all_goals go_meet
    all_goals first
      | (have hB3 := hb3.mono (Nat.le_of_lt (show w2.heap.size < (w2.alloc (.cells #[.slice none 0 0] 24)).heap.size by simp))
         have hz3 : w2.heap.size ≤ w3.heap.size := by have := hb3.size; simp at this; omega
         have hW := HB0.out.trans (((below_drew (Below.refl w0.heap.size w0)).trans hb2).mono (Nat.le_of_lt hz0))
         have hW3 := (hW.alloc hW.size (.cells #[.slice none 0 0] 24)).trans (hb3.mono (by have := hW.size; simp; omega))
         exact ⟨_, A, A2, cA, cA2, rfl, rfl, rfl, World.cell?_setCell_same' _ _ _ (by rw [qq1]; rfl), (two_set ⟨f0, f1⟩ (by omega)).1, (two_set ⟨f0, f1⟩ (by omega)).2, (hl3.setCell _ _ (hl3.ne (.inr (by simp)))).lots, below_set hW3 _ _ (by simp; omega)⟩)
      | (have hz3 : w0.heap.size < w2.heap.size := by have := hb2.size; simp at this; omega
         have hW := HB0.out.trans ((((below_drew ((Below.refl w0.heap.size w0).alloc (Nat.le_refl _) (.cells #[.slice none 0 0] 24)))).trans (hb2.mono (by simp))).mono (Nat.le_of_lt hz0))
         have hW3 := hW.trans (hb3.mono hW.size)
         exact ⟨_, A, A2, cA, cA2, rfl, rfl, rfl, World.cell?_setCell_same' _ _ _ (by rw [qq1]; rfl), (two_set ⟨f0, f1⟩ (by omega)).1, (two_set ⟨f0, f1⟩ (by omega)).2, (hl3.setCell _ _ (hl3.ne (.inr hz3))).lots, below_set hW3 _ _ (by simp; omega)⟩)
      | (have hW := HB0.out.trans (((below_drew (Below.refl w0.heap.size w0)).trans hb2).mono (Nat.le_of_lt hz0))
         have hW3 := hW.trans (hb3.mono hW.size)
         exact ⟨_, A, A2, cA, cA2, rfl, rfl, rfl, (by go_cell), cell_alloc f0 _, cell_alloc f1 _, (hl3.alloc _).lots, hW3.alloc hW3.size _⟩)
  case rest =>
    obtain ⟨P, A, A2, cA, cA2, rfl, rfl, rfl, hp, hc0, hc1, hl, hb⟩ := hcut
    have HL := Lib.hid hl
    have HB := Lib.hid hb
    clear hl hb c0 c1 c0' c1' HB0 hz0
    go_wp2_with fail
    refine (example_any _).mono ?_
    rintro e w2 ⟨v, rfl, hl2, hb2⟩
    have hp2 := cell_up hp hb2
    have hd0 := cell_up hc0 hb2
    have hd1 := cell_up hc1 hb2
    have HL2 := Lib.hid (HL.out.below hb2)
    have HB2 := Lib.hid (HB.out.trans (hb2.mono HB.out.size))
    have HX2 := Lib.hid hl2
    clear hp hc0 hc1 hb2 hl2 HL HB
    go_wp2_with fail
    refine (ex_holders v _ HX2.out).mono ?_
    rintro e w3 ⟨g, cg, rfl, g0, g1, g2, g3, hb3⟩
    have hp3 := cell_up hp2 hb3
    have he0 := cell_up hd0 hb3
    have he1 := cell_up hd1 hb3
    have HL3 := Lib.hid (HL2.out.below hb3)
    have HB3 := Lib.hid (HB2.out.trans (hb3.mono HB2.out.size))
    clear hp2 hd0 hd1 hb3 HL2 HB2 HX2
    go_wp2_with fail
    refine (lots_eq (.slice A2 2 cA2) (.slice (some ⟨w3.heap.size, 0, none⟩) 2 2) exTaken _ (Rd.alloc HL3.out _) (lots_new w3 exTaken 41 2 rfl (by decide)) (by decide)).mono ?_
    rintro e w4 ⟨rfl, hb4⟩
    have i0 := cell_up (cell_alloc g0 _) hb4
    have i1 := cell_up (cell_alloc g1 _) hb4
    have i2 := cell_up (cell_alloc g2 _) hb4
    have i3 := cell_up (cell_alloc g3 _) hb4
    have HB4 := Lib.hid ((HB3.out.alloc HB3.out.size _).trans (hb4.mono (by have := HB3.out.size; simp; omega)))
    clear hp3 he0 he1 hb4 HL3 HB3 g0 g1 g2 g3
    go_wp2
    go_ret
    exact ⟨rfl, HB4.out⟩
end Go.Proofs.Ythhmpdjjfoplgaa
