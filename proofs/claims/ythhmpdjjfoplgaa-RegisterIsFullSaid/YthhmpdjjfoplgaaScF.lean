/- law25.RegisterIsFull, walked. -/
import Derived.Test.YthhmpdjjfoplgaaScE
set_option linter.unusedVariables false
set_option linter.unusedSimpArgs false
namespace Go.Proofs.Ythhmpdjjfoplgaa
open Go.RowKit Reg

theorem IsRow.one {w : World} (n : Int) (hn : (Lit.int .i64 n).wf = true) (t : TypeId) : IsRow .i64 (w.alloc (.cells #[.int .i64 n] t)) (some ⟨w.heap.size, 0, none⟩) 1 1 [n] := by
  refine .inr ⟨_, rfl, Nat.le_refl _, by unfold maxLen; omega, rfl, fun i hi => ?_, fun m hm => ?_⟩
  · have hi0 : i = 0 := by simp at hi; omega
    subst hi0
    have := cells_new w [.int .i64 n] t 0 (.int .i64 n) rfl
    exact this
  · simp at hm; subst hm; exact hn
set_option maxRecDepth 100000 in
set_option maxHeartbeats 4000000 in
theorem law_full (more n : Int) (w : World) (hm0 : (Lit.int .i64 more).wf = true) (hn0 : (Lit.int .i64 n).wf = true) :
    Calls Try.prog 9 #[.int .i64 more, .int .i64 n] w fun e w' => e = .returned (.bool true) ∧ Below w.heap.size w w' := by
  have HWF := Lib.hid hn0
  have hmb := modI_bd more 3 (by omega)
  obtain ⟨q, hq⟩ : ∃ q, q = modI more 3 := ⟨_, rfl⟩
  have HMOD := Lib.hid (fun W => show Calls Try.prog 18 #[.int .i64 more, .int .i64 3] W (fun e w' => e = .returned (.int .i64 q) ∧ W = w') by subst hq; exact mod_any more 3 W (by omega))
  rw [← hq] at hmb
  obtain ⟨q0, q1⟩ := hmb
  obtain ⟨N, hN⟩ : ∃ N : Nat, (N : Int) = 256 - q := ⟨(256 - q).toNat, by omega⟩
  have hN2 : N ≤ 256 := by omega
  obtain ⟨w0, hw0⟩ : ∃ w0, w0 = w.alloc (.cells #[.slice none 0 0] 24) := ⟨_, rfl⟩
  have hs0 : w0.heap.size = w.heap.size + 1 := by rw [hw0]; simp
  have hb0 : Below w.heap.size w w0 := by rw [hw0]; exact (Below.refl _ _).alloc (Nat.le_refl _) _
  have c0 : w0.cell? ⟨w.heap.size, 0, none⟩ = some (.slice none 0 0) := by rw [hw0]; go_cell
  have z0 : w0.frozen? ⟨w.heap.size, 0, none⟩ = false := by rw [hw0]; simp
  have HB0 := Lib.hid hb0
  have HS0 := Lib.hid hs0
  clear hm0 hn0 hq hb0 hs0
  go_enter Try.func9, Try.ntmps9
  go_wp2
  rw [← hw0]
  clear hw0
  go_loopg [6] N (fun m i wr => ∃ (k : Nat) (l : List Lot) (A : Option Addr) (c : Nat), k ≤ N ∧ N - k ≤ m ∧ i = .int .i64 k ∧ l.length = k ∧ wr.cell? ⟨w.heap.size, 0, none⟩ = some (.slice A k c) ∧ wr.frozen? ⟨w.heap.size, 0, none⟩ = false ∧ Own wr (w.heap.size + 1) (.slice A k c) l ∧ Below w.heap.size w wr ∧ w.heap.size + 1 ≤ wr.heap.size)
  case atStart => exact ⟨0, [], none, 0, by omega, by omega, rfl, rfl, c0, z0, Own.nil _ _, HB0.out, by have := HS0.out; omega⟩
  case round =>
    obtain ⟨k, l, A, c, hk, hm, rfl, hl, c1, z1, ho, hb, hs⟩ := hrel
    have HL := Lib.hid hl
    have HO := Lib.hid ho
    have HB := Lib.hid hb
    clear hl ho hb c0 z0
    have hsub : IntKind.i64.wrap (256 - q) = (N : Int) := by rw [← hN]; exact IntWalk.i64_in _ (by omega)
    go_wp2_with fail
    refine (HMOD.out _).mono ?_
    rintro e w' ⟨rfl, rfl⟩
    by_cases hlt : k < N
    · have hlt' : (k : Int) < 256 - q := by omega
      have hol : l.length ≤ 10000 := by have := HL.out; omega
      go_wp2_with (at_builtin; refine wpList_append_lot rfl _ _ rfl _ (w.heap.size + 1) (.slice A k c) l ⟨⟨#[]⟩, ⟨#[97, 110, 110]⟩, k, 1 + k⟩ rfl HO.out _ rfl rfl hol hs ?_; intro v' w1 ho1 hg1 hat1; obtain ⟨A1, c1', hv1⟩ := ho1.form; rw [show (l ++ [(⟨⟨#[]⟩, ⟨#[97, 110, 110]⟩, (k : Int), 1 + (k : Int)⟩ : Lot)]).length = k + 1 by simp [HL.out]] at hv1; subst hv1; have hne : some w.heap.size ≠ (Value.slice A k c).ownBlock := (fun e => by have := (HO.out.lt _ e.symm).1; omega); have c2 := hg1.cell c1 hne; have z2 := (grown_frozen hg1 (a := ⟨w.heap.size, 0, none⟩) (by simp; omega) (fun e => hne e.symm)).trans z1; have hs1 : w.heap.size + 1 ≤ w1.heap.size := (by have := hg1.size; omega); have HO1 := Lib.hid (ho1.setCell ⟨w.heap.size, 0, none⟩ (.slice A1 (k + 1) c1') (fun e => absurd (ho1.lt _ e).1 (Nat.not_succ_le_self _))); have HB2 := Lib.hid (below_set (below_grown HB.out (HO.out.base (B' := w.heap.size) (by omega)) hg1 (by omega)) ⟨w.heap.size, 0, none⟩ (.slice A1 (k + 1) c1') (Nat.le_refl _)); clear ho1 hg1 hat1 hne hlt' c1 z1)
      go_roundg (gk - 1)
      case measure => omega
      case rel => exact ⟨k + 1, _, A1, c1', by omega, by omega, by go_num, by simp [HL.out], World.cell?_setCell_same _ _ _ c2, by rw [World.frozen?_setCell]; exact z2, HO1.out, HB2.out, by simp [World.setCell]; omega⟩
    · have hlt' : ¬ (k : Int) < 256 - q := by omega
      go_wp2_with fail
      obtain ⟨w2, hw2⟩ : ∃ w2, w2 = wr.alloc (.cells #[.int .i64 n] 3) := ⟨_, rfl⟩
      have hrow : IsRow .i64 w2 (some ⟨wr.heap.size, 0, none⟩) 1 1 [n] := by rw [hw2]; exact IsRow.one n HWF.out _
      have hb2 : Below wr.heap.size wr w2 := by rw [hw2]; exact (Below.refl _ _).alloc (Nat.le_refl _) _
      rw [← hw2]
      have c2 := cell_up c1 hb2
      have HB2 := Lib.hid (HB.out.trans (hb2.mono HB.out.size))
      have HO2 := Lib.hid (HO.out.below hb2)
      have hs2 : w.heap.size + 1 ≤ w2.heap.size := by have := hb2.size; omega
      clear hw2 hb2 c1 z1
      refine (new_any _ 1 1 [n] w2 hrow (by omega)).mono ?_
      rintro e w3 ⟨rfl, ht3, hb3⟩
      have c3 := cell_up c2 hb3
      have HB3 := Lib.hid (HB2.out.trans (hb3.mono HB2.out.size))
      have HO3 := Lib.hid (HO2.out.below hb3)
      have HT3 := Lib.hid ht3
      have hs3 := ht3.lt
      clear ht3 hb3 c2 hrow
      go_wp2_with fail
      have HP := Lib.hid (ints_at w3 [1, 2, 999999999999999, 1000000000000000, 999999999960000] 3 w3.heap.size rfl)
      refine (pick_any w2.heap.size w3.heap.size 5 5 [1, 2, 999999999999999, 1000000000000000, 999999999960000] _ rfl ((Drew.refl HT3.out).alloc _).1 (by omega) (by omega) (by omega) HP.out).mono ?_
      rintro e w4 ⟨u, hu, rfl, hd4⟩
      have HD4 := Lib.hid (((Drew.refl HT3.out).alloc _).trans hd4)
      have c4 := HD4.out.cell c3 (by simp; omega)
      have HB4 := Lib.hid (HB3.out.trans (below_grownBy HD4.out.2 (by omega) HB3.out.size))
      have HO4 := Lib.hid (World.ownsRow.kept HO3.out (row := some w2.heap.size) HD4.out.2 (.inr (fun e => by have := (HO2.out.lt _ e).2; omega)))
      have hs4 := HD4.out.size
      have hs40 : w.heap.size < w4.heap.size := by omega
      clear hd4 c3 hu HP
      go_wp2_with fail
      obtain ⟨w5, hw5⟩ : ∃ w5, w5 = w4.alloc (.cells #[.string ⟨#[]⟩, .string ⟨#[98, 111, 98]⟩] 26) := ⟨_, rfl⟩
      have d0 : w5.cell? ⟨w4.heap.size, 0, none⟩ = some (.string ⟨#[]⟩) := by rw [hw5]; go_cell
      have d1 : w5.cell? ⟨w4.heap.size, 1, none⟩ = some (.string ⟨#[98, 111, 98]⟩) := by rw [hw5]; go_cell
      have hb5 : Below w4.heap.size w4 w5 := by rw [hw5]; exact (Below.refl _ _).alloc (Nat.le_refl _) _
      rw [← hw5]
      have c5 := cell_up c4 hb5
      have HB5 := Lib.hid (HB4.out.trans (hb5.mono HB4.out.size))
      have HO5 := Lib.hid (Own.below HO4.out hb5)
      have HLT := Lib.hid (show LotsAt w5 (.slice A l.length c) l by have := HO5.out.lots; exact HL.out ▸ this)
      have hkl := HL.out
      have HI1 := Lib.hid (fun W (hb : Below w5.heap.size w5 W) => show Calls Try.prog 21 #[.agg #[.slice A k c], .agg #[.string ⟨#[]⟩, .string ⟨#[98, 111, 98]⟩], .int .i64 5, .int .i64 u] W (fun e w' => e = .returned (.bool true) ∧ Below W.heap.size W w') by rw [← hkl]; exact issues_any A c l _ _ _ _ W (HLT.out.below hb))
      have HI2 := Lib.hid (fun W (hb : Below w5.heap.size w5 W) => show Calls Try.prog 21 #[.agg #[.slice A k c], .agg #[.string ⟨#[]⟩, .string ⟨#[97, 110, 110]⟩], .int .i64 5, .int .i64 u] W (fun e w' => e = .returned (.bool true) ∧ Below W.heap.size W w') by rw [← hkl]; exact issues_any A c l _ _ _ _ W (HLT.out.below hb))
      have HS1 := Lib.hid (fun (m : Int) W (hb : Below w5.heap.size w5 W) => show Calls Try.prog 22 #[.agg #[.slice A k c], .agg #[.string ⟨#[]⟩, .string ⟨#[97, 110, 110]⟩], .agg #[.string ⟨#[]⟩, .string ⟨#[98, 111, 98]⟩], .int .i64 m] W (fun e w' => e = .returned (.bool true) ∧ Below W.heap.size W w') by rw [← hkl]; exact transfers_any A c l _ _ _ _ _ W (HLT.out.below hb))
      clear hkl hw5 hb5 c4
      refine (HI1.out w5 (Below.refl _ _)).mono ?_
      rintro e w6 ⟨rfl, hb⟩
      have E1 := Lib.hid hb
      have c6 := cell_up c5 hb
      have e0 := cell_up d0 hb
      have e1 := cell_up d1 hb
      clear hb c5 d0 d1
      go_wp2_with fail
      refine (HI2.out w6 E1.out).mono ?_
      rintro e w7 ⟨rfl, hb⟩
      have E2 := Lib.hid (E1.out.trans (hb.mono E1.out.size))
      have c7 := cell_up c6 hb
      have d0 := cell_up e0 hb
      have d1 := cell_up e1 hb
      clear hb c6 e0 e1
      go_wp2_with fail
      refine (HS1.out u w7 E2.out).mono ?_
      rintro e w8 ⟨rfl, hb⟩
      have E3 := Lib.hid (E2.out.trans (hb.mono E2.out.size))
      have c8 := cell_up c7 hb
      have e0 := cell_up d0 hb
      have e1 := cell_up d1 hb
      clear hb c7 d0 d1
      go_wp2_with fail
      refine (HS1.out 1 w8 E3.out).mono ?_
      rintro e w9 ⟨rfl, hb⟩
      have E4 := Lib.hid (E3.out.trans (hb.mono E3.out.size))
      clear hb c8 e0 e1
      go_wp2_with fail
      refine (awake_any w9).mono ?_
      rintro e w10 ⟨rfl, hb⟩
      have E5 := Lib.hid (E4.out.trans (hb.mono E4.out.size))
      clear hb
      go_wp2
      go_ret
      exact ⟨rfl, HB5.out.trans (E5.out.mono HB5.out.size)⟩
end Go.Proofs.Ythhmpdjjfoplgaa
