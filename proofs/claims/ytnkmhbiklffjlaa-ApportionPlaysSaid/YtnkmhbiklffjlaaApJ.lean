/- The law's own weights and known, walked. -/
import Derived.Test.YtnkmhbiklffjlaaApI
import Derived.Laws.OwnMore
set_option linter.unusedVariables false
set_option linter.unusedSimpArgs false
namespace Go.Proofs.Ytnkmhbiklffjlaa
open Go.RowKit Ap

/-- what weights draws -/
def WP (bt at_ : Nat) (w : World) (e : Ending) (w' : World) : Prop :=
  ∃ (T : Int) (v : Value) (ws : List Nat) (at' : Nat), e = .returned (.tuple #[.int .i64 T, v]) ∧ 1 ≤ ws.length ∧ ws.length ≤ 8 ∧ (∀ x ∈ ws, x ≤ 1000000000000000) ∧ 0 < sumL ws ∧ -1000000000000000 ≤ T ∧ T ≤ 1000000000000000 ∧
    w'.ownsRow w.heap.size 3 1 v ws.length (cellsN ws) ∧ IsTape w' bt at' ∧ at' ≤ at_ + 60 ∧ w.grownBy w' (some bt)

theorem own_kept {w w' : World} {b bt n : Nat} {v : Value} {xs : List Value} {t : TypeId} (h : w.ownsRow b t 1 v n xs) (hg : w.grownBy w' (some bt)) (hb : bt < b) : w'.ownsRow b t 1 v n xs :=
  h.kept hg (.inr (fun e => by have := (h.lt bt e).1; omega))
theorem mem3 {x a b c : Int} (h : x ∈ [a, b, c]) : x = a ∨ x = b ∨ x = c := by simpa using h
theorem cells_addr (w : World) (t : TypeId) (x : Int) : ∀ j u, [Value.int .i64 x][j]? = some u → (w.alloc (.cells #[.int .i64 x] t)).cell? ((⟨w.heap.size, 0, none⟩ : Addr).add j) = some u := cells_new w [.int .i64 x] t

set_option maxRecDepth 100000 in
set_option maxHeartbeats 4000000 in
theorem weights_any (bt at_ : Nat) (w : World) (ht : IsTape w bt at_) (hat : at_ < 100000000000000000) :
    Calls Try.prog 18 #[.pointer (some ⟨bt, 0, none⟩)] w (WP bt at_ w) := by
  have hlt := ht.lt
  go_enter Try.func18, Try.ntmps18
  go_wp2_with fail
  refine (pick_any bt at_ w.heap.size _ 5 [3, 10, 1000, 1000000, 1000000000000000] _ rfl (ht.alloc _) (by omega) (by omega) (by omega) (by omega) (ints_new _ [3, 10, 1000, 1000000, 1000000000000000] _)).mono ?_
  rintro e w1 ⟨top, htop, rfl, ht1, hg1⟩
  have hG1 := grownBy_via (grownBy_refl w (some bt)) _ hg1
  have htopb : 3 ≤ top ∧ top ≤ 1000000000000000 := by simp at htop; omega
  clear htop hg1 ht
  have g1 := hG1.size
  have wt : IntKind.i64.wrap (top + 1) = top + 1 := IntWalk.i64_in _ (by omega)
  go_wp2
  go_loopg [4, 6] 9 (fun m v iv wr => ∃ (k at' : Nat) (ws : List Nat), iv = .int .i64 k ∧ k ≤ 8 ∧ 9 ≤ m + k ∧ at' ≤ at_ + 1 + 4 * k ∧ ws.length = k ∧ (∀ x ∈ ws, x ≤ 1000000000000000) ∧ wr.ownsRow w.heap.size 3 1 v k (cellsN ws) ∧ IsTape wr bt at' ∧ w.grownBy wr (some bt))
  case atStart => exact ⟨0, at_ + 1, [], rfl, by omega, by omega, by omega, rfl, by simp, World.ownsRow_nil _ _ _ _, ht1, hG1⟩
  case round =>
    obtain ⟨k, at', ws, rfl, hk, hm, hat', hlen, hall, hown, ht', hg⟩ := hrel
    have hgs := hg.size
    have HL := Lib.hid hlen
    have HA := Lib.hid hall
    have HO := Lib.hid hown
    clear hlen hall hown ht1 hG1 g1
    go_wp2_with fail
    refine (next_any bt at' 8 _ ht' (by omega) (by omega)).mono ?_
    rintro e w2 ⟨u1, rfl, ht2, hg2⟩
    have hb1 := foldI_bd u1 8 (by omega)
    generalize foldI u1 8 = f1 at *
    have hG2 := grownBy_trans hg hg2
    have HO2 := Lib.hid (own_kept HO.out hg2 hlt)
    have g2 := hG2.size
    clear hg2 HO ht' hg
    have wf : IntKind.i64.wrap (1 + f1) = 1 + f1 := IntWalk.i64_in _ (by omega)
    by_cases hx : (k : Int) < 1 + f1
    · go_wp2_with fail
      refine (next_any bt _ (top + 1) _ ht2 (by omega) (by omega)).mono ?_
      rintro e w3 ⟨u2, rfl, ht3, hg3⟩
      have hb2 := foldI_bd u2 (top + 1) (by omega)
      generalize foldI u2 (top + 1) = f2 at *
      have hG3 := grownBy_trans hG2 hg3
      have HO3 := Lib.hid (own_kept HO2.out hg3 hlt)
      have g3 := hG3.size
      clear hg3 HO2 ht2 hG2
      go_wp2_with fail
      refine (next_any bt _ (top + 1) _ ht3 (by omega) (by omega)).mono ?_
      rintro e w4 ⟨u3, rfl, ht4, hg4⟩
      have hb3 := foldI_bd u3 (top + 1) (by omega)
      generalize foldI u3 (top + 1) = f3 at *
      have hG4 := grownBy_trans hG3 hg4
      have HO4 := Lib.hid (own_kept HO3.out hg4 hlt)
      have g4 := hG4.size
      clear hg4 HO3 ht3 hG3
      go_wp2_with fail
      refine (pick_any bt _ w4.heap.size _ 5 [0, 1, top, f2, f3] _ rfl (ht4.alloc _) (by omega) (by omega) (by omega) (by omega) (ints_new _ [0, 1, top, f2, f3] _)).mono ?_
      rintro e w5 ⟨x, hx5, rfl, ht5, hg5⟩
      have hxb : 0 ≤ x ∧ x ≤ 1000000000000000 := by simp at hx5; omega
      obtain ⟨X, rfl⟩ := Int.eq_ofNat_of_zero_le hxb.1
      have hG5 := grownBy_via hG4 _ hg5
      have HO5 := Lib.hid (own_kept (HO4.out.alloc _) hg5 hlt)
      have g5 := hG5.size
      clear hx5 hg5 HO4 ht4 hG4
      obtain ⟨i0, hi, hz0, hz1, hz2⟩ := info_parts Try.info3
      go_wp2_with (at_builtin; refine wpList_append_own _ rfl _ _ 22 rfl w.heap.size 3 i0 _ 1 8 Try.underlying22 hi hz0 hz1 hz2 rfl (by decide) u4 _ _ rfl (HO5.out.alloc _) ⟨w5.heap.size, 0, none⟩ 1 1 [.int .i64 X] rfl rfl ?_ ?_ ?_ ?_ ?_ ?_; exact cells_new _ _ _; (simp [Value.oneCell']); exact small_maxLen (by omega); omega; (simp; omega); intro v' w6 hown' hgrow _)
      have HW := Lib.hid (show w6.ownsRow w.heap.size 3 1 v' (k + 1) (cellsN (ws ++ [X])) by unfold cellsN; rw [List.map_append]; exact hown')
      have hT6 : IsTape w6 bt (at' + 1 + 1 + 1 + 1) := (ht5.below ((Below.refl _ _).alloc (Nat.le_refl _) _)).grown hgrow (fun q hq => by have := (HO5.out.lt q hq).1; omega)
      have hG6 : w.grownBy w6 (some bt) := ⟨hgrow.os.trans hG5.os, hgrow.tape.trans hG5.tape, hgrow.output.trans hG5.output, by have := hgrow.size; simp at this; omega, fun q hq hr => by
        rw [hgrow.block q (by simp; omega) (fun e => by have := (HO5.out.lt q e.symm).1; omega), Below.heap_alloc _ _ _ (by omega)]
        exact hG5.block q hq hr⟩
      clear hown' hgrow ht5 hG5 HO5
      go_roundg (gk - 1)
      case measure => omega
      case rel => exact ⟨k + 1, _, ws ++ [X], by go_num, by omega, by omega, by omega, by simp [HL.out], by
        intro y hy
        rcases List.mem_append.1 hy with hy | hy
        · exact HA.out y hy
        · have : y = X := by simpa using hy
          omega, HW.out, hT6, hG6⟩
    · have hk1 : 1 ≤ k := by omega
      obtain ⟨g, cap, rfl⟩ : ∃ g cap, u4 = .slice (some ⟨g, 0, none⟩) k cap := by
        rcases HO2.out.2 with ⟨_, h⟩ | ⟨g, cap, cur, h, _⟩
        · omega
        · exact ⟨g, cap, h⟩
      have htot := total_any k (ws.map Int.ofNat) _ w2 (by have := Reads.of_own HO2.out; unfold cellsN at this; rw [List.map_map]; exact this) (by omega) (by
        intro y hy
        obtain ⟨z, hz, rfl⟩ := List.mem_map.1 hy
        have := HA.out z hz
        constructor
        · have : (0 : Int) ≤ Int.ofNat z := Int.natCast_nonneg z
          omega
        · show (z : Int) ≤ _
          omega)
      rw [sumZ_nat] at htot
      have HT := Lib.hid htot
      clear htot
      have hfz := fun j => HO2.out.frozenAt j
      obtain ⟨y0, hy0⟩ : ∃ y0, ws[0]? = some y0 := ⟨ws[0]'(by have := HL.out; omega), List.getElem?_eq_getElem _⟩
      have hc0 : w2.cell? ⟨g, 0, none⟩ = some (.int .i64 (y0 : Int)) := by
        rw [HO2.out.cellAt 0 (by omega)]; unfold cellsN; rw [List.getElem?_map, hy0]; rfl
      clear hy0
      by_cases hs0 : sumL ws = 0
      · have hs0' : (((sumL ws : Nat) : Int) == 0) = true := by simp [hs0]
        have hst := HO2.out.stored 0 (.int .i64 1)
        have e1 : (cellsN ws).set 0 (.int .i64 1) = cellsN (ws.set 0 1) := by unfold cellsN; rw [List.map_set]; rfl
        rw [e1] at hst
        have hgb : w.heap.size ≤ g := by have := HO2.out.lt g rfl; omega
        have hT3 : IsTape (w2.setCell ⟨g, 0, none⟩ (.int .i64 1)) bt (at' + 1) := ht2.grown hst.2 (fun q hq => by have : q = g := (Option.some.inj hq).symm; omega)
        have hG3 : w.grownBy (w2.setCell ⟨g, 0, none⟩ (.int .i64 1)) (some bt) := ⟨hG2.os, hG2.tape, hG2.output, by have := hG2.size; simpa using this, fun q hq hr => by
          rw [hst.2.block q (by omega) (fun e => by have : q = g := Option.some.inj e; omega)]; exact hG2.block q hq hr⟩
        have HW := Lib.hid (show ∃ ws', ws'.length = k ∧ (∀ x ∈ ws', x ≤ 1000000000000000) ∧ 0 < sumL ws' ∧ (w2.setCell ⟨g, 0, none⟩ (.int .i64 1)).ownsRow w.heap.size 3 1 (.slice (some ⟨g, 0, none⟩) k cap) k (cellsN ws') from ⟨ws.set 0 1, by rw [List.length_set]; exact HL.out, by
          intro y hy
          rcases List.mem_or_eq_of_mem_set hy with hy | hy
          · exact HA.out y hy
          · omega, by
          have hl := HL.out
          cases ws with
          | nil => simp at hl; omega
          | cons a l => simp [sumL]; omega, hst.1⟩)
        have hsz3 : (w2.setCell ⟨g, 0, none⟩ (.int .i64 1)).heap.size = w2.heap.size := by simp
        have hs0'' : sumL ws = 0 := hs0
        clear hst e1
        go_wp2_with (go_at_call 19; refine HT.out.mono ?_; rintro e w' ⟨rfl, rfl⟩)
        have z0 := hG3.size
        refine (next_any bt _ 20 _ hT3 (by omega) (by omega)).mono ?_
        rintro e x1 ⟨u1, rfl, ht5, hg5⟩
        have hb5 := foldI_bd u1 20 (by omega)
        generalize foldI u1 20 = f5 at *
        have hG5 := grownBy_trans hG3 hg5
        have z1 := hG5.size
        go_wp2_with fail
        refine (next_any bt _ 1000000 _ ht5 (by omega) (by omega)).mono ?_
        rintro e x2 ⟨u2, rfl, ht6, hg6⟩
        have hb6 := foldI_bd u2 1000000 (by omega)
        generalize foldI u2 1000000 = f6 at *
        have hG6 := grownBy_trans hG5 hg6
        have z2 := hG6.size
        go_wp2_with fail
        refine (next_any bt _ 1000 _ ht6 (by omega) (by omega)).mono ?_
        rintro e x3 ⟨u3, rfl, ht7, hg7⟩
        have hb7 := foldI_bd u3 1000 (by omega)
        generalize foldI u3 1000 = f7 at *
        have hG7 := grownBy_trans hG6 hg7
        have z3 := hG7.size
        have wn : IntKind.i64.wrap (-f7) = -f7 := IntWalk.i64_in _ (by omega)
        go_wp2_with fail
        refine (pick_any bt _ x3.heap.size _ 6 [0, 1, f5, f6, 1000000000000000, -f7] _ rfl (ht7.alloc _) (by omega) (by omega) (by omega) (by omega) (ints_new _ [0, 1, f5, f6, 1000000000000000, -f7] _)).mono ?_
        rintro e x4 ⟨T, hT4, rfl, ht8, hg8⟩
        have hTb : -1000000000000000 ≤ T ∧ T ≤ 1000000000000000 := by simp at hT4; omega
        have HF := Lib.hid (show WP bt at_ w (.returned (.tuple #[.int .i64 T, .slice (some ⟨g, 0, none⟩) k cap])) x4 from by
          obtain ⟨ws', l1, l2, l3, l4⟩ := HW.out
          subst l1
          exact ⟨T, _, ws', _, rfl, hk1, by omega, l2, l3, hTb.1, hTb.2, own_kept ((own_kept (own_kept (own_kept l4 hg5 hlt) hg6 hlt) hg7 hlt).alloc _) hg8 hlt, ht8, by omega, grownBy_via hG7 _ hg8⟩)
        clear hT4 hg5 hg6 hg7 hg8
        go_wp2
        go_ret2
        exact HF.out
      · have hs0' : (((sumL ws : Nat) : Int) == 0) = false := beq_eq_false_iff_ne.2 (by omega)
        have HW := Lib.hid (show ∃ ws', ws'.length = k ∧ (∀ x ∈ ws', x ≤ 1000000000000000) ∧ 0 < sumL ws' ∧ w2.ownsRow w.heap.size 3 1 (.slice (some ⟨g, 0, none⟩) k cap) k (cellsN ws') from ⟨ws, HL.out, HA.out, by omega, HO2.out⟩)
        go_wp2_with (go_at_call 19; refine HT.out.mono ?_; rintro e w' ⟨rfl, rfl⟩)
        have z0 := hG2.size
        refine (next_any bt _ 20 _ ht2 (by omega) (by omega)).mono ?_
        rintro e x1 ⟨u1, rfl, ht5, hg5⟩
        have hb5 := foldI_bd u1 20 (by omega)
        generalize foldI u1 20 = f5 at *
        have hG5 := grownBy_trans hG2 hg5
        have z1 := hG5.size
        go_wp2_with fail
        refine (next_any bt _ 1000000 _ ht5 (by omega) (by omega)).mono ?_
        rintro e x2 ⟨u2, rfl, ht6, hg6⟩
        have hb6 := foldI_bd u2 1000000 (by omega)
        generalize foldI u2 1000000 = f6 at *
        have hG6 := grownBy_trans hG5 hg6
        have z2 := hG6.size
        go_wp2_with fail
        refine (next_any bt _ 1000 _ ht6 (by omega) (by omega)).mono ?_
        rintro e x3 ⟨u3, rfl, ht7, hg7⟩
        have hb7 := foldI_bd u3 1000 (by omega)
        generalize foldI u3 1000 = f7 at *
        have hG7 := grownBy_trans hG6 hg7
        have z3 := hG7.size
        have wn : IntKind.i64.wrap (-f7) = -f7 := IntWalk.i64_in _ (by omega)
        go_wp2_with fail
        refine (pick_any bt _ x3.heap.size _ 6 [0, 1, f5, f6, 1000000000000000, -f7] _ rfl (ht7.alloc _) (by omega) (by omega) (by omega) (by omega) (ints_new _ [0, 1, f5, f6, 1000000000000000, -f7] _)).mono ?_
        rintro e x4 ⟨T, hT4, rfl, ht8, hg8⟩
        have hTb : -1000000000000000 ≤ T ∧ T ≤ 1000000000000000 := by simp at hT4; omega
        have HF := Lib.hid (show WP bt at_ w (.returned (.tuple #[.int .i64 T, .slice (some ⟨g, 0, none⟩) k cap])) x4 from by
          obtain ⟨ws', l1, l2, l3, l4⟩ := HW.out
          subst l1
          exact ⟨T, _, ws', _, rfl, hk1, by omega, l2, l3, hTb.1, hTb.2, own_kept ((own_kept (own_kept (own_kept l4 hg5 hlt) hg6 hlt) hg7 hlt).alloc _) hg8 hlt, ht8, by omega, grownBy_via hG7 _ hg8⟩)
        clear hT4 hg5 hg6 hg7 hg8
        go_wp2
        go_ret2
        exact HF.out
end Go.Proofs.Ytnkmhbiklffjlaa
