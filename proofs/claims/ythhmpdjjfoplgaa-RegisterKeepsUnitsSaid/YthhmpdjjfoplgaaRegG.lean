/- The reference's Check, walked. -/
import Derived.Test.YthhmpdjjfoplgaaRegF
set_option linter.unusedVariables false
set_option linter.unusedSimpArgs false
namespace Go.Proofs.Ythhmpdjjfoplgaa
open Go.RowKit Reg

theorem racctB_any (nm hl : ByteArray) (b : Bool) (h : acctB nm hl = b) (w : World) :
    Calls Try.prog 38 #[.agg #[.string nm, .string hl]] w fun e w' => e = .returned (.bool b) ∧ Below w.heap.size w w' := by
  rw [← h]; exact racct_any nm hl w
theorem lessB_any (x y : Lot) (m : Bool) (h : lotLt x y = m) (w : World) :
    Calls Try.prog 57 #[.agg #[.string x.nom, .string x.hol, .int .i64 x.ser, .int .i64 x.units], .agg #[.string y.nom, .string y.hol, .int .i64 y.ser, .int .i64 y.units]] w fun e w' => e = .returned (.bool m) ∧ Below w.heap.size w w' := by
  rw [← h]; exact less_any x y w
namespace Reg
theorem sumU_split (l : List Lot) (k : Nat) : sumU (l.take k) + sumU (l.drop k) = sumU l := by rw [← sumU_app, List.take_append_drop]
theorem bad_sum {l : List Lot} {k : Nat} {x : Lot} {left : Int} (hx : l[k]? = some x) (hl : left = 1000000000000000 - sumU (l.take k)) (hbad : left < x.units) : checkB l = false := by
  cases h : checkB l
  · rfl
  · exfalso
    simp only [checkB, Bool.and_eq_true, decide_eq_true_eq] at h
    have h1 := sumU_split l k
    rw [drop_at hx, sumU] at h1
    have h2 := sumU_ge (l.drop (k + 1)) (fun y hy => (right_bd (okL_right h.1.2 y (List.mem_of_mem_drop hy))).1)
    omega
theorem bad_ok {l : List Lot} {k : Nat} (hk : k < l.length) (h : okAt l k = false) : checkB l = false := by
  unfold checkB; rw [okL_no hk h]; simp
theorem right_no {x : Lot} (h : acctB x.nom x.hol = false ∨ x.ser < 0 ∨ 73048 < x.ser ∨ x.units < 1) : rightB x = false := by
  cases hr : rightB x
  · rfl
  · have := right_bd hr
    rcases h with h | h | h | h
    · rw [h] at this; simp at this
    · omega
    · omega
    · omega
theorem right_yes {x : Lot} (h : acctB x.nom x.hol = true) (h1 : 0 ≤ x.ser) (h2 : x.ser ≤ 73048) (h3 : 1 ≤ x.units) (h4 : x.units ≤ 1000000000000000) : rightB x = true := by
  simp [rightB, h, h1, h2, h3, h4]
theorem take_snocL {l : List Lot} {k : Nat} {x : Lot} (hx : l[k]? = some x) : sumU (l.take (k + 1)) = sumU (l.take k) + x.units := by
  have h1 := sumU_split l k
  have h2 := sumU_split l (k + 1)
  rw [drop_at hx, sumU] at h1
  omega
end Reg

set_option maxRecDepth 100000 in
set_option maxHeartbeats 4000000 in
theorem rcheck_any (v : Value) (l : List Lot) (w : World) (h : LotsAt w v l) :
    Calls Try.prog 37 #[regV v] w (OutE (checkB l) 250 w) := by
  unfold regV
  obtain ⟨A, cap, hv⟩ := Rd.form h
  have hmx := h.2.1
  by_cases hbig : l.length ≤ 256
  · by_cases h0 : l.length = 0
    · obtain ⟨A, cap, rfl⟩ := h.nil h0
      have hl0 := List.eq_nil_of_length_eq_zero h0
      subst hl0
      have HF := Lib.hid (show checkB [] = true by kernel_rfl)
      clear h hv hmx h0 hbig
      go_enter Try.func37, Try.ntmps37
      go_wp2
      go_loopg [3, 4] 1 (fun m lf i wr => lf = .int .i64 1000000000000000 ∧ i = .int .i64 0 ∧ wr = w.alloc (.cells #[.slice A 0 cap] 24))
      case atStart => exact ⟨rfl, rfl, rfl⟩
      case round =>
        obtain ⟨rfl, rfl, rfl⟩ := hrel
        go_wp2
        go_ret
        exact ⟨ret_int (by rw [HF.out]; rfl), (Below.refl _ _).alloc (Nat.le_refl _) _⟩
    · obtain ⟨g, off, cap, rfl, hc⟩ := h.some (by omega)
      obtain ⟨n, hnn⟩ : ∃ n, n = l.length := ⟨_, rfl⟩
      rw [← hnn] at hbig h0 ⊢
      have HN := Lib.hid hnn
      have HC := Lib.hid hc
      clear hnn hc h hv hmx
      have hbig' : ¬ (256 : Int) < n := by omega
      go_enter Try.func37, Try.ntmps37
      go_wp2
      go_loopg [3, 4] n (fun m lf i wr => ∃ (k : Nat) (left : Int), k ≤ n ∧ n - k ≤ m ∧ lf = .int .i64 left ∧ i = .int .i64 k ∧ 0 ≤ left ∧ left ≤ 1000000000000000 ∧ left = 1000000000000000 - sumU (l.take k) ∧ (∀ j, j < k → okAt l j = true) ∧ Below (w.heap.size + 1) (w.alloc (.cells #[.slice (some ⟨g, off, none⟩) n cap] 24)) wr)
      case atStart => exact ⟨0, 1000000000000000, by omega, by omega, rfl, rfl, by omega, by omega, by simp [sumU], fun j hj => absurd hj (by omega), Below.refl _ _⟩
      case round =>
        obtain ⟨k, left, hk, hm, rfl, rfl, hl0, hl1, hl2, hok, hbl⟩ := hrel
        have HOK := Lib.hid hok
        have HL2 := Lib.hid hl2
        have hsz : w.heap.size + 1 ≤ wr.heap.size := by have := hbl.size; simpa using this
        have hcv : wr.cell? ⟨w.heap.size, 0, none⟩ = some (.slice (some ⟨g, off, none⟩) n cap) := cell_belowB (by go_cell) hbl (by simp)
        have HBL := Lib.hid hbl
        have HB0 := Lib.hid (show Below w.heap.size w wr from ((Below.refl _ _).alloc (Nat.le_refl _) _).trans (hbl.mono (by omega)))
        clear hok hbl hl2
        by_cases hlt : k < n
        · obtain ⟨x, hx⟩ : ∃ x, l[k]? = some x := ⟨l[k]'(by rw [← HN.out]; exact hlt), by simp [← HN.out, hlt]⟩
          obtain ⟨c0, c1, c2, c3⟩ := (HC.out k x hx).below HB0.out
          have HX := Lib.hid hx
          clear hx
          go_upto_region 8 with fail
          obtain ⟨W1, hW1⟩ : ∃ W1, W1 = wr.alloc (.cells #[.string x.nom, .string x.hol, .int .i64 x.ser, .int .i64 x.units] 41) := ⟨_, rfl⟩
          have hbW : Below wr.heap.size wr W1 := by rw [hW1]; exact (Below.refl _ _).alloc (Nat.le_refl _) _
          have x0 : W1.cell? ⟨wr.heap.size, 0, none⟩ = some (.string x.nom) := by rw [hW1]; go_cell
          have x1 : W1.cell? ⟨wr.heap.size, 1, none⟩ = some (.string x.hol) := by rw [hW1]; go_cell
          have x2 : W1.cell? ⟨wr.heap.size, 2, none⟩ = some (.int .i64 x.ser) := by rw [hW1]; go_cell
          have x3 : W1.cell? ⟨wr.heap.size, 3, none⟩ = some (.int .i64 x.units) := by rw [hW1]; go_cell
          have y0 := cell_gw x0
          have y1 := cell_gw x1
          have y2 := cell_gw x2
          have y3 := cell_gw x3
          have yv := cell_gw (cell_up hcv hbW)
          rw [← hW1]
          have HBW := Lib.hid (HB0.out.trans (hbW.mono HB0.out.size))
          have HBL1 := Lib.hid (HBL.out.trans (hbW.mono hsz))
          have HSZ1 := Lib.hid (show w.heap.size + 1 ≤ W1.heap.size from Nat.le_trans hsz hbW.size)
          have HCW := Lib.hid (fun k x hx => (HC.out k x hx).below HBW.out)
          clear hW1 hbW x0 x1 x2 x3 c0 c1 c2 c3 hcv
          have HKL := Lib.hid (show k < l.length by rw [← HN.out]; exact hlt)
          have hcase : (acctB x.nom x.hol = false ∧ checkB l = false) ∨ (acctB x.nom x.hol = true ∧ decide (x.ser < 0) = true ∧ checkB l = false) ∨
              (acctB x.nom x.hol = true ∧ decide (x.ser < 0) = false ∧ decide (73048 < x.ser) = true ∧ checkB l = false) ∨
              (acctB x.nom x.hol = true ∧ decide (x.ser < 0) = false ∧ decide (73048 < x.ser) = false ∧ decide (x.units < 1) = true ∧ checkB l = false) ∨
              (acctB x.nom x.hol = true ∧ decide (x.ser < 0) = false ∧ decide (73048 < x.ser) = false ∧ decide (x.units < 1) = false ∧ decide (left < x.units) = true ∧ checkB l = false) ∨
              (acctB x.nom x.hol = true ∧ decide (x.ser < 0) = false ∧ decide (73048 < x.ser) = false ∧ decide (x.units < 1) = false ∧ decide (left < x.units) = false ∧ rightB x = true) := by
            have bad : (acctB x.nom x.hol = false ∨ x.ser < 0 ∨ 73048 < x.ser ∨ x.units < 1) → checkB l = false := fun h => bad_ok HKL.out (by simp only [okAt, HX.out, right_no h]; rfl)
            cases ha : acctB x.nom x.hol
            · exact .inl ⟨rfl, bad (.inl ha)⟩
            · by_cases h1 : x.ser < 0
              · exact .inr (.inl ⟨rfl, decide_eq_true h1, bad (.inr (.inl h1))⟩)
              · by_cases h2 : 73048 < x.ser
                · exact .inr (.inr (.inl ⟨rfl, decide_eq_false h1, decide_eq_true h2, bad (.inr (.inr (.inl h2)))⟩))
                · by_cases h3 : x.units < 1
                  · exact .inr (.inr (.inr (.inl ⟨rfl, decide_eq_false h1, decide_eq_false h2, decide_eq_true h3, bad (.inr (.inr (.inr h3)))⟩)))
                  · by_cases h4 : left < x.units
                    · exact .inr (.inr (.inr (.inr (.inl ⟨rfl, decide_eq_false h1, decide_eq_false h2, decide_eq_false h3, decide_eq_true h4, bad_sum HX.out HL2.out h4⟩))))
                    · exact .inr (.inr (.inr (.inr (.inr ⟨rfl, decide_eq_false h1, decide_eq_false h2, decide_eq_false h3, decide_eq_false h4, right_yes ha (by omega) (by omega) (by omega) (by omega)⟩))))
          rcases hcase with ⟨ha, hz⟩ | ⟨ha, e1, hz⟩ | ⟨ha, e1, e2, hz⟩ | ⟨ha, e1, e2, e3, hz⟩ | ⟨ha, e1, e2, e3, e4, hz⟩ | ⟨ha, e1, e2, e3, e4, hr⟩
          case inr.inr.inr.inr.inr =>
            have HA := Lib.hid ha
            have HR := Lib.hid hr
            have hub := right_bd hr
            have hu1 := hub.1
            have hu2 := hub.2.1
            have hu3 : x.units ≤ left := by simpa using e4
            have hsub : IntKind.i64.wrap (left - x.units) = left - x.units := IntWalk.i64_in _ (by omega)
            clear ha hr hub
            by_cases hk0 : k = 0
            · subst hk0
              refine wp_region_below (by kernel_rfl) (by kernel_rfl) ?_
              repeat (go_big_quiet_step (first | (go_at_call 38; exact Calls.below_of (racctB_any x.nom x.hol true HA.out _))))
              refine wpQuiet_nil ?_
              intro w' hw'
              obtain ⟨p, rfl⟩ := hw'
              go_wp2
              go_roundg (gk - 1)
              case measure => omega
              case rel => exact ⟨1, left - x.units, by omega, by omega, by go_num, by go_num, by omega, by omega, by rw [take_snocL HX.out]; have := HL2.out; omega, fun j hj => by
                obtain rfl : j = 0 := by omega
                rw [okAt_zero HX.out, HR.out], HBL1.out.trans ((below_gw _ _ _).mono HSZ1.out)⟩
            · obtain ⟨j, hj⟩ : ∃ j, k = j + 1 := ⟨k - 1, by omega⟩
              obtain ⟨y, hy⟩ : ∃ y, l[j]? = some y := ⟨l[j]'(by rw [← HN.out]; omega), by simp [← HN.out, show j < n by omega]⟩
              obtain ⟨d0, d1, d2, d3⟩ := HCW.out j y hy
              have z0 := cell_gw d0
              have z1 := cell_gw d1
              have z2 := cell_gw d2
              have z3 := cell_gw d3
              clear d0 d1 d2 d3
              have hkj : (k : Int) - 1 = (j : Int) := by omega
              have hwj : IntKind.i64.wrap (j : Int) = (j : Int) := IntWalk.i64_in _ (by omega)
              have hjn : j < n := by omega
              have hkp : 0 < k := by omega
              have hok2 : okAt l k = lotLt y x := by rw [hj, okAt_succ (by rw [← hj]; exact HX.out) hy, HR.out]; rfl
              have HK2 := Lib.hid hok2
              clear hok2 hy hj hk0
              cases hlt2 : lotLt y x with
              | true =>
                have HLT := Lib.hid hlt2
                clear hlt2
                refine wp_region_below (by kernel_rfl) (by kernel_rfl) ?_
                repeat (go_big_quiet_step (first | (go_at_call 38; exact Calls.below_of (racctB_any x.nom x.hol true HA.out _)) | (go_at_call 57; exact Calls.below_of (lessB_any y x true HLT.out _))))
                refine wpQuiet_nil ?_
                intro w' hw'
                obtain ⟨p, rfl⟩ := hw'
                go_wp2
                go_roundg (gk - 1)
                case measure => omega
                case rel => exact ⟨k + 1, left - x.units, by omega, by omega, by go_num, by go_num, by omega, by omega, by rw [take_snocL HX.out]; have := HL2.out; omega, fun i hi => by
                  by_cases hik : i = k
                  · rw [hik, HK2.out, HLT.out]
                  · exact HOK.out i (by omega), HBL1.out.trans ((below_gw _ _ _).mono HSZ1.out)⟩
              | false =>
                have HLT := Lib.hid hlt2
                clear hlt2
                refine wp_region_below (by kernel_rfl) (by kernel_rfl) ?_
                repeat (go_big_quiet_step (first | (go_at_call 38; exact Calls.below_of (racctB_any x.nom x.hol true HA.out _)) | (go_at_call 57; exact Calls.below_of (lessB_any y x false HLT.out _))))
                refine wpQuiet_nil ?_
                intro w' hw'
                obtain ⟨p, rfl⟩ := hw'
                go_wp2
                go_ret
                refine ⟨ret_int ?_, HBW.out.trans ((below_gw _ _ _).mono HBW.out.size)⟩
                rw [bad_ok HKL.out (by rw [HK2.out, HLT.out])]; simp
          all_goals
            have HZ := Lib.hid hz
            have HA := Lib.hid ha
            clear hz ha
            refine wp_region_below (by kernel_rfl) (by kernel_rfl) ?_
            repeat (go_big_quiet_step (first | (go_at_call 38; exact Calls.below_of (racctB_any x.nom x.hol _ HA.out _))))
            refine wpQuiet_nil ?_
            intro w' hw'
            obtain ⟨p, rfl⟩ := hw'
            go_wp2
            go_ret
            exact ⟨ret_int (by rw [HZ.out]; rfl), HBW.out.trans ((below_gw _ _ _).mono HBW.out.size)⟩
        · have hoky : checkB l = true := by
            have e1 : okL l = true := okL_yes (n := k) (by have := HN.out; omega) HOK.out
            have e2 := HL2.out
            rw [List.take_of_length_le (by have := HN.out; omega)] at e2
            unfold checkB
            rw [e1, decide_eq_true (show sumU l ≤ 1000000000000000 by omega), decide_eq_true (show l.length ≤ 256 by rw [← HN.out]; exact hbig)]; rfl
          have HY := Lib.hid hoky
          clear hoky
          go_wp2
          go_ret
          exact ⟨ret_int (by rw [HY.out]; rfl), HB0.out⟩
  · have hbig' : (256 : Int) < l.length := by omega
    have HF := Lib.hid (show checkB l = false by unfold checkB; rw [decide_eq_false hbig]; rfl)
    subst hv
    go_enter Try.func37, Try.ntmps37
    go_wp2
    go_ret
    exact ⟨ret_int (by rw [HF.out]; rfl), (Below.refl _ _).alloc (Nat.le_refl _) _⟩
end Go.Proofs.Ythhmpdjjfoplgaa
