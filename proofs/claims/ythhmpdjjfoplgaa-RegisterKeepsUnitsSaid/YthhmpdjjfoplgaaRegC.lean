/- The reference's names and accounts; order.Account: walked. -/
import Derived.Test.YthhmpdjjfoplgaaRegB
set_option linter.unusedVariables false
set_option linter.unusedSimpArgs false
namespace Go.Proofs.Ythhmpdjjfoplgaa
open Go.RowKit Reg

set_option maxHeartbeats 2000000 in
theorem rname_any (s : ByteArray) (w : World) :
    Calls Try.prog 58 #[.string s] w fun e w' => e = .returned (.bool (nameB s)) ∧ ∃ n, w' = w.drewN n := by
  have hF := nameB.eq_1 s
  by_cases h0 : 0 < s.size
  · have z0 : ¬ (s.size : Int) < 1 := by omega
    by_cases h1 : s.size ≤ 16
    · have z1 : ¬ (16 : Int) < s.size := by omega
      have hd := first_is s h0
      have HF := Lib.hid (show nameB s = (firstB s && namesFrom s 0) by rw [hF]; simp [h0, h1])
      have HD := Lib.hid hd
      clear hF hd
      go_enter Try.func58, Try.ntmps58
      go_wp2
      go_loopg [3] (s.size) (fun n i wr => ∃ k d : Nat, k ≤ s.size ∧ s.size - k ≤ n ∧ wr = w.drewN d ∧ i = .int .i64 k ∧ namesFrom s k = namesFrom s 0 ∧ (0 < k → firstB s = true))
      case atStart => exact ⟨0, 0, Nat.zero_le _, Nat.le_refl _, rfl, rfl, rfl, fun h => absurd h (by omega)⟩
      case round =>
        obtain ⟨k, d, hk, hn, rfl, rfl, hr, hf⟩ := hrel
        have HFS := Lib.hid hf
        clear hf
        by_cases hlt : k < s.size
        · rw [names_go s k hlt] at hr
          have HR := Lib.hid hr
          clear hr
          have hi1 : (0 : Int) ≤ k := by omega
          have hi2 : (k : Int) < s.size := by omega
          obtain ⟨c, hc⟩ : ∃ c : Int, c = s[k].toNat := ⟨_, rfl⟩
          have HC := Lib.hid hc
          have h3 : decide (97 ≤ c) = false ∨ (decide (97 ≤ c) = true ∧ decide (c ≤ 122) = false) ∨ (decide (97 ≤ c) = true ∧ decide (c ≤ 122) = true) := by
            simp only [decide_eq_true_eq, decide_eq_false_iff_not]; omega
          have h4 : decide (48 ≤ c) = false ∨ (decide (48 ≤ c) = true ∧ decide (c ≤ 57) = false) ∨ (decide (48 ≤ c) = true ∧ decide (c ≤ 57) = true) := by
            simp only [decide_eq_true_eq, decide_eq_false_iff_not]; omega
          have hc' := hc.symm
          clear hc
          have hL : ltrI c = (decide (97 ≤ c) && decide (c ≤ 122)) := rfl
          have hN : namI c = ((decide (97 ≤ c) && decide (c ≤ 122)) || (decide (48 ≤ c) && decide (c ≤ 57))) := rfl
          have hfk : 0 < s.size → k = 0 → firstB s = ltrI c := fun h e => by subst e; rw [HD.out, HC.out]
          by_cases hk0 : k = 0
          · have hk0' : ((k : Int) == 0) = true := beq_iff_eq.2 (by omega)
            have hfk := hfk h0 hk0
            rcases h3 with e1 | ⟨e1, e2⟩ | ⟨e1, e2⟩ <;> rcases h4 with e3 | ⟨e3, e4⟩ | ⟨e3, e4⟩
            all_goals
              simp only [*, Bool.false_and, Bool.true_and, Bool.and_false, Bool.and_true, Bool.or_false, Bool.false_or, Bool.or_true, Bool.true_or] at hL hN
              rw [hL] at hfk
              have HN := Lib.hid hN
              have HK := Lib.hid hfk
              have H0 := Lib.hid hk0
              clear hN hfk hL hk0
              go_wp2
              go_quiet (fail)
              go_wp2
              first
                | (go_ret; exact ⟨ret_bool (by rw [HF.out, HK.out]; rfl), _, rfl⟩)
                | (go_roundg (gk - 1)
                   case measure => omega
                   case rel => exact ⟨k + 1, _, by omega, by omega, rfl, by go_num, by rw [← HR.out, ← HC.out, HN.out]; rfl, fun _ => HK.out⟩)
          · have hk0' : ((k : Int) == 0) = false := beq_eq_false_iff_ne.2 (by omega)
            clear hfk
            rcases h3 with e1 | ⟨e1, e2⟩ | ⟨e1, e2⟩ <;> rcases h4 with e3 | ⟨e3, e4⟩ | ⟨e3, e4⟩
            all_goals
              simp only [*, Bool.false_and, Bool.true_and, Bool.and_false, Bool.and_true, Bool.or_false, Bool.false_or, Bool.or_true, Bool.true_or] at hL hN
              have HN := Lib.hid hN
              clear hN hL
              go_wp2
              go_quiet (fail)
              go_wp2
              first
                | (go_ret; exact ⟨ret_bool (by rw [HF.out, ← HR.out, ← HC.out, HN.out]; simp), _, rfl⟩)
                | (go_roundg (gk - 1)
                   case measure => omega
                   case rel => exact ⟨k + 1, _, by omega, by omega, rfl, by go_num, by rw [← HR.out, ← HC.out, HN.out]; rfl, fun _ => HFS.out (by omega)⟩)
        · rw [names_end s k hlt] at hr
          have HR := Lib.hid hr
          clear hr
          go_wp2
          go_ret
          exact ⟨ret_bool (by rw [HF.out, ← HR.out, HFS.out (by omega)]; rfl), _, rfl⟩
    · have z1 : (16 : Int) < s.size := by omega
      have HF := Lib.hid (show nameB s = false by rw [hF]; simp [h1])
      clear hF
      go_enter Try.func58, Try.ntmps58
      go_wp2
      go_ret
      exact ⟨ret_bool HF.out.symm, 0, rfl⟩
  · have z0 : (s.size : Int) < 1 := by omega
    have HF := Lib.hid (show nameB s = false by rw [hF]; simp [h0])
    clear hF
    go_enter Try.func58, Try.ntmps58
    go_wp2
    go_ret
    exact ⟨ret_bool HF.out.symm, 0, rfl⟩

namespace Reg
def acctB (nm hl : ByteArray) : Bool := nameB hl && (decide (nm.size = 0) || nameB nm)
end Reg
set_option maxHeartbeats 1000000 in
theorem acct_any (nm hl : ByteArray) (w : World) :
    Calls Try.prog 39 #[.agg #[.string nm, .string hl]] w fun e w' => e = .returned (.bool (acctB nm hl)) ∧ Below w.heap.size w w' := by
  have HB := fun W => oname_any hl W
  have HA := fun W => oname_any nm W
  have hF := acctB.eq_1 nm hl
  cases h1 : nameB hl with
  | false =>
    rw [h1] at HB
    have HB := Lib.hid HB
    have HF := Lib.hid (show acctB nm hl = false by rw [hF, h1]; rfl)
    clear hF h1 HA
    go_enter Try.func39, Try.ntmps39
    go_wp2_with (go_at_call 59; refine (HB.out _).mono ?_; rintro e w1 ⟨rfl, hb⟩; have HB1 := Lib.hid hb; clear hb)
    go_ret
    exact ⟨ret_bool HF.out.symm, ((Below.refl _ _).alloc (Nat.le_refl _) _).trans (HB1.out.mono (by simp))⟩
  | true =>
    rw [h1] at HB
    have HB := Lib.hid HB
    by_cases h0 : 0 < nm.size
    · obtain ⟨z0, z0'⟩ := eq_empty_no h0
      have HF := Lib.hid (show acctB nm hl = nameB nm by rw [hF, h1, decide_eq_false (show ¬ nm.size = 0 by omega)]; rfl)
      have HA := Lib.hid HA
      clear hF h1
      go_enter Try.func39, Try.ntmps39
      go_wp2_with fail
      refine (HB.out _).mono ?_; rintro e w1 ⟨rfl, hb⟩
      have c0 := cell_up (show (w.alloc (.cells #[.string nm, .string hl] 26)).cell? ⟨w.heap.size, 0, none⟩ = some (.string nm) by go_cell) hb
      have HB1 := Lib.hid hb; clear hb
      go_wp2_with fail
      refine (HA.out _).mono ?_; rintro e w2 ⟨rfl, hb⟩
      have HB2 := Lib.hid hb; clear hb
      go_wp2
      go_ret
      have hb1 := ((Below.refl w.heap.size w).alloc (Nat.le_refl _) (.cells #[.string nm, .string hl] 26)).trans (HB1.out.mono (by simp))
      exact ⟨ret_bool HF.out.symm, hb1.trans (HB2.out.mono hb1.size)⟩
    · have hz := nil_of_size (show nm.size = 0 by omega)
      have HF := Lib.hid (show acctB nm hl = true by rw [hF, h1, decide_eq_true (show nm.size = 0 by omega)]; rfl)
      clear hF h1 HA
      subst hz
      go_enter Try.func39, Try.ntmps39
      go_wp2_with fail
      refine (HB.out _).mono ?_; rintro e w1 ⟨rfl, hb⟩
      have c0 := cell_up (show (w.alloc (.cells #[.string ⟨#[]⟩, .string hl] 26)).cell? ⟨w.heap.size, 0, none⟩ = some (.string ⟨#[]⟩) by go_cell) hb
      have HB1 := Lib.hid hb; clear hb
      go_wp2
      go_ret
      exact ⟨ret_bool HF.out.symm, ((Below.refl _ _).alloc (Nat.le_refl _) _).trans (HB1.out.mono (by simp))⟩
theorem below_drewN' {B : Nat} {a w : World} (h : Below B a w) (n : Nat) : Below B a (w.drewN n) := ⟨h.os, h.tape, h.output, h.size, h.block⟩
theorem rnameB_any (s : ByteArray) (w : World) :
    Calls Try.prog 58 #[.string s] w fun e w' => e = .returned (.bool (nameB s)) ∧ Below w.heap.size w w' :=
  (rname_any s w).mono fun _ _ ⟨he, n, hn⟩ => ⟨he, by rw [hn]; exact below_drewN' (Below.refl _ _) n⟩
set_option maxHeartbeats 1000000 in
theorem racct_any (nm hl : ByteArray) (w : World) :
    Calls Try.prog 38 #[.agg #[.string nm, .string hl]] w fun e w' => e = .returned (.bool (acctB nm hl)) ∧ Below w.heap.size w w' := by
  have HB := fun W => rnameB_any hl W
  have HA := fun W => rnameB_any nm W
  have hF := acctB.eq_1 nm hl
  cases h1 : nameB hl with
  | false =>
    rw [h1] at HB
    have HB := Lib.hid HB
    have HF := Lib.hid (show acctB nm hl = false by rw [hF, h1]; rfl)
    clear hF h1 HA
    go_enter Try.func38, Try.ntmps38
    go_wp2_with (go_at_call 58; refine (HB.out _).mono ?_; rintro e w1 ⟨rfl, hb⟩; have HB1 := Lib.hid hb; clear hb)
    go_ret
    exact ⟨ret_bool HF.out.symm, ((Below.refl _ _).alloc (Nat.le_refl _) _).trans (HB1.out.mono (by simp))⟩
  | true =>
    rw [h1] at HB
    have HB := Lib.hid HB
    by_cases h0 : 0 < nm.size
    · obtain ⟨z0, z0'⟩ := eq_empty_no h0
      have HF := Lib.hid (show acctB nm hl = nameB nm by rw [hF, h1, decide_eq_false (show ¬ nm.size = 0 by omega)]; rfl)
      have HA := Lib.hid HA
      clear hF h1
      go_enter Try.func38, Try.ntmps38
      go_wp2_with fail
      refine (HB.out _).mono ?_; rintro e w1 ⟨rfl, hb⟩
      have c0 := cell_up (show (w.alloc (.cells #[.string nm, .string hl] 26)).cell? ⟨w.heap.size, 0, none⟩ = some (.string nm) by go_cell) hb
      have HB1 := Lib.hid hb; clear hb
      go_wp2_with fail
      refine (HA.out _).mono ?_; rintro e w2 ⟨rfl, hb⟩
      have HB2 := Lib.hid hb; clear hb
      go_wp2
      go_ret
      have hb1 := ((Below.refl w.heap.size w).alloc (Nat.le_refl _) (.cells #[.string nm, .string hl] 26)).trans (HB1.out.mono (by simp))
      exact ⟨ret_bool HF.out.symm, hb1.trans (HB2.out.mono hb1.size)⟩
    · have hz := nil_of_size (show nm.size = 0 by omega)
      have HF := Lib.hid (show acctB nm hl = true by rw [hF, h1, decide_eq_true (show nm.size = 0 by omega)]; rfl)
      clear hF h1 HA
      subst hz
      go_enter Try.func38, Try.ntmps38
      go_wp2_with fail
      refine (HB.out _).mono ?_; rintro e w1 ⟨rfl, hb⟩
      have c0 := cell_up (show (w.alloc (.cells #[.string ⟨#[]⟩, .string hl] 26)).cell? ⟨w.heap.size, 0, none⟩ = some (.string ⟨#[]⟩) by go_cell) hb
      have HB1 := Lib.hid hb; clear hb
      go_wp2
      go_ret
      exact ⟨ret_bool HF.out.symm, ((Below.refl _ _).alloc (Nat.le_refl _) _).trans (HB1.out.mono (by simp))⟩
end Go.Proofs.Ythhmpdjjfoplgaa
