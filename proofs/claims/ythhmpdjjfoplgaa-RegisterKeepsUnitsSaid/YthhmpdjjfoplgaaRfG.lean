/- Issue, the program's and the reference's: walked. -/
import Derived.Test.YthhmpdjjfoplgaaRfF
set_option linter.unusedVariables false
set_option linter.unusedSimpArgs false
namespace Go.Proofs.Ythhmpdjjfoplgaa
open Go.RowKit Reg

namespace Reg
theorem give_one (l : List Lot) (x : Lot) : giveL l [x] = putL l x := rfl
/-- the error of an issue -/
def issE (l : List Lot) (x : Lot) : Int :=
  if checkB l = false then 250 else if acctB x.nom x.hol = false then 251 else if x.ser < 0 ∨ 73048 < x.ser then 252 else if x.units < 1 ∨ 1000000000000000 - sumU l < x.units then 253 else if 256 < (putL l x).length then 254 else 0
def issL (l : List Lot) (x : Lot) : List Lot := if issE l x = 0 then putL l x else []
theorem iss_cases (l : List Lot) (x : Lot) :
    (checkB l = false ∧ issE l x = 250 ∧ issL l x = []) ∨
    (checkB l = true ∧ acctB x.nom x.hol = false ∧ issE l x = 251 ∧ issL l x = []) ∨
    (checkB l = true ∧ acctB x.nom x.hol = true ∧ x.ser < 0 ∧ issE l x = 252 ∧ issL l x = []) ∨
    (checkB l = true ∧ acctB x.nom x.hol = true ∧ ¬ x.ser < 0 ∧ 73048 < x.ser ∧ issE l x = 252 ∧ issL l x = []) ∨
    (checkB l = true ∧ acctB x.nom x.hol = true ∧ ¬ x.ser < 0 ∧ ¬ 73048 < x.ser ∧ x.units < 1 ∧ issE l x = 253 ∧ issL l x = []) ∨
    (checkB l = true ∧ acctB x.nom x.hol = true ∧ ¬ x.ser < 0 ∧ ¬ 73048 < x.ser ∧ ¬ x.units < 1 ∧ 1000000000000000 - sumU l < x.units ∧ issE l x = 253 ∧ issL l x = []) ∨
    (checkB l = true ∧ acctB x.nom x.hol = true ∧ ¬ x.ser < 0 ∧ ¬ 73048 < x.ser ∧ ¬ x.units < 1 ∧ ¬ 1000000000000000 - sumU l < x.units ∧ 256 < (putL l x).length ∧ issE l x = 254 ∧ issL l x = []) ∨
    (checkB l = true ∧ acctB x.nom x.hol = true ∧ ¬ x.ser < 0 ∧ ¬ 73048 < x.ser ∧ ¬ x.units < 1 ∧ ¬ 1000000000000000 - sumU l < x.units ∧ ¬ 256 < (putL l x).length ∧ issE l x = 0 ∧ issL l x = putL l x) := by
  unfold issL issE
  cases h1 : checkB l
  · exact .inl ⟨rfl, by simp, by simp⟩
  refine .inr ?_
  cases h2 : acctB x.nom x.hol
  · exact .inl ⟨rfl, rfl, by simp, by simp⟩
  refine .inr ?_
  by_cases h3 : x.ser < 0
  · exact .inl ⟨rfl, rfl, h3, by simp [h3], by simp [h3]⟩
  refine .inr ?_
  by_cases h4 : 73048 < x.ser
  · exact .inl ⟨rfl, rfl, h3, h4, by simp [h4], by simp [h4]⟩
  refine .inr ?_
  have e1 : ¬ (x.ser < 0 ∨ 73048 < x.ser) := by omega
  by_cases h5 : x.units < 1
  · exact .inl ⟨rfl, rfl, h3, h4, h5, by simp [e1, h5], by simp [e1, h5]⟩
  refine .inr ?_
  by_cases h6 : 1000000000000000 - sumU l < x.units
  · exact .inl ⟨rfl, rfl, h3, h4, h5, h6, by simp [e1, h6], by simp [e1, h6]⟩
  refine .inr ?_
  have e2 : ¬ (x.units < 1 ∨ 1000000000000000 - sumU l < x.units) := by omega
  by_cases h7 : 256 < (putL l x).length
  · have E : (if true = false then (250 : Int) else if true = false then 251 else if x.ser < 0 ∨ 73048 < x.ser then 252 else if x.units < 1 ∨ 1000000000000000 - sumU l < x.units then 253 else if 256 < (putL l x).length then 254 else 0) = 254 := by
      rw [if_neg (by simp), if_neg (by simp), if_neg e1, if_neg e2, if_pos h7]
    exact .inl ⟨rfl, rfl, h3, h4, h5, h6, h7, E, by rw [E]; simp⟩
  · have E : (if true = false then (250 : Int) else if true = false then 251 else if x.ser < 0 ∨ 73048 < x.ser then 252 else if x.units < 1 ∨ 1000000000000000 - sumU l < x.units then 253 else if 256 < (putL l x).length then 254 else 0) = 0 := by
      rw [if_neg (by simp), if_neg (by simp), if_neg e1, if_neg e2, if_neg h7]
    exact .inr ⟨rfl, rfl, h3, h4, h5, h6, h7, E, by rw [E]; simp⟩
end Reg
/-- what an issue hands back -/
def IssP (la : List Lot) (er : Int) (w : World) (e : Ending) (w' : World) : Prop :=
  ∃ va, e = .returned (.tuple #[.agg #[va], .int .i64 er]) ∧ Own w' w.heap.size va la ∧ Below w.heap.size w w'
theorem ret_iss {w w1 : World} {B : Nat} {va : Value} {la : List Lot} {er : Int} {e : Ending} (he : e = .returned (.tuple #[.agg #[va], .int .i64 er])) (ha : Own w1 B va la) (hB : w.heap.size ≤ B) (hw : Below w.heap.size w w1) : IssP la er w e w1 :=
  ⟨va, he, ha.base hB, hw⟩
theorem iss_bd {l : List Lot} {x : Lot} (h1 : checkB l = true) (h5 : ¬ x.units < 1) (h6 : ¬ 1000000000000000 - sumU l < x.units) : (∀ y ∈ [x], 0 ≤ y.units) ∧ sumU l + sumU [x] ≤ 4000000000000000 ∧ 0 ≤ x.units ∧ x.units ≤ 1000000000000000 := by
  obtain ⟨f1, f2, f3, f4, f5⟩ := check_facts h1
  have h0 := (sumU_take l l.length (fun y hy => by have := f5 y hy; omega)).2
  rw [List.take_length] at h0
  refine ⟨fun y hy => by simp at hy; subst hy; omega, ?_, by omega, by omega⟩
  simp [sumU]; omega


set_option maxRecDepth 100000 in
set_option maxHeartbeats 8000000 in
theorem issue_any (v : Value) (l : List Lot) (x : Lot) (w : World) (h : LotsAt w v l) :
    Calls Try.prog 28 #[.agg #[v], .agg #[.string x.nom, .string x.hol], .int .i64 x.ser, .int .i64 x.units] w (IssP (issL l x) (issE l x) w) := by
  obtain ⟨A, cap, hv⟩ := Rd.form h
  subst hv
  have hL := fun W hb => LotsAt.below (w' := W) h hb
  have HL := Lib.hid hL
  have HW := Lib.hid (W3.below w A l.length cap x.nom x.hol)
  rcases iss_cases l x with ⟨h1, e1, e2⟩ | ⟨h1, h2, e1, e2⟩ | ⟨h1, h2, h3, e1, e2⟩ | ⟨h1, h2, h3, h4, e1, e2⟩ | ⟨h1, h2, h3, h4, h5, e1, e2⟩ | ⟨h1, h2, h3, h4, h5, h6, e1, e2⟩ | ⟨h1, h2, h3, h4, h5, h6, h7, e1, e2⟩ | ⟨h1, h2, h3, h4, h5, h6, h7, e1, e2⟩
  · rw [e1, e2]
    have H1 := Lib.hid h1
    obtain ⟨N, hN⟩ : ∃ N, N = l.length := ⟨_, rfl⟩
    rw [← hN] at HW HL ⊢
    have HN := Lib.hid hN
    clear h hL h1 e1 e2 hN
    go_enter Try.func28, Try.ntmps28
    go_wp2_with fail
    refine (check_no _ l (W3 w A N cap x.nom x.hol) (HL.out _ HW.out) H1.out).mono ?_
    rintro e w1 ⟨rfl, hb⟩
    obtain ⟨k0, k1, k2, k3, k4, k5, k6⟩ := W3.kept hb
    have HK := Lib.hid hb
    clear hb k6
    have HK6 := Lib.hid (HW.out.trans (HK.out.mono HW.out.size))
    go_wp2
    refine bodyPost_ret (v := .tuple #[.agg #[.slice none 0 0], .int .i64 250]) (by simp [results, Try.results28, go_sem, k3, k4, k5]) rfl ?_
    exact ret_iss rfl (Own.nil _ _) (Nat.le_refl _) (below_set HK6.out _ _ (by simp; omega))
  · rw [e1, e2]
    have H1 := Lib.hid h1
    have H2 := Lib.hid h2
    obtain ⟨f1, f2, f3, f4, f5⟩ := check_facts h1
    have HU := Lib.hid f5
    have HSR := Lib.hid f4
    have hu0 := (sumU_take l l.length (fun y hy => by have := f5 y hy; omega)).2
    rw [List.take_length] at hu0
    obtain ⟨S, hS⟩ : ∃ S, S = sumU l := ⟨_, rfl⟩
    rw [← hS] at f3 hu0
    have hsub : IntKind.i64.wrap (1000000000000000 - S) = 1000000000000000 - S := IntWalk.i64_in _ (by omega)
    have HF1 := Lib.hid f1
    have HSS := Lib.hid hS
    clear f1 f2 f4 f5 hS
    obtain ⟨N, hN⟩ : ∃ N, N = l.length := ⟨_, rfl⟩
    rw [← hN] at HW HL ⊢
    have HN := Lib.hid hN
    clear h hL h1 e1 e2 hN h2
    go_enter Try.func28, Try.ntmps28
    go_wp2_with fail
    refine (check_yes _ l (W3 w A N cap x.nom x.hol) (HL.out _ HW.out) H1.out).mono ?_
    rintro e w1 ⟨rfl, hb⟩
    obtain ⟨k0, k1, k2, k3, k4, k5, k6⟩ := W3.kept hb
    have HK := Lib.hid hb
    clear hb k6
    go_wp2_with fail
    refine (acctB_any x.nom x.hol false H2.out w1).mono ?_
    rintro e w2 ⟨rfl, hb⟩
    have hb2 := HK.out.trans (hb.mono HK.out.size)
    clear hb k0 k1 k2 k3 k4 k5 HK
    obtain ⟨k0, k1, k2, k3, k4, k5, k6⟩ := W3.kept hb2
    have HK := Lib.hid hb2
    clear hb2 k6
    have HK6 := Lib.hid (HW.out.trans (HK.out.mono HW.out.size))
    go_wp2
    refine bodyPost_ret (v := .tuple #[.agg #[.slice none 0 0], .int .i64 251]) (by simp [results, Try.results28, go_sem, k3, k4, k5]) rfl ?_
    exact ret_iss rfl (Own.nil _ _) (Nat.le_refl _) (below_set HK6.out _ _ (by simp; omega))
  · rw [e1, e2]
    have H1 := Lib.hid h1
    have H2 := Lib.hid h2
    obtain ⟨f1, f2, f3, f4, f5⟩ := check_facts h1
    have HU := Lib.hid f5
    have HSR := Lib.hid f4
    have hu0 := (sumU_take l l.length (fun y hy => by have := f5 y hy; omega)).2
    rw [List.take_length] at hu0
    obtain ⟨S, hS⟩ : ∃ S, S = sumU l := ⟨_, rfl⟩
    rw [← hS] at f3 hu0
    have hsub : IntKind.i64.wrap (1000000000000000 - S) = 1000000000000000 - S := IntWalk.i64_in _ (by omega)
    have HF1 := Lib.hid f1
    have HSS := Lib.hid hS
    clear f1 f2 f4 f5 hS
    obtain ⟨N, hN⟩ : ∃ N, N = l.length := ⟨_, rfl⟩
    rw [← hN] at HW HL ⊢
    have HN := Lib.hid hN
    clear h hL h1 e1 e2 hN h2
    go_enter Try.func28, Try.ntmps28
    go_wp2_with fail
    refine (check_yes _ l (W3 w A N cap x.nom x.hol) (HL.out _ HW.out) H1.out).mono ?_
    rintro e w1 ⟨rfl, hb⟩
    obtain ⟨k0, k1, k2, k3, k4, k5, k6⟩ := W3.kept hb
    have HK := Lib.hid hb
    clear hb k6
    go_wp2_with fail
    refine (acctB_any x.nom x.hol true H2.out w1).mono ?_
    rintro e w2 ⟨rfl, hb⟩
    have hb2 := HK.out.trans (hb.mono HK.out.size)
    clear hb k0 k1 k2 k3 k4 k5 HK
    obtain ⟨k0, k1, k2, k3, k4, k5, k6⟩ := W3.kept hb2
    have HK := Lib.hid hb2
    clear hb2 k6
    have HK6 := Lib.hid (HW.out.trans (HK.out.mono HW.out.size))
    go_wp2
    refine bodyPost_ret (v := .tuple #[.agg #[.slice none 0 0], .int .i64 252]) (by simp [results, Try.results28, go_sem, k3, k4, k5]) rfl ?_
    exact ret_iss rfl (Own.nil _ _) (Nat.le_refl _) (below_set HK6.out _ _ (by simp; omega))
  · rw [e1, e2]
    have H1 := Lib.hid h1
    have H2 := Lib.hid h2
    obtain ⟨f1, f2, f3, f4, f5⟩ := check_facts h1
    have HU := Lib.hid f5
    have HSR := Lib.hid f4
    have hu0 := (sumU_take l l.length (fun y hy => by have := f5 y hy; omega)).2
    rw [List.take_length] at hu0
    obtain ⟨S, hS⟩ : ∃ S, S = sumU l := ⟨_, rfl⟩
    rw [← hS] at f3 hu0
    have hsub : IntKind.i64.wrap (1000000000000000 - S) = 1000000000000000 - S := IntWalk.i64_in _ (by omega)
    have HF1 := Lib.hid f1
    have HSS := Lib.hid hS
    clear f1 f2 f4 f5 hS
    obtain ⟨N, hN⟩ : ∃ N, N = l.length := ⟨_, rfl⟩
    rw [← hN] at HW HL ⊢
    have HN := Lib.hid hN
    clear h hL h1 e1 e2 hN h2
    go_enter Try.func28, Try.ntmps28
    go_wp2_with fail
    refine (check_yes _ l (W3 w A N cap x.nom x.hol) (HL.out _ HW.out) H1.out).mono ?_
    rintro e w1 ⟨rfl, hb⟩
    obtain ⟨k0, k1, k2, k3, k4, k5, k6⟩ := W3.kept hb
    have HK := Lib.hid hb
    clear hb k6
    go_wp2_with fail
    refine (acctB_any x.nom x.hol true H2.out w1).mono ?_
    rintro e w2 ⟨rfl, hb⟩
    have hb2 := HK.out.trans (hb.mono HK.out.size)
    clear hb k0 k1 k2 k3 k4 k5 HK
    obtain ⟨k0, k1, k2, k3, k4, k5, k6⟩ := W3.kept hb2
    have HK := Lib.hid hb2
    clear hb2 k6
    have HK6 := Lib.hid (HW.out.trans (HK.out.mono HW.out.size))
    go_wp2
    refine bodyPost_ret (v := .tuple #[.agg #[.slice none 0 0], .int .i64 252]) (by simp [results, Try.results28, go_sem, k3, k4, k5]) rfl ?_
    exact ret_iss rfl (Own.nil _ _) (Nat.le_refl _) (below_set HK6.out _ _ (by simp; omega))
  · rw [e1, e2]
    have H1 := Lib.hid h1
    have H2 := Lib.hid h2
    obtain ⟨f1, f2, f3, f4, f5⟩ := check_facts h1
    have HU := Lib.hid f5
    have HSR := Lib.hid f4
    have hu0 := (sumU_take l l.length (fun y hy => by have := f5 y hy; omega)).2
    rw [List.take_length] at hu0
    obtain ⟨S, hS⟩ : ∃ S, S = sumU l := ⟨_, rfl⟩
    rw [← hS] at f3 hu0
    have hsub : IntKind.i64.wrap (1000000000000000 - S) = 1000000000000000 - S := IntWalk.i64_in _ (by omega)
    have HF1 := Lib.hid f1
    have HSS := Lib.hid hS
    clear f1 f2 f4 f5 hS
    obtain ⟨N, hN⟩ : ∃ N, N = l.length := ⟨_, rfl⟩
    rw [← hN] at HW HL ⊢
    have HN := Lib.hid hN
    clear h hL h1 e1 e2 hN h2
    go_enter Try.func28, Try.ntmps28
    go_wp2_with fail
    refine (check_yes _ l (W3 w A N cap x.nom x.hol) (HL.out _ HW.out) H1.out).mono ?_
    rintro e w1 ⟨rfl, hb⟩
    obtain ⟨k0, k1, k2, k3, k4, k5, k6⟩ := W3.kept hb
    have HK := Lib.hid hb
    clear hb k6
    go_wp2_with fail
    refine (acctB_any x.nom x.hol true H2.out w1).mono ?_
    rintro e w2 ⟨rfl, hb⟩
    have hb2 := HK.out.trans (hb.mono HK.out.size)
    clear hb k0 k1 k2 k3 k4 k5 HK
    obtain ⟨k0, k1, k2, k3, k4, k5, k6⟩ := W3.kept hb2
    have HK := Lib.hid hb2
    clear hb2 k6
    have HK6 := Lib.hid (HW.out.trans (HK.out.mono HW.out.size))
    go_wp2
    refine bodyPost_ret (v := .tuple #[.agg #[.slice none 0 0], .int .i64 253]) (by simp [results, Try.results28, go_sem, k3, k4, k5]) rfl ?_
    exact ret_iss rfl (Own.nil _ _) (Nat.le_refl _) (below_set HK6.out _ _ (by simp; omega))
  · rw [e1, e2]
    have H1 := Lib.hid h1
    have H2 := Lib.hid h2
    obtain ⟨f1, f2, f3, f4, f5⟩ := check_facts h1
    have HU := Lib.hid f5
    have HSR := Lib.hid f4
    have hu0 := (sumU_take l l.length (fun y hy => by have := f5 y hy; omega)).2
    rw [List.take_length] at hu0
    obtain ⟨S, hS⟩ : ∃ S, S = sumU l := ⟨_, rfl⟩
    rw [← hS] at f3 hu0
    have hsub : IntKind.i64.wrap (1000000000000000 - S) = 1000000000000000 - S := IntWalk.i64_in _ (by omega)
    have HF1 := Lib.hid f1
    rw [← hS] at h6
    have HSS := Lib.hid hS
    clear f1 f2 f4 f5 hS
    obtain ⟨N, hN⟩ : ∃ N, N = l.length := ⟨_, rfl⟩
    rw [← hN] at HW HL ⊢
    have HN := Lib.hid hN
    clear h hL h1 e1 e2 hN h2
    go_enter Try.func28, Try.ntmps28
    go_wp2_with fail
    refine (check_yes _ l (W3 w A N cap x.nom x.hol) (HL.out _ HW.out) H1.out).mono ?_
    rintro e w1 ⟨rfl, hb⟩
    obtain ⟨k0, k1, k2, k3, k4, k5, k6⟩ := W3.kept hb
    have HK := Lib.hid hb
    clear hb k6
    go_wp2_with fail
    refine (acctB_any x.nom x.hol true H2.out w1).mono ?_
    rintro e w2 ⟨rfl, hb⟩
    have hb2 := HK.out.trans (hb.mono HK.out.size)
    clear hb k0 k1 k2 k3 k4 k5 HK
    obtain ⟨k0, k1, k2, k3, k4, k5, k6⟩ := W3.kept hb2
    have HK := Lib.hid hb2
    clear hb2 k6
    go_wp2_with fail
    refine (sum_any _ l w2 (HL.out _ (HW.out.trans (HK.out.mono HW.out.size))) (fun y hy => by have := HU.out y hy; omega) (by have := HN.out; have := HF1.out; omega)).mono ?_
    rintro e w3 ⟨rfl, hb⟩
    rw [← HSS.out]
    have hb3 := HK.out.trans (hb.mono HK.out.size)
    clear hb k0 k1 k2 k3 k4 k5 HK
    obtain ⟨k0, k1, k2, k3, k4, k5, k6⟩ := W3.kept hb3
    have HK := Lib.hid hb3
    clear hb3 k6
    have HK6 := Lib.hid (HW.out.trans (HK.out.mono HW.out.size))
    go_wp2
    refine bodyPost_ret (v := .tuple #[.agg #[.slice none 0 0], .int .i64 253]) (by simp [results, Try.results28, go_sem, k3, k4, k5]) rfl ?_
    exact ret_iss rfl (Own.nil _ _) (Nat.le_refl _) (below_set HK6.out _ _ (by simp; omega))
  · rw [e1, e2]
    have H1 := Lib.hid h1
    have H2 := Lib.hid h2
    obtain ⟨f1, f2, f3, f4, f5⟩ := check_facts h1
    have HU := Lib.hid f5
    have HSR := Lib.hid f4
    have hu0 := (sumU_take l l.length (fun y hy => by have := f5 y hy; omega)).2
    rw [List.take_length] at hu0
    obtain ⟨S, hS⟩ : ∃ S, S = sumU l := ⟨_, rfl⟩
    rw [← hS] at f3 hu0
    have hsub : IntKind.i64.wrap (1000000000000000 - S) = 1000000000000000 - S := IntWalk.i64_in _ (by omega)
    have HF1 := Lib.hid f1
    rw [← hS] at h6
    have HSS := Lib.hid hS
    have HBD := Lib.hid (iss_bd h1 h5 (by rw [← hS]; exact h6))
    obtain ⟨m, hm⟩ : ∃ m, m = (putL l x).length := ⟨_, rfl⟩
    rw [← hm] at h7
    have HM := Lib.hid hm
    clear hm
    clear f1 f2 f4 f5 hS
    obtain ⟨N, hN⟩ : ∃ N, N = l.length := ⟨_, rfl⟩
    rw [← hN] at HW HL ⊢
    have HN := Lib.hid hN
    clear h hL h1 e1 e2 hN h2
    go_enter Try.func28, Try.ntmps28
    go_wp2_with fail
    refine (check_yes _ l (W3 w A N cap x.nom x.hol) (HL.out _ HW.out) H1.out).mono ?_
    rintro e w1 ⟨rfl, hb⟩
    obtain ⟨k0, k1, k2, k3, k4, k5, k6⟩ := W3.kept hb
    have HK := Lib.hid hb
    clear hb k6
    go_wp2_with fail
    refine (acctB_any x.nom x.hol true H2.out w1).mono ?_
    rintro e w2 ⟨rfl, hb⟩
    have hb2 := HK.out.trans (hb.mono HK.out.size)
    clear hb k0 k1 k2 k3 k4 k5 HK
    obtain ⟨k0, k1, k2, k3, k4, k5, k6⟩ := W3.kept hb2
    have HK := Lib.hid hb2
    clear hb2 k6
    go_wp2_with fail
    refine (sum_any _ l w2 (HL.out _ (HW.out.trans (HK.out.mono HW.out.size))) (fun y hy => by have := HU.out y hy; omega) (by have := HN.out; have := HF1.out; omega)).mono ?_
    rintro e w3 ⟨rfl, hb⟩
    rw [← HSS.out]
    have hb3 := HK.out.trans (hb.mono HK.out.size)
    clear hb k0 k1 k2 k3 k4 k5 HK
    obtain ⟨k0, k1, k2, k3, k4, k5, k6⟩ := W3.kept hb3
    have HK := Lib.hid hb3
    clear hb3 k6
    go_wp2_with fail
    have HWW := Lib.hid (HW.out.trans (HK.out.mono HW.out.size))
    have hz3 : w.heap.size + 1 + 1 < w3.heap.size := k5
    refine (give_any (.slice A N cap) (.slice (some ⟨w3.heap.size, 0, none⟩) 1 1) l [x] _ (Rd.alloc (HL.out _ HWW.out) _) (lots_new w3 [x] 41 1 rfl (by simp)) HSR.out (by have := HN.out; have := HF1.out; omega) (by simp) (fun y hy => by have := HU.out y hy; omega) HBD.out.1 HBD.out.2.1).mono ?_
    rintro e w4 ⟨va, rfl, hoa, hb⟩
    rw [give_one] at hoa
    have HO := Lib.hid (hoa.base (show w3.heap.size ≤ _ by simp))
    have hb4 := HK.out.trans (((Below.refl w3.heap.size w3).alloc (Nat.le_refl _) _).trans (hb.mono (by simp)) |>.mono HK.out.size)
    clear hoa hb k0 k1 k2 k3 k4 k5 HK
    obtain ⟨k0, k1, k2, k3, k4, k5, k6⟩ := W3.kept hb4
    have HK := Lib.hid hb4
    obtain ⟨A5, c5, rfl⟩ := Rd.form HO.out.lots
    rw [← HM.out]
    clear hb4 k6
    have HK6 := Lib.hid (HW.out.trans (HK.out.mono HW.out.size))
    go_wp2
    refine bodyPost_ret (v := .tuple #[.agg #[.slice none 0 0], .int .i64 254]) (by simp [results, Try.results28, go_sem, k3, k4, k5]) rfl ?_
    exact ret_iss rfl (Own.nil _ _) (Nat.le_refl _) (below_set HK6.out _ _ (by simp; omega))
  · rw [e1, e2]
    have H1 := Lib.hid h1
    have H2 := Lib.hid h2
    obtain ⟨f1, f2, f3, f4, f5⟩ := check_facts h1
    have HU := Lib.hid f5
    have HSR := Lib.hid f4
    have hu0 := (sumU_take l l.length (fun y hy => by have := f5 y hy; omega)).2
    rw [List.take_length] at hu0
    obtain ⟨S, hS⟩ : ∃ S, S = sumU l := ⟨_, rfl⟩
    rw [← hS] at f3 hu0
    have hsub : IntKind.i64.wrap (1000000000000000 - S) = 1000000000000000 - S := IntWalk.i64_in _ (by omega)
    have HF1 := Lib.hid f1
    rw [← hS] at h6
    have HSS := Lib.hid hS
    have HBD := Lib.hid (iss_bd h1 h5 (by rw [← hS]; exact h6))
    obtain ⟨m, hm⟩ : ∃ m, m = (putL l x).length := ⟨_, rfl⟩
    rw [← hm] at h7
    have HM := Lib.hid hm
    clear hm
    clear f1 f2 f4 f5 hS
    obtain ⟨N, hN⟩ : ∃ N, N = l.length := ⟨_, rfl⟩
    rw [← hN] at HW HL ⊢
    have HN := Lib.hid hN
    clear h hL h1 e1 e2 hN h2
    go_enter Try.func28, Try.ntmps28
    go_wp2_with fail
    refine (check_yes _ l (W3 w A N cap x.nom x.hol) (HL.out _ HW.out) H1.out).mono ?_
    rintro e w1 ⟨rfl, hb⟩
    obtain ⟨k0, k1, k2, k3, k4, k5, k6⟩ := W3.kept hb
    have HK := Lib.hid hb
    clear hb k6
    go_wp2_with fail
    refine (acctB_any x.nom x.hol true H2.out w1).mono ?_
    rintro e w2 ⟨rfl, hb⟩
    have hb2 := HK.out.trans (hb.mono HK.out.size)
    clear hb k0 k1 k2 k3 k4 k5 HK
    obtain ⟨k0, k1, k2, k3, k4, k5, k6⟩ := W3.kept hb2
    have HK := Lib.hid hb2
    clear hb2 k6
    go_wp2_with fail
    refine (sum_any _ l w2 (HL.out _ (HW.out.trans (HK.out.mono HW.out.size))) (fun y hy => by have := HU.out y hy; omega) (by have := HN.out; have := HF1.out; omega)).mono ?_
    rintro e w3 ⟨rfl, hb⟩
    rw [← HSS.out]
    have hb3 := HK.out.trans (hb.mono HK.out.size)
    clear hb k0 k1 k2 k3 k4 k5 HK
    obtain ⟨k0, k1, k2, k3, k4, k5, k6⟩ := W3.kept hb3
    have HK := Lib.hid hb3
    clear hb3 k6
    go_wp2_with fail
    have HWW := Lib.hid (HW.out.trans (HK.out.mono HW.out.size))
    have hz3 : w.heap.size + 1 + 1 < w3.heap.size := k5
    refine (give_any (.slice A N cap) (.slice (some ⟨w3.heap.size, 0, none⟩) 1 1) l [x] _ (Rd.alloc (HL.out _ HWW.out) _) (lots_new w3 [x] 41 1 rfl (by simp)) HSR.out (by have := HN.out; have := HF1.out; omega) (by simp) (fun y hy => by have := HU.out y hy; omega) HBD.out.1 HBD.out.2.1).mono ?_
    rintro e w4 ⟨va, rfl, hoa, hb⟩
    rw [give_one] at hoa
    have HO := Lib.hid (hoa.base (show w3.heap.size ≤ _ by simp))
    have hb4 := HK.out.trans (((Below.refl w3.heap.size w3).alloc (Nat.le_refl _) _).trans (hb.mono (by simp)) |>.mono HK.out.size)
    clear hoa hb k0 k1 k2 k3 k4 k5 HK
    obtain ⟨k0, k1, k2, k3, k4, k5, k6⟩ := W3.kept hb4
    have HK := Lib.hid hb4
    obtain ⟨A5, c5, rfl⟩ := Rd.form HO.out.lots
    rw [← HM.out]
    clear hb4 k6
    have HK6 := Lib.hid (HW.out.trans (HK.out.mono HW.out.size))
    go_wp2
    refine bodyPost_ret (v := .tuple #[.agg #[.slice A5 m c5], .int .i64 0]) (by simp [results, Try.results28, go_sem, k3, k4, k5]) rfl ?_
    have HO2 := HO.out
    rw [← HM.out] at HO2
    have q1 := HO2.setCell ⟨w.heap.size + 1 + 1, 0, none⟩ (.slice A5 m c5) (HO2.ne (.inr (by simp; omega)))
    exact ⟨_, rfl, q1.base (by omega), below_set HK6.out _ _ (by simp; omega)⟩

set_option maxRecDepth 100000 in
set_option maxHeartbeats 8000000 in
theorem rissue_any (v : Value) (l : List Lot) (x : Lot) (w : World) (h : LotsAt w v l) :
    Calls Try.prog 46 #[.agg #[v], .agg #[.string x.nom, .string x.hol], .int .i64 x.ser, .int .i64 x.units] w (IssP (issL l x) (issE l x) w) := by
  obtain ⟨A, cap, hv⟩ := Rd.form h
  subst hv
  have hL := fun W hb => LotsAt.below (w' := W) h hb
  have HL := Lib.hid hL
  have HW := Lib.hid (W3.below w A l.length cap x.nom x.hol)
  rcases iss_cases l x with ⟨h1, e1, e2⟩ | ⟨h1, h2, e1, e2⟩ | ⟨h1, h2, h3, e1, e2⟩ | ⟨h1, h2, h3, h4, e1, e2⟩ | ⟨h1, h2, h3, h4, h5, e1, e2⟩ | ⟨h1, h2, h3, h4, h5, h6, e1, e2⟩ | ⟨h1, h2, h3, h4, h5, h6, h7, e1, e2⟩ | ⟨h1, h2, h3, h4, h5, h6, h7, e1, e2⟩
  · rw [e1, e2]
    have H1 := Lib.hid h1
    obtain ⟨N, hN⟩ : ∃ N, N = l.length := ⟨_, rfl⟩
    rw [← hN] at HW HL ⊢
    have HN := Lib.hid hN
    clear h hL h1 e1 e2 hN
    go_enter Try.func46, Try.ntmps46
    go_wp2_with fail
    have htt : totN l = 0 ∧ totE l = 250 := by unfold totN totE; rw [H1.out]; simp
    have HT := rtotal_any A cap l (W3 w A N cap x.nom x.hol) (by rw [← HN.out]; exact HL.out _ HW.out)
    rw [htt.1, htt.2, ← HN.out] at HT
    refine HT.mono ?_
    clear HT htt
    rintro e w1 ⟨rfl, hb⟩
    obtain ⟨k0, k1, k2, k3, k4, k5, k6⟩ := W3.kept hb
    have HK := Lib.hid hb
    clear hb k6
    have HK6 := Lib.hid (HW.out.trans (HK.out.mono HW.out.size))
    go_wp2
    refine bodyPost_ret (v := .tuple #[.agg #[.slice none 0 0], .int .i64 250]) (by simp [results, Try.results46, go_sem, k3, k4, k5]) rfl ?_
    exact ret_iss rfl (Own.nil _ _) (Nat.le_refl _) (below_set HK6.out _ _ (by simp; omega))
  · rw [e1, e2]
    have H1 := Lib.hid h1
    have H2 := Lib.hid h2
    obtain ⟨f1, f2, f3, f4, f5⟩ := check_facts h1
    have HU := Lib.hid f5
    have HSR := Lib.hid f4
    have hu0 := (sumU_take l l.length (fun y hy => by have := f5 y hy; omega)).2
    rw [List.take_length] at hu0
    obtain ⟨S, hS⟩ : ∃ S, S = sumU l := ⟨_, rfl⟩
    rw [← hS] at f3 hu0
    have hsub : IntKind.i64.wrap (1000000000000000 - S) = 1000000000000000 - S := IntWalk.i64_in _ (by omega)
    have HF1 := Lib.hid f1
    have HSS := Lib.hid hS
    clear f1 f2 f4 f5 hS
    obtain ⟨N, hN⟩ : ∃ N, N = l.length := ⟨_, rfl⟩
    rw [← hN] at HW HL ⊢
    have HN := Lib.hid hN
    clear h hL h1 e1 e2 hN h2
    go_enter Try.func46, Try.ntmps46
    go_wp2_with fail
    have htt : totN l = S ∧ totE l = 0 := by unfold totN totE; rw [H1.out, HSS.out]; simp
    have HT := rtotal_any A cap l (W3 w A N cap x.nom x.hol) (by rw [← HN.out]; exact HL.out _ HW.out)
    rw [htt.1, htt.2, ← HN.out] at HT
    refine HT.mono ?_
    clear HT htt
    rintro e w1 ⟨rfl, hb⟩
    obtain ⟨k0, k1, k2, k3, k4, k5, k6⟩ := W3.kept hb
    have HK := Lib.hid hb
    clear hb k6
    go_wp2_with fail
    refine (racctB_any x.nom x.hol false H2.out w1).mono ?_
    rintro e w2 ⟨rfl, hb⟩
    have hb2 := HK.out.trans (hb.mono HK.out.size)
    clear hb k0 k1 k2 k3 k4 k5 HK
    obtain ⟨k0, k1, k2, k3, k4, k5, k6⟩ := W3.kept hb2
    have HK := Lib.hid hb2
    clear hb2 k6
    have HK6 := Lib.hid (HW.out.trans (HK.out.mono HW.out.size))
    go_wp2
    refine bodyPost_ret (v := .tuple #[.agg #[.slice none 0 0], .int .i64 251]) (by simp [results, Try.results46, go_sem, k3, k4, k5]) rfl ?_
    exact ret_iss rfl (Own.nil _ _) (Nat.le_refl _) (below_set HK6.out _ _ (by simp; omega))
  · rw [e1, e2]
    have H1 := Lib.hid h1
    have H2 := Lib.hid h2
    obtain ⟨f1, f2, f3, f4, f5⟩ := check_facts h1
    have HU := Lib.hid f5
    have HSR := Lib.hid f4
    have hu0 := (sumU_take l l.length (fun y hy => by have := f5 y hy; omega)).2
    rw [List.take_length] at hu0
    obtain ⟨S, hS⟩ : ∃ S, S = sumU l := ⟨_, rfl⟩
    rw [← hS] at f3 hu0
    have hsub : IntKind.i64.wrap (1000000000000000 - S) = 1000000000000000 - S := IntWalk.i64_in _ (by omega)
    have HF1 := Lib.hid f1
    have HSS := Lib.hid hS
    clear f1 f2 f4 f5 hS
    obtain ⟨N, hN⟩ : ∃ N, N = l.length := ⟨_, rfl⟩
    rw [← hN] at HW HL ⊢
    have HN := Lib.hid hN
    clear h hL h1 e1 e2 hN h2
    go_enter Try.func46, Try.ntmps46
    go_wp2_with fail
    have htt : totN l = S ∧ totE l = 0 := by unfold totN totE; rw [H1.out, HSS.out]; simp
    have HT := rtotal_any A cap l (W3 w A N cap x.nom x.hol) (by rw [← HN.out]; exact HL.out _ HW.out)
    rw [htt.1, htt.2, ← HN.out] at HT
    refine HT.mono ?_
    clear HT htt
    rintro e w1 ⟨rfl, hb⟩
    obtain ⟨k0, k1, k2, k3, k4, k5, k6⟩ := W3.kept hb
    have HK := Lib.hid hb
    clear hb k6
    go_wp2_with fail
    refine (racctB_any x.nom x.hol true H2.out w1).mono ?_
    rintro e w2 ⟨rfl, hb⟩
    have hb2 := HK.out.trans (hb.mono HK.out.size)
    clear hb k0 k1 k2 k3 k4 k5 HK
    obtain ⟨k0, k1, k2, k3, k4, k5, k6⟩ := W3.kept hb2
    have HK := Lib.hid hb2
    clear hb2 k6
    have HK6 := Lib.hid (HW.out.trans (HK.out.mono HW.out.size))
    go_wp2
    refine bodyPost_ret (v := .tuple #[.agg #[.slice none 0 0], .int .i64 252]) (by simp [results, Try.results46, go_sem, k3, k4, k5]) rfl ?_
    exact ret_iss rfl (Own.nil _ _) (Nat.le_refl _) (below_set HK6.out _ _ (by simp; omega))
  · rw [e1, e2]
    have H1 := Lib.hid h1
    have H2 := Lib.hid h2
    obtain ⟨f1, f2, f3, f4, f5⟩ := check_facts h1
    have HU := Lib.hid f5
    have HSR := Lib.hid f4
    have hu0 := (sumU_take l l.length (fun y hy => by have := f5 y hy; omega)).2
    rw [List.take_length] at hu0
    obtain ⟨S, hS⟩ : ∃ S, S = sumU l := ⟨_, rfl⟩
    rw [← hS] at f3 hu0
    have hsub : IntKind.i64.wrap (1000000000000000 - S) = 1000000000000000 - S := IntWalk.i64_in _ (by omega)
    have HF1 := Lib.hid f1
    have HSS := Lib.hid hS
    clear f1 f2 f4 f5 hS
    obtain ⟨N, hN⟩ : ∃ N, N = l.length := ⟨_, rfl⟩
    rw [← hN] at HW HL ⊢
    have HN := Lib.hid hN
    clear h hL h1 e1 e2 hN h2
    go_enter Try.func46, Try.ntmps46
    go_wp2_with fail
    have htt : totN l = S ∧ totE l = 0 := by unfold totN totE; rw [H1.out, HSS.out]; simp
    have HT := rtotal_any A cap l (W3 w A N cap x.nom x.hol) (by rw [← HN.out]; exact HL.out _ HW.out)
    rw [htt.1, htt.2, ← HN.out] at HT
    refine HT.mono ?_
    clear HT htt
    rintro e w1 ⟨rfl, hb⟩
    obtain ⟨k0, k1, k2, k3, k4, k5, k6⟩ := W3.kept hb
    have HK := Lib.hid hb
    clear hb k6
    go_wp2_with fail
    refine (racctB_any x.nom x.hol true H2.out w1).mono ?_
    rintro e w2 ⟨rfl, hb⟩
    have hb2 := HK.out.trans (hb.mono HK.out.size)
    clear hb k0 k1 k2 k3 k4 k5 HK
    obtain ⟨k0, k1, k2, k3, k4, k5, k6⟩ := W3.kept hb2
    have HK := Lib.hid hb2
    clear hb2 k6
    have HK6 := Lib.hid (HW.out.trans (HK.out.mono HW.out.size))
    go_wp2
    refine bodyPost_ret (v := .tuple #[.agg #[.slice none 0 0], .int .i64 252]) (by simp [results, Try.results46, go_sem, k3, k4, k5]) rfl ?_
    exact ret_iss rfl (Own.nil _ _) (Nat.le_refl _) (below_set HK6.out _ _ (by simp; omega))
  · rw [e1, e2]
    have H1 := Lib.hid h1
    have H2 := Lib.hid h2
    obtain ⟨f1, f2, f3, f4, f5⟩ := check_facts h1
    have HU := Lib.hid f5
    have HSR := Lib.hid f4
    have hu0 := (sumU_take l l.length (fun y hy => by have := f5 y hy; omega)).2
    rw [List.take_length] at hu0
    obtain ⟨S, hS⟩ : ∃ S, S = sumU l := ⟨_, rfl⟩
    rw [← hS] at f3 hu0
    have hsub : IntKind.i64.wrap (1000000000000000 - S) = 1000000000000000 - S := IntWalk.i64_in _ (by omega)
    have HF1 := Lib.hid f1
    have HSS := Lib.hid hS
    clear f1 f2 f4 f5 hS
    obtain ⟨N, hN⟩ : ∃ N, N = l.length := ⟨_, rfl⟩
    rw [← hN] at HW HL ⊢
    have HN := Lib.hid hN
    clear h hL h1 e1 e2 hN h2
    go_enter Try.func46, Try.ntmps46
    go_wp2_with fail
    have htt : totN l = S ∧ totE l = 0 := by unfold totN totE; rw [H1.out, HSS.out]; simp
    have HT := rtotal_any A cap l (W3 w A N cap x.nom x.hol) (by rw [← HN.out]; exact HL.out _ HW.out)
    rw [htt.1, htt.2, ← HN.out] at HT
    refine HT.mono ?_
    clear HT htt
    rintro e w1 ⟨rfl, hb⟩
    obtain ⟨k0, k1, k2, k3, k4, k5, k6⟩ := W3.kept hb
    have HK := Lib.hid hb
    clear hb k6
    go_wp2_with fail
    refine (racctB_any x.nom x.hol true H2.out w1).mono ?_
    rintro e w2 ⟨rfl, hb⟩
    have hb2 := HK.out.trans (hb.mono HK.out.size)
    clear hb k0 k1 k2 k3 k4 k5 HK
    obtain ⟨k0, k1, k2, k3, k4, k5, k6⟩ := W3.kept hb2
    have HK := Lib.hid hb2
    clear hb2 k6
    have HK6 := Lib.hid (HW.out.trans (HK.out.mono HW.out.size))
    go_wp2
    refine bodyPost_ret (v := .tuple #[.agg #[.slice none 0 0], .int .i64 253]) (by simp [results, Try.results46, go_sem, k3, k4, k5]) rfl ?_
    exact ret_iss rfl (Own.nil _ _) (Nat.le_refl _) (below_set HK6.out _ _ (by simp; omega))
  · rw [e1, e2]
    have H1 := Lib.hid h1
    have H2 := Lib.hid h2
    obtain ⟨f1, f2, f3, f4, f5⟩ := check_facts h1
    have HU := Lib.hid f5
    have HSR := Lib.hid f4
    have hu0 := (sumU_take l l.length (fun y hy => by have := f5 y hy; omega)).2
    rw [List.take_length] at hu0
    obtain ⟨S, hS⟩ : ∃ S, S = sumU l := ⟨_, rfl⟩
    rw [← hS] at f3 hu0
    have hsub : IntKind.i64.wrap (1000000000000000 - S) = 1000000000000000 - S := IntWalk.i64_in _ (by omega)
    have HF1 := Lib.hid f1
    rw [← hS] at h6
    have HSS := Lib.hid hS
    clear f1 f2 f4 f5 hS
    obtain ⟨N, hN⟩ : ∃ N, N = l.length := ⟨_, rfl⟩
    rw [← hN] at HW HL ⊢
    have HN := Lib.hid hN
    clear h hL h1 e1 e2 hN h2
    go_enter Try.func46, Try.ntmps46
    go_wp2_with fail
    have htt : totN l = S ∧ totE l = 0 := by unfold totN totE; rw [H1.out, HSS.out]; simp
    have HT := rtotal_any A cap l (W3 w A N cap x.nom x.hol) (by rw [← HN.out]; exact HL.out _ HW.out)
    rw [htt.1, htt.2, ← HN.out] at HT
    refine HT.mono ?_
    clear HT htt
    rintro e w1 ⟨rfl, hb⟩
    obtain ⟨k0, k1, k2, k3, k4, k5, k6⟩ := W3.kept hb
    have HK := Lib.hid hb
    clear hb k6
    go_wp2_with fail
    refine (racctB_any x.nom x.hol true H2.out w1).mono ?_
    rintro e w2 ⟨rfl, hb⟩
    have hb2 := HK.out.trans (hb.mono HK.out.size)
    clear hb k0 k1 k2 k3 k4 k5 HK
    obtain ⟨k0, k1, k2, k3, k4, k5, k6⟩ := W3.kept hb2
    have HK := Lib.hid hb2
    clear hb2 k6
    have HK6 := Lib.hid (HW.out.trans (HK.out.mono HW.out.size))
    go_wp2
    refine bodyPost_ret (v := .tuple #[.agg #[.slice none 0 0], .int .i64 253]) (by simp [results, Try.results46, go_sem, k3, k4, k5]) rfl ?_
    exact ret_iss rfl (Own.nil _ _) (Nat.le_refl _) (below_set HK6.out _ _ (by simp; omega))
  · rw [e1, e2]
    have H1 := Lib.hid h1
    have H2 := Lib.hid h2
    obtain ⟨f1, f2, f3, f4, f5⟩ := check_facts h1
    have HU := Lib.hid f5
    have HSR := Lib.hid f4
    have hu0 := (sumU_take l l.length (fun y hy => by have := f5 y hy; omega)).2
    rw [List.take_length] at hu0
    obtain ⟨S, hS⟩ : ∃ S, S = sumU l := ⟨_, rfl⟩
    rw [← hS] at f3 hu0
    have hsub : IntKind.i64.wrap (1000000000000000 - S) = 1000000000000000 - S := IntWalk.i64_in _ (by omega)
    have HF1 := Lib.hid f1
    rw [← hS] at h6
    have HSS := Lib.hid hS
    have HBD := Lib.hid (iss_bd h1 h5 (by rw [← hS]; exact h6))
    obtain ⟨m, hm⟩ : ∃ m, m = (putL l x).length := ⟨_, rfl⟩
    rw [← hm] at h7
    have HM := Lib.hid hm
    clear hm
    clear f1 f2 f4 f5 hS
    obtain ⟨N, hN⟩ : ∃ N, N = l.length := ⟨_, rfl⟩
    rw [← hN] at HW HL ⊢
    have HN := Lib.hid hN
    clear h hL h1 e1 e2 hN h2
    go_enter Try.func46, Try.ntmps46
    go_wp2_with fail
    have htt : totN l = S ∧ totE l = 0 := by unfold totN totE; rw [H1.out, HSS.out]; simp
    have HT := rtotal_any A cap l (W3 w A N cap x.nom x.hol) (by rw [← HN.out]; exact HL.out _ HW.out)
    rw [htt.1, htt.2, ← HN.out] at HT
    refine HT.mono ?_
    clear HT htt
    rintro e w1 ⟨rfl, hb⟩
    obtain ⟨k0, k1, k2, k3, k4, k5, k6⟩ := W3.kept hb
    have HK := Lib.hid hb
    clear hb k6
    go_wp2_with fail
    refine (racctB_any x.nom x.hol true H2.out w1).mono ?_
    rintro e w2 ⟨rfl, hb⟩
    have hb2 := HK.out.trans (hb.mono HK.out.size)
    clear hb k0 k1 k2 k3 k4 k5 HK
    obtain ⟨k0, k1, k2, k3, k4, k5, k6⟩ := W3.kept hb2
    have HK := Lib.hid hb2
    clear hb2 k6
    go_wp2_with fail
    have HWW := Lib.hid (HW.out.trans (HK.out.mono HW.out.size))
    have hz3 : w.heap.size + 1 + 1 < w2.heap.size := k5
    refine (rput_any (.slice A N cap) l x w2 (HL.out _ HWW.out) (by have := HN.out; have := HF1.out; omega) (fun y hy => by have := HU.out y hy; omega) HBD.out.2.2.1 HBD.out.2.2.2).mono ?_
    rintro e w4 ⟨va, rfl, hoa, hb⟩
    rw [putR_eq x HSR.out] at hoa
    have HO := Lib.hid hoa
    have hb4 := HK.out.trans (hb.mono HK.out.size)
    clear hoa hb k0 k1 k2 k3 k4 k5 HK
    obtain ⟨k0, k1, k2, k3, k4, k5, k6⟩ := W3.kept hb4
    have HK := Lib.hid hb4
    obtain ⟨A5, c5, rfl⟩ := Rd.form HO.out.lots
    rw [← HM.out]
    clear hb4 k6
    have HK6 := Lib.hid (HW.out.trans (HK.out.mono HW.out.size))
    go_wp2
    refine bodyPost_ret (v := .tuple #[.agg #[.slice none 0 0], .int .i64 254]) (by simp [results, Try.results46, go_sem, k3, k4, k5]) rfl ?_
    exact ret_iss rfl (Own.nil _ _) (Nat.le_refl _) (below_set HK6.out _ _ (by simp; omega))
  · rw [e1, e2]
    have H1 := Lib.hid h1
    have H2 := Lib.hid h2
    obtain ⟨f1, f2, f3, f4, f5⟩ := check_facts h1
    have HU := Lib.hid f5
    have HSR := Lib.hid f4
    have hu0 := (sumU_take l l.length (fun y hy => by have := f5 y hy; omega)).2
    rw [List.take_length] at hu0
    obtain ⟨S, hS⟩ : ∃ S, S = sumU l := ⟨_, rfl⟩
    rw [← hS] at f3 hu0
    have hsub : IntKind.i64.wrap (1000000000000000 - S) = 1000000000000000 - S := IntWalk.i64_in _ (by omega)
    have HF1 := Lib.hid f1
    rw [← hS] at h6
    have HSS := Lib.hid hS
    have HBD := Lib.hid (iss_bd h1 h5 (by rw [← hS]; exact h6))
    obtain ⟨m, hm⟩ : ∃ m, m = (putL l x).length := ⟨_, rfl⟩
    rw [← hm] at h7
    have HM := Lib.hid hm
    clear hm
    clear f1 f2 f4 f5 hS
    obtain ⟨N, hN⟩ : ∃ N, N = l.length := ⟨_, rfl⟩
    rw [← hN] at HW HL ⊢
    have HN := Lib.hid hN
    clear h hL h1 e1 e2 hN h2
    go_enter Try.func46, Try.ntmps46
    go_wp2_with fail
    have htt : totN l = S ∧ totE l = 0 := by unfold totN totE; rw [H1.out, HSS.out]; simp
    have HT := rtotal_any A cap l (W3 w A N cap x.nom x.hol) (by rw [← HN.out]; exact HL.out _ HW.out)
    rw [htt.1, htt.2, ← HN.out] at HT
    refine HT.mono ?_
    clear HT htt
    rintro e w1 ⟨rfl, hb⟩
    obtain ⟨k0, k1, k2, k3, k4, k5, k6⟩ := W3.kept hb
    have HK := Lib.hid hb
    clear hb k6
    go_wp2_with fail
    refine (racctB_any x.nom x.hol true H2.out w1).mono ?_
    rintro e w2 ⟨rfl, hb⟩
    have hb2 := HK.out.trans (hb.mono HK.out.size)
    clear hb k0 k1 k2 k3 k4 k5 HK
    obtain ⟨k0, k1, k2, k3, k4, k5, k6⟩ := W3.kept hb2
    have HK := Lib.hid hb2
    clear hb2 k6
    go_wp2_with fail
    have HWW := Lib.hid (HW.out.trans (HK.out.mono HW.out.size))
    have hz3 : w.heap.size + 1 + 1 < w2.heap.size := k5
    refine (rput_any (.slice A N cap) l x w2 (HL.out _ HWW.out) (by have := HN.out; have := HF1.out; omega) (fun y hy => by have := HU.out y hy; omega) HBD.out.2.2.1 HBD.out.2.2.2).mono ?_
    rintro e w4 ⟨va, rfl, hoa, hb⟩
    rw [putR_eq x HSR.out] at hoa
    have HO := Lib.hid hoa
    have hb4 := HK.out.trans (hb.mono HK.out.size)
    clear hoa hb k0 k1 k2 k3 k4 k5 HK
    obtain ⟨k0, k1, k2, k3, k4, k5, k6⟩ := W3.kept hb4
    have HK := Lib.hid hb4
    obtain ⟨A5, c5, rfl⟩ := Rd.form HO.out.lots
    rw [← HM.out]
    clear hb4 k6
    have HK6 := Lib.hid (HW.out.trans (HK.out.mono HW.out.size))
    go_wp2
    refine bodyPost_ret (v := .tuple #[.agg #[.slice A5 m c5], .int .i64 0]) (by simp [results, Try.results46, go_sem, k3, k4, k5]) rfl ?_
    have HO2 := HO.out
    rw [← HM.out] at HO2
    have q1 := HO2.setCell ⟨w.heap.size + 1 + 1, 0, none⟩ (.slice A5 m c5) (HO2.ne (.inr (by simp; omega)))
    exact ⟨_, rfl, q1.base (by omega), below_set HK6.out _ _ (by simp; omega)⟩
end Go.Proofs.Ythhmpdjjfoplgaa
