/- register.Redeem and the reference's Redeem, walked. -/
import Derived.Test.YthhmpdjjfoplgaaRegR
set_option linter.unusedVariables false
set_option linter.unusedSimpArgs false
namespace Go.Proofs.Ythhmpdjjfoplgaa
open Go.RowKit Reg

theorem check_yes (v : Value) (l : List Lot) (w : World) (h : LotsAt w v l) (hc : checkB l = true) :
    Calls Try.prog 29 #[.agg #[v]] w fun e w' => e = .returned (.int .i64 0) ∧ Below w.heap.size w w' := by
  have := check_any v l w h; unfold OutE at this; rw [hc] at this; exact this
theorem check_no (v : Value) (l : List Lot) (w : World) (h : LotsAt w v l) (hc : checkB l = false) :
    Calls Try.prog 29 #[.agg #[v]] w fun e w' => e = .returned (.int .i64 250) ∧ Below w.heap.size w w' := by
  have := check_any v l w h; unfold OutE at this; rw [hc] at this; exact this
theorem rcheck_yes (v : Value) (l : List Lot) (w : World) (h : LotsAt w v l) (hc : checkB l = true) :
    Calls Try.prog 37 #[.agg #[v]] w fun e w' => e = .returned (.int .i64 0) ∧ Below w.heap.size w w' := by
  have := rcheck_any v l w h; unfold OutE at this; rw [hc] at this; exact this
theorem rcheck_no (v : Value) (l : List Lot) (w : World) (h : LotsAt w v l) (hc : checkB l = false) :
    Calls Try.prog 37 #[.agg #[v]] w fun e w' => e = .returned (.int .i64 250) ∧ Below w.heap.size w w' := by
  have := rcheck_any v l w h; unfold OutE at this; rw [hc] at this; exact this
theorem acctB_any (nm hl : ByteArray) (b : Bool) (h : acctB nm hl = b) (w : World) :
    Calls Try.prog 39 #[.agg #[.string nm, .string hl]] w fun e w' => e = .returned (.bool b) ∧ Below w.heap.size w w' := by
  rw [← h]; exact acct_any nm hl w

namespace Reg
theorem check_facts {l : List Lot} (h : checkB l = true) : l.length ≤ 256 ∧ okL l = true ∧ sumU l ≤ 1000000000000000 ∧ Srt l ∧ ∀ x ∈ l, 1 ≤ x.units ∧ x.units ≤ 1000000000000000 := by
  simp only [checkB, Bool.and_eq_true, decide_eq_true_eq] at h
  exact ⟨h.1.1, h.1.2, h.2, okL_srt h.1.2, fun x hx => ⟨(right_bd (okL_right h.1.2 x hx)).1, (right_bd (okL_right h.1.2 x hx)).2.1⟩⟩
/-- the error of a redemption -/
def redE (l : List Lot) (nm hl : ByteArray) (n : Int) : Int := if checkB l = false then 250 else if acctB nm hl = false then 251 else if n < 0 ∨ 1000000000000000 < n then 253 else 0
/-- what is left and what was taken -/
def redL (l : List Lot) (nm hl : ByteArray) (n : Int) : List Lot × List Lot := if redE l nm hl n = 0 then takeR nm hl l n else ([], [])
theorem redE_cases (l : List Lot) (nm hl : ByteArray) (n : Int) : (checkB l = false ∧ redE l nm hl n = 250 ∧ redL l nm hl n = ([], [])) ∨ (checkB l = true ∧ acctB nm hl = false ∧ redE l nm hl n = 251 ∧ redL l nm hl n = ([], [])) ∨
    (checkB l = true ∧ acctB nm hl = true ∧ n < 0 ∧ redE l nm hl n = 253 ∧ redL l nm hl n = ([], [])) ∨ (checkB l = true ∧ acctB nm hl = true ∧ ¬ n < 0 ∧ 1000000000000000 < n ∧ redE l nm hl n = 253 ∧ redL l nm hl n = ([], [])) ∨
    (checkB l = true ∧ acctB nm hl = true ∧ 0 ≤ n ∧ n ≤ 1000000000000000 ∧ redE l nm hl n = 0 ∧ redL l nm hl n = takeR nm hl l n) := by
  unfold redL redE
  cases h1 : checkB l
  · exact .inl ⟨rfl, by simp, by simp⟩
  · cases h2 : acctB nm hl
    · exact .inr (.inl ⟨rfl, rfl, by simp, by simp⟩)
    · by_cases h3 : n < 0
      · exact .inr (.inr (.inl ⟨rfl, rfl, h3, by simp [h3], by simp [h3]⟩))
      · by_cases h4 : 1000000000000000 < n
        · exact .inr (.inr (.inr (.inl ⟨rfl, rfl, h3, h4, by simp [h4], by simp [h4]⟩)))
        · have h5 : ¬ (n < 0 ∨ 1000000000000000 < n) := by omega
          exact .inr (.inr (.inr (.inr ⟨rfl, rfl, by omega, by omega, by simp [h5], by simp [h5]⟩)))
theorem own_units {nm hl : ByteArray} {l : List Lot} (h : ∀ x ∈ l, 1 ≤ x.units ∧ x.units ≤ 1000000000000000) : (∀ x ∈ ownL nm hl l, 1 ≤ x.units ∧ x.units ≤ 1000000000000000) ∧ (∀ x ∈ othL nm hl l, 0 ≤ x.units) := by
  refine ⟨fun x hx => h x (List.mem_filter.1 hx).1, fun x hx => ?_⟩
  have := h x (List.mem_filter.1 hx).1
  omega
theorem own_split (nm hl : ByteArray) (l : List Lot) : sumU (ownL nm hl l) + sumU (othL nm hl l) = sumU l ∧ (ownL nm hl l).length + (othL nm hl l).length = l.length := by
  induction l with
  | nil => simp [ownL, othL, sumU]
  | cons x l ih =>
    cases h : ownB nm hl x
    · simp only [ownL, othL, List.filter_cons, h] at ih ⊢; simp [sumU]; omega
    · simp only [ownL, othL, List.filter_cons, h] at ih ⊢; simp [sumU]; omega
theorem takeP_sum (l : List Lot) (n : Int) (hn : 0 ≤ n) (h : ∀ x ∈ l, 1 ≤ x.units) : sumU (takeP l n).1 + sumU (takeP l n).2 = sumU l ∧ (∀ x ∈ (takeP l n).1, 0 ≤ x.units) ∧ (∀ x ∈ (takeP l n).2, 1 ≤ x.units) := by
  induction l generalizing n with
  | nil => simp [takeP, sumU]
  | cons x l ih =>
    have hx := h x (by simp)
    obtain ⟨i1, i2, i3⟩ := ih (n - min n x.units) (by omega) (fun y hy => h y (by simp [hy]))
    simp only [takeP]
    refine ⟨?_, ?_, ?_⟩
    · split <;> split <;> simp only [sumU, Lot.more] <;> omega
    · split
      · intro y hy
        rcases List.mem_cons.1 hy with rfl | hy
        · simp only [Lot.more]; omega
        · exact i2 y hy
      · exact i2
    · split
      · intro y hy
        rcases List.mem_cons.1 hy with rfl | hy
        · simp only; omega
        · exact i3 y hy
      · exact i3
theorem takeP_sum_le (l : List Lot) (n : Int) (hn : 0 ≤ n) (h : ∀ x ∈ l, 1 ≤ x.units) : sumU (takeP l n).1 ≤ sumU l := by
  obtain ⟨h1, h2, h3⟩ := takeP_sum l n hn h
  have := (sumU_take (takeP l n).2 (takeP l n).2.length (fun x hx => by have := h3 x hx; omega)).2
  rw [List.take_length] at this
  omega
end Reg
/-- what a redemption hands back -/
def RedP (la lb : List Lot) (er : Int) (w : World) (e : Ending) (w' : World) : Prop :=
  ∃ va vb, e = .returned (.tuple #[.agg #[va], vb, .int .i64 er]) ∧ Own w' w.heap.size va la ∧ Own w' w.heap.size vb lb ∧ Below w.heap.size w w'

/-- the world in which a redemption begins: the register, the account and the result laid -/
def W3 (w : World) (A : Option Addr) (n cap : Nat) (nm hl : ByteArray) : World := ((w.alloc (.cells #[.slice A n cap] 24)).alloc (.cells #[.string nm, .string hl] 26)).alloc (.cells #[.slice none 0 0] 24)
theorem W3.size_ {w : World} {A : Option Addr} {n cap : Nat} {nm hl : ByteArray} : (W3 w A n cap nm hl).heap.size = w.heap.size + 1 + 1 + 1 := by simp [W3]
theorem W3.below (w : World) (A : Option Addr) (n cap : Nat) (nm hl : ByteArray) : Below w.heap.size w (W3 w A n cap nm hl) := (((Below.refl w.heap.size w).alloc (Nat.le_refl _) _).alloc (by simp) _).alloc (by simp only [World.size_alloc]; omega) _
theorem W3.kept {w w1 : World} {A : Option Addr} {n cap : Nat} {nm hl : ByteArray} (hb : Below (W3 w A n cap nm hl).heap.size (W3 w A n cap nm hl) w1) :
    w1.cell? ⟨w.heap.size, 0, none⟩ = some (.slice A n cap) ∧ w1.cell? ⟨w.heap.size + 1, 0, none⟩ = some (.string nm) ∧ w1.cell? ⟨w.heap.size + 1, 1, none⟩ = some (.string hl) ∧ w1.cell? ⟨w.heap.size + 1 + 1, 0, none⟩ = some (.slice none 0 0) ∧
    w1.frozen? ⟨w.heap.size + 1 + 1, 0, none⟩ = false ∧ w.heap.size + 1 + 1 < w1.heap.size ∧ Below w.heap.size w w1 := by
  have hs := hb.size
  rw [W3.size_] at hs
  refine ⟨cell_up (by unfold W3; go_cell) hb, cell_up (by unfold W3; go_cell) hb, cell_up (by unfold W3; go_cell) hb, cell_up (by unfold W3; go_cell) hb, ?_, by omega, (W3.below w A n cap nm hl).trans (hb.mono (W3.below w A n cap nm hl).size)⟩
  rw [hb.frozen (p := ⟨w.heap.size + 1 + 1, 0, none⟩) (by rw [W3.size_]; simp)]
  unfold W3
  exact World.frozen?_alloc_at _ _ _ _ (by simp)
/-- the result stored, and handed back -/
theorem ret_red {w w1 : World} {B : Nat} {vb : Value} {lb : List Lot} {va : Value} {la : List Lot} {er : Int} {e : Ending} (he : e = .returned (.tuple #[.agg #[va], vb, .int .i64 er])) (ha : Own w1 B va la) (hb : Own w1 B vb lb) (hB : w.heap.size ≤ B) (hw : Below w.heap.size w w1) : RedP la lb er w e w1 :=
  ⟨va, vb, he, ha.base hB, hb.base hB, hw⟩

set_option maxRecDepth 100000 in
set_option maxHeartbeats 4000000 in
theorem redeem_any (v : Value) (l : List Lot) (nm hl : ByteArray) (n : Int) (w : World) (h : LotsAt w v l) :
    Calls Try.prog 19 #[regV v, .agg #[.string nm, .string hl], .int .i64 n] w (RedP (redL l nm hl n).1 (redL l nm hl n).2 (redE l nm hl n) w) := by
  unfold regV
  obtain ⟨A, cap, hv⟩ := Rd.form h
  have hL := fun W hb => LotsAt.below (w' := W) h hb
  have HL := Lib.hid hL
  rcases redE_cases l nm hl n with ⟨h1, e1, e2⟩ | ⟨h1, h2, e1, e2⟩ | ⟨h1, h2, h3, e1, e2⟩ | ⟨h1, h2, h3, h4, e1, e2⟩ | ⟨h1, h2, h3, h4, e1, e2⟩
  · rw [e1, e2]
    subst hv
    have H1 := Lib.hid h1
    have HW := Lib.hid (W3.below w A l.length cap nm hl)
    clear h hL h1 e1 e2
    go_enter Try.func19, Try.ntmps19
    go_wp2_with fail
    refine (check_no _ l (W3 w A l.length cap nm hl) (HL.out _ HW.out) H1.out).mono ?_
    rintro e w1 ⟨rfl, hb⟩
    obtain ⟨k0, k1, k2, k3, k4, k5, k6⟩ := W3.kept hb
    have HK := Lib.hid k6
    clear hb k6
    go_wp2
    refine bodyPost_ret (v := .tuple #[.agg #[.slice none 0 0], .slice none 0 0, .int .i64 250]) (by simp [results, Try.results19, go_sem, k3, k4, k5]) rfl ?_
    exact ret_red rfl (Own.nil _ _) (Own.nil _ _) (Nat.le_refl _) (below_set HK.out _ _ (by simp; omega))
  · rw [e1, e2]
    subst hv
    have H1 := Lib.hid h1
    have H2 := Lib.hid h2
    have HW := Lib.hid (W3.below w A l.length cap nm hl)
    clear h hL h1 h2 e1 e2
    go_enter Try.func19, Try.ntmps19
    go_wp2_with fail
    refine (check_yes _ l (W3 w A l.length cap nm hl) (HL.out _ HW.out) H1.out).mono ?_
    rintro e w1 ⟨rfl, hb⟩
    obtain ⟨k0, k1, k2, k3, k4, k5, k6⟩ := W3.kept hb
    have HK := Lib.hid hb
    clear hb k6
    go_wp2_with fail
    refine (acctB_any nm hl false H2.out w1).mono ?_
    rintro e w2 ⟨rfl, hb⟩
    have hb2 := HK.out.trans (hb.mono HK.out.size)
    clear hb k0 k1 k2 k3 k4 k5
    obtain ⟨k0, k1, k2, k3, k4, k5, k6⟩ := W3.kept hb2
    have HK2 := Lib.hid k6
    clear hb2 k6
    go_wp2
    refine bodyPost_ret (v := .tuple #[.agg #[.slice none 0 0], .slice none 0 0, .int .i64 251]) (by simp [results, Try.results19, go_sem, k3, k4, k5]) rfl ?_
    exact ret_red rfl (Own.nil _ _) (Own.nil _ _) (Nat.le_refl _) (below_set HK2.out _ _ (by simp; omega))
  · rw [e1, e2]
    subst hv
    have H1 := Lib.hid h1
    have H2 := Lib.hid h2
    have HW := Lib.hid (W3.below w A l.length cap nm hl)
    clear h hL h1 h2 e1 e2
    go_enter Try.func19, Try.ntmps19
    go_wp2_with fail
    refine (check_yes _ l (W3 w A l.length cap nm hl) (HL.out _ HW.out) H1.out).mono ?_
    rintro e w1 ⟨rfl, hb⟩
    obtain ⟨k0, k1, k2, k3, k4, k5, k6⟩ := W3.kept hb
    have HK := Lib.hid hb
    clear hb k6
    go_wp2_with fail
    refine (acctB_any nm hl true H2.out w1).mono ?_
    rintro e w2 ⟨rfl, hb⟩
    have hb2 := HK.out.trans (hb.mono HK.out.size)
    clear hb k0 k1 k2 k3 k4 k5
    obtain ⟨k0, k1, k2, k3, k4, k5, k6⟩ := W3.kept hb2
    have HK2 := Lib.hid k6
    clear hb2 k6
    go_wp2
    refine bodyPost_ret (v := .tuple #[.agg #[.slice none 0 0], .slice none 0 0, .int .i64 253]) (by simp [results, Try.results19, go_sem, k3, k4, k5]) rfl ?_
    exact ret_red rfl (Own.nil _ _) (Own.nil _ _) (Nat.le_refl _) (below_set HK2.out _ _ (by simp; omega))
  · rw [e1, e2]
    subst hv
    have H1 := Lib.hid h1
    have H2 := Lib.hid h2
    have HW := Lib.hid (W3.below w A l.length cap nm hl)
    clear h hL h1 h2 e1 e2
    go_enter Try.func19, Try.ntmps19
    go_wp2_with fail
    refine (check_yes _ l (W3 w A l.length cap nm hl) (HL.out _ HW.out) H1.out).mono ?_
    rintro e w1 ⟨rfl, hb⟩
    obtain ⟨k0, k1, k2, k3, k4, k5, k6⟩ := W3.kept hb
    have HK := Lib.hid hb
    clear hb k6
    go_wp2_with fail
    refine (acctB_any nm hl true H2.out w1).mono ?_
    rintro e w2 ⟨rfl, hb⟩
    have hb2 := HK.out.trans (hb.mono HK.out.size)
    clear hb k0 k1 k2 k3 k4 k5
    obtain ⟨k0, k1, k2, k3, k4, k5, k6⟩ := W3.kept hb2
    have HK2 := Lib.hid k6
    clear hb2 k6
    go_wp2
    refine bodyPost_ret (v := .tuple #[.agg #[.slice none 0 0], .slice none 0 0, .int .i64 253]) (by simp [results, Try.results19, go_sem, k3, k4, k5]) rfl ?_
    exact ret_red rfl (Own.nil _ _) (Own.nil _ _) (Nat.le_refl _) (below_set HK2.out _ _ (by simp; omega))
  · rw [e1, e2]
    subst hv
    obtain ⟨f1, f2, f3, f4, f5⟩ := check_facts h1
    have hplain := redeem_plain nm hl l n h3 (fun x hx => (f5 x hx).1) f4
    have htb := (take_both nm hl l n h3 (fun x hx => (f5 x hx).1)).1
    obtain ⟨u1, u2⟩ := own_units (nm := nm) (hl := hl) f5
    obtain ⟨s1, s2⟩ := own_split nm hl l
    have s3 := takeP_len (ownL nm hl l) n
    obtain ⟨t1, t2, t3⟩ := takeP_sum (ownL nm hl l) n h3 (fun x hx => (u1 x hx).1)
    have t4 := takeP_sum_le (ownL nm hl l) n h3 (fun x hx => (u1 x hx).1)
    have hso : Srt (othL nm hl l) := List.Pairwise.sublist List.filter_sublist f4
    have H1 := Lib.hid h1
    have H2 := Lib.hid h2
    have HW := Lib.hid (W3.below w A l.length cap nm hl)
    have HP := Lib.hid (And.intro hplain htb)
    have HU := Lib.hid (And.intro u1 (And.intro u2 (And.intro t2 hso)))
    have hfn : l.length ≤ 1000 := by omega
    have ho1 : (ownL nm hl l).length ≤ 1000 := by omega
    have ho2 : (othL nm hl l).length ≤ 1000 := by omega
    have ho3 : (takeP (ownL nm hl l) n).1.length ≤ 1000 := by omega
    have hsm : sumU (othL nm hl l) + sumU (takeP (ownL nm hl l) n).1 ≤ 4000000000000000 := by omega
    have hn1 : ¬ n < 0 := by omega
    have hn2 : ¬ 1000000000000000 < n := by omega
    have HLN := Lib.hid (And.intro ho1 (And.intro ho2 (And.intro ho3 hsm)))
    clear h hL h1 h2 e1 e2 f1 f2 f3 f4 f5 hplain htb u1 u2 s1 s2 s3 t1 t2 t3 t4 hso ho1 ho2 ho3 hsm
    go_enter Try.func19, Try.ntmps19
    go_wp2_with fail
    refine (check_yes _ l (W3 w A l.length cap nm hl) (HL.out _ HW.out) H1.out).mono ?_
    rintro e w1 ⟨rfl, hb⟩
    obtain ⟨k0, k1, k2, k3, k4, k5, k6⟩ := W3.kept hb
    have HK := Lib.hid hb
    clear hb k6
    go_wp2_with fail
    refine (acctB_any nm hl true H2.out w1).mono ?_
    rintro e w2 ⟨rfl, hb⟩
    have hb2 := HK.out.trans (hb.mono HK.out.size)
    clear hb k0 k1 k2 k3 k4 k5 HK
    obtain ⟨k0, k1, k2, k3, k4, k5, k6⟩ := W3.kept hb2
    have HK := Lib.hid hb2
    have HK6 := Lib.hid k6
    have hz2 : w.heap.size + 1 + 1 < w2.heap.size := k5
    clear hb2 k6
    go_wp2_with fail
    refine (of_any (.slice A l.length cap) l nm hl w2 (HL.out _ HK6.out) hfn).mono ?_
    rintro e w3 ⟨va, vb, rfl, hoa, hob, hap, hb⟩
    have hb3 := HK.out.trans (hb.mono HK.out.size)
    have HO := Lib.hid (And.intro hoa (And.intro hob (And.intro hap hb)))
    clear hoa hob hap hb k0 k1 k2 k3 k4 k5 HK HK6
    obtain ⟨k0, k1, k2, k3, k4, k5, k6⟩ := W3.kept hb3
    have HK := Lib.hid hb3
    clear hb3 k6
    go_wp2_with fail
    refine (take_any va (ownL nm hl l) n w3 HO.out.1.lots HLN.out.1 HU.out.1 h3 h4).mono ?_
    rintro e w4 ⟨vc, vd, rfl, hoc, hod, hap, hb⟩
    have hb4 := HK.out.trans (hb.mono HK.out.size)
    have HOO := Lib.hid (HO.out.2.1.below hb)
    have HO4 := Lib.hid (And.intro hoc hod)
    have hs3 := HO.out.2.2.2.size
    have hs4 := hb.size
    clear hoc hod hap hb k0 k1 k2 k3 k4 k5 HK
    obtain ⟨k0, k1, k2, k3, k4, k5, k6⟩ := W3.kept hb4
    have HK := Lib.hid hb4
    clear hb4 k6
    go_wp2_with fail
    refine (give_any vb vc (othL nm hl l) (takeP (ownL nm hl l) n).1 w4 HOO.out.lots HO4.out.1.lots HU.out.2.2.2 HLN.out.2.1 HLN.out.2.2.1 HU.out.2.1 HU.out.2.2.1 HLN.out.2.2.2).mono ?_
    rintro e w5 ⟨ve, rfl, hoe, hb⟩
    have hb5 := HK.out.trans (hb.mono HK.out.size)
    have HO5 := Lib.hid (And.intro hoe (HO4.out.2.below hb))
    have hs5 := hb.size
    clear hoe hb k0 k1 k2 k3 k4 k5 HK
    obtain ⟨k0, k1, k2, k3, k4, k5, k6⟩ := W3.kept hb5
    have HK := Lib.hid k6
    obtain ⟨A5, c5, rfl⟩ := Rd.form HO5.out.1.lots
    clear hb5 k6
    go_wp2
    refine bodyPost_ret (v := .tuple #[.agg #[.slice A5 (giveL (othL nm hl l) (takeP (ownL nm hl l) n).1).length c5], vd, .int .i64 0]) (by simp [results, Try.results19, go_sem, k3, k4, k5]) rfl ?_
    have q1 := HO5.out.1.setCell ⟨w.heap.size + 1 + 1, 0, none⟩ (.slice A5 (giveL (othL nm hl l) (takeP (ownL nm hl l) n).1).length c5) (HO5.out.1.ne (.inr (by simp; omega)))
    have q2 := HO5.out.2.setCell ⟨w.heap.size + 1 + 1, 0, none⟩ (.slice A5 (giveL (othL nm hl l) (takeP (ownL nm hl l) n).1).length c5) (HO5.out.2.ne (.inr (by simp; omega)))
    have q3 := below_set HK.out ⟨w.heap.size + 1 + 1, 0, none⟩ (.slice A5 (giveL (othL nm hl l) (takeP (ownL nm hl l) n).1).length c5) (by simp; omega)
    rw [← HP.out.2] at q2
    refine ⟨_, vd, rfl, ?_, q2.base (by omega), q3⟩
    have q4 := q1.base (B' := w.heap.size) (by omega)
    rw [← HP.out.1]
    exact q4
end Go.Proofs.Ythhmpdjjfoplgaa
