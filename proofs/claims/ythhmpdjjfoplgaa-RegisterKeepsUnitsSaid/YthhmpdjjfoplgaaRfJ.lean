/- register.Transfer, walked. -/
import Derived.Test.YthhmpdjjfoplgaaRfI
set_option linter.unusedVariables false
set_option linter.unusedSimpArgs false
namespace Go.Proofs.Ythhmpdjjfoplgaa
open Go.RowKit Reg

set_option maxRecDepth 100000 in
set_option maxHeartbeats 8000000 in
theorem transfer_any (v : Value) (l : List Lot) (f1 f2 t1 t2 : ByteArray) (n : Int) (w : World) (h : LotsAt w v l) :
    Calls Try.prog 23 #[.agg #[v], .agg #[.string f1, .string f2], .agg #[.string t1, .string t2], .int .i64 n] w (TrnP (trnL l f1 f2 t1 t2 n) (trnN l f1 f2 t1 t2 n) (trnE l f1 f2 t1 t2 n) w) := by
  obtain ⟨A, cap, hv⟩ := Rd.form h
  subst hv
  have hL := fun W hb => LotsAt.below (w' := W) h hb
  have HL := Lib.hid hL
  have HW := Lib.hid (W4.below w A l.length cap f1 f2 t1 t2)
  rcases trn_cases l f1 f2 t1 t2 n with ⟨h1, hE, hL1, hN1⟩ | ⟨h1, h2, hE, hL1, hN1⟩ | ⟨h1, h2, h3, hE, hL1, hN1⟩ | ⟨h1, h2, h3, h4, hE, hL1, hN1⟩ | ⟨h1, h2, h3, h4, h5, hE, hL1, hN1⟩ | ⟨h1, h2, h3, h4, h5, h6, hE, hL1, hN1⟩ | ⟨h1, h2, h3, h4, h5, h6, hE, hL1, hN1⟩
  · rw [hE, hL1, hN1]
    have H1 := Lib.hid h1
    obtain ⟨N, hN⟩ : ∃ N, N = l.length := ⟨_, rfl⟩
    rw [← hN] at HW HL ⊢
    have HN := Lib.hid hN
    clear h hL h1 hE hL1 hN1 hN
    go_enter Try.func23, Try.ntmps23
    go_wp2_with fail
    refine (check_no _ l (W4 w A N cap f1 f2 t1 t2) (HL.out _ HW.out) H1.out).mono ?_
    rintro e w1 ⟨rfl, hb⟩
    obtain ⟨k0, k1, k2, k3, k4, k5, k6, k7, k8⟩ := W4.kept hb
    have HK := Lib.hid hb
    have HW1 := Lib.hid k8
    clear hb k8
    go_wp2
    refine bodyPost_ret (v := .tuple #[.agg #[.slice none 0 0], .int .i64 0, .int .i64 250]) (by simp [results, Try.results23, go_sem, k5, k6, k7]) rfl ?_
    exact ret_trn rfl (Own.nil _ _) (Nat.le_refl _) (below_set HW1.out _ _ (by simp; omega))
  · rw [hE, hL1, hN1]
    have H1 := Lib.hid h1
    have H2 := Lib.hid h2
    obtain ⟨N, hN⟩ : ∃ N, N = l.length := ⟨_, rfl⟩
    rw [← hN] at HW HL ⊢
    have HN := Lib.hid hN
    clear h hL h1 hE hL1 hN1 hN h2
    go_enter Try.func23, Try.ntmps23
    go_wp2_with fail
    refine (check_yes _ l (W4 w A N cap f1 f2 t1 t2) (HL.out _ HW.out) H1.out).mono ?_
    rintro e w1 ⟨rfl, hb⟩
    obtain ⟨k0, k1, k2, k3, k4, k5, k6, k7, k8⟩ := W4.kept hb
    have HK := Lib.hid hb
    have HW1 := Lib.hid k8
    clear hb k8
    go_wp2_with fail
    refine (acctB_any f1 f2 false H2.out w1).mono ?_
    rintro e w2 ⟨rfl, hb⟩
    have hb2 := HK.out.trans (hb.mono HK.out.size)
    clear k0 k1 k2 k3 k4 k5 k6 k7 HK
    obtain ⟨k0, k1, k2, k3, k4, k5, k6, k7, k8⟩ := W4.kept hb2
    have HK := Lib.hid hb2
    have HW2 := Lib.hid k8
    have hz2 : w.heap.size + 1 + 1 + 1 < w2.heap.size := k7
    clear hb2 k8
    clear hb
    go_wp2
    refine bodyPost_ret (v := .tuple #[.agg #[.slice none 0 0], .int .i64 0, .int .i64 251]) (by simp [results, Try.results23, go_sem, k5, k6, k7]) rfl ?_
    exact ret_trn rfl (Own.nil _ _) (Nat.le_refl _) (below_set HW2.out _ _ (by simp; omega))
  · rw [hE, hL1, hN1]
    have H1 := Lib.hid h1
    have H2 := Lib.hid h2
    have H3 := Lib.hid h3
    obtain ⟨N, hN⟩ : ∃ N, N = l.length := ⟨_, rfl⟩
    rw [← hN] at HW HL ⊢
    have HN := Lib.hid hN
    clear h hL h1 hE hL1 hN1 hN h2 h3
    go_enter Try.func23, Try.ntmps23
    go_wp2_with fail
    refine (check_yes _ l (W4 w A N cap f1 f2 t1 t2) (HL.out _ HW.out) H1.out).mono ?_
    rintro e w1 ⟨rfl, hb⟩
    obtain ⟨k0, k1, k2, k3, k4, k5, k6, k7, k8⟩ := W4.kept hb
    have HK := Lib.hid hb
    have HW1 := Lib.hid k8
    clear hb k8
    go_wp2_with fail
    refine (acctB_any f1 f2 true H2.out w1).mono ?_
    rintro e w2 ⟨rfl, hb⟩
    have hb2 := HK.out.trans (hb.mono HK.out.size)
    clear k0 k1 k2 k3 k4 k5 k6 k7 HK
    obtain ⟨k0, k1, k2, k3, k4, k5, k6, k7, k8⟩ := W4.kept hb2
    have HK := Lib.hid hb2
    have HW2 := Lib.hid k8
    have hz2 : w.heap.size + 1 + 1 + 1 < w2.heap.size := k7
    clear hb2 k8
    clear hb
    go_wp2_with fail
    refine (acctB_any t1 t2 false H3.out w2).mono ?_
    rintro e w3 ⟨rfl, hb⟩
    have hb3 := HK.out.trans (hb.mono HK.out.size)
    clear k0 k1 k2 k3 k4 k5 k6 k7 HK
    obtain ⟨k0, k1, k2, k3, k4, k5, k6, k7, k8⟩ := W4.kept hb3
    have HK := Lib.hid hb3
    have HW3 := Lib.hid k8
    have hz3 : w.heap.size + 1 + 1 + 1 < w3.heap.size := k7
    clear hb3 k8
    clear hb
    go_wp2
    refine bodyPost_ret (v := .tuple #[.agg #[.slice none 0 0], .int .i64 0, .int .i64 251]) (by simp [results, Try.results23, go_sem, k5, k6, k7]) rfl ?_
    exact ret_trn rfl (Own.nil _ _) (Nat.le_refl _) (below_set HW3.out _ _ (by simp; omega))
  · rw [hE, hL1, hN1]
    have H1 := Lib.hid h1
    have H2 := Lib.hid h2
    have H3 := Lib.hid h3
    obtain ⟨N, hN⟩ : ∃ N, N = l.length := ⟨_, rfl⟩
    rw [← hN] at HW HL ⊢
    have HN := Lib.hid hN
    clear h hL h1 hE hL1 hN1 hN h2 h3
    go_enter Try.func23, Try.ntmps23
    go_wp2_with fail
    refine (check_yes _ l (W4 w A N cap f1 f2 t1 t2) (HL.out _ HW.out) H1.out).mono ?_
    rintro e w1 ⟨rfl, hb⟩
    obtain ⟨k0, k1, k2, k3, k4, k5, k6, k7, k8⟩ := W4.kept hb
    have HK := Lib.hid hb
    have HW1 := Lib.hid k8
    clear hb k8
    go_wp2_with fail
    refine (acctB_any f1 f2 true H2.out w1).mono ?_
    rintro e w2 ⟨rfl, hb⟩
    have hb2 := HK.out.trans (hb.mono HK.out.size)
    clear k0 k1 k2 k3 k4 k5 k6 k7 HK
    obtain ⟨k0, k1, k2, k3, k4, k5, k6, k7, k8⟩ := W4.kept hb2
    have HK := Lib.hid hb2
    have HW2 := Lib.hid k8
    have hz2 : w.heap.size + 1 + 1 + 1 < w2.heap.size := k7
    clear hb2 k8
    clear hb
    go_wp2_with fail
    refine (acctB_any t1 t2 true H3.out w2).mono ?_
    rintro e w3 ⟨rfl, hb⟩
    have hb3 := HK.out.trans (hb.mono HK.out.size)
    clear k0 k1 k2 k3 k4 k5 k6 k7 HK
    obtain ⟨k0, k1, k2, k3, k4, k5, k6, k7, k8⟩ := W4.kept hb3
    have HK := Lib.hid hb3
    have HW3 := Lib.hid k8
    have hz3 : w.heap.size + 1 + 1 + 1 < w3.heap.size := k7
    clear hb3 k8
    clear hb
    go_wp2
    refine bodyPost_ret (v := .tuple #[.agg #[.slice none 0 0], .int .i64 0, .int .i64 253]) (by simp [results, Try.results23, go_sem, k5, k6, k7]) rfl ?_
    exact ret_trn rfl (Own.nil _ _) (Nat.le_refl _) (below_set HW3.out _ _ (by simp; omega))
  · rw [hE, hL1, hN1]
    have H1 := Lib.hid h1
    have H2 := Lib.hid h2
    have H3 := Lib.hid h3
    obtain ⟨N, hN⟩ : ∃ N, N = l.length := ⟨_, rfl⟩
    rw [← hN] at HW HL ⊢
    have HN := Lib.hid hN
    clear h hL h1 hE hL1 hN1 hN h2 h3
    go_enter Try.func23, Try.ntmps23
    go_wp2_with fail
    refine (check_yes _ l (W4 w A N cap f1 f2 t1 t2) (HL.out _ HW.out) H1.out).mono ?_
    rintro e w1 ⟨rfl, hb⟩
    obtain ⟨k0, k1, k2, k3, k4, k5, k6, k7, k8⟩ := W4.kept hb
    have HK := Lib.hid hb
    have HW1 := Lib.hid k8
    clear hb k8
    go_wp2_with fail
    refine (acctB_any f1 f2 true H2.out w1).mono ?_
    rintro e w2 ⟨rfl, hb⟩
    have hb2 := HK.out.trans (hb.mono HK.out.size)
    clear k0 k1 k2 k3 k4 k5 k6 k7 HK
    obtain ⟨k0, k1, k2, k3, k4, k5, k6, k7, k8⟩ := W4.kept hb2
    have HK := Lib.hid hb2
    have HW2 := Lib.hid k8
    have hz2 : w.heap.size + 1 + 1 + 1 < w2.heap.size := k7
    clear hb2 k8
    clear hb
    go_wp2_with fail
    refine (acctB_any t1 t2 true H3.out w2).mono ?_
    rintro e w3 ⟨rfl, hb⟩
    have hb3 := HK.out.trans (hb.mono HK.out.size)
    clear k0 k1 k2 k3 k4 k5 k6 k7 HK
    obtain ⟨k0, k1, k2, k3, k4, k5, k6, k7, k8⟩ := W4.kept hb3
    have HK := Lib.hid hb3
    have HW3 := Lib.hid k8
    have hz3 : w.heap.size + 1 + 1 + 1 < w3.heap.size := k7
    clear hb3 k8
    clear hb
    go_wp2
    refine bodyPost_ret (v := .tuple #[.agg #[.slice none 0 0], .int .i64 0, .int .i64 253]) (by simp [results, Try.results23, go_sem, k5, k6, k7]) rfl ?_
    exact ret_trn rfl (Own.nil _ _) (Nat.le_refl _) (below_set HW3.out _ _ (by simp; omega))
  · rw [hE, hL1, hN1]
    have H1 := Lib.hid h1
    have H2 := Lib.hid h2
    have H3 := Lib.hid h3
    have hfl := (check_facts h1).1
    have HFU := Lib.hid (check_facts h1).2.2.2.2
    obtain ⟨lo, lt, lc, td, L1, HF⟩ := trn_facts h1 f1 f2 n h4
    have HF := Lib.hid HF
    have hmv : movL l f1 f2 t1 t2 n = giveL L1 (td.map (toA t1 t2)) := by unfold movL; rw [HF.out.takr]
    rw [hmv] at h6
    have HMV := Lib.hid hmv
    obtain ⟨M, hM⟩ : ∃ M, M = giveL L1 (td.map (toA t1 t2)) := ⟨_, rfl⟩
    rw [← hM] at h6
    obtain ⟨m, hm⟩ : ∃ m, m = M.length := ⟨_, rfl⟩
    rw [← hm] at h6
    have HM := Lib.hid (And.intro hM hm)
    have hn0 : 0 ≤ n := by omega
    have hn1 : n ≤ 1000000000000000 := by omega
    clear hmv hM hm
    obtain ⟨N, hN⟩ : ∃ N, N = l.length := ⟨_, rfl⟩
    rw [← hN] at HW HL hfl ⊢
    have HN := Lib.hid hN
    clear h hL h1 hE hL1 hN1 hN h2 h3
    go_enter Try.func23, Try.ntmps23
    go_wp2_with fail
    refine (check_yes _ l (W4 w A N cap f1 f2 t1 t2) (HL.out _ HW.out) H1.out).mono ?_
    rintro e w1 ⟨rfl, hb⟩
    obtain ⟨k0, k1, k2, k3, k4, k5, k6, k7, k8⟩ := W4.kept hb
    have HK := Lib.hid hb
    have HW1 := Lib.hid k8
    clear hb k8
    go_wp2_with fail
    refine (acctB_any f1 f2 true H2.out w1).mono ?_
    rintro e w2 ⟨rfl, hb⟩
    have hb2 := HK.out.trans (hb.mono HK.out.size)
    clear k0 k1 k2 k3 k4 k5 k6 k7 HK
    obtain ⟨k0, k1, k2, k3, k4, k5, k6, k7, k8⟩ := W4.kept hb2
    have HK := Lib.hid hb2
    have HW2 := Lib.hid k8
    have hz2 : w.heap.size + 1 + 1 + 1 < w2.heap.size := k7
    clear hb2 k8
    clear hb
    go_wp2_with fail
    refine (acctB_any t1 t2 true H3.out w2).mono ?_
    rintro e w3 ⟨rfl, hb⟩
    have hb3 := HK.out.trans (hb.mono HK.out.size)
    clear k0 k1 k2 k3 k4 k5 k6 k7 HK
    obtain ⟨k0, k1, k2, k3, k4, k5, k6, k7, k8⟩ := W4.kept hb3
    have HK := Lib.hid hb3
    have HW3 := Lib.hid k8
    have hz3 : w.heap.size + 1 + 1 + 1 < w3.heap.size := k7
    clear hb3 k8
    clear hb
    go_wp2_with fail
    refine (of_any (.slice A N cap) l f1 f2 w3 (HL.out _ HW3.out) (by have := HN.out; omega)).mono ?_
    rintro e w4 ⟨va, vb, rfl, hoa, hob, hap, hb⟩
    rw [HF.out.own] at hoa
    rw [HF.out.oth] at hob
    have HO4 := Lib.hid (And.intro hoa hob)
    have hb4 := HK.out.trans (hb.mono HK.out.size)
    clear k0 k1 k2 k3 k4 k5 k6 k7 HK
    obtain ⟨k0, k1, k2, k3, k4, k5, k6, k7, k8⟩ := W4.kept hb4
    have HK := Lib.hid hb4
    have HW4 := Lib.hid k8
    have hz4 : w.heap.size + 1 + 1 + 1 < w4.heap.size := k7
    clear hb4 k8
    clear hoa hob hap hb
    go_wp2_with fail
    refine (take_any va lo n w4 HO4.out.1.lots (by have := HF.out.nlo; omega) HF.out.ulo hn0 hn1).mono ?_
    rintro e w5 ⟨vc, vd, rfl, hoc, hod, hap, hb⟩
    rw [HF.out.takp] at hoc hod
    have HO5 := Lib.hid (And.intro hoc (And.intro hod (And.intro hap (HO4.out.2.below hb))))
    have hb5 := HK.out.trans (hb.mono HK.out.size)
    clear k0 k1 k2 k3 k4 k5 k6 k7 HK
    obtain ⟨k0, k1, k2, k3, k4, k5, k6, k7, k8⟩ := W4.kept hb5
    have HK := Lib.hid hb5
    have HW5 := Lib.hid k8
    have hz5 : w.heap.size + 1 + 1 + 1 < w5.heap.size := k7
    clear hb5 k8
    have hz45 := hb.size
    clear hoc hod hap hb
    go_wp2_with fail
    refine (sum_any vd td w5 HO5.out.2.1.lots HF.out.utd (by have := HF.out.ntd; omega)).mono ?_
    rintro e w6 ⟨rfl, hb⟩
    have HO6 := Lib.hid (And.intro (HO5.out.1.below hb) (And.intro (HO5.out.2.1.below hb) (HO5.out.2.2.2.below hb)))
    have HAP := Lib.hid HO5.out.2.2.1
    have hb6 := HK.out.trans (hb.mono HK.out.size)
    clear k0 k1 k2 k3 k4 k5 k6 k7 HK
    obtain ⟨k0, k1, k2, k3, k4, k5, k6, k7, k8⟩ := W4.kept hb6
    have HK := Lib.hid hb6
    have HW6 := Lib.hid k8
    have hz6 : w.heap.size + 1 + 1 + 1 < w6.heap.size := k7
    clear hb6 k8
    have hz56 := hb.size
    clear hb HO5
    obtain ⟨S, hS⟩ : ∃ S, S = sumU td := ⟨_, rfl⟩
    rw [← hS]
    have HSS := Lib.hid hS
    clear hS
    obtain ⟨Ad, cd, rfl⟩ := Rd.form HO6.out.2.1.lots
    obtain ⟨q, hq⟩ : ∃ q, q = td.length := ⟨_, rfl⟩
    rw [← hq] at HAP HO6 ⊢
    have HQ := Lib.hid hq
    have hq256 : q ≤ 256 := by have := HF.out.ntd; omega
    clear hq
    go_wp2
    go_loopg [60] q (fun g i wr => ∃ k : Nat, k ≤ q ∧ q - k ≤ g ∧ i = .int .i64 k ∧ Own wr w4.heap.size (.slice Ad q cd) (mixA t1 t2 td k) ∧ Own wr w4.heap.size vc lc ∧ Own wr w3.heap.size vb lt ∧ Below (W4 w A N cap f1 f2 t1 t2).heap.size (W4 w A N cap f1 f2 t1 t2) wr ∧ w6.heap.size ≤ wr.heap.size)
    case atStart => exact ⟨0, by omega, by omega, rfl, by rw [mix_zero]; exact HO6.out.2.1, HO6.out.1, HO6.out.2.2, HK.out, Nat.le_refl _⟩
    case round =>
      obtain ⟨k, hk, hg, rfl, hod, hoc, hob, hbl, hsz⟩ := hrel
      clear k0 k1 k2 k3 k4 k5 k6 k7
      obtain ⟨k0, k1, k2, k3, k4, k5, k6, k7, k8⟩ := W4.kept hbl
      have HOD := Lib.hid hod
      have HOC := Lib.hid hoc
      have HOB := Lib.hid hob
      have HBL := Lib.hid hbl
      clear hod hoc hob hbl k8
      by_cases hlt : k < q
      · obtain ⟨y, hy⟩ : ∃ y, td[k]? = some y := ⟨td[k]'(by rw [← HQ.out]; exact hlt), by simp [← HQ.out, hlt]⟩
        obtain ⟨g, rfl, hg1, hg2, hg3, c0, c1, c2, c3⟩ := own_at_any HOD.out k y (mix_get t1 t2 td k y hy)
        have f0 := hg3 (k * 4)
        have f1' := hg3 (k * 4 + 1)
        have HO2 := Lib.hid (HOD.out.toA (nm := t1) (hl := t2) (by rw [mix_len]; exact HQ.out) (mix_get t1 t2 td k y hy))
        have HNX := Lib.hid (mix_next t1 t2 td k y hy)
        have h4le : (W4 w A N cap f1 f2 t1 t2).heap.size ≤ g := by rw [W4.size_]; omega
        have HB2 := Lib.hid (below_set (below_set HBL.out ⟨g, k * 4, none⟩ (.string t1) h4le) ⟨g, k * 4 + 1, none⟩ (.string t2) h4le)
        have hnc : vc.ownBlock ≠ some g := fun e => HAP.out g e rfl
        have hnb : vb.ownBlock ≠ some g := HO4.out.2.ne (.inl hg1)
        have HOC2 := Lib.hid ((HOC.out.setCell ⟨g, k * 4, none⟩ (.string t1) hnc).setCell ⟨g, k * 4 + 1, none⟩ (.string t2) hnc)
        have HOB2 := Lib.hid ((HOB.out.setCell ⟨g, k * 4, none⟩ (.string t1) hnb).setCell ⟨g, k * 4 + 1, none⟩ (.string t2) hnb)
        clear hg3 hy hnc hnb
        go_wp2
        go_roundg (gk - 1)
        case measure => omega
        case rel => exact ⟨k + 1, by omega, by omega, by go_num, by rw [← HNX.out]; exact HO2.out, HOC2.out, HOB2.out, HB2.out, by simpa [World.setCell] using hsz⟩
      · have hmix := mix_all t1 t2 td k (by have := HQ.out; omega)
        have HOD2 := Lib.hid (show Own wr w4.heap.size (.slice Ad q cd) (td.map (toA t1 t2)) by rw [← hmix]; exact HOD.out)
        have HKr := Lib.hid HBL.out
        clear hmix HOD
        go_wp2_with fail
        refine (give_any vb vc lt lc wr HOB.out.lots HOC.out.lots HF.out.slt (by have := HF.out.nlt; omega) (by have := HF.out.nlc; omega) HF.out.ult HF.out.ulc (by have := HF.out.sum1; omega)).mono ?_
        rintro e w7 ⟨ve, rfl, hoe, hb⟩
        rw [HF.out.give] at hoe
        have HO7 := Lib.hid (And.intro hoe (HOD2.out.below hb))
        have hz7 := hb.size
        have HK7 := Lib.hid (HBL.out.trans (hb.mono HBL.out.size))
        clear hoe hb k0 k1 k2 k3 k4 k5 k6 k7
        obtain ⟨k0, k1, k2, k3, k4, k5, k6, k7, k8⟩ := W4.kept HK7.out
        clear k8
        go_wp2_with fail
        refine (give_any ve (.slice Ad q cd) L1 (td.map (toA t1 t2)) w7 HO7.out.1.lots HO7.out.2.lots HF.out.sL1 (by have := HF.out.nL1; omega) (by have := HF.out.ntd; simp; omega) HF.out.uL1 (fun z hz => by obtain ⟨y, hy, rfl⟩ := List.mem_map.1 hz; exact (HF.out.utd y hy).1) (by rw [sumU_map]; have := HF.out.sum2; omega)).mono ?_
        rintro e w8 ⟨vf, rfl, hof, hb⟩
        rw [← HM.out.1] at hof
        have HO8 := Lib.hid hof
        have HK8 := Lib.hid (HK7.out.trans (hb.mono HK7.out.size))
        have hz8 := hb.size
        clear hof hb k0 k1 k2 k3 k4 k5 k6 k7
        obtain ⟨k0, k1, k2, k3, k4, k5, k6, k7, k8⟩ := W4.kept HK8.out
        have HB8 := Lib.hid k8
        obtain ⟨A8, c8, rfl⟩ := Rd.form HO8.out.lots
        rw [← HM.out.2]
        clear k8
        have hbase : w.heap.size + 1 + 1 + 1 < w7.heap.size := by omega
        go_wp2
        refine bodyPost_ret (v := .tuple #[.agg #[.slice none 0 0], .int .i64 0, .int .i64 254]) (by simp [results, Try.results23, go_sem, k5, k6, k7]) rfl ?_
        exact ret_trn rfl (Own.nil _ _) (Nat.le_refl _) (below_set HB8.out _ _ (by simp; omega))
  · rw [hE, hL1, hN1]
    have H1 := Lib.hid h1
    have H2 := Lib.hid h2
    have H3 := Lib.hid h3
    have hfl := (check_facts h1).1
    have HFU := Lib.hid (check_facts h1).2.2.2.2
    obtain ⟨lo, lt, lc, td, L1, HF⟩ := trn_facts h1 f1 f2 n h4
    have HF := Lib.hid HF
    have hmv : movL l f1 f2 t1 t2 n = giveL L1 (td.map (toA t1 t2)) := by unfold movL; rw [HF.out.takr]
    rw [hmv] at h6
    rw [hmv]
    rw [HF.out.takr]
    have HMV := Lib.hid hmv
    obtain ⟨M, hM⟩ : ∃ M, M = giveL L1 (td.map (toA t1 t2)) := ⟨_, rfl⟩
    rw [← hM] at h6
    rw [← hM]
    obtain ⟨m, hm⟩ : ∃ m, m = M.length := ⟨_, rfl⟩
    rw [← hm] at h6
    have HM := Lib.hid (And.intro hM hm)
    have hn0 : 0 ≤ n := by omega
    have hn1 : n ≤ 1000000000000000 := by omega
    clear hmv hM hm
    obtain ⟨N, hN⟩ : ∃ N, N = l.length := ⟨_, rfl⟩
    rw [← hN] at HW HL hfl ⊢
    have HN := Lib.hid hN
    clear h hL h1 hE hL1 hN1 hN h2 h3
    go_enter Try.func23, Try.ntmps23
    go_wp2_with fail
    refine (check_yes _ l (W4 w A N cap f1 f2 t1 t2) (HL.out _ HW.out) H1.out).mono ?_
    rintro e w1 ⟨rfl, hb⟩
    obtain ⟨k0, k1, k2, k3, k4, k5, k6, k7, k8⟩ := W4.kept hb
    have HK := Lib.hid hb
    have HW1 := Lib.hid k8
    clear hb k8
    go_wp2_with fail
    refine (acctB_any f1 f2 true H2.out w1).mono ?_
    rintro e w2 ⟨rfl, hb⟩
    have hb2 := HK.out.trans (hb.mono HK.out.size)
    clear k0 k1 k2 k3 k4 k5 k6 k7 HK
    obtain ⟨k0, k1, k2, k3, k4, k5, k6, k7, k8⟩ := W4.kept hb2
    have HK := Lib.hid hb2
    have HW2 := Lib.hid k8
    have hz2 : w.heap.size + 1 + 1 + 1 < w2.heap.size := k7
    clear hb2 k8
    clear hb
    go_wp2_with fail
    refine (acctB_any t1 t2 true H3.out w2).mono ?_
    rintro e w3 ⟨rfl, hb⟩
    have hb3 := HK.out.trans (hb.mono HK.out.size)
    clear k0 k1 k2 k3 k4 k5 k6 k7 HK
    obtain ⟨k0, k1, k2, k3, k4, k5, k6, k7, k8⟩ := W4.kept hb3
    have HK := Lib.hid hb3
    have HW3 := Lib.hid k8
    have hz3 : w.heap.size + 1 + 1 + 1 < w3.heap.size := k7
    clear hb3 k8
    clear hb
    go_wp2_with fail
    refine (of_any (.slice A N cap) l f1 f2 w3 (HL.out _ HW3.out) (by have := HN.out; omega)).mono ?_
    rintro e w4 ⟨va, vb, rfl, hoa, hob, hap, hb⟩
    rw [HF.out.own] at hoa
    rw [HF.out.oth] at hob
    have HO4 := Lib.hid (And.intro hoa hob)
    have hb4 := HK.out.trans (hb.mono HK.out.size)
    clear k0 k1 k2 k3 k4 k5 k6 k7 HK
    obtain ⟨k0, k1, k2, k3, k4, k5, k6, k7, k8⟩ := W4.kept hb4
    have HK := Lib.hid hb4
    have HW4 := Lib.hid k8
    have hz4 : w.heap.size + 1 + 1 + 1 < w4.heap.size := k7
    clear hb4 k8
    clear hoa hob hap hb
    go_wp2_with fail
    refine (take_any va lo n w4 HO4.out.1.lots (by have := HF.out.nlo; omega) HF.out.ulo hn0 hn1).mono ?_
    rintro e w5 ⟨vc, vd, rfl, hoc, hod, hap, hb⟩
    rw [HF.out.takp] at hoc hod
    have HO5 := Lib.hid (And.intro hoc (And.intro hod (And.intro hap (HO4.out.2.below hb))))
    have hb5 := HK.out.trans (hb.mono HK.out.size)
    clear k0 k1 k2 k3 k4 k5 k6 k7 HK
    obtain ⟨k0, k1, k2, k3, k4, k5, k6, k7, k8⟩ := W4.kept hb5
    have HK := Lib.hid hb5
    have HW5 := Lib.hid k8
    have hz5 : w.heap.size + 1 + 1 + 1 < w5.heap.size := k7
    clear hb5 k8
    have hz45 := hb.size
    clear hoc hod hap hb
    go_wp2_with fail
    refine (sum_any vd td w5 HO5.out.2.1.lots HF.out.utd (by have := HF.out.ntd; omega)).mono ?_
    rintro e w6 ⟨rfl, hb⟩
    have HO6 := Lib.hid (And.intro (HO5.out.1.below hb) (And.intro (HO5.out.2.1.below hb) (HO5.out.2.2.2.below hb)))
    have HAP := Lib.hid HO5.out.2.2.1
    have hb6 := HK.out.trans (hb.mono HK.out.size)
    clear k0 k1 k2 k3 k4 k5 k6 k7 HK
    obtain ⟨k0, k1, k2, k3, k4, k5, k6, k7, k8⟩ := W4.kept hb6
    have HK := Lib.hid hb6
    have HW6 := Lib.hid k8
    have hz6 : w.heap.size + 1 + 1 + 1 < w6.heap.size := k7
    clear hb6 k8
    have hz56 := hb.size
    clear hb HO5
    obtain ⟨S, hS⟩ : ∃ S, S = sumU td := ⟨_, rfl⟩
    rw [← hS]
    have HSS := Lib.hid hS
    clear hS
    obtain ⟨Ad, cd, rfl⟩ := Rd.form HO6.out.2.1.lots
    obtain ⟨q, hq⟩ : ∃ q, q = td.length := ⟨_, rfl⟩
    rw [← hq] at HAP HO6 ⊢
    have HQ := Lib.hid hq
    have hq256 : q ≤ 256 := by have := HF.out.ntd; omega
    clear hq
    go_wp2
    go_loopg [60] q (fun g i wr => ∃ k : Nat, k ≤ q ∧ q - k ≤ g ∧ i = .int .i64 k ∧ Own wr w4.heap.size (.slice Ad q cd) (mixA t1 t2 td k) ∧ Own wr w4.heap.size vc lc ∧ Own wr w3.heap.size vb lt ∧ Below (W4 w A N cap f1 f2 t1 t2).heap.size (W4 w A N cap f1 f2 t1 t2) wr ∧ w6.heap.size ≤ wr.heap.size)
    case atStart => exact ⟨0, by omega, by omega, rfl, by rw [mix_zero]; exact HO6.out.2.1, HO6.out.1, HO6.out.2.2, HK.out, Nat.le_refl _⟩
    case round =>
      obtain ⟨k, hk, hg, rfl, hod, hoc, hob, hbl, hsz⟩ := hrel
      clear k0 k1 k2 k3 k4 k5 k6 k7
      obtain ⟨k0, k1, k2, k3, k4, k5, k6, k7, k8⟩ := W4.kept hbl
      have HOD := Lib.hid hod
      have HOC := Lib.hid hoc
      have HOB := Lib.hid hob
      have HBL := Lib.hid hbl
      clear hod hoc hob hbl k8
      by_cases hlt : k < q
      · obtain ⟨y, hy⟩ : ∃ y, td[k]? = some y := ⟨td[k]'(by rw [← HQ.out]; exact hlt), by simp [← HQ.out, hlt]⟩
        obtain ⟨g, rfl, hg1, hg2, hg3, c0, c1, c2, c3⟩ := own_at_any HOD.out k y (mix_get t1 t2 td k y hy)
        have f0 := hg3 (k * 4)
        have f1' := hg3 (k * 4 + 1)
        have HO2 := Lib.hid (HOD.out.toA (nm := t1) (hl := t2) (by rw [mix_len]; exact HQ.out) (mix_get t1 t2 td k y hy))
        have HNX := Lib.hid (mix_next t1 t2 td k y hy)
        have h4le : (W4 w A N cap f1 f2 t1 t2).heap.size ≤ g := by rw [W4.size_]; omega
        have HB2 := Lib.hid (below_set (below_set HBL.out ⟨g, k * 4, none⟩ (.string t1) h4le) ⟨g, k * 4 + 1, none⟩ (.string t2) h4le)
        have hnc : vc.ownBlock ≠ some g := fun e => HAP.out g e rfl
        have hnb : vb.ownBlock ≠ some g := HO4.out.2.ne (.inl hg1)
        have HOC2 := Lib.hid ((HOC.out.setCell ⟨g, k * 4, none⟩ (.string t1) hnc).setCell ⟨g, k * 4 + 1, none⟩ (.string t2) hnc)
        have HOB2 := Lib.hid ((HOB.out.setCell ⟨g, k * 4, none⟩ (.string t1) hnb).setCell ⟨g, k * 4 + 1, none⟩ (.string t2) hnb)
        clear hg3 hy hnc hnb
        go_wp2
        go_roundg (gk - 1)
        case measure => omega
        case rel => exact ⟨k + 1, by omega, by omega, by go_num, by rw [← HNX.out]; exact HO2.out, HOC2.out, HOB2.out, HB2.out, by simpa [World.setCell] using hsz⟩
      · have hmix := mix_all t1 t2 td k (by have := HQ.out; omega)
        have HOD2 := Lib.hid (show Own wr w4.heap.size (.slice Ad q cd) (td.map (toA t1 t2)) by rw [← hmix]; exact HOD.out)
        have HKr := Lib.hid HBL.out
        clear hmix HOD
        go_wp2_with fail
        refine (give_any vb vc lt lc wr HOB.out.lots HOC.out.lots HF.out.slt (by have := HF.out.nlt; omega) (by have := HF.out.nlc; omega) HF.out.ult HF.out.ulc (by have := HF.out.sum1; omega)).mono ?_
        rintro e w7 ⟨ve, rfl, hoe, hb⟩
        rw [HF.out.give] at hoe
        have HO7 := Lib.hid (And.intro hoe (HOD2.out.below hb))
        have hz7 := hb.size
        have HK7 := Lib.hid (HBL.out.trans (hb.mono HBL.out.size))
        clear hoe hb k0 k1 k2 k3 k4 k5 k6 k7
        obtain ⟨k0, k1, k2, k3, k4, k5, k6, k7, k8⟩ := W4.kept HK7.out
        clear k8
        go_wp2_with fail
        refine (give_any ve (.slice Ad q cd) L1 (td.map (toA t1 t2)) w7 HO7.out.1.lots HO7.out.2.lots HF.out.sL1 (by have := HF.out.nL1; omega) (by have := HF.out.ntd; simp; omega) HF.out.uL1 (fun z hz => by obtain ⟨y, hy, rfl⟩ := List.mem_map.1 hz; exact (HF.out.utd y hy).1) (by rw [sumU_map]; have := HF.out.sum2; omega)).mono ?_
        rintro e w8 ⟨vf, rfl, hof, hb⟩
        rw [← HM.out.1] at hof
        have HO8 := Lib.hid hof
        have HK8 := Lib.hid (HK7.out.trans (hb.mono HK7.out.size))
        have hz8 := hb.size
        clear hof hb k0 k1 k2 k3 k4 k5 k6 k7
        obtain ⟨k0, k1, k2, k3, k4, k5, k6, k7, k8⟩ := W4.kept HK8.out
        have HB8 := Lib.hid k8
        obtain ⟨A8, c8, rfl⟩ := Rd.form HO8.out.lots
        rw [← HM.out.2]
        clear k8
        have hbase : w.heap.size + 1 + 1 + 1 < w7.heap.size := by omega
        go_wp2
        refine bodyPost_ret (v := .tuple #[.agg #[.slice A8 m c8], .int .i64 S, .int .i64 0]) (by simp [results, Try.results23, go_sem, k5, k6, k7]) rfl ?_
        rw [← HSS.out]
        have HO9 := HO8.out
        rw [← HM.out.2] at HO9
        have q1 := HO9.setCell ⟨w.heap.size + 1 + 1 + 1, 0, none⟩ (.slice A8 m c8) (HO9.ne (.inr (by simp; omega)))
        exact ⟨_, rfl, q1.base (by omega), below_set HB8.out _ _ (by simp; omega)⟩
end Go.Proofs.Ythhmpdjjfoplgaa
