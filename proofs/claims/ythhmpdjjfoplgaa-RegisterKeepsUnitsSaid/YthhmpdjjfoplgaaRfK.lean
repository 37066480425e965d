/- The reference's Transfer, walked. -/
import Derived.Test.YthhmpdjjfoplgaaRfI
set_option linter.unusedVariables false
set_option linter.unusedSimpArgs false
namespace Go.Proofs.Ythhmpdjjfoplgaa
open Go.RowKit Reg

set_option maxRecDepth 100000 in
set_option maxHeartbeats 8000000 in
theorem rtransfer_any (v : Value) (l : List Lot) (f1 f2 t1 t2 : ByteArray) (n : Int) (w : World) (h : LotsAt w v l) :
    Calls Try.prog 47 #[.agg #[v], .agg #[.string f1, .string f2], .agg #[.string t1, .string t2], .int .i64 n] w (TrnP (trnL l f1 f2 t1 t2 n) (trnN l f1 f2 t1 t2 n) (trnE l f1 f2 t1 t2 n) w) := by
  obtain ⟨A, cap, hv⟩ := Rd.form h
  subst hv
  have hL := fun W hb => LotsAt.below (w' := W) h hb
  have HL := Lib.hid hL
  have HW := Lib.hid (W4.below w A l.length cap f1 f2 t1 t2)
  rcases trn_cases l f1 f2 t1 t2 n with ⟨h1, hE, hL1, hN1⟩ | ⟨h1, h2, hE, hL1, hN1⟩ | ⟨h1, h2, h3, hE, hL1, hN1⟩ | ⟨h1, h2, h3, h4, hE, hL1, hN1⟩ | ⟨h1, h2, h3, h4, h5, hE, hL1, hN1⟩ | ⟨h1, h2, h3, h4, h5, h6, hE, hL1, hN1⟩ | ⟨h1, h2, h3, h4, h5, h6, hE, hL1, hN1⟩
  · rw [hE, hL1, hN1]
    have H1 := Lib.hid h1
    obtain ⟨N, hN⟩ : ∃ N, N = l.length := ⟨_, rfl⟩
    rw [← hN] at HW HL ⊢
    have HN := Lib.hid hN
    clear h hL h1 hE hL1 hN1 hN
    go_enter Try.func47, Try.ntmps47
    go_wp2_with fail
    refine (rcheck_no _ l (W4 w A N cap f1 f2 t1 t2) (HL.out _ HW.out) H1.out).mono ?_
    rintro e w1 ⟨rfl, hb⟩
    obtain ⟨k0, k1, k2, k3, k4, k5, k6, k7, k8⟩ := W4.kept hb
    have HK := Lib.hid hb
    have HW1 := Lib.hid k8
    clear hb k8
    go_wp2
    refine bodyPost_ret (v := .tuple #[.agg #[.slice none 0 0], .int .i64 0, .int .i64 250]) (by simp [results, Try.results47, go_sem, k5, k6, k7]) rfl ?_
    exact ret_trn rfl (Own.nil _ _) (Nat.le_refl _) (below_set HW1.out _ _ (by simp; omega))
  · rw [hE, hL1, hN1]
    have H1 := Lib.hid h1
    have H2 := Lib.hid h2
    obtain ⟨N, hN⟩ : ∃ N, N = l.length := ⟨_, rfl⟩
    rw [← hN] at HW HL ⊢
    have HN := Lib.hid hN
    clear h hL h1 hE hL1 hN1 hN h2
    go_enter Try.func47, Try.ntmps47
    go_wp2_with fail
    refine (rcheck_yes _ l (W4 w A N cap f1 f2 t1 t2) (HL.out _ HW.out) H1.out).mono ?_
    rintro e w1 ⟨rfl, hb⟩
    obtain ⟨k0, k1, k2, k3, k4, k5, k6, k7, k8⟩ := W4.kept hb
    have HK := Lib.hid hb
    have HW1 := Lib.hid k8
    clear hb k8
    go_wp2_with fail
    refine (racctB_any f1 f2 false H2.out w1).mono ?_
    rintro e w2 ⟨rfl, hb⟩
    have hb2 := HK.out.trans (hb.mono HK.out.size)
    clear k0 k1 k2 k3 k4 k5 k6 k7 HK
    obtain ⟨k0, k1, k2, k3, k4, k5, k6, k7, k8⟩ := W4.kept hb2
    have HK := Lib.hid hb2
    have HW2 := Lib.hid k8
    have hz2 : w.heap.size + 1 + 1 + 1 < w2.heap.size := k7
    clear hb2 k8
    clear hb
    go_wp2
    refine bodyPost_ret (v := .tuple #[.agg #[.slice none 0 0], .int .i64 0, .int .i64 251]) (by simp [results, Try.results47, go_sem, k5, k6, k7]) rfl ?_
    exact ret_trn rfl (Own.nil _ _) (Nat.le_refl _) (below_set HW2.out _ _ (by simp; omega))
  · rw [hE, hL1, hN1]
    have H1 := Lib.hid h1
    have H2 := Lib.hid h2
    have H3 := Lib.hid h3
    obtain ⟨N, hN⟩ : ∃ N, N = l.length := ⟨_, rfl⟩
    rw [← hN] at HW HL ⊢
    have HN := Lib.hid hN
    clear h hL h1 hE hL1 hN1 hN h2 h3
    go_enter Try.func47, Try.ntmps47
    go_wp2_with fail
    refine (rcheck_yes _ l (W4 w A N cap f1 f2 t1 t2) (HL.out _ HW.out) H1.out).mono ?_
    rintro e w1 ⟨rfl, hb⟩
    obtain ⟨k0, k1, k2, k3, k4, k5, k6, k7, k8⟩ := W4.kept hb
    have HK := Lib.hid hb
    have HW1 := Lib.hid k8
    clear hb k8
    go_wp2_with fail
    refine (racctB_any f1 f2 true H2.out w1).mono ?_
    rintro e w2 ⟨rfl, hb⟩
    have hb2 := HK.out.trans (hb.mono HK.out.size)
    clear k0 k1 k2 k3 k4 k5 k6 k7 HK
    obtain ⟨k0, k1, k2, k3, k4, k5, k6, k7, k8⟩ := W4.kept hb2
    have HK := Lib.hid hb2
    have HW2 := Lib.hid k8
    have hz2 : w.heap.size + 1 + 1 + 1 < w2.heap.size := k7
    clear hb2 k8
    clear hb
    go_wp2_with fail
    refine (racctB_any t1 t2 false H3.out w2).mono ?_
    rintro e w3 ⟨rfl, hb⟩
    have hb3 := HK.out.trans (hb.mono HK.out.size)
    clear k0 k1 k2 k3 k4 k5 k6 k7 HK
    obtain ⟨k0, k1, k2, k3, k4, k5, k6, k7, k8⟩ := W4.kept hb3
    have HK := Lib.hid hb3
    have HW3 := Lib.hid k8
    have hz3 : w.heap.size + 1 + 1 + 1 < w3.heap.size := k7
    clear hb3 k8
    clear hb
    go_wp2
    refine bodyPost_ret (v := .tuple #[.agg #[.slice none 0 0], .int .i64 0, .int .i64 251]) (by simp [results, Try.results47, go_sem, k5, k6, k7]) rfl ?_
    exact ret_trn rfl (Own.nil _ _) (Nat.le_refl _) (below_set HW3.out _ _ (by simp; omega))
  · rw [hE, hL1, hN1]
    have H1 := Lib.hid h1
    have H2 := Lib.hid h2
    have H3 := Lib.hid h3
    obtain ⟨N, hN⟩ : ∃ N, N = l.length := ⟨_, rfl⟩
    rw [← hN] at HW HL ⊢
    have HN := Lib.hid hN
    clear h hL h1 hE hL1 hN1 hN h2 h3
    go_enter Try.func47, Try.ntmps47
    go_wp2_with fail
    refine (rcheck_yes _ l (W4 w A N cap f1 f2 t1 t2) (HL.out _ HW.out) H1.out).mono ?_
    rintro e w1 ⟨rfl, hb⟩
    obtain ⟨k0, k1, k2, k3, k4, k5, k6, k7, k8⟩ := W4.kept hb
    have HK := Lib.hid hb
    have HW1 := Lib.hid k8
    clear hb k8
    go_wp2_with fail
    refine (racctB_any f1 f2 true H2.out w1).mono ?_
    rintro e w2 ⟨rfl, hb⟩
    have hb2 := HK.out.trans (hb.mono HK.out.size)
    clear k0 k1 k2 k3 k4 k5 k6 k7 HK
    obtain ⟨k0, k1, k2, k3, k4, k5, k6, k7, k8⟩ := W4.kept hb2
    have HK := Lib.hid hb2
    have HW2 := Lib.hid k8
    have hz2 : w.heap.size + 1 + 1 + 1 < w2.heap.size := k7
    clear hb2 k8
    clear hb
    go_wp2_with fail
    refine (racctB_any t1 t2 true H3.out w2).mono ?_
    rintro e w3 ⟨rfl, hb⟩
    have hb3 := HK.out.trans (hb.mono HK.out.size)
    clear k0 k1 k2 k3 k4 k5 k6 k7 HK
    obtain ⟨k0, k1, k2, k3, k4, k5, k6, k7, k8⟩ := W4.kept hb3
    have HK := Lib.hid hb3
    have HW3 := Lib.hid k8
    have hz3 : w.heap.size + 1 + 1 + 1 < w3.heap.size := k7
    clear hb3 k8
    clear hb
    go_wp2
    refine bodyPost_ret (v := .tuple #[.agg #[.slice none 0 0], .int .i64 0, .int .i64 253]) (by simp [results, Try.results47, go_sem, k5, k6, k7]) rfl ?_
    exact ret_trn rfl (Own.nil _ _) (Nat.le_refl _) (below_set HW3.out _ _ (by simp; omega))
  · rw [hE, hL1, hN1]
    have H1 := Lib.hid h1
    have H2 := Lib.hid h2
    have H3 := Lib.hid h3
    obtain ⟨N, hN⟩ : ∃ N, N = l.length := ⟨_, rfl⟩
    rw [← hN] at HW HL ⊢
    have HN := Lib.hid hN
    clear h hL h1 hE hL1 hN1 hN h2 h3
    go_enter Try.func47, Try.ntmps47
    go_wp2_with fail
    refine (rcheck_yes _ l (W4 w A N cap f1 f2 t1 t2) (HL.out _ HW.out) H1.out).mono ?_
    rintro e w1 ⟨rfl, hb⟩
    obtain ⟨k0, k1, k2, k3, k4, k5, k6, k7, k8⟩ := W4.kept hb
    have HK := Lib.hid hb
    have HW1 := Lib.hid k8
    clear hb k8
    go_wp2_with fail
    refine (racctB_any f1 f2 true H2.out w1).mono ?_
    rintro e w2 ⟨rfl, hb⟩
    have hb2 := HK.out.trans (hb.mono HK.out.size)
    clear k0 k1 k2 k3 k4 k5 k6 k7 HK
    obtain ⟨k0, k1, k2, k3, k4, k5, k6, k7, k8⟩ := W4.kept hb2
    have HK := Lib.hid hb2
    have HW2 := Lib.hid k8
    have hz2 : w.heap.size + 1 + 1 + 1 < w2.heap.size := k7
    clear hb2 k8
    clear hb
    go_wp2_with fail
    refine (racctB_any t1 t2 true H3.out w2).mono ?_
    rintro e w3 ⟨rfl, hb⟩
    have hb3 := HK.out.trans (hb.mono HK.out.size)
    clear k0 k1 k2 k3 k4 k5 k6 k7 HK
    obtain ⟨k0, k1, k2, k3, k4, k5, k6, k7, k8⟩ := W4.kept hb3
    have HK := Lib.hid hb3
    have HW3 := Lib.hid k8
    have hz3 : w.heap.size + 1 + 1 + 1 < w3.heap.size := k7
    clear hb3 k8
    clear hb
    go_wp2
    refine bodyPost_ret (v := .tuple #[.agg #[.slice none 0 0], .int .i64 0, .int .i64 253]) (by simp [results, Try.results47, go_sem, k5, k6, k7]) rfl ?_
    exact ret_trn rfl (Own.nil _ _) (Nat.le_refl _) (below_set HW3.out _ _ (by simp; omega))
  · rw [hE, hL1, hN1]
    have H1 := Lib.hid h1
    have H2 := Lib.hid h2
    have H3 := Lib.hid h3
    have hfl := (check_facts h1).1
    have HFU := Lib.hid (check_facts h1).2.2.2.2
    obtain ⟨lo, lt, lc, td, L1, HF⟩ := trn_facts h1 f1 f2 n h4
    have HF := Lib.hid HF
    have hmv : movL l f1 f2 t1 t2 n = giveL L1 (td.map (toA t1 t2)) := by unfold movL; rw [HF.out.takr]
    rw [hmv] at h6
    have HMV := Lib.hid hmv
    obtain ⟨M, hM⟩ : ∃ M, M = giveL L1 (td.map (toA t1 t2)) := ⟨_, rfl⟩
    rw [← hM] at h6
    obtain ⟨m, hm⟩ : ∃ m, m = M.length := ⟨_, rfl⟩
    rw [← hm] at h6
    have HM := Lib.hid (And.intro hM hm)
    have hn0 : 0 ≤ n := by omega
    have hn1 : n ≤ 1000000000000000 := by omega
    clear hmv hM hm
    obtain ⟨N, hN⟩ : ∃ N, N = l.length := ⟨_, rfl⟩
    rw [← hN] at HW HL hfl ⊢
    have HN := Lib.hid hN
    clear h hL h1 hE hL1 hN1 hN h2 h3
    go_enter Try.func47, Try.ntmps47
    go_wp2_with fail
    refine (rcheck_yes _ l (W4 w A N cap f1 f2 t1 t2) (HL.out _ HW.out) H1.out).mono ?_
    rintro e w1 ⟨rfl, hb⟩
    obtain ⟨k0, k1, k2, k3, k4, k5, k6, k7, k8⟩ := W4.kept hb
    have HK := Lib.hid hb
    have HW1 := Lib.hid k8
    clear hb k8
    go_wp2_with fail
    refine (racctB_any f1 f2 true H2.out w1).mono ?_
    rintro e w2 ⟨rfl, hb⟩
    have hb2 := HK.out.trans (hb.mono HK.out.size)
    clear k0 k1 k2 k3 k4 k5 k6 k7 HK
    obtain ⟨k0, k1, k2, k3, k4, k5, k6, k7, k8⟩ := W4.kept hb2
    have HK := Lib.hid hb2
    have HW2 := Lib.hid k8
    have hz2 : w.heap.size + 1 + 1 + 1 < w2.heap.size := k7
    clear hb2 k8
    clear hb
    go_wp2_with fail
    refine (racctB_any t1 t2 true H3.out w2).mono ?_
    rintro e w3 ⟨rfl, hb⟩
    have hb3 := HK.out.trans (hb.mono HK.out.size)
    clear k0 k1 k2 k3 k4 k5 k6 k7 HK
    obtain ⟨k0, k1, k2, k3, k4, k5, k6, k7, k8⟩ := W4.kept hb3
    have HK := Lib.hid hb3
    have HW3 := Lib.hid k8
    have hz3 : w.heap.size + 1 + 1 + 1 < w3.heap.size := k7
    clear hb3 k8
    clear hb
    go_wp2_with fail
    refine (rtake_any (.slice A N cap) l f1 f2 n w3 (HL.out _ HW3.out) (by have := HN.out; omega) HFU.out hn0 hn1).mono ?_
    rintro e w4 ⟨va, vd, rfl, hoa, hod, hap, hb⟩
    rw [HF.out.takr] at hoa hod
    have HO4 := Lib.hid (And.intro hoa hod)
    have hz34 := hb.size
    have hb4 := HK.out.trans (hb.mono HK.out.size)
    clear k0 k1 k2 k3 k4 k5 k6 k7 HK
    obtain ⟨k0, k1, k2, k3, k4, k5, k6, k7, k8⟩ := W4.kept hb4
    have HK := Lib.hid hb4
    have HW4 := Lib.hid k8
    have hz4 : w.heap.size + 1 + 1 + 1 < w4.heap.size := k7
    clear hb4 k8
    clear hoa hod hap hb
    obtain ⟨Ad, cd, rfl⟩ := Rd.form HO4.out.2.lots
    obtain ⟨q, hq⟩ : ∃ q, q = td.length := ⟨_, rfl⟩
    rw [← hq] at HO4 ⊢
    have HQ := Lib.hid hq
    have hq256 : q ≤ 256 := by have := HF.out.ntd; omega
    clear hq
    go_wp2
    go_loopg [11, 13, 14] q (fun g a s i wr => ∃ k : Nat, k ≤ q ∧ q - k ≤ g ∧ i = .int .i64 k ∧ s = .int .i64 (sumU (td.take k)) ∧ Own wr w3.heap.size a (giveL L1 ((td.map (toA t1 t2)).take k)) ∧ Own wr w3.heap.size (.slice Ad q cd) td ∧ Below (W4 w A N cap f1 f2 t1 t2).heap.size (W4 w A N cap f1 f2 t1 t2) wr ∧ w4.heap.size ≤ wr.heap.size)
    case atStart => exact ⟨0, by omega, by omega, rfl, rfl, by simpa [giveL] using HO4.out.1, HO4.out.2, HK.out, Nat.le_refl _⟩
    case round =>
      obtain ⟨k, hk, hg, rfl, rfl, hoa, hod, hbl, hsz⟩ := hrel
      clear k0 k1 k2 k3 k4 k5 k6 k7
      obtain ⟨k0, k1, k2, k3, k4, k5, k6, k7, k8⟩ := W4.kept hbl
      have HOD := Lib.hid hod
      have HOA := Lib.hid hoa
      have HBL := Lib.hid hbl
      have HB8 := Lib.hid k8
      clear hod hoa hbl k8
      by_cases hlt : k < q
      · obtain ⟨y, hy⟩ : ∃ y, td[k]? = some y := ⟨td[k]'(by rw [← HQ.out]; exact hlt), by simp [← HQ.out, hlt]⟩
        obtain ⟨g, rfl, hg1, hg2, hg3, c0, c1, c2, c3⟩ := own_at_any HOD.out k y hy
        have hym : (td.map (toA t1 t2))[k]? = some (toA t1 t2 y) := by simp [hy]
        have HGS := Lib.hid (give_snoc (l := L1) hym)
        have hsn := take_snocL hy
        have hb1 := sumU_take td (k + 1) (fun x hx => (HF.out.utd x hx).1)
        have hb0 := sumU_take td k (fun x hx => (HF.out.utd x hx).1)
        have hyu := HF.out.utd y (List.mem_of_getElem? hy)
        have hs2 := HF.out.sum2
        have hL10 := sumU_nonneg L1 HF.out.uL1
        have hgl := give_len L1 ((td.map (toA t1 t2)).take k)
        have hgs := give_sum L1 ((td.map (toA t1 t2)).take k)
        have hgp := give_pos L1 ((td.map (toA t1 t2)).take k) HF.out.uL1 (fun z hz => by obtain ⟨y, hy, rfl⟩ := List.mem_map.1 (List.mem_of_mem_take hz); exact (HF.out.utd y hy).1)
        have hgr := give_srt L1 ((td.map (toA t1 t2)).take k) HF.out.sL1
        have hmt : sumU ((td.map (toA t1 t2)).take k) = sumU (td.take k) := by rw [← List.map_take, sumU_map]
        have hnL := HF.out.nL1
        rw [List.length_take] at hgl
        rw [hmt] at hgs
        obtain ⟨o, ho⟩ : ∃ o, o = giveL L1 ((td.map (toA t1 t2)).take k) := ⟨_, rfl⟩
        rw [← ho] at HOA HGS hgl hgs hgp hgr
        obtain ⟨t, ht⟩ : ∃ t, t = sumU (td.take k) := ⟨_, rfl⟩
        rw [← ht] at hsn hb0 hgs ⊢
        have hadd : IntKind.i64.wrap (t + y.units) = t + y.units := IntWalk.i64_in _ (by omega)
        have HSN := Lib.hid hsn
        have HOP := Lib.hid (show ∀ z ∈ o, 0 ≤ z.units ∧ z.units ≤ 1000000000000000 from fun z hz => ⟨hgp z hz, by have := sumU_mem o hgp z hz; omega⟩)
        have HOS := Lib.hid hgr
        have hol : o.length ≤ 1000 := by omega
        have HYU := Lib.hid hyu
        have HPUT := Lib.hid (fun (W : World) (hW : LotsAt W u11 o) => rput_any u11 o (toA t1 t2 y) W hW hol HOP.out hyu.1 hyu.2)
        clear hy hym hsn hb1 hb0 hyu hs2 hL10 hgl hgs hgp hgr hmt hnL ho ht hg3
        go_wp2
        go_region_held3 (fun W : World => W.cell? ⟨w.heap.size + 1 + 1, 0, none⟩ = some (.string t1) ∧ W.cell? ⟨w.heap.size + 1 + 1, 1, none⟩ = some (.string t2) ∧ W.cell? ⟨g, k * 4 + 2, none⟩ = some (.int .i64 y.ser) ∧ W.cell? ⟨g, k * 4 + 3, none⟩ = some (.int .i64 y.units)) (first | exact ⟨k3, k4, c2, c3⟩ | exact ⟨d0, d1, d2, d3⟩) (first
          | (go_at_call 63; refine (HPUT.out _ HOA.out.drew.lots).mono ?_; rintro e w5 ⟨v5, rfl, ho5, hb5⟩; have d0 := cell_up (w := World.drew wr) k3 hb5; have d1 := cell_up (w := World.drew wr) k4 hb5; have d2 := cell_up (w := World.drew wr) c2 hb5; have d3 := cell_up (w := World.drew wr) c3 hb5))
        have HE := Lib.hid (And.intro ho5 (And.intro (HOD.out.drew.below hb5) ((below_drew HBL.out).trans (hb5.mono HBL.out.size))))
        have hz5 : wr.heap.size ≤ w5.heap.size := hb5.size
        clear ho5 hb5
        go_wp2
        go_roundg (gk - 1)
        case measure => omega
        case rel => exact ⟨k + 1, by omega, by omega, by go_num, by rw [HSN.out], by rw [HGS.out, ← putR_eq _ HOS.out]; exact HE.out.1.base (by have := HBL.out.size; have hw := @W4.size_ w A N cap f1 f2 t1 t2; simp; omega), HE.out.2.1, HE.out.2.2, by omega⟩
      · have htd : td.take k = td := List.take_of_length_le (by have := HQ.out; omega)
        have htm : (td.map (toA t1 t2)).take k = td.map (toA t1 t2) := List.take_of_length_le (by have := HQ.out; simp; omega)
        rw [htd]
        rw [htm, ← HM.out.1] at HOA
        obtain ⟨A8, c8, hv8⟩ := Rd.form HOA.out.lots
        subst hv8
        obtain ⟨S, hS⟩ : ∃ S, S = sumU td := ⟨_, rfl⟩
        rw [← hS]
        have HSS := Lib.hid hS
        rw [← HM.out.2]
        clear htd htm hS
        go_wp2
        refine bodyPost_ret (v := .tuple #[.agg #[.slice none 0 0], .int .i64 0, .int .i64 254]) (by simp [results, Try.results47, go_sem, k5, k6, k7]) rfl ?_
        exact ret_trn rfl (Own.nil _ _) (Nat.le_refl _) (below_set HB8.out _ _ (by simp; omega))
  · rw [hE, hL1, hN1]
    have H1 := Lib.hid h1
    have H2 := Lib.hid h2
    have H3 := Lib.hid h3
    have hfl := (check_facts h1).1
    have HFU := Lib.hid (check_facts h1).2.2.2.2
    obtain ⟨lo, lt, lc, td, L1, HF⟩ := trn_facts h1 f1 f2 n h4
    have HF := Lib.hid HF
    have hmv : movL l f1 f2 t1 t2 n = giveL L1 (td.map (toA t1 t2)) := by unfold movL; rw [HF.out.takr]
    rw [hmv] at h6
    rw [hmv]
    rw [HF.out.takr]
    have HMV := Lib.hid hmv
    obtain ⟨M, hM⟩ : ∃ M, M = giveL L1 (td.map (toA t1 t2)) := ⟨_, rfl⟩
    rw [← hM] at h6
    rw [← hM]
    obtain ⟨m, hm⟩ : ∃ m, m = M.length := ⟨_, rfl⟩
    rw [← hm] at h6
    have HM := Lib.hid (And.intro hM hm)
    have hn0 : 0 ≤ n := by omega
    have hn1 : n ≤ 1000000000000000 := by omega
    clear hmv hM hm
    obtain ⟨N, hN⟩ : ∃ N, N = l.length := ⟨_, rfl⟩
    rw [← hN] at HW HL hfl ⊢
    have HN := Lib.hid hN
    clear h hL h1 hE hL1 hN1 hN h2 h3
    go_enter Try.func47, Try.ntmps47
    go_wp2_with fail
    refine (rcheck_yes _ l (W4 w A N cap f1 f2 t1 t2) (HL.out _ HW.out) H1.out).mono ?_
    rintro e w1 ⟨rfl, hb⟩
    obtain ⟨k0, k1, k2, k3, k4, k5, k6, k7, k8⟩ := W4.kept hb
    have HK := Lib.hid hb
    have HW1 := Lib.hid k8
    clear hb k8
    go_wp2_with fail
    refine (racctB_any f1 f2 true H2.out w1).mono ?_
    rintro e w2 ⟨rfl, hb⟩
    have hb2 := HK.out.trans (hb.mono HK.out.size)
    clear k0 k1 k2 k3 k4 k5 k6 k7 HK
    obtain ⟨k0, k1, k2, k3, k4, k5, k6, k7, k8⟩ := W4.kept hb2
    have HK := Lib.hid hb2
    have HW2 := Lib.hid k8
    have hz2 : w.heap.size + 1 + 1 + 1 < w2.heap.size := k7
    clear hb2 k8
    clear hb
    go_wp2_with fail
    refine (racctB_any t1 t2 true H3.out w2).mono ?_
    rintro e w3 ⟨rfl, hb⟩
    have hb3 := HK.out.trans (hb.mono HK.out.size)
    clear k0 k1 k2 k3 k4 k5 k6 k7 HK
    obtain ⟨k0, k1, k2, k3, k4, k5, k6, k7, k8⟩ := W4.kept hb3
    have HK := Lib.hid hb3
    have HW3 := Lib.hid k8
    have hz3 : w.heap.size + 1 + 1 + 1 < w3.heap.size := k7
    clear hb3 k8
    clear hb
    go_wp2_with fail
    refine (rtake_any (.slice A N cap) l f1 f2 n w3 (HL.out _ HW3.out) (by have := HN.out; omega) HFU.out hn0 hn1).mono ?_
    rintro e w4 ⟨va, vd, rfl, hoa, hod, hap, hb⟩
    rw [HF.out.takr] at hoa hod
    have HO4 := Lib.hid (And.intro hoa hod)
    have hz34 := hb.size
    have hb4 := HK.out.trans (hb.mono HK.out.size)
    clear k0 k1 k2 k3 k4 k5 k6 k7 HK
    obtain ⟨k0, k1, k2, k3, k4, k5, k6, k7, k8⟩ := W4.kept hb4
    have HK := Lib.hid hb4
    have HW4 := Lib.hid k8
    have hz4 : w.heap.size + 1 + 1 + 1 < w4.heap.size := k7
    clear hb4 k8
    clear hoa hod hap hb
    obtain ⟨Ad, cd, rfl⟩ := Rd.form HO4.out.2.lots
    obtain ⟨q, hq⟩ : ∃ q, q = td.length := ⟨_, rfl⟩
    rw [← hq] at HO4 ⊢
    have HQ := Lib.hid hq
    have hq256 : q ≤ 256 := by have := HF.out.ntd; omega
    clear hq
    go_wp2
    go_loopg [11, 13, 14] q (fun g a s i wr => ∃ k : Nat, k ≤ q ∧ q - k ≤ g ∧ i = .int .i64 k ∧ s = .int .i64 (sumU (td.take k)) ∧ Own wr w3.heap.size a (giveL L1 ((td.map (toA t1 t2)).take k)) ∧ Own wr w3.heap.size (.slice Ad q cd) td ∧ Below (W4 w A N cap f1 f2 t1 t2).heap.size (W4 w A N cap f1 f2 t1 t2) wr ∧ w4.heap.size ≤ wr.heap.size)
    case atStart => exact ⟨0, by omega, by omega, rfl, rfl, by simpa [giveL] using HO4.out.1, HO4.out.2, HK.out, Nat.le_refl _⟩
    case round =>
      obtain ⟨k, hk, hg, rfl, rfl, hoa, hod, hbl, hsz⟩ := hrel
      clear k0 k1 k2 k3 k4 k5 k6 k7
      obtain ⟨k0, k1, k2, k3, k4, k5, k6, k7, k8⟩ := W4.kept hbl
      have HOD := Lib.hid hod
      have HOA := Lib.hid hoa
      have HBL := Lib.hid hbl
      have HB8 := Lib.hid k8
      clear hod hoa hbl k8
      by_cases hlt : k < q
      · obtain ⟨y, hy⟩ : ∃ y, td[k]? = some y := ⟨td[k]'(by rw [← HQ.out]; exact hlt), by simp [← HQ.out, hlt]⟩
        obtain ⟨g, rfl, hg1, hg2, hg3, c0, c1, c2, c3⟩ := own_at_any HOD.out k y hy
        have hym : (td.map (toA t1 t2))[k]? = some (toA t1 t2 y) := by simp [hy]
        have HGS := Lib.hid (give_snoc (l := L1) hym)
        have hsn := take_snocL hy
        have hb1 := sumU_take td (k + 1) (fun x hx => (HF.out.utd x hx).1)
        have hb0 := sumU_take td k (fun x hx => (HF.out.utd x hx).1)
        have hyu := HF.out.utd y (List.mem_of_getElem? hy)
        have hs2 := HF.out.sum2
        have hL10 := sumU_nonneg L1 HF.out.uL1
        have hgl := give_len L1 ((td.map (toA t1 t2)).take k)
        have hgs := give_sum L1 ((td.map (toA t1 t2)).take k)
        have hgp := give_pos L1 ((td.map (toA t1 t2)).take k) HF.out.uL1 (fun z hz => by obtain ⟨y, hy, rfl⟩ := List.mem_map.1 (List.mem_of_mem_take hz); exact (HF.out.utd y hy).1)
        have hgr := give_srt L1 ((td.map (toA t1 t2)).take k) HF.out.sL1
        have hmt : sumU ((td.map (toA t1 t2)).take k) = sumU (td.take k) := by rw [← List.map_take, sumU_map]
        have hnL := HF.out.nL1
        rw [List.length_take] at hgl
        rw [hmt] at hgs
        obtain ⟨o, ho⟩ : ∃ o, o = giveL L1 ((td.map (toA t1 t2)).take k) := ⟨_, rfl⟩
        rw [← ho] at HOA HGS hgl hgs hgp hgr
        obtain ⟨t, ht⟩ : ∃ t, t = sumU (td.take k) := ⟨_, rfl⟩
        rw [← ht] at hsn hb0 hgs ⊢
        have hadd : IntKind.i64.wrap (t + y.units) = t + y.units := IntWalk.i64_in _ (by omega)
        have HSN := Lib.hid hsn
        have HOP := Lib.hid (show ∀ z ∈ o, 0 ≤ z.units ∧ z.units ≤ 1000000000000000 from fun z hz => ⟨hgp z hz, by have := sumU_mem o hgp z hz; omega⟩)
        have HOS := Lib.hid hgr
        have hol : o.length ≤ 1000 := by omega
        have HYU := Lib.hid hyu
        have HPUT := Lib.hid (fun (W : World) (hW : LotsAt W u11 o) => rput_any u11 o (toA t1 t2 y) W hW hol HOP.out hyu.1 hyu.2)
        clear hy hym hsn hb1 hb0 hyu hs2 hL10 hgl hgs hgp hgr hmt hnL ho ht hg3
        go_wp2
        go_region_held3 (fun W : World => W.cell? ⟨w.heap.size + 1 + 1, 0, none⟩ = some (.string t1) ∧ W.cell? ⟨w.heap.size + 1 + 1, 1, none⟩ = some (.string t2) ∧ W.cell? ⟨g, k * 4 + 2, none⟩ = some (.int .i64 y.ser) ∧ W.cell? ⟨g, k * 4 + 3, none⟩ = some (.int .i64 y.units)) (first | exact ⟨k3, k4, c2, c3⟩ | exact ⟨d0, d1, d2, d3⟩) (first
          | (go_at_call 63; refine (HPUT.out _ HOA.out.drew.lots).mono ?_; rintro e w5 ⟨v5, rfl, ho5, hb5⟩; have d0 := cell_up (w := World.drew wr) k3 hb5; have d1 := cell_up (w := World.drew wr) k4 hb5; have d2 := cell_up (w := World.drew wr) c2 hb5; have d3 := cell_up (w := World.drew wr) c3 hb5))
        have HE := Lib.hid (And.intro ho5 (And.intro (HOD.out.drew.below hb5) ((below_drew HBL.out).trans (hb5.mono HBL.out.size))))
        have hz5 : wr.heap.size ≤ w5.heap.size := hb5.size
        clear ho5 hb5
        go_wp2
        go_roundg (gk - 1)
        case measure => omega
        case rel => exact ⟨k + 1, by omega, by omega, by go_num, by rw [HSN.out], by rw [HGS.out, ← putR_eq _ HOS.out]; exact HE.out.1.base (by have := HBL.out.size; have hw := @W4.size_ w A N cap f1 f2 t1 t2; simp; omega), HE.out.2.1, HE.out.2.2, by omega⟩
      · have htd : td.take k = td := List.take_of_length_le (by have := HQ.out; omega)
        have htm : (td.map (toA t1 t2)).take k = td.map (toA t1 t2) := List.take_of_length_le (by have := HQ.out; simp; omega)
        rw [htd]
        rw [htm, ← HM.out.1] at HOA
        obtain ⟨A8, c8, hv8⟩ := Rd.form HOA.out.lots
        subst hv8
        obtain ⟨S, hS⟩ : ∃ S, S = sumU td := ⟨_, rfl⟩
        rw [← hS]
        have HSS := Lib.hid hS
        rw [← HM.out.2]
        clear htd htm hS
        go_wp2
        refine bodyPost_ret (v := .tuple #[.agg #[.slice A8 m c8], .int .i64 S, .int .i64 0]) (by simp [results, Try.results47, go_sem, k5, k6, k7]) rfl ?_
        rw [← HSS.out]
        have HO9 := HOA.out
        rw [← HM.out.2] at HO9
        have q1 := HO9.setCell ⟨w.heap.size + 1 + 1 + 1, 0, none⟩ (.slice A8 m c8) (HO9.ne (.inr (by simp; omega)))
        exact ⟨_, rfl, q1.base (by omega), below_set HB8.out _ _ (by simp; omega)⟩
end Go.Proofs.Ythhmpdjjfoplgaa
