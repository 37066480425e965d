/- The reference's Redeem, walked. -/
import Derived.Test.YthhmpdjjfoplgaaRegS
set_option linter.unusedVariables false
set_option linter.unusedSimpArgs false
namespace Go.Proofs.Ythhmpdjjfoplgaa
open Go.RowKit Reg

set_option maxRecDepth 100000 in
set_option maxHeartbeats 4000000 in
theorem rredeem_any (v : Value) (l : List Lot) (nm hl : ByteArray) (n : Int) (w : World) (h : LotsAt w v l) :
    Calls Try.prog 33 #[regV v, .agg #[.string nm, .string hl], .int .i64 n] w (RedP (redL l nm hl n).1 (redL l nm hl n).2 (redE l nm hl n) w) := by
  unfold regV
  obtain ⟨A, cap, hv⟩ := Rd.form h
  have hL := fun W hb => LotsAt.below (w' := W) h hb
  have HL := Lib.hid hL
  rcases redE_cases l nm hl n with ⟨h1, e1, e2⟩ | ⟨h1, h2, e1, e2⟩ | ⟨h1, h2, h3, e1, e2⟩ | ⟨h1, h2, h3, h4, e1, e2⟩ | ⟨h1, h2, h3, h4, e1, e2⟩
  · rw [e1, e2]
    subst hv
    have H1 := Lib.hid h1
    have HW := Lib.hid (W3.below w A l.length cap nm hl)
    clear h hL h1 e1 e2
    go_enter Try.func33, Try.ntmps33
    go_wp2_with fail
    refine (rcheck_no _ l (W3 w A l.length cap nm hl) (HL.out _ HW.out) H1.out).mono ?_
    rintro e w1 ⟨rfl, hb⟩
    obtain ⟨k0, k1, k2, k3, k4, k5, k6⟩ := W3.kept hb
    have HK := Lib.hid k6
    clear hb k6
    go_wp2
    refine bodyPost_ret (v := .tuple #[.agg #[.slice none 0 0], .slice none 0 0, .int .i64 250]) (by simp [results, Try.results33, go_sem, k3, k4, k5]) rfl ?_
    exact ret_red rfl (Own.nil _ _) (Own.nil _ _) (Nat.le_refl _) (below_set HK.out _ _ (by simp; omega))
  · rw [e1, e2]
    subst hv
    have H1 := Lib.hid h1
    have H2 := Lib.hid h2
    have HW := Lib.hid (W3.below w A l.length cap nm hl)
    clear h hL h1 h2 e1 e2
    go_enter Try.func33, Try.ntmps33
    go_wp2_with fail
    refine (rcheck_yes _ l (W3 w A l.length cap nm hl) (HL.out _ HW.out) H1.out).mono ?_
    rintro e w1 ⟨rfl, hb⟩
    obtain ⟨k0, k1, k2, k3, k4, k5, k6⟩ := W3.kept hb
    have HK := Lib.hid hb
    clear hb k6
    go_wp2_with fail
    refine (racctB_any nm hl false H2.out w1).mono ?_
    rintro e w2 ⟨rfl, hb⟩
    have hb2 := HK.out.trans (hb.mono HK.out.size)
    clear hb k0 k1 k2 k3 k4 k5
    obtain ⟨k0, k1, k2, k3, k4, k5, k6⟩ := W3.kept hb2
    have HK2 := Lib.hid k6
    clear hb2 k6
    go_wp2
    refine bodyPost_ret (v := .tuple #[.agg #[.slice none 0 0], .slice none 0 0, .int .i64 251]) (by simp [results, Try.results33, go_sem, k3, k4, k5]) rfl ?_
    exact ret_red rfl (Own.nil _ _) (Own.nil _ _) (Nat.le_refl _) (below_set HK2.out _ _ (by simp; omega))
  · rw [e1, e2]
    subst hv
    have H1 := Lib.hid h1
    have H2 := Lib.hid h2
    have HW := Lib.hid (W3.below w A l.length cap nm hl)
    clear h hL h1 h2 e1 e2
    go_enter Try.func33, Try.ntmps33
    go_wp2_with fail
    refine (rcheck_yes _ l (W3 w A l.length cap nm hl) (HL.out _ HW.out) H1.out).mono ?_
    rintro e w1 ⟨rfl, hb⟩
    obtain ⟨k0, k1, k2, k3, k4, k5, k6⟩ := W3.kept hb
    have HK := Lib.hid hb
    clear hb k6
    go_wp2_with fail
    refine (racctB_any nm hl true H2.out w1).mono ?_
    rintro e w2 ⟨rfl, hb⟩
    have hb2 := HK.out.trans (hb.mono HK.out.size)
    clear hb k0 k1 k2 k3 k4 k5
    obtain ⟨k0, k1, k2, k3, k4, k5, k6⟩ := W3.kept hb2
    have HK2 := Lib.hid k6
    clear hb2 k6
    go_wp2
    refine bodyPost_ret (v := .tuple #[.agg #[.slice none 0 0], .slice none 0 0, .int .i64 253]) (by simp [results, Try.results33, go_sem, k3, k4, k5]) rfl ?_
    exact ret_red rfl (Own.nil _ _) (Own.nil _ _) (Nat.le_refl _) (below_set HK2.out _ _ (by simp; omega))
  · rw [e1, e2]
    subst hv
    have H1 := Lib.hid h1
    have H2 := Lib.hid h2
    have HW := Lib.hid (W3.below w A l.length cap nm hl)
    clear h hL h1 h2 e1 e2
    go_enter Try.func33, Try.ntmps33
    go_wp2_with fail
    refine (rcheck_yes _ l (W3 w A l.length cap nm hl) (HL.out _ HW.out) H1.out).mono ?_
    rintro e w1 ⟨rfl, hb⟩
    obtain ⟨k0, k1, k2, k3, k4, k5, k6⟩ := W3.kept hb
    have HK := Lib.hid hb
    clear hb k6
    go_wp2_with fail
    refine (racctB_any nm hl true H2.out w1).mono ?_
    rintro e w2 ⟨rfl, hb⟩
    have hb2 := HK.out.trans (hb.mono HK.out.size)
    clear hb k0 k1 k2 k3 k4 k5
    obtain ⟨k0, k1, k2, k3, k4, k5, k6⟩ := W3.kept hb2
    have HK2 := Lib.hid k6
    clear hb2 k6
    go_wp2
    refine bodyPost_ret (v := .tuple #[.agg #[.slice none 0 0], .slice none 0 0, .int .i64 253]) (by simp [results, Try.results33, go_sem, k3, k4, k5]) rfl ?_
    exact ret_red rfl (Own.nil _ _) (Own.nil _ _) (Nat.le_refl _) (below_set HK2.out _ _ (by simp; omega))
  · rw [e1, e2]
    subst hv
    obtain ⟨f1, f2, f3, f4, f5⟩ := check_facts h1
    have H1 := Lib.hid h1
    have H2 := Lib.hid h2
    have HW := Lib.hid (W3.below w A l.length cap nm hl)
    have HU := Lib.hid f5
    have hfn : l.length ≤ 1000 := by omega
    have hn1 : ¬ n < 0 := by omega
    have hn2 : ¬ 1000000000000000 < n := by omega
    clear h hL h1 h2 e1 e2 f1 f2 f3 f4 f5
    go_enter Try.func33, Try.ntmps33
    go_wp2_with fail
    refine (rcheck_yes _ l (W3 w A l.length cap nm hl) (HL.out _ HW.out) H1.out).mono ?_
    rintro e w1 ⟨rfl, hb⟩
    obtain ⟨k0, k1, k2, k3, k4, k5, k6⟩ := W3.kept hb
    have HK := Lib.hid hb
    clear hb k6
    go_wp2_with fail
    refine (racctB_any nm hl true H2.out w1).mono ?_
    rintro e w2 ⟨rfl, hb⟩
    have hb2 := HK.out.trans (hb.mono HK.out.size)
    clear hb k0 k1 k2 k3 k4 k5 HK
    obtain ⟨k0, k1, k2, k3, k4, k5, k6⟩ := W3.kept hb2
    have HK := Lib.hid hb2
    have HK6 := Lib.hid k6
    have hz2 : w.heap.size + 1 + 1 < w2.heap.size := k5
    clear hb2 k6
    go_wp2_with fail
    refine (rtake_any (.slice A l.length cap) l nm hl n w2 (HL.out _ HK6.out) hfn HU.out h3 h4).mono ?_
    rintro e w3 ⟨va, vb, rfl, hoa, hob, hap, hb⟩
    have hb3 := HK.out.trans (hb.mono HK.out.size)
    have HO := Lib.hid (And.intro hoa hob)
    clear hoa hob hap hb k0 k1 k2 k3 k4 k5 HK HK6
    obtain ⟨k0, k1, k2, k3, k4, k5, k6⟩ := W3.kept hb3
    have HK := Lib.hid k6
    obtain ⟨A5, c5, rfl⟩ := Rd.form HO.out.1.lots
    clear hb3 k6
    go_wp2
    refine bodyPost_ret (v := .tuple #[.agg #[.slice A5 (takeR nm hl l n).1.length c5], vb, .int .i64 0]) (by simp [results, Try.results33, go_sem, k3, k4, k5]) rfl ?_
    have q1 := HO.out.1.setCell ⟨w.heap.size + 1 + 1, 0, none⟩ (.slice A5 (takeR nm hl l n).1.length c5) (HO.out.1.ne (.inr (by simp; omega)))
    have q2 := HO.out.2.setCell ⟨w.heap.size + 1 + 1, 0, none⟩ (.slice A5 (takeR nm hl l n).1.length c5) (HO.out.2.ne (.inr (by simp; omega)))
    have q3 := below_set HK.out ⟨w.heap.size + 1 + 1, 0, none⟩ (.slice A5 (takeR nm hl l n).1.length c5) (by simp; omega)
    exact ⟨_, vb, rfl, q1.base (by omega), q2.base (by omega), q3⟩
end Go.Proofs.Ythhmpdjjfoplgaa
