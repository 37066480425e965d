/- TokenComments: the walk. -/
import Derived.Test.YtjnaeldaajckkaaTokV
import Derived.BigQuiet
set_option linter.unusedVariables false
set_option linter.unusedSimpArgs false
namespace Go.Proofs.Ytjnaeldaajckkaa
open Go.RowKit Tok

theorem app_list (a b : ByteArray) : (a ++ b).data.toList = a.data.toList ++ b.data.toList := by simp [ByteArray.data_append]
theorem word_ok {u : ByteArray} {j : Nat} (h : words[j]? = some u) : WordOk u.data.toList := ⟨u, List.mem_of_getElem? h, rfl⟩
theorem gap_ok {u : ByteArray} (h : u ∈ gaps) : GapOk u.data.toList := .inr ⟨u, h, rfl⟩

theorem IsTape.alloc' {w : World} {bt at_ : Nat} (h : IsTape w bt at_) (o : Obj) : IsTape (w.alloc o) bt at_ := h.below ((Below.refl _ _).alloc (Nat.le_refl _) _)
theorem grownBy_via' {a b : World} {row : Option Nat} (h : a.grownBy b row) (o : Obj) {c : World} (k : (b.alloc o).grownBy c row) : a.grownBy c row := grownBy_trans h (grownBy_trans (World.grownBy_alloc _ _ _) k)

set_option maxRecDepth 100000 in
set_option maxHeartbeats 4000000 in
theorem comments_any (a : Option Addr) (len cap : Nat) (z : List Int) (w : World) (hr : IsRow .i64 w a len cap z) :
    Calls Try.prog 7 #[.slice a len cap] w fun e w' => e = .returned (.bool true) ∧ Below w.heap.size w w' := by
  have ht0 := hr.tape 34
  clear hr
  have hS0 : (w.alloc (.cells #[.slice a len cap, .int .i64 0] 34)).heap.size = w.heap.size + 1 := by simp
  have hB0 := (Below.refl w.heap.size w).alloc (Nat.le_refl _) (.cells #[.slice a len cap, .int .i64 0] 34)
  go_enter Try.func7, Try.ntmps7
  go_wp2
  go_loopg [5, 6, 7, 8, 9, 10] 9 (fun n s1 s2 s3 i j1 j2 wr => ∃ (k at' : Nat) (ps : List Pc) (g : List UInt8) (x1 x2 x3 : ByteArray), k ≤ 8 ∧ 8 - k < n ∧ at' ≤ 3 * k ∧ i = .int .i64 k ∧ s1 = .string x1 ∧ s2 = .string x2 ∧ s3 = .string x3 ∧ ps.length = k ∧ PcOk ps ∧ GapOk g ∧ x1.data.toList = cL (bare ps) ∧ x2.data.toList = cL ps ∧ x3.data.toList = cL ps ++ g ∧
    (∀ j u, words[j]? = some u → wr.cell? ⟨w.heap.size + 1, j, none⟩ = some (.string u)) ∧ IsTape wr w.heap.size at' ∧ Below w.heap.size w wr ∧ w.heap.size + 1 < wr.heap.size)
  case atStart =>
    refine ⟨0, 0, [], [], ⟨#[]⟩, ⟨#[]⟩, ⟨#[]⟩, by omega, by omega, by omega, rfl, rfl, rfl, rfl, rfl, fun p hp => (by cases hp), .inl rfl, rfl, rfl, rfl, ?_, IsTape.alloc' ht0 _, hB0.alloc (by omega) _, by simp⟩
    have h := strs_new (w.alloc (.cells #[.slice a len cap, .int .i64 0] 34)) words 9
    rw [hS0] at h
    exact h
  case round =>
    obtain ⟨k, at', ps, g, x1, x2, x3, hk, hn, ha, rfl, rfl, rfl, rfl, hpk, hok, hgo, e1, e2, e3, hw, ht, hB, hS⟩ := hrel
    have hs1 : x1.size ≤ 12 * k := by have h1 := cL_len _ (bare_ok hok); rw [bare_len, hpk] at h1; rw [← len_data, e1]; exact h1
    have hs2 : x2.size ≤ 12 * k := by have h1 := cL_len _ hok; rw [hpk] at h1; rw [← len_data, e2]; exact h1
    have hs3 : x3.size ≤ 12 * k + 6 := by have h1 := cL_len _ hok; have h2 := hgo.len; rw [hpk] at h1; rw [← len_data, e3, List.length_append]; omega
    have HW := Lib.hid hw
    have HE1 := Lib.hid e1
    have HE2 := Lib.hid e2
    have HE3 := Lib.hid e3
    have HOK := Lib.hid hok
    have HGO := Lib.hid hgo
    have HPK := Lib.hid hpk
    clear hw e1 e2 e3 hok hgo hpk hB0 ht0 hS0
    go_wp2_with fail
    refine (next_any w.heap.size at' 8 _ ht (by omega) (by omega)).mono ?_
    rintro e w1 ⟨v, rfl, ht1, hg1⟩
    have hb := foldI_bd v 8 (by omega)
    generalize foldI v 8 = x at *
    have g1 := hg1.size
    by_cases hx : (k : Int) < 1 + x
    · go_wp2_with fail
      refine (next_any w.heap.size (at' + 1) 9 _ ht1 (by omega) (by omega)).mono ?_
      rintro e w2 ⟨v2, rfl, ht2, hg2⟩
      have hb2 := foldI_bd v2 9 (by omega)
      obtain ⟨n1, hn1⟩ : ∃ n1 : Nat, foldI v2 9 = n1 := ⟨(foldI v2 9).toNat, by omega⟩
      rw [hn1] at hb2 ⊢
      clear hn1
      have g2 := hg2.size
      have hG2 := grownBy_trans hg1 hg2
      clear hg1 hg2
      obtain ⟨u, hu⟩ : ∃ u, words[n1]? = some u := ⟨words[n1]'(by show n1 < 9; omega), List.getElem?_eq_getElem (by show n1 < 9; omega)⟩
      have hU := Lib.hid (word_ok hu)
      have hu5 : u.size ≤ 5 := by rw [← len_data]; exact hU.out.len
      have c1 := hG2.cell (HW.out n1 u hu) (by simp)
      clear hu
      go_wp2_with fail
      refine (one_n w.heap.size (at' + 1 + 1) w2.heap.size _ 5 gaps _ rfl (IsTape.alloc' ht2 _) (by omega) (by omega) (by omega) (by omega) (strs_new _ gaps _)).mono ?_
      rintro e w3 ⟨y, hy, rfl, ht3, hg3⟩
      have hY := Lib.hid (gap_ok hy)
      have hy6 : y.size ≤ 6 := by rw [← len_data]; exact hY.out.len
      have hG3 := grownBy_via' hG2 _ hg3
      have g3 := hG3.size
      clear hy hg3 hG2 c1
      go_wp2
      go_roundg (gk - 1)
      case measure => omega
      case rel =>
        refine ⟨k + 1, _, ps ++ [(y.data.toList, u.data.toList)], y.data.toList, _, _, _, by omega, by omega, ?_, by go_num, rfl, rfl, rfl, by rw [List.length_append, HPK.out]; rfl, HOK.out.snoc hY.out hU.out, hY.out, ?_, ?_, ?_, fun j u hj => hG3.cell (HW.out j u hj) (by simp), ht3, hB.trans (below_grownBy hG3 (Nat.le_refl _) (by omega)), by omega⟩
        · omega
        · rw [bare_snoc]; simp only [app_list, HE1.out]
        · rw [cL_snoc]; simp only [app_list, HE2.out, List.append_assoc]
        · rw [cL_snoc]; simp only [app_list, HE2.out, List.append_assoc]
    · have hk1 : 1 ≤ k := by omega
      obtain ⟨⟨t1, t2, m1, m2, m3, m4⟩, px, py, m5, m6⟩ := mix_scan ps HOK.out g HGO.out (by rw [HPK.out]; omega)
      have M1 := Lib.hid m1
      have M2 := Lib.hid m2
      have M3 := Lib.hid m3
      have M5 := Lib.hid m5
      have M6 := Lib.hid m6
      have hlen := m3.len
      rw [HPK.out] at m4
      have hk2 : 1 ≤ t1.length := by omega
      have hk3 : 1 ≤ t2.length := by omega
      have hk4 : t1.length ≤ 8 := by omega
      have zn : ((t1.length : Int) != t2.length) = false := by simp [hlen]
      have HN := Lib.hid hlen
      clear m1 m2 m3 m4 m5 m6 hlen
      have hB1 := hB.trans (below_grownBy hg1 (Nat.le_refl _) (by omega))
      clear ht ht1 hB hg1
      go_wp2_with fail
      refine (scan_any x1 _ (small_maxLen (by omega))).mono ?_
      rintro e w2 ⟨v2, r2, hr2, rfl, hown2, hb2⟩
      rw [HE1.out, M1.out] at hr2
      subst hr2
      obtain ⟨ga, oa, capa, rfl, hca⟩ := (Reads.of_own hown2).some (show t1.length ≠ 0 by omega)
      have HCA := Lib.hid hca
      have hB2 := hB1.trans (hb2.mono hB1.size)
      have s2 := hB2.size
      clear hown2 hca hb2 hB1
      go_wp2_with fail
      refine (scan_any x2 _ (small_maxLen (by omega))).mono ?_
      rintro e w3 ⟨v3, r3, hr3, rfl, hown3, hb3⟩
      rw [HE2.out, M2.out] at hr3
      subst hr3
      obtain ⟨gb, ob, capb, rfl, hcb⟩ := (Reads.of_own hown3).some (show t2.length ≠ 0 by omega)
      have HCB := Lib.hid hcb
      have HUP : Hid (∀ a v, w2.cell? a = some v → w3.cell? a = some v) := fun a v h => cell_up (cell_alloc h _) hb3
      have hB3 : Below w.heap.size w w3 := (hB2.alloc s2 _).trans (hb3.mono (by simp; omega))
      have s3 := hB3.size
      clear hown3 hcb hb3 hB2
      have z0 : ((t1.length : Int) == 0) = false := by rw [beq_eq_false_iff_ne]; omega
      go_wp2
      go_loopg [17] (t1.length + 1) (fun n i wr => ∃ q d : Nat, q ≤ t1.length ∧ t1.length - q ≤ n ∧ i = .int .i64 q ∧ wr = (w3.alloc (.cells #[.int .i64 0, .int .i64 0] 24)).drewN d)
      case atStart => exact ⟨0, 0, by omega, by omega, rfl, rfl⟩
      case round =>
        obtain ⟨q, d, hq, hm2, rfl, rfl⟩ := hrel
        by_cases hlt : q < t1.length
        · obtain ⟨t, ht⟩ : ∃ t, t1[q]? = some t := ⟨t1[q]'(by omega), List.getElem?_eq_getElem (by omega)⟩
          obtain ⟨u, hu, k1, k2⟩ := M3.out.get q t ht
          have q1 := cellsOf_get _ q t ht
          have q2 := cellsOf_get _ q u hu
          rw [k1, k2] at q2
          have hl2 : q < t2.length := by have := HN.out; omega
          have a0 := cell_alloc (HUP.out _ _ (HCA.out _ _ q1.1)) (.cells #[.int .i64 0, .int .i64 0] 24)
          have a1 : (w3.alloc (.cells #[.int .i64 0, .int .i64 0] 24)).cell? ⟨ga, oa + q * 4 + 1, none⟩ = some (.string ⟨t.text.toArray⟩) := by rw [Nat.add_assoc]; exact cell_alloc (HUP.out _ _ (HCA.out _ _ q1.2.1)) _
          have b0 := cell_alloc (HCB.out _ _ q2.1) (.cells #[.int .i64 0, .int .i64 0] 24)
          have b1 : (w3.alloc (.cells #[.int .i64 0, .int .i64 0] 24)).cell? ⟨gb, ob + q * 4 + 1, none⟩ = some (.string ⟨t.text.toArray⟩) := by rw [Nat.add_assoc]; exact cell_alloc (HCB.out _ _ q2.2.1) _
          clear q1 q2 ht hu k1 k2
          go_wp2
          go_quiet (fail)
          go_wp2
          go_roundg (gk - 1)
          case measure => omega
          case rel => exact ⟨q + 1, d + nq, by omega, by omega, by go_num, rfl⟩
        · have hB4 := below_drewN (hB3.alloc s3 (.cells #[.int .i64 0, .int .i64 0] 24)) d
          have s4 := hB4.size
          clear hB3
          have e5 : (x3 ++ ⟨#[33]⟩ ++ x1).size = x3.size + 1 + x1.size := by
            rw [ByteArray.size_append, ByteArray.size_append]; rfl
          have hz5 : (x3 ++ ⟨#[33]⟩ ++ x1).size ≤ maxLen := by
            rw [e5]; exact small_maxLen (by omega)
          clear e5
          go_wp2_with fail
          refine (scan_any _ _ hz5).mono ?_
          rintro e w5 ⟨v5, r5, hr5, rfl, hown5, hb5⟩
          have e33 : (⟨#[33]⟩ : ByteArray).data.toList = [33] := rfl
          have hl5 : (x3 ++ ⟨#[33]⟩ ++ x1).data.toList = cL ps ++ (g ++ 33 :: cL (bare ps)) := by
            rw [app_list, app_list, HE3.out, HE1.out, e33, List.append_assoc, List.append_assoc]; rfl
          have hl6 : (x3 ++ ⟨#[33]⟩).data.toList = cL ps ++ (g ++ [33]) := by
            rw [app_list, HE3.out, e33, List.append_assoc]
          have HL6 := Lib.hid hl6
          rw [hl5, M5.out] at hr5
          clear hl5 hl6 e33
          subst hr5
          obtain ⟨av, capv, rfl⟩ := (Reads.of_own hown5).zero rfl
          have hB5 := hB4.trans (hb5.mono hB4.size)
          have s5 := hB5.size
          clear hown5 hb5 hB4
          have p0 : (w5.alloc (.cells #[.int .i64 px, .int .i64 py] 24)).cell? ⟨w5.heap.size, 0, none⟩ = some (.int .i64 px) := cells_new w5 [.int .i64 px, .int .i64 py] 24 0 _ rfl
          have p1 : (w5.alloc (.cells #[.int .i64 px, .int .i64 py] 24)).cell? ⟨w5.heap.size, 1, none⟩ = some (.int .i64 py) := cells_new w5 [.int .i64 px, .int .i64 py] 24 1 _ rfl
          have hB6 := hB5.alloc s5 (.cells #[.int .i64 px, .int .i64 py] 24)
          clear hB5
          go_wp2_with fail
          refine (known_any _).mono ?_
          rintro e w7 ⟨rfl, hb7⟩
          have o0 := cell_up p0 hb7
          have o1 := cell_up p1 hb7
          have hB7 := hB6.trans (hb7.mono hB6.size)
          clear p0 p1 hB6 hb7
          have hsz : (x3 ++ ⟨#[33]⟩).size = x3.size + 1 := (by rw [ByteArray.size_append]; rfl)
          have hz6 : (x3 ++ ⟨#[33]⟩).size ≤ 1000000 := by omega
          go_wp2_with fail
          refine (offset_any _ px py _ hz6).mono ?_
          rintro e w8 ⟨y, rfl, hb8, hq8⟩
          have hy := hq8 x3.size (by omega) (by rw [HL6.out, ← len_data, HE3.out]; exact M6.out)
          subst hy
          clear hq8
          go_wp2
          go_ret
          exact ⟨rfl, hB7.trans (hb8.mono hB7.size)⟩
end Go.Proofs.Ytjnaeldaajckkaa
