/- ApportionScales, walked. -/
import Derived.Test.YtnkmhbiklffjlaaApM
set_option linter.unusedVariables false
set_option linter.unusedSimpArgs false
namespace Go.Proofs.Ytnkmhbiklffjlaa
open Go.RowKit Ap

theorem row_of_own {w : World} {b g n cap : Nat} {t : TypeId} {ws : List Nat} (h : w.ownsRow b t 1 (.slice (some ⟨g, 0, none⟩) n cap) n (cellsN ws)) : Row w g 0 (ws.map Int.ofNat) := by
  refine ⟨fun k x hk => ?_, fun o => h.frozenAt o⟩
  rw [List.getElem?_map] at hk
  cases hx : ws[k]? with
  | none => rw [hx] at hk; simp at hk
  | some y =>
    rw [hx] at hk
    have hxy : x = Int.ofNat y := by simpa using hk.symm
    have hkl := (List.getElem?_eq_some_iff.1 hx).1
    have hlen : ws.length = n := by have := h.1; unfold cellsN at this; simpa using this
    rw [Nat.zero_add, h.cellAt k (by omega)]
    unfold cellsN
    rw [List.getElem?_map, hx, hxy]; rfl
theorem own_slice {w : World} {b n : Nat} {t : TypeId} {v : Value} {xs : List Value} (h : w.ownsRow b t 1 v n xs) (hn : 1 ≤ n) : ∃ g cap, v = .slice (some ⟨g, 0, none⟩) n cap ∧ b ≤ g ∧ g < w.heap.size := by
  rcases h.2 with ⟨_, h0⟩ | ⟨g, cap, cur, hv, hb, hh, _⟩
  · omega
  · refine ⟨g, cap, hv, hb, ?_⟩
    have := h.lt g (by rw [hv]; rfl)
    exact this.2
theorem goodD_scale {t K : Nat} {ws : List Nat} {l l2 : List Int} (hK : 0 < K) (hs : 0 < sumL ws) (h : GoodD t ws l) (h2 : GoodD t (ws.map (K * ·)) l2) : l2 = l := by
  obtain ⟨p, hp, rfl⟩ := h
  obtain ⟨q, hq, rfl⟩ := h2
  rw [parts_unique (parts_scale hK hs hq) hp]
theorem sumL_scale (ws : List Nat) (K : Nat) : sumL (ws.map (K * ·)) = K * sumL ws := by rw [sumL_map_mul, List.map_id']
theorem goodS_scale {t K : Nat} {ws : List Nat} {l l2 : List Int} (hK : 0 < K) (h : GoodS t ws l) (h2 : GoodS t (ws.map (K * ·)) l2) : l2 = l := by
  unfold GoodS at *
  rw [h2, h, sumL_scale]
  have := spread_scale t (sumL ws) K hK ws 0 0
  rwa [Nat.mul_zero] at this
/-- the weights of which the first i are cut -/
def cutL (ws : List Nat) (i : Nat) : List Nat := (ws.take i).map (· % 100000000) ++ ws.drop i
theorem cutL_get {ws : List Nat} {i x : Nat} (h : ws[i]? = some x) : (cutL ws i)[i]? = some x := by
  have hl := (List.getElem?_eq_some_iff.1 h).1
  have hd : ws.drop i = x :: ws.drop (i + 1) := by
    rw [List.drop_eq_getElem_cons hl]; congr 1
    rw [List.getElem?_eq_getElem hl] at h; exact Option.some.inj h
  unfold cutL
  rw [hd, get_mid _ _ _ _ (by rw [List.length_map, List.length_take]; omega)]
theorem cutL_set {ws : List Nat} {i x : Nat} (h : ws[i]? = some x) : (cutL ws i).set i (x % 100000000) = cutL ws (i + 1) := by
  have hl := (List.getElem?_eq_some_iff.1 h).1
  have hd : ws.drop i = x :: ws.drop (i + 1) := by
    rw [List.drop_eq_getElem_cons hl]; congr 1
    rw [List.getElem?_eq_getElem hl] at h; exact Option.some.inj h
  unfold cutL
  rw [hd, set_mid _ _ _ _ _ (by rw [List.length_map, List.length_take]; omega), List.take_add_one, h]
  simp
theorem cutL_full {ws : List Nat} {n : Nat} (h : ws.length = n) : cutL ws n = ws.map (· % 100000000) := by
  unfold cutL; rw [← h, List.take_length, List.drop_length]; simp
theorem same_rows (n : Nat) (l : List Int) (ga gb ca cb : Nat) (w : World) (ha : Row w ga 0 l) (hb : Row w gb 0 l) (hl : l.length = n) (hn : n ≤ 1000) :
    Calls Try.prog 17 #[.slice (some ⟨ga, 0, none⟩) n ca, .slice (some ⟨gb, 0, none⟩) n cb] w fun e w' => e = .returned (.bool true) ∧ ∃ n, w' = w.drewN n :=
  sameints_eq n l _ _ w (reads_row ha hl (by omega)) (reads_row hb hl (by omega)) (by omega)

set_option maxRecDepth 100000 in
set_option maxHeartbeats 8000000 in
theorem scales_any (a : Option Addr) (len cap : Nat) (z : List Int) (w : World) (hr : IsRow .i64 w a len cap z) :
    Calls Try.prog 8 #[.slice a len cap] w fun e w' => e = .returned (.bool true) ∧ Below w.heap.size w w' := by
  have ht0 := hr.tape 31
  clear hr
  go_enter Try.func8, Try.ntmps8
  go_wp2_with fail
  refine (weights_any w.heap.size 0 _ ht0 (by omega)).mono ?_
  rintro e w1 ⟨T, v, ws, at1, rfl, hl1, hl8, hall, hpos, hT1, hT2, hown, ht1, ha1, hg1⟩
  have hB1 := ((Below.refl w.heap.size w).alloc (Nat.le_refl _) (.cells #[.slice a len cap, .int .i64 0] 31)).trans (below_grownBy hg1 (Nat.le_refl _) (by simp))
  have HT := Lib.hid (And.intro hT1 hT2)
  have HOWN := Lib.hid hown
  clear hT1 hT2 hown hg1 ht0 hall hpos
  go_wp2_with fail
  refine (next_any w.heap.size at1 9 _ ht1 (by omega) (by omega)).mono ?_
  rintro e w2 ⟨u, rfl, ht2, hg2⟩
  have hb := foldI_bd u 9 (by omega)
  generalize foldI u 9 = f at *
  obtain ⟨K, hK⟩ : ∃ K : Nat, 1 + f = K := ⟨(1 + f).toNat, by omega⟩
  have hK1 : 1 ≤ K := by omega
  have hK9 : K ≤ 9 := by omega
  have wK : IntKind.i64.wrap (1 + f) = (K : Int) := by rw [IntWalk.i64_in _ (by omega)]; exact hK
  have HB := Lib.hid (hB1.trans (below_grownBy hg2 (Nat.le_refl _) hB1.size))
  have hown2 := own_kept HOWN.out hg2 (by simp)
  obtain ⟨gl, cl, rfl, hgb, hgs⟩ := own_slice hown2 hl1
  have HR := Lib.hid (row_of_own hown2)
  obtain ⟨n, hn⟩ : ∃ n, n = ws.length := ⟨_, rfl⟩
  rw [← hn] at hl1 hl8 ⊢
  have HN := Lib.hid hn
  have hwg : w.heap.size ≤ gl := by simp at hgb; omega
  clear hB1 hg2 hown2 ht1 ht2 ha1 hb hK hgb hn HOWN
  go_wp2
  go_loopg [7, 8] n (fun m vm iv wr => ∃ i : Nat, iv = .int .i64 i ∧ i ≤ n ∧ n ≤ m + i ∧ Row wr gl 0 ((cutL ws i).map Int.ofNat) ∧ wr.ownsRow w2.heap.size 3 1 vm i (cellsN ((ws.take i).map (fun x => K * (x % 100000000)))) ∧ gl < wr.heap.size ∧ w2.heap.size ≤ wr.heap.size ∧ Below w.heap.size w wr)
  case atStart => exact ⟨0, rfl, by omega, by omega, by have := HR.out; simpa [cutL] using this, World.ownsRow_nil _ _ _ _, hgs, Nat.le_refl _, HB.out⟩
  case round =>
    obtain ⟨i, rfl, hi, hm, hrow, hown, hgl, hsz, hbel⟩ := hrel
    have HROW := Lib.hid hrow
    have HO := Lib.hid hown
    have HBE := Lib.hid hbel
    clear hrow hown hbel
    by_cases hin : i < n
    · obtain ⟨x, hx⟩ : ∃ x, ws[i]? = some x := ⟨ws[i]'(by have := HN.out; omega), List.getElem?_eq_getElem _⟩
      have cx : wr.cell? ⟨gl, i, none⟩ = some (.int .i64 (x : Int)) := by
        have := HROW.out.1 i (Int.ofNat x) (by rw [List.getElem?_map, cutL_get hx]; rfl); simpa using this
      have fx := HROW.out.2
      obtain ⟨y, hy⟩ : ∃ y, y = x % 100000000 := ⟨_, rfl⟩
      have hr1 : (x : Int).tmod 100000000 = (y : Int) := by rw [Int.tmod_eq_emod_of_nonneg (by omega)]; omega
      have hr2 : (x : Int) % 100000000 = (y : Int) := by omega
      have hyb : y < 100000000 := by omega
      obtain ⟨q, hq⟩ : ∃ q, q = K * y := ⟨_, rfl⟩
      have hqb : q ≤ 900000000 := by
        have := Nat.mul_le_mul hK9 (show y ≤ 100000000 by omega)
        omega
      have wq : IntKind.i64.wrap ((K : Int) * (y : Int)) = (q : Int) := by
        rw [show ((K : Int) * (y : Int)) = (q : Int) by rw [hq]; exact (Int.natCast_mul K y).symm]; exact IntWalk.i64_in _ (by omega)
      have hset := HROW.out.set0 i (Int.ofNat y)
      rw [← List.map_set, hy, cutL_set hx, ← hy] at hset
      have htk : (ws.take (i + 1)).map (fun x => K * (x % 100000000)) = (ws.take i).map (fun x => K * (x % 100000000)) ++ [q] := by
        rw [List.take_add_one, hx, hq, hy]; simp
      have hbs := below_set HBE.out ⟨gl, i, none⟩ (.int .i64 (y : Int)) hwg
      have hos : (wr.setCell ⟨gl, i, none⟩ (.int .i64 (y : Int))).ownsRow w2.heap.size 3 1 u7 i (cellsN ((ws.take i).map (fun x => K * (x % 100000000)))) :=
        HO.out.kept (grownBy_setCell (bt := gl) ⟨gl, i, none⟩ rfl _) (.inr (fun e => by have := (HO.out.lt gl e).1; omega))
      have HSET := Lib.hid hset
      have HTK := Lib.hid htk
      have HBS := Lib.hid hbs
      have HOS := Lib.hid hos
      have ss : (wr.setCell ⟨gl, i, none⟩ (.int .i64 (y : Int))).heap.size = wr.heap.size := by simp
      clear hx hy hq hset htk hbs hos HO
      obtain ⟨i0, hi0, hz0, hz1, hz2⟩ := info_parts Try.info3
      go_wp2_with (at_builtin; refine wpList_append_own _ rfl _ _ 22 rfl w2.heap.size 3 i0 _ 1 8 Try.underlying22 hi0 hz0 hz1 hz2 rfl (by decide) u7 _ _ rfl (HOS.out.alloc _) ⟨wr.heap.size, 0, none⟩ 1 1 [.int .i64 q] rfl rfl ?_ ?_ ?_ ?_ ?_ ?_; (intro j u hu; have hcn := cells_new (wr.setCell ⟨gl, i, none⟩ (.int .i64 (y : Int))) [.int .i64 (q : Int)] 3 j u hu; rwa [ss] at hcn); (simp [Value.oneCell']); exact small_maxLen (by omega); omega; (simp; omega); intro v' w6 hown' hgrow _)
      have HW := Lib.hid (show w6.ownsRow w2.heap.size 3 1 v' (i + 1) (cellsN ((ws.take (i + 1)).map (fun x => K * (x % 100000000)))) by rw [HTK.out]; unfold cellsN; rw [List.map_append]; exact hown')
      have hne : ∀ q, u7.ownBlock = some q → w2.heap.size ≤ q := fun q hq => (HOS.out.lt q hq).1
      have HROW6 := Lib.hid ((HSET.out.alloc (.cells #[.int .i64 (q : Int)] 3) (by simp; omega)).grown hgrow (fun e => by have := hne gl e; omega) (by simp; omega))
      have hs6 := hgrow.size
      simp at hs6
      have HB6 := Lib.hid ((HBS.out.alloc (by have := HBS.out.size; exact this) (.cells #[.int .i64 (q : Int)] 3)).trans (show Below w.heap.size _ w6 from ⟨hgrow.os, hgrow.tape, hgrow.output, hgrow.size, fun k hk => hgrow.block k (by simp; omega) (fun e => by have := hne k e.symm; omega)⟩))
      clear hown' hgrow
      go_roundg (gk - 1)
      case measure => omega
      case rel => exact ⟨i + 1, by go_num, by omega, by omega, HROW6.out, HW.out, by omega, by omega, HB6.out⟩
    · have hin2 : i = n := by omega
      subst hin2
      obtain ⟨gm, cm, rfl, hgm1, hgm2⟩ := own_slice HO.out hl1
      have hneq : ¬ gl = gm := by omega
      have hcut := cutL_full HN.out.symm
      have htk : (ws.take i).map (fun x => K * (x % 100000000)) = (ws.map (· % 100000000)).map (K * ·) := by
        rw [List.take_of_length_le (by have := HN.out; omega), List.map_map]; rfl
      obtain ⟨us, hus⟩ : ∃ us, us = ws.map (· % 100000000) := ⟨_, rfl⟩
      have hul : us.length = i := by rw [hus, List.length_map]; exact HN.out.symm
      have hub : ∀ x ∈ us, x ≤ 100000000 := by
        intro x hx; rw [hus] at hx; obtain ⟨y, _, rfl⟩ := List.mem_map.1 hx; omega
      rw [hcut, ← hus] at HROW
      rw [htk, ← hus] at HO
      have HM := Lib.hid (row_of_own HO.out)
      have HU := Lib.hid (And.intro hul hub)
      have HTO := Lib.hid (totalN i us (.slice (some ⟨gl, 0, none⟩) i cl) wr (reads_rowN HROW.out hul (by omega)) (by omega) (fun x hx => by have := hub x hx; omega))
      clear hcut htk hus hul hub HO
      by_cases hs0 : sumL us = 0
      · have hs0' : (((sumL us : Nat) : Int) == 0) = true := by simp [hs0]
        obtain ⟨u0, ur, hu0⟩ : ∃ u0 ur, us = u0 :: ur := by
          cases us with
          | nil => have := HU.out.1; simp at this; omega
          | cons a b => exact ⟨a, b, rfl⟩
        have cl0 : wr.cell? ⟨gl, 0, none⟩ = some (.int .i64 (u0 : Int)) := by have := HROW.out.1 0 (Int.ofNat u0) (by rw [hu0]; rfl); simpa using this
        have cm0 : wr.cell? ⟨gm, 0, none⟩ = some (.int .i64 ((K * u0 : Nat) : Int)) := by have := HM.out.1 0 (Int.ofNat (K * u0)) (by rw [hu0]; rfl); simpa using this
        obtain ⟨ku0, hku⟩ : ∃ ku0, ku0 = K * u0 := ⟨_, rfl⟩
        rw [← hku] at cm0
        have fl := HROW.out.2
        have fm := HM.out.2
        have h1 := (HROW.out.set0 0 (Int.ofNat 1)).setOther ⟨gm, 0, none⟩ (.int .i64 (K : Int)) (by simp; omega)
        have h2 := (HM.out.setOther ⟨gl, 0, none⟩ (.int .i64 1) (by simp; omega)).set0 0 (Int.ofNat K)
        rw [← List.map_set] at h1 h2
        have HXX := Lib.hid (show ∃ xs : List Nat, (xs.length = i ∧ (∀ x ∈ xs, x ≤ 100000000) ∧ 0 < sumL xs ∧ Row ((wr.setCell ⟨gl, 0, none⟩ (.int .i64 1)).setCell ⟨gm, 0, none⟩ (.int .i64 (K : Int))) gl 0 (xs.map Int.ofNat) ∧ Row ((wr.setCell ⟨gl, 0, none⟩ (.int .i64 1)).setCell ⟨gm, 0, none⟩ (.int .i64 (K : Int))) gm 0 ((xs.map (K * ·)).map Int.ofNat) ∧ Below w.heap.size w ((wr.setCell ⟨gl, 0, none⟩ (.int .i64 1)).setCell ⟨gm, 0, none⟩ (.int .i64 (K : Int)))) from by
          refine ⟨us.set 0 1, ⟨by rw [List.length_set]; exact HU.out.1, ?_, ?_, h1, ?_, below_set (below_set HBE.out _ _ hwg) _ _ (by have := HB.out.size; simp; omega)⟩⟩
          · intro x hx
            rcases List.mem_or_eq_of_mem_set hx with hx | hx
            · exact HU.out.2 x hx
            · omega
          · rw [hu0]; simp only [List.set_cons_zero, sumL]; omega
          · have e : (us.set 0 1).map (K * ·) = (us.map (K * ·)).set 0 K := by rw [List.map_set, Nat.mul_one]
            rw [e]; exact h2)
        clear h1 h2 hku hu0
        go_wp2_with (go_at_call 19; refine HTO.out.mono ?_; rintro e w' ⟨rfl, rfl⟩)
        obtain ⟨xs, hX⟩ := HXX.out
        have HX := Lib.hid hX
        clear hX
        have hv1 : Valid ((wr.setCell ⟨gl, 0, none⟩ (.int .i64 1)).setCell ⟨gm, 0, none⟩ (.int .i64 (K : Int))) (.slice (some ⟨gl, 0, none⟩) i cl) i xs := ⟨reads_rowN HX.out.2.2.2.1 HX.out.1 (by omega), HX.out.1, hl1, by omega, fun x hx => by have := HX.out.2.1 x hx; omega⟩
        have hv2 : Valid ((wr.setCell ⟨gl, 0, none⟩ (.int .i64 1)).setCell ⟨gm, 0, none⟩ (.int .i64 (K : Int))) (.slice (some ⟨gm, 0, none⟩) i cm) i (xs.map (K * ·)) := ⟨reads_rowN HX.out.2.2.2.2.1 (by rw [List.length_map]; exact HX.out.1) (by omega), by rw [List.length_map]; exact HX.out.1, hl1, by omega, fun x hx => by
          obtain ⟨y, hy, rfl⟩ := List.mem_map.1 hx
          have h1 := HX.out.2.1 y hy
          have := Nat.mul_le_mul hK9 h1
          omega⟩
        have hpos2 : 0 < sumL (xs.map (K * ·)) := by rw [sumL_scale]; exact Nat.mul_pos hK1 HX.out.2.2.1
        have HV1 := Lib.hid hv1
        have HV2 := Lib.hid hv2
        have HP2 := Lib.hid hpos2
        clear hv1 hv2 hpos2
        refine (split_any T i xs _ _ HV1.out HX.out.2.2.1 HT.out.1 HT.out.2).mono ?_
        rintro e x1 ⟨ga, la, a1, a2, rfl, a4, a5, a6⟩
        have HA := Lib.hid (And.intro a4 (And.intro a5 a6))
        clear a1 a4 a5 a6
        go_wp2_with fail
        refine (split_any T i (xs.map (K * ·)) _ _ (HV2.out.below HA.out.2.2) HP2.out HT.out.1 HT.out.2).mono ?_
        rintro e x2 ⟨gb, lb, b1, b2, rfl, b4, b5, b6⟩
        have hlab := goodD_scale hK1 HX.out.2.2.1 HA.out.1 b4
        subst hlab
        have hlen1 := (HA.out.1.bd HX.out.2.2.1 (by have := HT.out; omega)).1
        have HB2 := Lib.hid (And.intro b5 b6)
        clear b1 b4 b5 b6
        go_wp2_with fail
        refine (spread_any T i xs _ _ ((HV1.out.below HA.out.2.2).below HB2.out.2) HX.out.2.2.1 HT.out.1 HT.out.2).mono ?_
        rintro e x3 ⟨gc, lc, c1, c2, rfl, c4, c5, c6⟩
        have HC := Lib.hid (And.intro c4 (And.intro c5 c6))
        clear c1 c4 c5 c6
        go_wp2_with fail
        refine (spread_any T i (xs.map (K * ·)) _ _ (((HV2.out.below HA.out.2.2).below HB2.out.2).below HC.out.2.2) HP2.out HT.out.1 HT.out.2).mono ?_
        rintro e x4 ⟨gd, ld, d1, d2, rfl, d4, d5, d6⟩
        have hlcd := goodS_scale hK1 HC.out.1 d4
        subst hlcd
        have hlen2 := (HC.out.1.bd HX.out.2.2.1 (by have := HT.out; omega)).1
        have HD2 := Lib.hid (And.intro d5 d6)
        have HLEN := Lib.hid (And.intro (hlen1.trans HX.out.1) (hlen2.trans HX.out.1))
        clear d1 d4 d5 d6 hlen1 hlen2
        have hs1 := HA.out.2.2.size
        have hs2 := HB2.out.2.size
        have hs3 := HC.out.2.2.size
        have hs4 := HD2.out.2.size
        go_wp2_with fail
        refine (known_any _).mono ?_
        rintro e x5 ⟨rfl, hk5⟩
        have hs5 := hk5.size
        have HK5 := Lib.hid hk5
        have ra := ((((HA.out.2.1.grown (grownBy_below HB2.out.2 none) (by simp) a2).grown (grownBy_below HC.out.2.2 none) (by simp) (by omega)).grown (grownBy_below HD2.out.2 none) (by simp) (by omega)).grown (grownBy_below hk5 none) (by simp) (by omega))
        have rb := (((HB2.out.1.grown (grownBy_below HC.out.2.2 none) (by simp) b2).grown (grownBy_below HD2.out.2 none) (by simp) (by omega)).grown (grownBy_below hk5 none) (by simp) (by omega))
        have rc := ((HC.out.2.1.grown (grownBy_below HD2.out.2 none) (by simp) c2).grown (grownBy_below hk5 none) (by simp) (by omega))
        have rd := (HD2.out.1.grown (grownBy_below hk5 none) (by simp) d2)
        have HAB := Lib.hid (same_rows i _ ga gb i i x5 ra rb (by split <;> (try rw [List.length_map]) <;> exact HLEN.out.1) (by omega))
        have HCD := Lib.hid (fun q => same_rows i _ gc gd i i (x5.drewN q) (rc.drewN q) (rd.drewN q) (by split <;> (try rw [List.length_map]) <;> exact HLEN.out.2) (by omega))
        clear hk5 ra rb rc rd
        go_wp2_with fail
        refine HAB.out.mono ?_
        rintro e x6 ⟨rfl, q6, rfl⟩
        go_wp2_with fail
        refine (HCD.out q6).mono ?_
        rintro e x7 ⟨rfl, q7, rfl⟩
        go_wp2
        go_ret
        have t0 := HX.out.2.2.2.2.2
        have t1 := t0.trans (HA.out.2.2.mono t0.size)
        have t2 := t1.trans (HB2.out.2.mono t1.size)
        have t3 := t2.trans (HC.out.2.2.mono t2.size)
        have t4 := t3.trans (HD2.out.2.mono t3.size)
        have t5 := t4.trans (HK5.out.mono t4.size)
        exact ⟨rfl, below_drewN t5 (q6 + q7)⟩
      · have hs0' : (((sumL us : Nat) : Int) == 0) = false := beq_eq_false_iff_ne.2 (by omega)
        have HXX := Lib.hid (show ∃ xs : List Nat, (xs.length = i ∧ (∀ x ∈ xs, x ≤ 100000000) ∧ 0 < sumL xs ∧ Row wr gl 0 (xs.map Int.ofNat) ∧ Row wr gm 0 ((xs.map (K * ·)).map Int.ofNat) ∧ Below w.heap.size w wr) from ⟨us, ⟨HU.out.1, HU.out.2, by omega, HROW.out, HM.out, HBE.out⟩⟩)
        go_wp2_with (go_at_call 19; refine HTO.out.mono ?_; rintro e w' ⟨rfl, rfl⟩)
        obtain ⟨xs, hX⟩ := HXX.out
        have HX := Lib.hid hX
        clear hX
        have hv1 : Valid wr (.slice (some ⟨gl, 0, none⟩) i cl) i xs := ⟨reads_rowN HX.out.2.2.2.1 HX.out.1 (by omega), HX.out.1, hl1, by omega, fun x hx => by have := HX.out.2.1 x hx; omega⟩
        have hv2 : Valid wr (.slice (some ⟨gm, 0, none⟩) i cm) i (xs.map (K * ·)) := ⟨reads_rowN HX.out.2.2.2.2.1 (by rw [List.length_map]; exact HX.out.1) (by omega), by rw [List.length_map]; exact HX.out.1, hl1, by omega, fun x hx => by
          obtain ⟨y, hy, rfl⟩ := List.mem_map.1 hx
          have h1 := HX.out.2.1 y hy
          have := Nat.mul_le_mul hK9 h1
          omega⟩
        have hpos2 : 0 < sumL (xs.map (K * ·)) := by rw [sumL_scale]; exact Nat.mul_pos hK1 HX.out.2.2.1
        have HV1 := Lib.hid hv1
        have HV2 := Lib.hid hv2
        have HP2 := Lib.hid hpos2
        clear hv1 hv2 hpos2
        refine (split_any T i xs _ _ HV1.out HX.out.2.2.1 HT.out.1 HT.out.2).mono ?_
        rintro e x1 ⟨ga, la, a1, a2, rfl, a4, a5, a6⟩
        have HA := Lib.hid (And.intro a4 (And.intro a5 a6))
        clear a1 a4 a5 a6
        go_wp2_with fail
        refine (split_any T i (xs.map (K * ·)) _ _ (HV2.out.below HA.out.2.2) HP2.out HT.out.1 HT.out.2).mono ?_
        rintro e x2 ⟨gb, lb, b1, b2, rfl, b4, b5, b6⟩
        have hlab := goodD_scale hK1 HX.out.2.2.1 HA.out.1 b4
        subst hlab
        have hlen1 := (HA.out.1.bd HX.out.2.2.1 (by have := HT.out; omega)).1
        have HB2 := Lib.hid (And.intro b5 b6)
        clear b1 b4 b5 b6
        go_wp2_with fail
        refine (spread_any T i xs _ _ ((HV1.out.below HA.out.2.2).below HB2.out.2) HX.out.2.2.1 HT.out.1 HT.out.2).mono ?_
        rintro e x3 ⟨gc, lc, c1, c2, rfl, c4, c5, c6⟩
        have HC := Lib.hid (And.intro c4 (And.intro c5 c6))
        clear c1 c4 c5 c6
        go_wp2_with fail
        refine (spread_any T i (xs.map (K * ·)) _ _ (((HV2.out.below HA.out.2.2).below HB2.out.2).below HC.out.2.2) HP2.out HT.out.1 HT.out.2).mono ?_
        rintro e x4 ⟨gd, ld, d1, d2, rfl, d4, d5, d6⟩
        have hlcd := goodS_scale hK1 HC.out.1 d4
        subst hlcd
        have hlen2 := (HC.out.1.bd HX.out.2.2.1 (by have := HT.out; omega)).1
        have HD2 := Lib.hid (And.intro d5 d6)
        have HLEN := Lib.hid (And.intro (hlen1.trans HX.out.1) (hlen2.trans HX.out.1))
        clear d1 d4 d5 d6 hlen1 hlen2
        have hs1 := HA.out.2.2.size
        have hs2 := HB2.out.2.size
        have hs3 := HC.out.2.2.size
        have hs4 := HD2.out.2.size
        go_wp2_with fail
        refine (known_any _).mono ?_
        rintro e x5 ⟨rfl, hk5⟩
        have hs5 := hk5.size
        have HK5 := Lib.hid hk5
        have ra := ((((HA.out.2.1.grown (grownBy_below HB2.out.2 none) (by simp) a2).grown (grownBy_below HC.out.2.2 none) (by simp) (by omega)).grown (grownBy_below HD2.out.2 none) (by simp) (by omega)).grown (grownBy_below hk5 none) (by simp) (by omega))
        have rb := (((HB2.out.1.grown (grownBy_below HC.out.2.2 none) (by simp) b2).grown (grownBy_below HD2.out.2 none) (by simp) (by omega)).grown (grownBy_below hk5 none) (by simp) (by omega))
        have rc := ((HC.out.2.1.grown (grownBy_below HD2.out.2 none) (by simp) c2).grown (grownBy_below hk5 none) (by simp) (by omega))
        have rd := (HD2.out.1.grown (grownBy_below hk5 none) (by simp) d2)
        have HAB := Lib.hid (same_rows i _ ga gb i i x5 ra rb (by split <;> (try rw [List.length_map]) <;> exact HLEN.out.1) (by omega))
        have HCD := Lib.hid (fun q => same_rows i _ gc gd i i (x5.drewN q) (rc.drewN q) (rd.drewN q) (by split <;> (try rw [List.length_map]) <;> exact HLEN.out.2) (by omega))
        clear hk5 ra rb rc rd
        go_wp2_with fail
        refine HAB.out.mono ?_
        rintro e x6 ⟨rfl, q6, rfl⟩
        go_wp2_with fail
        refine (HCD.out q6).mono ?_
        rintro e x7 ⟨rfl, q7, rfl⟩
        go_wp2
        go_ret
        have t0 := HX.out.2.2.2.2.2
        have t1 := t0.trans (HA.out.2.2.mono t0.size)
        have t2 := t1.trans (HB2.out.2.mono t1.size)
        have t3 := t2.trans (HC.out.2.2.mono t2.size)
        have t4 := t3.trans (HD2.out.2.mono t3.size)
        have t5 := t4.trans (HK5.out.mono t4.size)
        exact ⟨rfl, below_drewN t5 (q6 + q7)⟩
end Go.Proofs.Ytnkmhbiklffjlaa
