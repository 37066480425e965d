/- ApportionGroups, walked. -/
import Derived.Test.YtnkmhbiklffjlaaApZ
import Derived.Deep.CutRange
import Derived.Deep.RegionHeld3
set_option linter.unusedVariables false
set_option linter.unusedSimpArgs false
namespace Go.Proofs.Ytnkmhbiklffjlaa
open Go.RowKit Ap

/-- the parts of one group -/
def GroupP (g : Nat) (part x : List Nat) : Prop := (sumL part = 0 ∧ x = List.replicate part.length 0) ∨ (0 < sumL part ∧ Parts g part x)
def Stage (g1 g2 : Nat) (m1 m2 : List Nat) (i : Nat) (xs : List Nat) : Prop :=
  (i = 0 ∧ xs = []) ∨ (i = 1 ∧ GroupP g1 m1 xs) ∨ (i = 2 ∧ ∃ x1 x2, xs = x1 ++ x2 ∧ GroupP g1 m1 x1 ∧ GroupP g2 m2 x2)
theorem groupP_len {g : Nat} {part x : List Nat} (h : GroupP g part x) : x.length = part.length := by
  rcases h with ⟨_, rfl⟩ | ⟨_, o, _, _, h, _⟩
  · simp
  · exact h
theorem groupP_bd {g : Nat} {part x : List Nat} (h : GroupP g part x) (hg : g ≤ 1000000000000000) : ∀ y ∈ x, y ≤ 1000000000000000 := by
  rcases h with ⟨_, rfl⟩ | ⟨h, hp⟩
  · intro y hy; have := (List.mem_replicate.1 hy).2; omega
  · intro y hy
    have h1 := parts_sum h hp
    have h2 := sumL_mem hy
    omega
theorem split_two (N A B : Nat) (W : World) (t : TypeId) (hN : N ≤ 1000000000000000) (hA : A ≤ 1000000000000000) (hB : B ≤ 1000000000000000) (hpos : 0 < A + B) :
    Calls Try.prog 10 #[.int .i64 N, .slice (some ⟨W.heap.size, 0, none⟩) 2 2] (W.alloc (.cells #[.int .i64 A, .int .i64 B] t)).drew fun e w' => ∃ (g : Nat) (p : List Nat), e = .returned (.tuple #[.slice (some ⟨g, 0, none⟩) 2 2, .int .i64 0]) ∧ Parts N [A, B] p ∧ Row w' g 0 (p.map Int.ofNat) ∧ g < w'.heap.size ∧ Below W.heap.size W w' := by
  have hr := reads_new W (cellsN [A, B]) 2 t rfl (by omega)
  have hv : Valid (W.alloc (.cells (cellsN [A, B]).toArray t)).drew (.slice (some ⟨W.heap.size, 0, none⟩) 2 2) 2 [A, B] := ⟨show Reads _ _ _ _ _ from hr, rfl, by omega, by omega, by
    intro x hx
    have : x = A ∨ x = B := by simpa using hx
    omega⟩
  refine (split_any (N : Int) 2 [A, B] _ _ hv (by simp [sumL]; omega) (by omega) (by omega)).mono ?_
  rintro e w' ⟨g, l, h1, h2, rfl, ⟨p, hp, rfl⟩, h5, h6⟩
  rw [if_neg (by omega)] at h5
  rw [Int.natAbs_natCast] at hp
  exact ⟨g, p, rfl, hp, h5, h2, (below_drew ((Below.refl _ _).alloc (Nat.le_refl _) _)).trans (h6.mono (by simp))⟩
theorem reads_slice {w : World} {g K n cl off : Nat} {ws : List Nat} (h : Row w g 0 (ws.map Int.ofNat)) (M : List Nat) (hM : ∀ j x, M[j]? = some x → ws[off + j]? = some x) (hl : M.length = K) (hn : K ≤ 1000) : Reads w 1 (.slice (some ⟨g, off, none⟩) K cl) K (cellsN M) := by
  refine ⟨by unfold cellsN; simp [hl], by omega, .inr ⟨g, off, cl, rfl, fun j u hu => ?_⟩⟩
  unfold cellsN at hu
  rw [List.getElem?_map] at hu
  cases hx : M[j]? with
  | none => rw [hx] at hu; simp at hu
  | some x =>
    rw [hx] at hu
    have : u = .int .i64 (x : Int) := by simpa using hu.symm
    rw [this]
    have := h.1 (off + j) (Int.ofNat x) (by rw [List.getElem?_map, hM j x hx]; rfl)
    simpa using this
theorem cellsN_app (a b : List Nat) : cellsN (a ++ b) = cellsN a ++ cellsN b := by unfold cellsN; rw [List.map_append]
theorem news_row {w : World} {g : Nat} {x : List Nat} (h : Row w g 0 (x.map Int.ofNat)) : ∀ j u, (cellsN x)[j]? = some u → w.cell? ((⟨g, 0, none⟩ : Addr).add j) = some u := by
  intro j u hu
  have hadd : (⟨g, 0, none⟩ : Addr).add j = ⟨g, 0 + j, none⟩ := by unfold Addr.add; split <;> simp_all
  rw [hadd]
  unfold cellsN at hu
  rw [List.getElem?_map] at hu
  cases hx : x[j]? with
  | none => rw [hx] at hu; simp at hu
  | some y =>
    rw [hx] at hu
    have : u = .int .i64 (y : Int) := by simpa using hu.symm
    rw [this]
    exact h.1 j (Int.ofNat y) (by rw [List.getElem?_map, hx]; rfl)
theorem cellsN_zeros (k : Nat) : cellsN (List.replicate k 0) = List.replicate k (.int .i64 0) := by unfold cellsN; rw [List.map_replicate]; rfl
theorem below_own {W wr w' : World} {v : Value} {n : Nat} {t : TypeId} {xs : List Value} (h : Below W.heap.size W wr) (ho : wr.ownsRow W.heap.size t 1 v n xs) (hg : wr.grownBy w' v.ownBlock) : Below W.heap.size W w' :=
  h.trans ⟨hg.os, hg.tape, hg.output, hg.size, fun k hk => hg.block k (by have := h.size; omega) (fun e => by have := (ho.lt k e.symm).1; omega)⟩
theorem getD_two {N A B : Nat} {p : List Nat} (h : Parts N [A, B] p) (hpos : 0 < A + B) : p.length = 2 ∧ p.getD 0 0 ≤ N ∧ p.getD 1 0 ≤ N := by
  have hl : p.length = 2 := by obtain ⟨o, _, _, h, _⟩ := h; exact h
  have hs := parts_sum (by simp [sumL]; omega) h
  exact ⟨hl, by rw [← hs]; exact sumL_mem (getD_mem (by omega)), by rw [← hs]; exact sumL_mem (getD_mem (by omega))⟩

set_option maxRecDepth 100000 in
set_option maxHeartbeats 8000000 in
theorem groups_any (a : Option Addr) (len cap : Nat) (z : List Int) (w : World) (hr : IsRow .i64 w a len cap z) :
    Calls Try.prog 9 #[.slice a len cap] w fun e w' => e = .returned (.bool true) ∧ Below w.heap.size w w' := by
  have ht0 := hr.tape 31
  clear hr
  go_enter Try.func9, Try.ntmps9
  go_wp2_with fail
  refine (weights_any w.heap.size 0 _ ht0 (by omega)).mono ?_
  rintro e w1 ⟨T, v, ws, at1, rfl, hl1, hl8, hall, hpos, hT1, hT2, hown, ht1, ha1, hg1⟩
  have hB1 := ((Below.refl w.heap.size w).alloc (Nat.le_refl _) (.cells #[.slice a len cap, .int .i64 0] 31)).trans (below_grownBy hg1 (Nat.le_refl _) (by simp))
  obtain ⟨N, hN⟩ : ∃ N : Nat, N = T.natAbs := ⟨_, rfl⟩
  have hmx := max_abs T
  rw [← hN] at hmx
  have hwn : IntKind.i64.wrap (-T) = -T := IntWalk.i64_in _ (by omega)
  have hNb : N ≤ 1000000000000000 := by omega
  have HOWN := Lib.hid hown
  have HALL := Lib.hid hall
  obtain ⟨gl, cl, rfl, hgb, hgs⟩ := own_slice hown hl1
  have hncl : ws.length ≤ cl := by
    rcases hown.2 with ⟨h, _⟩ | ⟨g', cap', cur, h, _, _, hnc, _⟩
    · simp at h
    · injection h with _ _ h3; omega
  obtain ⟨n, hn⟩ : ∃ n, n = ws.length := ⟨_, rfl⟩
  rw [← hn] at hl1 hl8 hncl HOWN ⊢
  have HN := Lib.hid hn
  have HPOS := Lib.hid hpos
  have wn1 : IntKind.i64.wrap ((n : Int) + 1) = (n : Int) + 1 := IntWalk.i64_in _ (by omega)
  clear hT1 hT2 hown hg1 ht0 hN hall hpos hn hgb
  go_wp2_with fail
  refine (next_any w.heap.size at1 ((n : Int) + 1) _ ht1 (by omega) (by omega)).mono ?_
  rintro e w2 ⟨u, rfl, ht2, hg2⟩
  have hb := foldI_bd u ((n : Int) + 1) (by omega)
  obtain ⟨K, hK⟩ : ∃ K : Nat, foldI u ((n : Int) + 1) = K := ⟨(foldI u ((n : Int) + 1)).toNat, by omega⟩
  rw [hK] at hb ⊢
  have hKn : K ≤ n := by omega
  have hKcl : K ≤ cl := by omega
  have HV := Lib.hid (show Valid w2 (.slice (some ⟨gl, 0, none⟩) n cl) n ws by have h := own_kept HOWN.out hg2 (by simp); rw [HN.out] at h ⊢; exact wp_valid (by rw [← HN.out]; exact hl1) (by rw [← HN.out]; exact hl8) HALL.out h)
  have HR := Lib.hid (row_of_own (own_kept HOWN.out hg2 (by simp)))
  have HB1 := Lib.hid (hB1.trans (below_grownBy hg2 (Nat.le_refl _) hB1.size))
  have hgs2 : gl < w2.heap.size := by have := hg2.size; omega
  clear hB1 hg2 ht1 ht2 ha1 HOWN hgs hb hK
  have HTS := Lib.hid (totalN n ws (.slice (some ⟨gl, 0, none⟩) n cl) w2 HV.out.reads (by omega) HALL.out)
  obtain ⟨S, hS⟩ : ∃ S, S = sumL ws := ⟨_, rfl⟩
  rw [← hS] at HTS HPOS
  have HS := Lib.hid hS
  clear hS
  by_cases hbig : (1000000000000000 : Int) < S
  · go_wp2_with (go_at_call 19; refine HTS.out.mono ?_; rintro e w' ⟨rfl, rfl⟩)
    refine (known_any _).mono ?_
    rintro e w3 ⟨rfl, hb3⟩
    have HB3 := Lib.hid hb3
    clear hb3
    go_wp2
    go_ret
    exact ⟨rfl, HB1.out.trans (HB3.out.mono HB1.out.size)⟩
  · go_wp2_with (go_at_call 19; refine HTS.out.mono ?_; rintro e w' ⟨rfl, rfl⟩)
    refine (split_any (N : Int) n ws _ _ HV.out (by rw [← HS.out]; exact HPOS.out) (by omega) (by omega)).mono ?_
    rintro e w3 ⟨ga, la, k1, k2, rfl, ⟨p, hp, rfl⟩, k5, k6⟩
    rw [if_neg (by omega)] at k5
    rw [Int.natAbs_natCast] at hp
    have HA := Lib.hid (And.intro hp (And.intro k5 k6))
    have HR3 := Lib.hid (HR.out.grown (grownBy_below k6 none) (by simp) hgs2)
    have hs3 := k6.size
    have HB3 := Lib.hid (HB1.out.trans (k6.mono HB1.out.size))
    clear k1 hp k5 k6 HR HV HB1 HTS
    obtain ⟨m1, hm1⟩ : ∃ m1, m1 = ws.take K := ⟨_, rfl⟩
    obtain ⟨m2, hm2⟩ : ∃ m2, m2 = ws.drop K := ⟨_, rfl⟩
    have hm1l : m1.length = K := by rw [hm1, List.length_take]; have := HN.out; omega
    have hm2l : m2.length = n - K := by rw [hm2, List.length_drop]; have := HN.out; omega
    have hmg1 : ∀ j x, m1[j]? = some x → ws[0 + j]? = some x := fun j x h => by
      rw [hm1, List.getElem?_take] at h
      split at h
      · simpa using h
      · cases h
    obtain ⟨o2, hif, hmg2⟩ : ∃ o2, (if cl = K then some ⟨gl, 0, none⟩ else some ⟨gl, K, none⟩ : Option Addr) = some ⟨gl, o2, none⟩ ∧ ∀ j x, m2[j]? = some x → ws[o2 + j]? = some x := by
      by_cases hcK : cl = K
      · refine ⟨0, by rw [if_pos hcK], fun j x h => ?_⟩
        have := (List.getElem?_eq_some_iff.1 h).1
        omega
      · refine ⟨K, by rw [if_neg hcK], fun j x h => ?_⟩
        rw [hm2, List.getElem?_drop] at h; exact h
    obtain ⟨A, hA⟩ : ∃ A, A = sumL m1 := ⟨_, rfl⟩
    obtain ⟨B, hB⟩ : ∃ B, B = sumL m2 := ⟨_, rfl⟩
    have hAB : A + B = S := by rw [hA, hB, hm1, hm2, ← sumL_app, List.take_append_drop, HS.out]
    have hb1 : ∀ x ∈ m1, x ≤ 1000000000000000 := fun x hx => HALL.out x (by rw [hm1] at hx; exact List.mem_of_mem_take hx)
    have hb2 : ∀ x ∈ m2, x ≤ 1000000000000000 := fun x hx => HALL.out x (by rw [hm2] at hx; exact List.mem_of_mem_drop hx)
    have HT1 := Lib.hid (fun W (h : Row W gl 0 (ws.map Int.ofNat)) => totalN K m1 (.slice (some ⟨gl, 0, none⟩) K cl) W (reads_slice (K := K) (n := n) h m1 hmg1 hm1l (by omega)) (by omega) hb1)
    have HT2 := Lib.hid (fun W (h : Row W gl 0 (ws.map Int.ofNat)) => totalN (n - K) m2 (.slice (some ⟨gl, o2, none⟩) (n - K) (cl - K)) W (reads_slice (K := n - K) (n := n) h m2 hmg2 hm2l (by omega)) (by omega) hb2)
    rw [← hA] at HT1
    rw [← hB] at HT2
    have HM := Lib.hid (And.intro hm1 (And.intro hm2 (And.intro hm1l (And.intro hm2l (And.intro hmg1 (And.intro hmg2 (And.intro hb1 hb2)))))))
    have HAB := Lib.hid (And.intro hA (And.intro hB hAB))
    have HSB := Lib.hid (show S ≤ 1000000000000000 by omega)
    clear hm1 hm2 hm1l hm2l hmg1 hmg2 hA hB hAB hb1 hb2
    go_upto_region 8 with fail
    go_cut [9, 10] from 45 to 58 (fun p9 p10 wx => ∃ (gg : Nat) (gp : List Nat), p9 = .slice (some ⟨gg, 0, none⟩) 2 2 ∧ p10 = .int .i64 0 ∧ Parts N [A, B] gp ∧ Row wx gg 0 (gp.map Int.ofNat) ∧ gg < wx.heap.size ∧ Below w3.heap.size w3 wx)
    case first =>
      have hgl3 : gl < w3.heap.size := by omega
      go_region_held3 (fun W : World => Row W gl 0 (ws.map Int.ofNat)) (first | assumption | exact HR3.out | exact Row.alloc HR3.out _ hgl3 | exact Row.alloc (Row.drew HR3.out) _ hgl3 | exact Row.drew (Row.alloc HR3.out _ hgl3) | exact HR3.out.grown (grownBy_below f4 none) (by simp) hgl3) (first
        | (go_at_call_of 19 (Value.slice (some ⟨gl, 0, none⟩) K cl); refine (HT1.out w3.drew (Row.drew HR3.out)).mono ?_; rintro e w' ⟨rfl, rfl⟩; dsimp only)
        | (go_at_call_of 19 (Value.slice (some ⟨gl, o2, none⟩) (n - K) (cl - K)); refine (HT2.out w3.drew (Row.drew HR3.out)).mono ?_; rintro e w' ⟨rfl, rfl⟩; dsimp only)
        | (go_at_call 10; refine (split_two N A B w3 _ hNb (by have := HAB.out; have := HSB.out; omega) (by have := HAB.out; have := HSB.out; omega) (by have := HAB.out; have := HPOS.out; omega)).mono ?_; rintro e w' ⟨gg, gp, rfl, f1, f2, f3, f4⟩; dsimp only))
      all_goals go_wp2_with fail
      go_meet
      exact ⟨gg, gp, rfl, rfl, f1, f2, f3, f4⟩
    case rest =>
      obtain ⟨gg, gp, rfl, rfl, hgp, hgrow, hggs, hb4⟩ := hcut
      have hgl3 : gl < w3.heap.size := by omega
      have hs4 := hb4.size
      have hgl4 : gl < wc.heap.size := by omega
      have HR4 := Lib.hid (HR3.out.grown (grownBy_below hb4 none) (by simp) hgl3)
      have HA4 := Lib.hid (HA.out.2.1.grown (grownBy_below hb4 none) (by simp) k2)
      have hga4 : ga < wc.heap.size := by omega
      have HB4 := Lib.hid (HB3.out.trans (hb4.mono HB3.out.size))
      have HGD := Lib.hid (getD_two hgp (by have := HAB.out; have := HPOS.out; omega))
      have HG := Lib.hid (And.intro hgp (And.intro hgrow hb4))
      obtain ⟨g1, hg1⟩ : ∃ g1, g1 = gp.getD 0 0 := ⟨_, rfl⟩
      obtain ⟨g2, hg2⟩ : ∃ g2, g2 = gp.getD 1 0 := ⟨_, rfl⟩
      have HGE := Lib.hid (And.intro hg1 hg2)
      have HPL := Lib.hid (show p.length = n by obtain ⟨o, _, _, h, _⟩ := HA.out.1; rw [h]; exact HN.out.symm)
      clear hgp hgrow hb4 hg1 hg2 HR3
      go_wp2
      go_loopg [11, 12, 13, 14, 15] 2 (fun m pv iv qv xv ev wr => ∃ (i : Nat) (xs : List Nat), iv = .int .i64 i ∧ i ≤ 2 ∧ 2 ≤ m + i ∧ xs.length ≤ n ∧ wr.ownsRow wc.heap.size 3 1 pv xs.length (cellsN xs) ∧ Below wc.heap.size wc wr ∧ Stage g1 g2 m1 m2 i xs)
      case atStart => exact ⟨0, [], rfl, by omega, by omega, by simp, World.ownsRow_nil _ _ _ _, Below.refl _ _, .inl ⟨rfl, rfl⟩⟩
      case round =>
        obtain ⟨i, xs, rfl, hi2, hm, hxn, hown, hbel, hst⟩ := hrel
        have HO := Lib.hid hown
        have HBE := Lib.hid hbel
        clear hown hbel
        by_cases hi0 : i = 0
        · subst hi0
          have hxs : xs = [] := by rcases hst with ⟨_, h⟩ | ⟨h, _⟩ | ⟨h, _⟩ <;> first | exact h | omega
          subst hxs
          clear hst
          have HRw := Lib.hid (HR4.out.grown (grownBy_below HBE.out none) (by simp) hgl4)
          have HTw := Lib.hid (HT1.out wr HRw.out)
          obtain ⟨i0, hi0, hz0, hz1, hz2⟩ := info_parts Try.info3
          by_cases hz : A = 0
          · have hz' : ((A : Int) == 0) = true := by simp [hz]
            obtain ⟨v', w6, hrun, hown6, hgrow6⟩ := run_zeros_own (P := Try.prog) wr wc.heap.size 22 3 22 3 i0 Try.underlying22 Try.underlying3 hi0 hz0 hz1 hz2 u11 _ _ HO.out K (by first | omega | (simp; omega)) HBE.out.size
            have hb6 := below_own HBE.out HO.out hgrow6
            have HO6 := Lib.hid hown6
            have HB6 := Lib.hid hb6
            have HZ := Lib.hid hz
            clear hown6 hgrow6 hb6 hz HO
            go_wp2_with (first
              | (go_at_call 19; refine HTw.out.mono ?_; rintro e w' ⟨rfl, rfl⟩)
              | (at_builtin; refine Lib.wpList_append_run _ rfl _ _ _ _ rfl _ _ rfl rfl _ _ hrun ?_))
            go_roundg (gk - 1)
            case measure => omega
            case rel => exact ⟨1, [] ++ List.replicate K 0, by go_num, by omega, by omega, by rw [List.length_append, List.length_replicate]; first | omega | (simp; omega), by rw [List.length_append, List.length_replicate, cellsN_app, cellsN_zeros]; exact HO6.out, HB6.out, .inr (.inl ⟨rfl, by simpa using (show GroupP g1 m1 (List.replicate K 0) from .inl ⟨by rw [← HAB.out.1]; exact HZ.out, by rw [HM.out.2.2.1]⟩)⟩)⟩
          · have hz' : ((A : Int) == 0) = false := beq_eq_false_iff_ne.2 (by omega)
            have cg : wr.cell? ⟨gg, 0, none⟩ = some (.int .i64 (g1 : Int)) := by
              have h1 := HG.out.2.1.1 0 (Int.ofNat g1) (by rw [List.getElem?_map, get_of (ws := gp) (i := 0) (by have := HGD.out.1; omega), ← HGE.out.1]; rfl)
              rw [HBE.out.cell (p := ⟨gg, 0, none⟩) hggs]
              simpa using h1
            have hPL : 1 ≤ K := by
              rcases Nat.lt_or_ge 0 (K) with h | h
              · exact h
              · exfalso
                have h1 : m1.length = 0 := by rw [HM.out.2.2.1]; omega
                have h2 : m1 = [] := List.eq_nil_of_length_eq_zero h1
                have h3 := HAB.out.1
                rw [h2] at h3; simp [sumL] at h3; omega
            have hvp : Valid wr (.slice (some ⟨gl, 0, none⟩) K cl) K m1 := ⟨reads_slice (K := K) (n := n) HRw.out m1 HM.out.2.2.2.2.1 HM.out.2.2.1 (by omega), HM.out.2.2.1, hPL, by omega, HM.out.2.2.2.2.2.2.1⟩
            have HSP := Lib.hid (split_any (g1 : Int) K m1 _ wr hvp (by rw [← HAB.out.1]; omega) (by omega) (by have := HGD.out; have := HGE.out; omega))
            have HZ := Lib.hid hz
            clear hvp hz hPL
            go_wp2_with (go_at_call 19; refine HTw.out.mono ?_; rintro e w' ⟨rfl, rfl⟩)
            refine HSP.out.mono ?_
            rintro e w5 ⟨gx, lx, f1, f2, rfl, ⟨x, hx, rfl⟩, f5, f6⟩
            rw [if_neg (by omega)] at f5
            rw [Int.natAbs_natCast] at hx
            have hxln : x.length = K := by
              have h1 : x.length = m1.length := by obtain ⟨o, _, _, h, _⟩ := hx; exact h
              rw [h1, HM.out.2.2.1]
            have HO5 := Lib.hid (ownsRow_below HO.out f6)
            have HB5 := Lib.hid (HBE.out.trans (f6.mono HBE.out.size))
            have HX := Lib.hid (And.intro hx (And.intro f5 hxln))
            have hs5 := HB5.out.size
            clear f1 hx f5 f6 hxln HO HSP
            go_wp2_with (at_builtin; refine wpList_append_own _ rfl _ _ 22 rfl wc.heap.size 3 i0 _ 1 8 Try.underlying22 hi0 hz0 hz1 hz2 rfl (by decide) u11 _ _ rfl HO5.out ⟨gx, 0, none⟩ (K) (K) (cellsN x) rfl (by unfold cellsN; rw [List.length_map, HX.out.2.2]; omega) ?_ ?_ ?_ ?_ ?_ ?_; exact news_row HX.out.2.1; (intro u hu; obtain ⟨y, _, rfl⟩ := List.mem_map.1 hu; rfl); exact small_maxLen (by first | omega | (simp; omega)); (first | omega | (simp; omega)); exact HB5.out.size; intro v' w6 hown6 hgrow6 _)
            have hb6 := below_own HB5.out HO5.out hgrow6
            have HO6 := Lib.hid hown6
            have HB6 := Lib.hid hb6
            clear hown6 hgrow6 hb6
            go_roundg (gk - 1)
            case measure => omega
            case rel => exact ⟨1, [] ++ x, by go_num, by omega, by omega, by have := HX.out.2.2; rw [List.length_append]; first | omega | (simp; omega), by rw [List.length_append, cellsN_app, HX.out.2.2]; exact HO6.out, HB6.out, .inr (.inl ⟨rfl, by simpa using (show GroupP g1 m1 x from .inr ⟨by rw [← HAB.out.1]; have := HZ.out; omega, HX.out.1⟩)⟩)⟩
        · by_cases hi1 : i = 1
          · subst hi1
            have hG1 : GroupP g1 m1 xs := by rcases hst with ⟨h, _⟩ | ⟨_, h⟩ | ⟨h, _⟩ <;> first | exact h | omega
            have hxl : xs.length = K := (groupP_len hG1).trans HM.out.2.2.1
            have HG1 := Lib.hid hG1
            clear hG1
            clear hst
            have HRw := Lib.hid (HR4.out.grown (grownBy_below HBE.out none) (by simp) hgl4)
            have HTw := Lib.hid (HT2.out wr HRw.out)
            obtain ⟨i0, hi0, hz0, hz1, hz2⟩ := info_parts Try.info3
            by_cases hz : B = 0
            · have hz' : ((B : Int) == 0) = true := by simp [hz]
              obtain ⟨v', w6, hrun, hown6, hgrow6⟩ := run_zeros_own (P := Try.prog) wr wc.heap.size 22 3 22 3 i0 Try.underlying22 Try.underlying3 hi0 hz0 hz1 hz2 u11 _ _ HO.out (n - K) (by first | omega | (simp; omega)) HBE.out.size
              have hb6 := below_own HBE.out HO.out hgrow6
              have HO6 := Lib.hid hown6
              have HB6 := Lib.hid hb6
              have HZ := Lib.hid hz
              clear hown6 hgrow6 hb6 hz HO
              go_wp2_with (first
                | (go_at_call 19; refine HTw.out.mono ?_; rintro e w' ⟨rfl, rfl⟩)
                | (at_builtin; refine Lib.wpList_append_run _ rfl _ _ _ _ rfl _ _ rfl rfl _ _ hrun ?_))
              go_roundg (gk - 1)
              case measure => omega
              case rel => exact ⟨2, xs ++ List.replicate (n - K) 0, by go_num, by omega, by omega, by rw [List.length_append, List.length_replicate]; first | omega | (simp; omega), by rw [List.length_append, List.length_replicate, cellsN_app, cellsN_zeros]; exact HO6.out, HB6.out, .inr (.inr ⟨rfl, xs, _, rfl, HG1.out, show GroupP g2 m2 (List.replicate (n - K) 0) from .inl ⟨by rw [← HAB.out.2.1]; exact HZ.out, by rw [HM.out.2.2.2.1]⟩⟩)⟩
            · have hz' : ((B : Int) == 0) = false := beq_eq_false_iff_ne.2 (by omega)
              have cg : wr.cell? ⟨gg, 1, none⟩ = some (.int .i64 (g2 : Int)) := by
                have h1 := HG.out.2.1.1 1 (Int.ofNat g2) (by rw [List.getElem?_map, get_of (ws := gp) (i := 1) (by have := HGD.out.1; omega), ← HGE.out.2]; rfl)
                rw [HBE.out.cell (p := ⟨gg, 1, none⟩) hggs]
                simpa using h1
              have hPL : 1 ≤ (n - K) := by
                rcases Nat.lt_or_ge 0 ((n - K)) with h | h
                · exact h
                · exfalso
                  have h1 : m2.length = 0 := by rw [HM.out.2.2.2.1]; omega
                  have h2 : m2 = [] := List.eq_nil_of_length_eq_zero h1
                  have h3 := HAB.out.2.1
                  rw [h2] at h3; simp [sumL] at h3; omega
              have hvp : Valid wr (.slice (some ⟨gl, o2, none⟩) (n - K) (cl - K)) (n - K) m2 := ⟨reads_slice (K := (n - K)) (n := n) HRw.out m2 HM.out.2.2.2.2.2.1 HM.out.2.2.2.1 (by omega), HM.out.2.2.2.1, hPL, by omega, HM.out.2.2.2.2.2.2.2⟩
              have HSP := Lib.hid (split_any (g2 : Int) (n - K) m2 _ wr hvp (by rw [← HAB.out.2.1]; omega) (by omega) (by have := HGD.out; have := HGE.out; omega))
              have HZ := Lib.hid hz
              clear hvp hz hPL
              go_wp2_with (go_at_call 19; refine HTw.out.mono ?_; rintro e w' ⟨rfl, rfl⟩)
              refine HSP.out.mono ?_
              rintro e w5 ⟨gx, lx, f1, f2, rfl, ⟨x, hx, rfl⟩, f5, f6⟩
              rw [if_neg (by omega)] at f5
              rw [Int.natAbs_natCast] at hx
              have hxln : x.length = (n - K) := by
                have h1 : x.length = m2.length := by obtain ⟨o, _, _, h, _⟩ := hx; exact h
                rw [h1, HM.out.2.2.2.1]
              have HO5 := Lib.hid (ownsRow_below HO.out f6)
              have HB5 := Lib.hid (HBE.out.trans (f6.mono HBE.out.size))
              have HX := Lib.hid (And.intro hx (And.intro f5 hxln))
              have hs5 := HB5.out.size
              clear f1 hx f5 f6 hxln HO HSP
              go_wp2_with (at_builtin; refine wpList_append_own _ rfl _ _ 22 rfl wc.heap.size 3 i0 _ 1 8 Try.underlying22 hi0 hz0 hz1 hz2 rfl (by decide) u11 _ _ rfl HO5.out ⟨gx, 0, none⟩ ((n - K)) ((n - K)) (cellsN x) rfl (by unfold cellsN; rw [List.length_map, HX.out.2.2]; omega) ?_ ?_ ?_ ?_ ?_ ?_; exact news_row HX.out.2.1; (intro u hu; obtain ⟨y, _, rfl⟩ := List.mem_map.1 hu; rfl); exact small_maxLen (by first | omega | (simp; omega)); (first | omega | (simp; omega)); exact HB5.out.size; intro v' w6 hown6 hgrow6 _)
              have hb6 := below_own HB5.out HO5.out hgrow6
              have HO6 := Lib.hid hown6
              have HB6 := Lib.hid hb6
              clear hown6 hgrow6 hb6
              go_roundg (gk - 1)
              case measure => omega
              case rel => exact ⟨2, xs ++ x, by go_num, by omega, by omega, by have := HX.out.2.2; rw [List.length_append]; first | omega | (simp; omega), by rw [List.length_append, cellsN_app, HX.out.2.2]; exact HO6.out, HB6.out, .inr (.inr ⟨rfl, xs, _, rfl, HG1.out, show GroupP g2 m2 x from .inr ⟨by rw [← HAB.out.2.1]; have := HZ.out; omega, HX.out.1⟩⟩)⟩
          · have hie : i = 2 := by omega
            subst hie
            obtain ⟨x1, x2, rfl, hx1, hx2⟩ : ∃ x1 x2, xs = x1 ++ x2 ∧ GroupP g1 m1 x1 ∧ GroupP g2 m2 x2 := by
              rcases hst with ⟨h, _⟩ | ⟨h, _⟩ | ⟨_, h⟩ <;> first | exact h | omega
            have hall := groups_all (t := N) (k := K) (ls := ws) (at' := p) (g := gp) (x1 := x1) (x2 := x2) (by rw [← HN.out]; omega) (by rw [← HS.out]; exact HPOS.out) HA.out.1
              (by have := HG.out.1; rw [HAB.out.1, HAB.out.2.1, HM.out.1, HM.out.2.1] at this; exact this)
              (by rw [← HGE.out.1, ← HM.out.1]; exact hx1) (by rw [← HGE.out.2, ← HM.out.2.1]; exact hx2)
            have hbd : ∀ y ∈ x1 ++ x2, y ≤ 1000000000000000 := by
              intro y hy
              have h1 := sumL_mem hy
              rw [hall.2.2.1] at h1; omega
            obtain ⟨xs, hxs⟩ : ∃ xs, xs = x1 ++ x2 := ⟨_, rfl⟩
            have hxl : xs.length = n := by rw [hxs, List.length_append, hall.1, hall.2.1]; have := HN.out; omega
            rw [← hxs] at hall hbd HO
            rw [hxl] at HO
            obtain ⟨gx, cx, rfl, hgx1, hgx2⟩ := own_slice HO.out (by omega)
            have HRX := Lib.hid (row_of_own HO.out)
            have HRA := Lib.hid (HA4.out.grown (grownBy_below HBE.out none) (by simp) hga4)
            have HALL2 := Lib.hid hall
            have HXL := Lib.hid hxl
            have HTX := Lib.hid (fun W (h : Reads W 1 (.slice (some ⟨gx, 0, none⟩) n cx) n (cellsN xs)) => totalN n xs _ W h (by omega) hbd)
            rw [hall.2.2.1] at HTX
            have HBD := Lib.hid hbd
            have hgw : gx < wr.heap.size := hgx2
            clear hst hx1 hx2 hall hbd hxs hxl HO hxn
            go_wp2
            go_loopg [16, 17] n (fun m jv dv w2' => ∃ j : Nat, jv = .int .i64 j ∧ j ≤ n ∧ n ≤ m + j ∧ ∃ q, w2' = wr.drewN q)
            case atStart => exact ⟨0, rfl, by omega, by omega, 0, by cases wr; rfl⟩
            case round =>
              obtain ⟨j, rfl, hj, hm2, q, rfl⟩ := hrel
              by_cases hjn : j < n
              · obtain ⟨pj, hpj⟩ : ∃ pj, pj = p.getD j 0 := ⟨_, rfl⟩
                obtain ⟨xj, hxj⟩ : ∃ xj, xj = xs.getD j 0 := ⟨_, rfl⟩
                have cp : wr.cell? ⟨ga, j, none⟩ = some (.int .i64 (pj : Int)) := by
                  have := HRA.out.1 j (Int.ofNat pj) (by rw [List.getElem?_map, get_of (ws := p) (i := j) (by rw [HPL.out]; exact hjn), ← hpj]; rfl); simpa using this
                have cx' : wr.cell? ⟨gx, j, none⟩ = some (.int .i64 (xj : Int)) := by
                  have := HRX.out.1 j (Int.ofNat xj) (by rw [List.getElem?_map, get_of (ws := xs) (i := j) (by rw [HXL.out]; exact hjn), ← hxj]; rfl); simpa using this
                have hd := HALL2.out.2.2.2 j (by rw [← HN.out]; exact hjn)
                rw [← hpj, ← hxj] at hd
                have hxb : xj ≤ 1000000000000000 := by rw [hxj]; exact HBD.out _ (getD_mem (by rw [HXL.out]; exact hjn))
                obtain ⟨d, hdd⟩ : ∃ d : Int, d = (pj : Int) - (xj : Int) := ⟨_, rfl⟩
                have wd : IntKind.i64.wrap ((pj : Int) - (xj : Int)) = d := by rw [IntWalk.i64_in _ (by omega)]; exact hdd.symm
                have d1 : ¬ 2 < d := by omega
                have d2 : ¬ d < -2 := by omega
                clear hpj hxj hd hdd
                go_wp2
                go_quiet (fail)
                go_wp2
                go_roundg (gk - 1)
                case measure => omega
                case rel => exact ⟨j + 1, by go_num, by omega, by omega, _, rfl⟩
              · go_wp2_with fail
                refine (known_any _).mono ?_
                rintro e w7 ⟨rfl, hb7⟩
                have HB7 := Lib.hid hb7
                have hrx7 := reads_rowN (cap := cx) (HRX.out.grown (grownBy_below (show Below wr.heap.size wr w7 from (below_drewN (Below.refl _ _) q).trans hb7) none) (by simp) hgw) HXL.out (by omega)
                have HT7 := Lib.hid (HTX.out w7 hrx7)
                clear hb7 hrx7
                go_wp2_with fail
                refine HT7.out.mono ?_
                rintro e w8 ⟨rfl, rfl⟩
                go_wp2
                go_ret
                have t1 := HB4.out.trans (HBE.out.mono HB4.out.size)
                exact ⟨rfl, (below_drewN t1 q).trans (HB7.out.mono t1.size)⟩
end Go.Proofs.Ytnkmhbiklffjlaa
