/- law25.RegisterTakesTheOldestFirst, walked. -/
import Derived.Test.YthhmpdjjfoplgaaScE
import Derived.Test.YthhmpdjjfoplgaaScQ
set_option linter.unusedVariables false
set_option linter.unusedSimpArgs false
namespace Go.Proofs.Ythhmpdjjfoplgaa
open Go.RowKit Reg

namespace Reg
/-- the series of the last one; -1 without one -/
def lastS (l : List Lot) : Int := match l.getLast? with
  | none => -1
  | some y => y.ser
theorem lastS_nil : lastS [] = -1 := rfl
theorem lastS_snoc (l : List Lot) (y : Lot) : lastS (l ++ [y]) = y.ser := by simp [lastS]
theorem take_snoc1 {l : List Lot} {k : Nat} {y : Lot} (hy : l[k]? = some y) : l.take (k + 1) = l.take k ++ [y] := by rw [List.take_add_one, hy]; rfl
theorem takeR_zero (nm hl : ByteArray) (l : List Lot) (n : Int) (hn : n ≤ 0) : (takeR nm hl l n).2 = [] := by
  induction l with
  | nil => rfl
  | cons x l ih => rw [takeR, if_neg (fun h => by have := h.2; omega)]; exact ih
/-- no lot of the account that is left is earlier than one that was taken -/
theorem take_order (nm hl : ByteArray) (l : List Lot) (n : Int) (hn : 0 ≤ n) (hu : ∀ x ∈ l, 1 ≤ x.units) (hs : Srt l) :
    ∀ z ∈ (takeR nm hl l n).1, ownB nm hl z = true → ∀ y ∈ (takeR nm hl l n).2, y.ser ≤ z.ser := by
  induction l generalizing n with
  | nil => simp [takeR]
  | cons x l ih =>
    have hx := hu x (by simp)
    have hu' : ∀ y ∈ l, 1 ≤ y.units := fun y hy => hu y (by simp [hy])
    have h1 := List.pairwise_cons.1 hs
    by_cases ho : ownB nm hl x = true ∧ 0 < n
    · obtain ⟨e1, e2⟩ := own_eq ho.1
      have hlt : ∀ z ∈ (takeR nm hl l (n - min n x.units)).1, ownB nm hl z = true → x.ser < z.ser := fun z hz hoz => by
        obtain ⟨_, y, hy, hk⟩ := (take_all nm hl l (n - min n x.units) (by omega) hu').1 z hz
        have hxz := h1.1 y hy
        rw [← lotLt_keyr hk] at hxz
        obtain ⟨f1, f2⟩ := own_eq hoz
        simpa [lotLt, e1, e2, f1, f2] using hxz
      rw [takeR, if_pos ho]
      simp only
      intro z hz hoz y hy
      rcases List.mem_cons.1 hy with rfl | hy
      · split at hz
        · rcases List.mem_cons.1 hz with rfl | hz
          · exact Int.le_refl _
          · exact Int.le_of_lt (hlt z hz hoz)
        · exact Int.le_of_lt (hlt z hz hoz)
      · split at hz
        · rename_i hk
          rw [takeR_zero nm hl l _ (by omega)] at hy
          cases hy
        · exact ih (n - min n x.units) (by omega) hu' h1.2 z hz hoz y hy
    · rw [takeR, if_neg ho]
      simp only
      rw [if_pos (show 0 < x.units by omega)]
      intro z hz hoz y hy
      rcases List.mem_cons.1 hz with rfl | hz
      · rw [takeR_zero nm hl l n (by
          by_cases h : 0 < n
          · exact absurd ⟨hoz, h⟩ ho
          · omega)] at hy
        cases hy
      · exact ih n hn hu' h1.2 z hz hoz y hy
theorem own_ser {nm hl : ByteArray} {l : List Lot} (hs : Srt l) (ho : ∀ x ∈ l, x.nom = nm ∧ x.hol = hl) (h0 : ∀ x ∈ l, 0 ≤ x.ser) {k : Nat} {y : Lot} (hy : l[k]? = some y) : lastS (l.take k) < y.ser := by
  cases k with
  | zero => have := h0 y (List.mem_of_getElem? hy); simp [lastS_nil]; omega
  | succ j =>
    obtain ⟨hlt, hyy⟩ := List.getElem?_eq_some_iff.1 hy
    have hj : l[j]? = some l[j] := by simp [show j < l.length by omega]
    rw [take_snoc1 hj, lastS_snoc]
    have := List.pairwise_iff_getElem.1 hs j (j + 1) (by omega) hlt (by omega)
    rw [hyy] at this
    obtain ⟨a1, a2⟩ := ho l[j] (List.getElem_mem _)
    obtain ⟨b1, b2⟩ := ho y (List.mem_of_getElem? hy)
    simpa [lotLt, a1, a2, b1, b2] using this
theorem lastS_mem {l : List Lot} : (∃ y ∈ l, lastS l = y.ser) ∨ lastS l = -1 := by
  unfold lastS
  cases h : l.getLast? with
  | none => exact .inr rfl
  | some y => exact .inl ⟨y, List.mem_of_getLast? h, rfl⟩
end Reg
/-- the walk's plain part -/
structure OldF (l left td : List Lot) (x : ByteArray × ByteArray) (n has : Int) : Prop where
  red : redL l x.1 x.2 n = (left, td)
  redE : redE l x.1 x.2 n = 0
  tdk : ∀ (k : Nat) (y : Lot), td[k]? = some y → y.nom = x.1 ∧ y.hol = x.2 ∧ lastS (td.take k) < y.ser ∧ 1 ≤ y.units ∧ 0 ≤ sumU (td.take k) ∧ sumU (td.take k) + y.units ≤ 1000000000000000
  leftk : ∀ z ∈ left, ownB x.1 x.2 z = true → lastS td ≤ z.ser
  sum : sumU td = min n has
  ntd : td.length ≤ 256
  nleft : left.length ≤ 256
theorem old_facts {l : List Lot} {x : ByteArray × ByteArray} {n : Int} (hg : ScGood l) (hl : l.length ≤ 10) (hx : x ∈ accs) (h0 : 0 ≤ n) (h1 : n ≤ 1000000000000000) :
    ∃ left td, OldF l left td x n (sumU (ownL x.1 x.2 l)) := by
  have hc := good_check hg (by omega)
  obtain ⟨g1, g2, g3, g4, g5⟩ := check_facts hc
  have hu : ∀ y ∈ l, 1 ≤ y.units := fun y hy => (g5 y hy).1
  have ha := accs_ok x hx
  obtain ⟨t1, t2⟩ := take_all x.1 x.2 l n h0 hu
  have hsum := take_total x.1 x.2 l n h0 hu
  have hs2 := take_srt2 x.1 x.2 l n h0 hu g4
  have hlen := takeR_len x.1 x.2 l n
  have hz1 := sumU_nonneg (takeR x.1 x.2 l n).1 (fun y hy => by have := (t1 y hy).1; omega)
  have hp : ∀ y ∈ (takeR x.1 x.2 l n).2, 0 ≤ y.units := fun y hy => by have := (t2 y hy).1; omega
  rcases redE_cases l x.1 x.2 n with ⟨e, _⟩ | ⟨_, e, _⟩ | ⟨_, _, e, _⟩ | ⟨_, _, _, e, _⟩ | ⟨_, _, _, _, e1, e2⟩
  · rw [hc] at e; cases e
  · rw [ha] at e; cases e
  · omega
  · omega
  refine ⟨(takeR x.1 x.2 l n).1, (takeR x.1 x.2 l n).2, e2, e1, fun k y hy => ?_, fun z hz hoz => ?_, take_min x.1 x.2 l n h0 hu, by omega, by omega⟩
  · obtain ⟨u1, u2, u3, w, hw, hk⟩ := t2 y (List.mem_of_getElem? hy)
    have hst := sumU_take (takeR x.1 x.2 l n).2 (k + 1) hp
    have hst0 := sumU_take (takeR x.1 x.2 l n).2 k hp
    rw [take_snocL hy] at hst
    refine ⟨u2, u3, own_ser hs2 (fun q hq => ⟨(t2 q hq).2.1, (t2 q hq).2.2.1⟩) (fun q hq => ?_) hy, u1, hst0.2, by omega⟩
    obtain ⟨_, _, _, r, hr, hkr⟩ := t2 q hq
    rw [hkr.2.2]; exact (hg.2 r hr).2.1
  · rcases lastS_mem (l := (takeR x.1 x.2 l n).2) with ⟨y, hy, e⟩ | e
    · rw [e]; exact take_order x.1 x.2 l n h0 hu g4 z hz hoz y hy
    · rw [e]
      obtain ⟨_, r, hr, hkr⟩ := t1 z hz
      have := (hg.2 r hr).2.1
      rw [hkr.2.2]; omega
theorem own_has {l : List Lot} {x : ByteArray × ByteArray} (hg : ScGood l) (hl : l.length ≤ 10) (hx : x ∈ accs) : balN l x.1 x.2 = sumU (ownL x.1 x.2 l) ∧ balE l x.1 x.2 = 0 ∧ 0 ≤ sumU (ownL x.1 x.2 l) ∧ sumU (ownL x.1 x.2 l) ≤ 10000000 := by
  have hc := good_check hg (by omega)
  have ha := accs_ok x hx
  refine ⟨by unfold balN; rw [if_pos ⟨hc, ha⟩], by unfold balE; rw [hc, ha]; simp, ?_⟩
  have h1 := sumU_bd (ownL x.1 x.2 l) 1000000 (by omega) (fun y hy => by have := (hg.2 y (List.mem_filter.1 hy).1).2.2.2; omega)
  have h2 := (own_split x.1 x.2 l).2
  omega

set_option maxRecDepth 100000 in
set_option maxHeartbeats 4000000 in
theorem law_old (a : Option Addr) (len cap : Nat) (z : List Int) (m : Int) (w : World) (h : IsRow .i64 w a len cap z) :
    Calls Try.prog 4 #[.slice a len cap, .int .i64 m] w fun e w' => e = .returned (.bool true) ∧ Below w.heap.size w w' := by
  have hlen := row_len h
  unfold maxLen at hlen
  have HR := Lib.hid (new_any a len cap z w h hlen)
  clear h hlen
  go_enter Try.func4, Try.ntmps4
  go_wp2_with fail
  refine HR.out.mono ?_
  rintro e w1 ⟨rfl, ht, hb⟩
  have hz1 := ht.lt
  have HB1 := Lib.hid hb
  have HT1 := Lib.hid ht
  clear hb ht
  go_wp2_with fail
  refine (register_any w.heap.size 10 w1 HT1.out (by omega)).mono ?_
  rintro e w2 ⟨va, l, rfl, hg, hl, ho, hd2⟩
  obtain ⟨A, c, hva⟩ := ho.form
  subst hva
  have HO := Lib.hid ho
  have HD2 := Lib.hid hd2
  clear ho hd2
  go_wp2_with fail
  refine (account_any w.heap.size w2 HD2.out.1).mono ?_
  rintro e w3 ⟨x, hx, rfl, hd3⟩
  have HO3 := Lib.hid (HO.out.drawn hd3 hz1)
  have HD3 := Lib.hid (HD2.out.trans hd3)
  have hz4 : w.heap.size < w3.heap.size := by have := HD3.out.size; omega
  obtain ⟨b1, b2, b3, b4⟩ := own_has hg hl hx
  obtain ⟨N, hN⟩ : ∃ N, N = l.length := ⟨_, rfl⟩
  obtain ⟨has, hhas⟩ : ∃ has, has = sumU (ownL x.1 x.2 l) := ⟨_, rfl⟩
  rw [← hhas] at b1 b3 b4
  have T3 := Lib.hid (fun W (hh : LotsAt W (.slice A N c) l) => show Calls Try.prog 17 #[.agg #[.slice A N c], .agg #[.string x.1, .string x.2]] W (fun e w' => e = .returned (.tuple #[.int .i64 has, .int .i64 0]) ∧ Below W.heap.size W w') by subst hN; have := rbalance_any A c l x.1 x.2 W hh; rwa [b1, b2] at this)
  obtain ⟨n, hn⟩ : ∃ n, n = modI m (has + 2) := ⟨_, rfl⟩
  have hnb := modI_bd m (has + 2) (by omega)
  rw [← hn] at hnb
  obtain ⟨n0, n1⟩ := hnb
  have HMOD := Lib.hid (fun W => show Calls Try.prog 18 #[.int .i64 m, .int .i64 (has + 2)] W (fun e w' => e = .returned (.int .i64 n) ∧ W = w') by subst hn; exact mod_any m (has + 2) W (by omega))
  obtain ⟨left, td, hof⟩ := old_facts hg hl hx n0 (show n ≤ 1000000000000000 by omega)
  rw [← hhas] at hof
  have HF := Lib.hid hof
  have T1 := Lib.hid (fun W v (hh : LotsAt W v l) => show Calls Try.prog 19 #[.agg #[v], .agg #[.string x.1, .string x.2], .int .i64 n] W (RedP left td 0 W) by have := redeem_any v l x.1 x.2 n W hh; rwa [hof.red, hof.redE] at this)
  rw [← hN] at HO3 hl ⊢
  clear hd3 hx hg b1 b2 hn hhas hN HO hof
  go_wp2_with fail
  obtain ⟨w5, hw5⟩ : ∃ w5, w5 = (w3.alloc (.cells #[.slice A N c] 24)).alloc (.cells #[.string x.1, .string x.2] 26) := ⟨_, rfl⟩
  rw [← hw5]
  obtain ⟨P, hP⟩ : ∃ P, P = w3.heap.size := ⟨_, rfl⟩
  have c0 : w5.cell? ⟨P, 0, none⟩ = some (.slice A N c) := by rw [hw5, hP]; go_cell
  have c1 : w5.cell? ⟨P + 1, 0, none⟩ = some (.string x.1) := by rw [hw5, hP]; go_cell
  have c2 : w5.cell? ⟨P + 1, 1, none⟩ = some (.string x.2) := by rw [hw5, hP]; go_cell
  have hb5 : Below w3.heap.size w3 w5 := by rw [hw5]; exact ((Below.refl _ _).alloc (Nat.le_refl _) _).alloc (by simp) _
  have HL5 := Lib.hid (show LotsAt w5 (.slice A N c) l from (HO3.out.below hb5).lots)
  have HF5 := Lib.hid ((HD3.out.below hb5).frame HB1.out)
  have hs5 : P + 2 = w5.heap.size := by rw [hw5, hP]; simp
  rw [← hP] at hz4 ⊢
  clear hb5 hw5 hP
  refine (T3.out w5 HL5.out).mono ?_
  rintro e w6 ⟨rfl, hb⟩
  have E6 := Lib.hid hb
  have hs6 := hb.size
  have d0 := cell_up c0 hb
  have d1 := cell_up c1 hb
  have d2 := cell_up c2 hb
  clear hb c0 c1 c2
  go_wp2_with fail
  refine (HMOD.out w6).mono ?_
  rintro e w' ⟨rfl, rfl⟩
  go_wp2_with fail
  refine (T1.out w6 _ (HL5.out.below E6.out)).mono ?_
  rintro e w7 ⟨va, vb, rfl, ho1, ho2, hb⟩
  obtain ⟨A1, k1, hva⟩ := ho1.form
  obtain ⟨A2, k2, hvb⟩ := ho2.form
  subst hva hvb
  have E7 := Lib.hid (E6.out.trans (hb.mono E6.out.size))
  have hs7 := hb.size
  have c1 := cell_up d1 hb
  have c2 := cell_up d2 hb
  have HO1 := Lib.hid ho1
  have HO2 := Lib.hid ho2
  obtain ⟨N1, hN1⟩ : ∃ N1, N1 = left.length := ⟨_, rfl⟩
  obtain ⟨N2, hN2⟩ : ∃ N2, N2 = td.length := ⟨_, rfl⟩
  have hn1 : N1 ≤ 256 := by rw [hN1]; exact HF.out.nleft
  have hn2 : N2 ≤ 256 := by rw [hN2]; exact HF.out.ntd
  rw [← hN1] at HO1 ⊢
  rw [← hN2] at HO2 ⊢
  have HN1 := Lib.hid hN1
  have HN2 := Lib.hid hN2
  clear ho1 ho2 hb d0 d1 d2 hN1 hN2
  go_wp2_with fail
  obtain ⟨w8, hw8⟩ : ∃ w8, w8 = w7.alloc (.cells #[.slice A1 N1 k1] 24) := ⟨_, rfl⟩
  rw [← hw8]
  have hb8 : Below w7.heap.size w7 w8 := by rw [hw8]; exact (Below.refl _ _).alloc (Nat.le_refl _) _
  obtain ⟨Q, hQ⟩ : ∃ Q, Q = w7.heap.size := ⟨_, rfl⟩
  have r0 : w8.cell? ⟨Q, 0, none⟩ = some (.slice A1 N1 k1) := by rw [hw8, hQ]; go_cell
  rw [← hQ]
  have E8 := Lib.hid (E7.out.trans (hb8.mono E7.out.size))
  have HP1 := Lib.hid (own_at_any (HO1.out.below hb8))
  have HP2 := Lib.hid (own_at_any (HO2.out.below hb8))
  replace c1 := cell_up c1 hb8
  replace c2 := cell_up c2 hb8
  clear hw8 hb8 hQ
  go_loopg [13, 14, 15] N2 (fun g s t i wr => ∃ (k d : Nat), k ≤ N2 ∧ N2 - k ≤ g ∧ i = .int .i64 k ∧ s = .int .i64 (sumU (td.take k)) ∧ t = .int .i64 (lastS (td.take k)) ∧ wr = w8.drewN d)
  case atStart => exact ⟨0, 0, by omega, by omega, rfl, rfl, rfl, rfl⟩
  case round =>
    obtain ⟨k, d, hk, hm, rfl, rfl, rfl, rfl⟩ := hrel
    by_cases hlt : k < N2
    · obtain ⟨y, hy⟩ : ∃ y, td[k]? = some y := ⟨td[k]'(by rw [← HN2.out]; exact hlt), by simp [← HN2.out, hlt]⟩
      obtain ⟨g, rfl, _, _, _, y0, y1, y2, y3⟩ := HP2.out k y hy
      obtain ⟨f1, f2, f3, f4, f5, f6⟩ := HF.out.tdk k y hy
      rw [f1] at y0
      rw [f2] at y1
      obtain ⟨sk, hsk⟩ : ∃ sk, sk = sumU (td.take k) := ⟨_, rfl⟩
      obtain ⟨lk, hlk⟩ : ∃ lk, lk = lastS (td.take k) := ⟨_, rfl⟩
      have HS1 := Lib.hid (show sumU (td.take (k + 1)) = sk + y.units by rw [take_snocL hy, hsk])
      have HS2 := Lib.hid (show lastS (td.take (k + 1)) = y.ser by rw [take_snoc1 hy, lastS_snoc])
      rw [← hsk] at f5 f6 ⊢
      rw [← hlk] at f3 ⊢
      have g1 : ¬ y.ser ≤ lk := by omega
      have g2 : ¬ y.units < 1 := by omega
      have hadd : IntKind.i64.wrap (sk + y.units) = sk + y.units := IntWalk.i64_in _ (by omega)
      clear hy f1 f2 f3 f4 f5 f6 hsk hlk
      go_wp2
      go_quiet (fail)
      go_wp2
      go_quiet (fail)
      go_wp2
      go_roundg (gk - 1)
      case measure => omega
      case rel => exact ⟨k + 1, _, by omega, by omega, by go_num, by rw [HS1.out], by rw [HS2.out], rfl⟩
    · have hfin : td.take k = td := List.take_of_length_le (by have := HN2.out; omega)
      rw [hfin]
      have hsum := HF.out.sum
      obtain ⟨sk, hsk⟩ : ∃ sk, sk = sumU td := ⟨_, rfl⟩
      obtain ⟨lk, hlk⟩ : ∃ lk, lk = lastS td := ⟨_, rfl⟩
      rw [← hsk] at hsum ⊢
      rw [← hlk]
      have HLK := Lib.hid hlk
      have HSUM := Lib.hid hsum
      clear hfin hsum hsk hlk
      go_wp2
      go_loopg [16] N1 (fun g i wr => ∃ (j q : Nat), j ≤ N1 ∧ N1 - j ≤ g ∧ i = .int .i64 j ∧ wr = w8.drewN q)
      case atStart => exact ⟨0, d, by omega, by omega, rfl, rfl⟩
      case round =>
        obtain ⟨j, q, hj, hm2, rfl, rfl⟩ := hrel
        by_cases hlt2 : j < N1
        · obtain ⟨y, hy⟩ : ∃ y, left[j]? = some y := ⟨left[j]'(by rw [← HN1.out]; exact hlt2), by simp [← HN1.out, hlt2]⟩
          obtain ⟨g, rfl, _, _, _, y0, y1, y2, y3⟩ := HP1.out j y hy
          have hle := HF.out.leftk y (List.mem_of_getElem? hy)
          have q1 : (y.nom.toList == x.1.toList) = sEq y.nom x.1 := rfl
          have q2 : (y.hol.toList == x.2.toList) = sEq y.hol x.2 := rfl
          have hcase : (sEq y.nom x.1 = true ∧ sEq y.hol x.2 = true ∧ ¬ y.ser < lk) ∨ (sEq y.nom x.1 = false) ∨ (sEq y.nom x.1 = true ∧ sEq y.hol x.2 = false) := by
            rw [← HLK.out] at hle
            unfold ownB at hle
            cases h1 : sEq y.nom x.1
            · exact .inr (.inl rfl)
            · cases h2 : sEq y.hol x.2
              · exact .inr (.inr ⟨rfl, rfl⟩)
              · exact .inl ⟨rfl, rfl, by have := hle (by rw [h1, h2]; rfl); omega⟩
          clear hy hle
          rcases hcase with ⟨e1, e2, e3⟩ | e1 | ⟨e1, e2⟩
          · rw [e1] at q1
            rw [e2] at q2
            clear e1 e2
            go_wp2
            go_quiet (fail)
            go_wp2
            go_roundg (gk - 1)
            case measure => omega
            case rel => exact ⟨j + 1, _, by omega, by omega, by go_num, rfl⟩
          · rw [e1] at q1
            clear e1 q2
            go_wp2
            go_quiet (fail)
            go_wp2
            go_roundg (gk - 1)
            case measure => omega
            case rel => exact ⟨j + 1, _, by omega, by omega, by go_num, rfl⟩
          · rw [e1] at q1
            rw [e2] at q2
            clear e1 e2
            go_wp2
            go_quiet (fail)
            go_wp2
            go_roundg (gk - 1)
            case measure => omega
            case rel => exact ⟨j + 1, _, by omega, by omega, by go_num, rfl⟩
        · have hss := HSUM.out
          have hsb : (sk == min n has) = true := by rw [hss]; simp
          clear hss
          go_wp2_with fail
          refine (awake_any _).mono ?_
          rintro e w9 ⟨rfl, hb⟩
          have E9 := Lib.hid ((below_drewN' E8.out q).trans (hb.mono E8.out.size))
          clear hb
          go_wp2
          go_ret
          exact ⟨rfl, HF5.out.trans (E9.out.mono HF5.out.size)⟩
end Go.Proofs.Ythhmpdjjfoplgaa
