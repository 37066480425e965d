/- Balance, the program's and the reference's: walked. -/
import Derived.Test.YthhmpdjjfoplgaaRfI
import Derived.Test.YthhmpdjjfoplgaaRfH
set_option linter.unusedVariables false
set_option linter.unusedSimpArgs false
namespace Go.Proofs.Ythhmpdjjfoplgaa
open Go.RowKit Reg

def balN (l : List Lot) (nm hl : ByteArray) : Int := if checkB l = true ∧ acctB nm hl = true then sumU (ownL nm hl l) else 0
def balE (l : List Lot) (nm hl : ByteArray) : Int := if checkB l = false then 250 else if acctB nm hl = false then 251 else 0

set_option maxRecDepth 100000 in
set_option maxHeartbeats 4000000 in
theorem balance_any (A : Option Addr) (cap : Nat) (l : List Lot) (nm hl : ByteArray) (w : World) (h : LotsAt w (.slice A l.length cap) l) :
    Calls Try.prog 30 #[.agg #[.slice A l.length cap], .agg #[.string nm, .string hl]] w fun e w' => e = .returned (.tuple #[.int .i64 (balN l nm hl), .int .i64 (balE l nm hl)]) ∧ Below w.heap.size w w' := by
  obtain ⟨w0, hw0, hb0, hs0, c0, c1, c2⟩ := boxed_two w A l.length cap nm hl
  have HL := Lib.hid (fun W hb => LotsAt.below (w' := W) h hb)
  have HB0 := Lib.hid hb0
  unfold balN balE
  cases hc : checkB l with
  | false =>
    have H1 := Lib.hid hc
    rw [if_neg (by simp), if_pos rfl]
    obtain ⟨n, hn⟩ : ∃ n, n = l.length := ⟨_, rfl⟩
    rw [← hn] at hw0 HL c0 ⊢
    clear h hc hb0 hn
    go_enter Try.func30, Try.ntmps30
    go_wp2_with fail
    rw [← hw0]
    refine (check_no _ l w0 (HL.out _ HB0.out) H1.out).mono ?_
    rintro e w1 ⟨rfl, hb⟩
    have HB1 := Lib.hid (HB0.out.trans (hb.mono HB0.out.size))
    clear hb hw0 hs0 c0 c1 c2
    go_wp2
    go_ret2
    exact ⟨rfl, HB1.out⟩
  | true =>
    have H1 := Lib.hid hc
    obtain ⟨f1, f2, f3, f4, f5⟩ := check_facts hc
    have HU := Lib.hid f5
    obtain ⟨u1, u2⟩ := own_units (nm := nm) (hl := hl) f5
    have HUO := Lib.hid u1
    have hol := (own_split nm hl l).2
    rw [if_neg (show ¬ true = false by simp)]
    obtain ⟨n, hn⟩ : ∃ n, n = l.length := ⟨_, rfl⟩
    rw [← hn] at hw0 HL c0 f1 hol ⊢
    have HN := Lib.hid hn
    have hol1 : (ownL nm hl l).length ≤ 256 := by omega
    cases ha : acctB nm hl with
    | false =>
      have H2 := Lib.hid ha
      rw [if_neg (by simp), if_pos rfl]
      clear h hc hb0 hn f2 f3 f4 f5 u1 u2 ha hol
      go_enter Try.func30, Try.ntmps30
      go_wp2_with fail
      rw [← hw0]
      refine (check_yes _ l w0 (HL.out _ HB0.out) H1.out).mono ?_
      rintro e w1 ⟨rfl, hb⟩
      have HB1 := Lib.hid (HB0.out.trans (hb.mono HB0.out.size))
      have k0 := cell_up c0 hb
      have k1 := cell_up c1 hb
      have k2 := cell_up c2 hb
      clear hb hw0 hs0 c0 c1 c2
      go_wp2_with fail
      refine (acctB_any nm hl false H2.out w1).mono ?_
      rintro e w2 ⟨rfl, hb⟩
      have HB2 := Lib.hid (HB1.out.trans (hb.mono HB1.out.size))
      clear hb
      go_wp2
      go_ret2
      exact ⟨rfl, HB2.out⟩
    | true =>
      have H2 := Lib.hid ha
      rw [if_pos ⟨rfl, rfl⟩, if_neg (by simp)]
      clear h hc hb0 hn f2 f3 f4 f5 u1 u2 ha hol
      go_enter Try.func30, Try.ntmps30
      go_wp2_with fail
      rw [← hw0]
      refine (check_yes _ l w0 (HL.out _ HB0.out) H1.out).mono ?_
      rintro e w1 ⟨rfl, hb⟩
      have HB1 := Lib.hid (HB0.out.trans (hb.mono HB0.out.size))
      have k0 := cell_up c0 hb
      have k1 := cell_up c1 hb
      have k2 := cell_up c2 hb
      clear hb hw0 hs0 c0 c1 c2
      go_wp2_with fail
      refine (acctB_any nm hl true H2.out w1).mono ?_
      rintro e w2 ⟨rfl, hb⟩
      have HB2 := Lib.hid (HB1.out.trans (hb.mono HB1.out.size))
      have m0 := cell_up k0 hb
      have m1 := cell_up k1 hb
      have m2 := cell_up k2 hb
      clear hb k0 k1 k2
      go_wp2_with fail
      refine (of_any (.slice A n cap) l nm hl w2 (HL.out _ HB2.out) (by have := HN.out; omega)).mono ?_
      rintro e w3 ⟨va, vb, rfl, hoa, hob, hap, hb⟩
      have HO := Lib.hid hoa
      have HB3 := Lib.hid (HB2.out.trans (hb.mono HB2.out.size))
      clear hoa hob hap hb m0 m1 m2
      go_wp2_with fail
      refine (sum_any va _ w3 HO.out.lots (fun x hx => by have := HUO.out x hx; omega) (by omega)).mono ?_
      rintro e w4 ⟨rfl, hb⟩
      have HB4 := Lib.hid (HB3.out.trans (hb.mono HB3.out.size))
      clear hb
      go_wp2
      go_ret2
      exact ⟨rfl, HB4.out⟩
set_option maxRecDepth 100000 in
set_option maxHeartbeats 4000000 in
theorem rbalance_any (A : Option Addr) (cap : Nat) (l : List Lot) (nm hl : ByteArray) (w : World) (h : LotsAt w (.slice A l.length cap) l) :
    Calls Try.prog 17 #[.agg #[.slice A l.length cap], .agg #[.string nm, .string hl]] w fun e w' => e = .returned (.tuple #[.int .i64 (balN l nm hl), .int .i64 (balE l nm hl)]) ∧ Below w.heap.size w w' := by
  obtain ⟨w0, hw0, hb0, hs0, c0, c1, c2⟩ := boxed_two w A l.length cap nm hl
  have HL := Lib.hid (fun W hb => LotsAt.below (w' := W) h hb)
  have HAT := Lib.hid (lots_at_any h)
  have HB0 := Lib.hid hb0
  unfold balN balE
  cases hc : checkB l with
  | false =>
    have H1 := Lib.hid hc
    rw [if_neg (by simp), if_pos rfl]
    obtain ⟨n, hn⟩ : ∃ n, n = l.length := ⟨_, rfl⟩
    rw [← hn] at hw0 HL c0 ⊢
    clear h hc hb0 hn
    go_enter Try.func17, Try.ntmps17
    go_wp2_with fail
    rw [← hw0]
    refine (rcheck_no _ l w0 (HL.out _ HB0.out) H1.out).mono ?_
    rintro e w1 ⟨rfl, hb⟩
    have HB1 := Lib.hid (HB0.out.trans (hb.mono HB0.out.size))
    clear hb hw0 hs0 c0 c1 c2
    go_wp2
    go_ret2
    exact ⟨rfl, HB1.out⟩
  | true =>
    have H1 := Lib.hid hc
    obtain ⟨f1, f2, f3, f4, f5⟩ := check_facts hc
    have HU := Lib.hid f5
    have HS := Lib.hid f3
    rw [if_neg (show ¬ true = false by simp)]
    obtain ⟨n, hn⟩ : ∃ n, n = l.length := ⟨_, rfl⟩
    rw [← hn] at hw0 HL c0 f1 ⊢
    have HN := Lib.hid hn
    cases ha : acctB nm hl with
    | false =>
      have H2 := Lib.hid ha
      rw [if_neg (by simp), if_pos rfl]
      clear h hc hb0 hn f2 f3 f4 f5 ha
      go_enter Try.func17, Try.ntmps17
      go_wp2_with fail
      rw [← hw0]
      refine (rcheck_yes _ l w0 (HL.out _ HB0.out) H1.out).mono ?_
      rintro e w1 ⟨rfl, hb⟩
      have HB1 := Lib.hid (HB0.out.trans (hb.mono HB0.out.size))
      have k0 := cell_up c0 hb
      have k1 := cell_up c1 hb
      have k2 := cell_up c2 hb
      clear hb hw0 hs0 c0 c1 c2
      go_wp2_with fail
      refine (racctB_any nm hl false H2.out w1).mono ?_
      rintro e w2 ⟨rfl, hb⟩
      have HB2 := Lib.hid (HB1.out.trans (hb.mono HB1.out.size))
      clear hb
      go_wp2
      go_ret2
      exact ⟨rfl, HB2.out⟩
    | true =>
      have H2 := Lib.hid ha
      rw [if_pos ⟨rfl, rfl⟩, if_neg (by simp)]
      clear h hc hb0 hn f2 f3 f4 f5 ha
      go_enter Try.func17, Try.ntmps17
      go_wp2_with fail
      rw [← hw0]
      refine (rcheck_yes _ l w0 (HL.out _ HB0.out) H1.out).mono ?_
      rintro e w1 ⟨rfl, hb⟩
      have HB1 := Lib.hid (HB0.out.trans (hb.mono HB0.out.size))
      have k0 := cell_up c0 hb
      have k1 := cell_up c1 hb
      have k2 := cell_up c2 hb
      clear hb hw0 hs0 c0 c1 c2
      go_wp2_with fail
      refine (racctB_any nm hl true H2.out w1).mono ?_
      rintro e w2 ⟨rfl, hb⟩
      have HB2 := Lib.hid (HB1.out.trans (hb.mono HB1.out.size))
      have m0 := cell_up k0 hb
      have m1 := cell_up k1 hb
      have m2 := cell_up k2 hb
      clear hb k0 k1 k2
      go_wp2
      go_loopg [7, 8] n (fun g s i wr => ∃ (k d : Nat), k ≤ n ∧ n - k ≤ g ∧ i = .int .i64 k ∧ s = .int .i64 (sumU (ownL nm hl (l.take k))) ∧ wr = w2.drewN d)
      case atStart => exact ⟨0, 0, by omega, by omega, rfl, rfl, rfl⟩
      case round =>
        obtain ⟨k, d, hk, hm, rfl, rfl, rfl⟩ := hrel
        by_cases hlt : k < n
        · obtain ⟨y, hy⟩ : ∃ y, l[k]? = some y := ⟨l[k]'(by rw [← HN.out]; exact hlt), by simp [← HN.out, hlt]⟩
          obtain ⟨g, off, rfl, hcc⟩ := HAT.out k y hy
          obtain ⟨c0, c1, c2, c3⟩ := hcc.below HB2.out
          have fa := filter_snoc hy (ownB nm hl)
          have hyu := HU.out y (List.mem_of_getElem? hy)
          have hpos : ∀ j, ∀ x ∈ ownL nm hl (l.take j), 0 ≤ x.units := fun j x hx => by have := HU.out x (List.mem_of_mem_take (List.mem_filter.1 hx).1); omega
          have hb0 := sumU_nonneg _ (hpos k)
          have hsp := own_split nm hl (l.take k)
          have hpo : ∀ x ∈ othL nm hl (l.take k), 0 ≤ x.units := fun x hx => by have := HU.out x (List.mem_of_mem_take (List.mem_filter.1 hx).1); omega
          have hb1 := sumU_nonneg _ hpo
          have hb2 := sumU_take l k (fun x hx => by have := HU.out x hx; omega)
          have hsl := HS.out
          have q1 : (y.nom.toList == nm.toList) = sEq y.nom nm := rfl
          have q2 : (y.hol.toList == hl.toList) = sEq y.hol hl := rfl
          have hpx : ownB nm hl y = (sEq y.nom nm && sEq y.hol hl) := rfl
          have hcase : (sEq y.nom nm = true ∧ sEq y.hol hl = true ∧ ownB nm hl y = true) ∨ (sEq y.nom nm = false ∧ ownB nm hl y = false) ∨ (sEq y.nom nm = true ∧ sEq y.hol hl = false ∧ ownB nm hl y = false) := by
            rw [hpx]; cases sEq y.nom nm <;> cases sEq y.hol hl <;> simp
          have hnext : sumU (ownL nm hl (l.take (k + 1))) = sumU (ownL nm hl (l.take k)) + if ownB nm hl y = true then y.units else 0 := by
            unfold ownL; rw [fa, sumU_app]; split <;> simp [sumU]
          obtain ⟨t, ht⟩ : ∃ t, t = sumU (ownL nm hl (l.take k)) := ⟨_, rfl⟩
          rw [← ht] at hnext hb0 hsp ⊢
          have hadd : IntKind.i64.wrap (t + y.units) = t + y.units := IntWalk.i64_in _ (by omega)
          have HNX := Lib.hid hnext
          clear fa hyu hpos hb0 hsp hpo hb1 hb2 hsl hpx hnext ht hcc hy
          rcases hcase with ⟨e1, e2, e3⟩ | ⟨e1, e3⟩ | ⟨e1, e2, e3⟩
          · rw [e1] at q1
            rw [e2] at q2
            have HNY := Lib.hid (show sumU (ownL nm hl (l.take (k + 1))) = t + y.units by rw [HNX.out, e3, if_pos rfl])
            clear e1 e2 e3
            go_wp2
            go_quiet (fail)
            go_wp2
            go_roundg (gk - 1)
            case measure => omega
            case rel => exact ⟨k + 1, d + nq, by omega, by omega, by go_num, by rw [HNY.out], rfl⟩
          · rw [e1] at q1
            have HNY := Lib.hid (show sumU (ownL nm hl (l.take (k + 1))) = t by rw [HNX.out, e3]; simp)
            clear e1 e3 q2
            go_wp2
            go_quiet (fail)
            go_wp2
            go_roundg (gk - 1)
            case measure => omega
            case rel => exact ⟨k + 1, d + nq, by omega, by omega, by go_num, by rw [HNY.out], rfl⟩
          · rw [e1] at q1
            rw [e2] at q2
            have HNY := Lib.hid (show sumU (ownL nm hl (l.take (k + 1))) = t by rw [HNX.out, e3]; simp)
            clear e1 e2 e3
            go_wp2
            go_quiet (fail)
            go_wp2
            go_roundg (gk - 1)
            case measure => omega
            case rel => exact ⟨k + 1, d + nq, by omega, by omega, by go_num, by rw [HNY.out], rfl⟩
        · have hfin : l.take k = l := List.take_of_length_le (by have := HN.out; omega)
          rw [hfin]
          clear hfin
          go_wp2
          go_ret2
          exact ⟨rfl, below_drewN' HB2.out _⟩
end Go.Proofs.Ythhmpdjjfoplgaa
