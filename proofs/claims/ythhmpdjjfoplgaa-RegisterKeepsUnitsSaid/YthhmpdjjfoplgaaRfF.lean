/- Total and Balance, the program's and the reference's: walked. -/
import Derived.Test.YthhmpdjjfoplgaaRfE
set_option linter.unusedVariables false
set_option linter.unusedSimpArgs false
namespace Go.Proofs.Ythhmpdjjfoplgaa
open Go.RowKit Reg

def totN (l : List Lot) : Int := if checkB l = true then sumU l else 0
def totE (l : List Lot) : Int := if checkB l = true then 0 else 250
theorem box_one (w : World) (A : Option Addr) (n cap : Nat) : ∃ w0 : World, w0 = w.alloc (.cells #[.slice A n cap] 24) ∧ Below w.heap.size w w0 ∧ w0.heap.size = w.heap.size + 1 ∧ w0.cell? ⟨w.heap.size, 0, none⟩ = some (.slice A n cap) :=
  ⟨_, rfl, (Below.refl _ _).alloc (Nat.le_refl _) _, by simp, by go_cell⟩

set_option maxRecDepth 100000 in
set_option maxHeartbeats 4000000 in
theorem total_any (A : Option Addr) (cap : Nat) (l : List Lot) (w : World) (h : LotsAt w (.slice A l.length cap) l) :
    Calls Try.prog 31 #[.agg #[.slice A l.length cap]] w fun e w' => e = .returned (.tuple #[.int .i64 (totN l), .int .i64 (totE l)]) ∧ Below w.heap.size w w' := by
  obtain ⟨w0, hw0, hb0, hs0, c0⟩ := box_one w A l.length cap
  have HL := Lib.hid (fun W hb => LotsAt.below (w' := W) h hb)
  have HB0 := Lib.hid hb0
  unfold totN totE
  cases hc : checkB l with
  | false =>
    have H1 := Lib.hid hc
    rw [if_neg (by simp), if_neg (by simp)]
    obtain ⟨n, hn⟩ : ∃ n, n = l.length := ⟨_, rfl⟩
    rw [← hn] at hw0 HL c0 ⊢
    clear h hc hb0 hn
    go_enter Try.func31, Try.ntmps31
    go_wp2_with fail
    rw [← hw0]
    refine (check_no _ l w0 (HL.out _ HB0.out) H1.out).mono ?_
    rintro e w1 ⟨rfl, hb⟩
    have HB1 := Lib.hid (HB0.out.trans (hb.mono HB0.out.size))
    clear hb hw0 hs0
    go_wp2
    go_ret2
    exact ⟨rfl, HB1.out⟩
  | true =>
    have H1 := Lib.hid hc
    obtain ⟨f1, f2, f3, f4, f5⟩ := check_facts hc
    have HU := Lib.hid f5
    rw [if_pos rfl, if_pos rfl]
    obtain ⟨n, hn⟩ : ∃ n, n = l.length := ⟨_, rfl⟩
    rw [← hn] at hw0 HL c0 f1 ⊢
    have HN := Lib.hid hn
    clear h hc hb0 hn f2 f3 f4 f5
    go_enter Try.func31, Try.ntmps31
    go_wp2_with fail
    rw [← hw0]
    refine (check_yes _ l w0 (HL.out _ HB0.out) H1.out).mono ?_
    rintro e w1 ⟨rfl, hb⟩
    have HB1 := Lib.hid (HB0.out.trans (hb.mono HB0.out.size))
    have k0 := cell_up c0 hb
    clear hb hw0 hs0 c0
    go_wp2_with fail
    refine (sum_any _ l w1 (HL.out _ HB1.out) (fun x hx => by have := HU.out x hx; omega) (by have := HN.out; omega)).mono ?_
    rintro e w2 ⟨rfl, hb⟩
    have HB2 := Lib.hid (HB1.out.trans (hb.mono HB1.out.size))
    clear hb
    go_wp2
    go_ret2
    exact ⟨rfl, HB2.out⟩
set_option maxRecDepth 100000 in
set_option maxHeartbeats 4000000 in
theorem rtotal_any (A : Option Addr) (cap : Nat) (l : List Lot) (w : World) (h : LotsAt w (.slice A l.length cap) l) :
    Calls Try.prog 43 #[.agg #[.slice A l.length cap]] w fun e w' => e = .returned (.tuple #[.int .i64 (totN l), .int .i64 (totE l)]) ∧ Below w.heap.size w w' := by
  obtain ⟨w0, hw0, hb0, hs0, c0⟩ := box_one w A l.length cap
  have HL := Lib.hid (fun W hb => LotsAt.below (w' := W) h hb)
  have HAT := Lib.hid (lots_at_any h)
  have HB0 := Lib.hid hb0
  unfold totN totE
  cases hc : checkB l with
  | false =>
    have H1 := Lib.hid hc
    rw [if_neg (by simp), if_neg (by simp)]
    obtain ⟨n, hn⟩ : ∃ n, n = l.length := ⟨_, rfl⟩
    rw [← hn] at hw0 HL c0 ⊢
    clear h hc hb0 hn
    go_enter Try.func43, Try.ntmps43
    go_wp2_with fail
    rw [← hw0]
    refine (rcheck_no _ l w0 (HL.out _ HB0.out) H1.out).mono ?_
    rintro e w1 ⟨rfl, hb⟩
    have HB1 := Lib.hid (HB0.out.trans (hb.mono HB0.out.size))
    clear hb hw0 hs0
    go_wp2
    go_ret2
    exact ⟨rfl, HB1.out⟩
  | true =>
    have H1 := Lib.hid hc
    obtain ⟨f1, f2, f3, f4, f5⟩ := check_facts hc
    have HU := Lib.hid f5
    have HS := Lib.hid f3
    rw [if_pos rfl, if_pos rfl]
    obtain ⟨n, hn⟩ : ∃ n, n = l.length := ⟨_, rfl⟩
    rw [← hn] at hw0 HL c0 f1 ⊢
    have HN := Lib.hid hn
    clear h hc hb0 hn f2 f3 f4 f5
    go_enter Try.func43, Try.ntmps43
    go_wp2_with fail
    rw [← hw0]
    refine (rcheck_yes _ l w0 (HL.out _ HB0.out) H1.out).mono ?_
    rintro e w1 ⟨rfl, hb⟩
    have HB1 := Lib.hid (HB0.out.trans (hb.mono HB0.out.size))
    have k0 := cell_up c0 hb
    clear hb hw0 hs0 c0
    go_wp2
    go_loopg [5, 6] n (fun m s i wr => ∃ k : Nat, k ≤ n ∧ n - k ≤ m ∧ i = .int .i64 k ∧ s = .int .i64 (sumU (l.take k)) ∧ wr = w1)
    case atStart => exact ⟨0, by omega, by omega, rfl, rfl, rfl⟩
    case round =>
      obtain ⟨k, hk, hm, rfl, rfl, rfl⟩ := hrel
      by_cases hlt : k < n
      · obtain ⟨y, hy⟩ : ∃ y, l[k]? = some y := ⟨l[k]'(by rw [← HN.out]; exact hlt), by simp [← HN.out, hlt]⟩
        obtain ⟨g, off, rfl, hcc⟩ := HAT.out k y hy
        obtain ⟨c0, c1, c2, c3⟩ := hcc.below HB1.out
        have hsn := take_snocL hy
        have hb1 := sumU_take l (k + 1) (fun x hx => by have := HU.out x hx; omega)
        have hb0 := sumU_take l k (fun x hx => by have := HU.out x hx; omega)
        have hyu := HU.out y (List.mem_of_getElem? hy)
        have hsl := HS.out
        obtain ⟨t, ht⟩ : ∃ t, t = sumU (l.take k) := ⟨_, rfl⟩
        rw [← ht] at hsn hb0 ⊢
        have hadd : IntKind.i64.wrap (t + y.units) = t + y.units := IntWalk.i64_in _ (by omega)
        have HSN := Lib.hid hsn
        clear hsn hb1 hb0 hyu hsl ht hcc hy
        go_wp2
        go_roundg (gk - 1)
        case measure => omega
        case rel => exact ⟨k + 1, by omega, by omega, by go_num, by rw [HSN.out], rfl⟩
      · have he : sumU (l.take k) = sumU l := by rw [List.take_of_length_le (by have := HN.out; omega)]
        rw [he]
        clear he
        go_wp2
        go_ret2
        exact ⟨rfl, HB1.out⟩
end Go.Proofs.Ythhmpdjjfoplgaa
