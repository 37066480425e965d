/- law25.tells and law25.RegisterTells, walked. -/
import Derived.Test.YthhmpdjjfoplgaaRfO
set_option linter.unusedVariables false
set_option linter.unusedSimpArgs false
namespace Go.Proofs.Ythhmpdjjfoplgaa
open Go.RowKit Reg Go.Maps

set_option maxHeartbeats 1000000 in
theorem holders_no (A : Option Addr) (cap : Nat) (l : List Lot) (w : World) (h : LotsAt w (.slice A l.length cap) l) (hc : checkB l = false) :
    Calls Try.prog 32 #[.agg #[.slice A l.length cap]] w fun e w' => e = .returned (.tuple #[.slice none 0 0, .int .i64 250]) ∧ Below w.heap.size w w' := by
  obtain ⟨w0, hw0, hb0, hs0, c0⟩ := box_one w A l.length cap
  have HL := Lib.hid (fun W hb => LotsAt.below (w' := W) h hb)
  have HB0 := Lib.hid hb0
  have H1 := Lib.hid hc
  obtain ⟨n, hn⟩ : ∃ n, n = l.length := ⟨_, rfl⟩
  rw [← hn] at hw0 HL c0 ⊢
  clear h hc hb0 hn
  go_enter Try.func32, Try.ntmps32
  go_wp2_with fail
  rw [← hw0]
  refine (check_no _ l w0 (HL.out _ HB0.out) H1.out).mono ?_
  rintro e w1 ⟨rfl, hb⟩
  have HB1 := Lib.hid (HB0.out.trans (hb.mono HB0.out.size))
  clear hb hw0 hs0 c0
  go_wp2
  go_ret2
  exact ⟨rfl, HB1.out⟩
set_option maxHeartbeats 1000000 in
theorem rholders_no (A : Option Addr) (cap : Nat) (l : List Lot) (w : World) (h : LotsAt w (.slice A l.length cap) l) (hc : checkB l = false) :
    Calls Try.prog 44 #[.agg #[.slice A l.length cap]] w fun e w' => e = .returned (.tuple #[.slice none 0 0, .int .i64 250]) ∧ Below w.heap.size w w' := by
  obtain ⟨w0, hw0, hb0, hs0, c0⟩ := box_one w A l.length cap
  have HL := Lib.hid (fun W hb => LotsAt.below (w' := W) h hb)
  have HB0 := Lib.hid hb0
  have H1 := Lib.hid hc
  obtain ⟨n, hn⟩ : ∃ n, n = l.length := ⟨_, rfl⟩
  rw [← hn] at hw0 HL c0 ⊢
  clear h hc hb0 hn
  go_enter Try.func44, Try.ntmps44
  go_wp2_with fail
  rw [← hw0]
  refine (rcheck_no _ l w0 (HL.out _ HB0.out) H1.out).mono ?_
  rintro e w1 ⟨rfl, hb⟩
  have HB1 := Lib.hid (HB0.out.trans (hb.mono HB0.out.size))
  clear hb hw0 hs0 c0
  go_wp2
  go_ret2
  exact ⟨rfl, HB1.out⟩
/-- what Holders hands back -/
def HoldP (l : List Lot) (w : World) (e : Ending) (w' : World) : Prop := ∃ v hs, e = .returned (.tuple #[v, .int .i64 (totE l)]) ∧ OwnH w' w.heap.size v hs ∧ (if checkB l = true then IsHold l hs else hs = []) ∧ Below w.heap.size w w'
theorem hold_p (A : Option Addr) (cap : Nat) (l : List Lot) (w : World) (h : LotsAt w (.slice A l.length cap) l) : Calls Try.prog 32 #[.agg #[.slice A l.length cap]] w (HoldP l w) := by
  cases hc : checkB l with
  | false =>
    refine (holders_no A cap l w h hc).mono ?_
    rintro e w' ⟨rfl, hb⟩
    exact ⟨_, [], by rw [totE, hc]; rfl, OwnH.nil _ _, by rw [hc]; simp, hb⟩
  | true =>
    refine (holders_any _ l w h hc).mono ?_
    rintro e w' ⟨v, hs, rfl, ho, hi, hb⟩
    exact ⟨v, hs, by rw [totE, hc]; rfl, ho, by rw [hc, if_pos rfl]; exact hi, hb⟩
theorem rhold_p (A : Option Addr) (cap : Nat) (l : List Lot) (w : World) (h : LotsAt w (.slice A l.length cap) l) : Calls Try.prog 44 #[.agg #[.slice A l.length cap]] w (HoldP l w) := by
  cases hc : checkB l with
  | false =>
    refine (rholders_no A cap l w h hc).mono ?_
    rintro e w' ⟨rfl, hb⟩
    exact ⟨_, [], by rw [totE, hc]; rfl, OwnH.nil _ _, by rw [hc]; simp, hb⟩
  | true =>
    refine (rholders_yes _ l w h hc).mono ?_
    rintro e w' ⟨v, hs, rfl, ho, hi, hb⟩
    exact ⟨v, hs, by rw [totE, hc]; rfl, ho, by rw [hc, if_pos rfl]; exact hi, hb⟩
theorem hold_same {l : List Lot} {a b : List Hol} (ha : if checkB l = true then IsHold l a else a = []) (hb : if checkB l = true then IsHold l b else b = []) : a = b := by
  by_cases hc : checkB l = true
  · rw [if_pos hc] at ha hb; exact ha.unique hb
  · rw [if_neg hc] at ha hb; rw [ha, hb]

set_option maxHeartbeats 4000000 in
theorem hold_eq (va vb : Value) (hs : List Hol) (w : World) (B B2 : Nat) (ha : OwnH w B va hs) (hb : OwnH w B2 vb hs) :
    Calls Try.prog 45 #[va, vb] w fun e w' => e = .returned (.bool true) ∧ Below w.heap.size w w' := by
  by_cases h0 : hs.length = 0
  · obtain ⟨A, cap, rfl⟩ := Rd.form (Rd.of_own ha)
    obtain ⟨A2, cap2, rfl⟩ := Rd.form (Rd.of_own hb)
    rw [h0]
    clear ha hb
    go_enter Try.func45, Try.ntmps45
    go_wp2
    go_loopg [5] 1 (fun m i wr => i = .int .i64 0 ∧ wr = w)
    case atStart => exact ⟨rfl, rfl⟩
    case round =>
      obtain ⟨rfl, rfl⟩ := hrel
      go_wp2
      go_ret
      exact ⟨rfl, Below.refl _ _⟩
  · obtain ⟨g, cap, rfl, hn1, hn2, _, _, _, _, hc⟩ := ownH_at ha (by omega)
    obtain ⟨g2, cap2, rfl, _, _, _, _, _, _, hc2⟩ := ownH_at hb (by omega)
    have hn : hs.length ≤ maxLen := by omega
    unfold maxLen at hn
    obtain ⟨n, hnn⟩ : ∃ n, n = hs.length := ⟨_, rfl⟩
    rw [← hnn] at hn h0 ⊢
    have HN := Lib.hid hnn
    have HC := Lib.hid hc
    have HC2 := Lib.hid hc2
    clear hnn hc hc2 ha hb hn1 hn2
    go_enter Try.func45, Try.ntmps45
    go_wp2
    go_loopg [5] n (fun m i wr => ∃ (k d : Nat), k ≤ n ∧ n - k ≤ m ∧ i = .int .i64 k ∧ wr = w.drewN d)
    case atStart => exact ⟨0, 0, by omega, by omega, rfl, rfl⟩
    case round =>
      obtain ⟨k, d, hk, hm, rfl, rfl⟩ := hrel
      by_cases hlt : k < n
      · obtain ⟨x, hx⟩ : ∃ x, hs[k]? = some x := ⟨hs[k]'(by rw [← HN.out]; exact hlt), by simp [← HN.out, hlt]⟩
        obtain ⟨c0, c1⟩ := HC.out k x hx
        obtain ⟨d0, d1⟩ := HC2.out k x hx
        clear hx
        go_wp2
        go_quiet (fail)
        go_wp2
        go_roundg (gk - 1)
        case measure => omega
        case rel => exact ⟨k + 1, d + nq, by omega, by omega, by go_num, rfl⟩
      · go_wp2
        go_ret
        exact ⟨rfl, below_drewN' (Below.refl _ _) _⟩

set_option maxRecDepth 100000 in
set_option maxHeartbeats 4000000 in
theorem tells_any (A : Option Addr) (cap : Nat) (l : List Lot) (nm hl : ByteArray) (w : World) (h : LotsAt w (.slice A l.length cap) l) :
    Calls Try.prog 20 #[.agg #[.slice A l.length cap], .agg #[.string nm, .string hl]] w fun e w' => e = .returned (.bool true) ∧ Below w.heap.size w w' := by
  obtain ⟨w0, hw0, hb0, hs0, c0, c1, c2⟩ := boxed_two w A l.length cap nm hl
  have HB0 := Lib.hid hb0
  have HC0 := Lib.hid (And.intro c0 (And.intro c1 c2))
  have HLW := Lib.hid (h.below hb0)
  obtain ⟨tn, htn⟩ : ∃ x, x = totN l := ⟨_, rfl⟩
  obtain ⟨te, hte⟩ : ∃ x, x = totE l := ⟨_, rfl⟩
  obtain ⟨bn, hbn⟩ : ∃ x, x = balN l nm hl := ⟨_, rfl⟩
  obtain ⟨be, hbe⟩ : ∃ x, x = balE l nm hl := ⟨_, rfl⟩
  have hce : (if checkB l = true then (0 : Int) else 250) = te := by rw [hte, totE]
  obtain ⟨N, hN⟩ : ∃ N, N = l.length := ⟨_, rfl⟩
  have R1 := Lib.hid (fun W (hh : LotsAt W (.slice A N cap) l) => show Calls Try.prog 31 #[.agg #[.slice A N cap]] W (fun e w' => e = .returned (.tuple #[.int .i64 tn, .int .i64 te]) ∧ Below W.heap.size W w') by subst hN htn hte; exact total_any A cap l W hh)
  have R2 := Lib.hid (fun W (hh : LotsAt W (.slice A N cap) l) => show Calls Try.prog 43 #[.agg #[.slice A N cap]] W (fun e w' => e = .returned (.tuple #[.int .i64 tn, .int .i64 te]) ∧ Below W.heap.size W w') by subst hN htn hte; exact rtotal_any A cap l W hh)
  have R3 := Lib.hid (fun W (hh : LotsAt W (.slice A N cap) l) => show Calls Try.prog 30 #[.agg #[.slice A N cap], .agg #[.string nm, .string hl]] W (fun e w' => e = .returned (.tuple #[.int .i64 bn, .int .i64 be]) ∧ Below W.heap.size W w') by subst hN hbn hbe; exact balance_any A cap l nm hl W hh)
  have R4 := Lib.hid (fun W (hh : LotsAt W (.slice A N cap) l) => show Calls Try.prog 17 #[.agg #[.slice A N cap], .agg #[.string nm, .string hl]] W (fun e w' => e = .returned (.tuple #[.int .i64 bn, .int .i64 be]) ∧ Below W.heap.size W w') by subst hN hbn hbe; exact rbalance_any A cap l nm hl W hh)
  have R5 := Lib.hid (fun W (hh : LotsAt W (.slice A N cap) l) => show Calls Try.prog 32 #[.agg #[.slice A N cap]] W (HoldP l W) by subst hN; exact hold_p A cap l W hh)
  have R6 := Lib.hid (fun W (hh : LotsAt W (.slice A N cap) l) => show Calls Try.prog 44 #[.agg #[.slice A N cap]] W (HoldP l W) by subst hN; exact rhold_p A cap l W hh)
  have R7 := Lib.hid (fun W (hh : LotsAt W (.slice A N cap) l) => show Calls Try.prog 29 #[.agg #[.slice A N cap]] W (fun e w' => e = .returned (.int .i64 te) ∧ Below W.heap.size W w') by have := check_any _ l W hh; unfold OutE at this; rw [hce] at this; exact this)
  have R8 := Lib.hid (fun W (hh : LotsAt W (.slice A N cap) l) => show Calls Try.prog 37 #[.agg #[.slice A N cap]] W (fun e w' => e = .returned (.int .i64 te) ∧ Below W.heap.size W w') by have := rcheck_any _ l W hh; unfold OutE at this; rw [hce] at this; exact this)
  have HTE := Lib.hid hte
  rw [← hN] at hw0 HLW HC0 ⊢
  clear h hb0 htn hte hbn hbe hN hce c0 c1 c2 hs0
  go_enter Try.func20, Try.ntmps20
  obtain ⟨c0, c1, c2⟩ := HC0.out
  go_wp2_with fail
  rw [← hw0]
  refine (R1.out w0 HLW.out).mono ?_
  rintro e w1 ⟨rfl, hb⟩
  have E1 := Lib.hid hb
  have d0 := cell_up c0 hb
  have d1 := cell_up c1 hb
  have d2 := cell_up c2 hb
  clear hb c0 c1 c2 hw0
  go_wp2_with fail
  refine (R2.out w1 (HLW.out.below E1.out)).mono ?_
  rintro e w2 ⟨rfl, hb⟩
  have E2 := Lib.hid (E1.out.trans (hb.mono E1.out.size))
  have c0 := cell_up d0 hb
  have c1 := cell_up d1 hb
  have c2 := cell_up d2 hb
  clear hb d0 d1 d2
  go_wp2_with fail
  refine (R3.out w2 (HLW.out.below E2.out)).mono ?_
  rintro e w3 ⟨rfl, hb⟩
  have E3 := Lib.hid (E2.out.trans (hb.mono E2.out.size))
  have d0 := cell_up c0 hb
  have d1 := cell_up c1 hb
  have d2 := cell_up c2 hb
  clear hb c0 c1 c2
  go_wp2_with fail
  refine (R4.out w3 (HLW.out.below E3.out)).mono ?_
  rintro e w4 ⟨rfl, hb⟩
  have E4 := Lib.hid (E3.out.trans (hb.mono E3.out.size))
  have c0 := cell_up d0 hb
  have c1 := cell_up d1 hb
  have c2 := cell_up d2 hb
  clear hb d0 d1 d2
  go_wp2_with fail
  refine (R5.out w4 (HLW.out.below E4.out)).mono ?_
  rintro e w5 ⟨v1, h1, rfl, ho1, hi1, hb⟩
  rw [← HTE.out]
  have E5 := Lib.hid (E4.out.trans (hb.mono E4.out.size))
  have d0 := cell_up c0 hb
  have HO1 := Lib.hid ho1
  have HI1 := Lib.hid hi1
  clear hb c0 c1 c2 ho1 hi1
  go_wp2_with fail
  refine (R6.out w5 (HLW.out.below E5.out)).mono ?_
  rintro e w6 ⟨v2, h2, rfl, ho2, hi2, hb⟩
  rw [← HTE.out]
  obtain rfl : h2 = h1 := hold_same hi2 HI1.out
  have E6 := Lib.hid (E5.out.trans (hb.mono E5.out.size))
  have c0 := cell_up d0 hb
  have HO2 := Lib.hid ho2
  have HO11 := Lib.hid (HO1.out.below hb)
  clear hb d0 ho2 hi2
  go_wp2
  have g0 := cell_gw c0
  refine wp_region_below (by kernel_rfl) (by kernel_rfl) ?_
  repeat (go_big_quiet_step (first
    | (go_at_call 29; exact Calls.below_of (R7.out _ (HLW.out.below (E6.out.trans ((below_gw _ _ _).mono E6.out.size)))))
    | (go_at_call 37; exact Calls.below_of (R8.out _ (HLW.out.below (E6.out.trans ((below_gw _ _ _).mono E6.out.size)))))
    | (go_at_call 45; exact Calls.below_of (hold_eq _ _ _ _ _ _ (HO11.out.below (below_gw _ _ _)) (HO2.out.below (below_gw _ _ _))))))
  refine wpQuiet_nil ?_
  intro w' hw'
  obtain ⟨p, rfl⟩ := hw'
  go_wp2
  go_ret
  exact ⟨rfl, HB0.out.trans ((E6.out.trans ((below_gw _ _ _).mono E6.out.size)).mono HB0.out.size)⟩
set_option maxHeartbeats 1000000 in
theorem law_tells (A : Option Addr) (cap : Nat) (l : List Lot) (nm hl : ByteArray) (w : World) (h : LotsAt w (.slice A l.length cap) l) :
    Calls Try.prog 5 #[.agg #[.slice A l.length cap], .agg #[.string nm, .string hl]] w fun e w' => e = .returned (.bool true) ∧ Below w.heap.size w w' := by
  obtain ⟨w0, hw0, hb0, hs0, c0, c1, c2⟩ := boxed_two w A l.length cap nm hl
  have HB0 := Lib.hid hb0
  have HR := Lib.hid (tells_any A cap l nm hl w0 (h.below hb0))
  obtain ⟨N, hN⟩ : ∃ N, N = l.length := ⟨_, rfl⟩
  rw [← hN] at hw0 HR c0 ⊢
  clear h hb0 hN hs0
  go_enter Try.func5, Try.ntmps5
  go_wp2_with fail
  rw [← hw0]
  refine HR.out.mono ?_
  rintro e w1 ⟨rfl, hB1⟩
  have HW1 := Lib.hid (HB0.out.trans (hB1.mono HB0.out.size))
  clear hB1 c0 c1 c2 hw0
  go_wp2_with fail
  refine (awake_any w1).mono ?_
  rintro e w2 ⟨rfl, hB2⟩
  have HW2 := Lib.hid (HW1.out.trans (hB2.mono HW1.out.size))
  clear hB2
  go_wp2
  go_ret
  exact ⟨rfl, HW2.out⟩
end Go.Proofs.Ythhmpdjjfoplgaa
