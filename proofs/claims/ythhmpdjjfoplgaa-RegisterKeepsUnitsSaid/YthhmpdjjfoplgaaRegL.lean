/- slices.BinarySearchFunc over lots by register.place: walked. -/
import Derived.Test.YthhmpdjjfoplgaaRegK
set_option linter.unusedVariables false
set_option linter.unusedSimpArgs false
namespace Go.Proofs.Ythhmpdjjfoplgaa
open Go.RowKit Reg

namespace Reg
def foundB (l : List Lot) (x : Lot) : Bool := match l[pos l x]? with
  | none => false
  | some y => decide (sameKey y x)
end Reg
theorem ret2_ib {a b : Int} {c d : Bool} (h : a = b) (g : c = d) : Ending.returned (.tuple #[.int .i64 a, .bool c]) = .returned (.tuple #[.int .i64 b, .bool d]) := by rw [h, g]

set_option maxRecDepth 100000 in
set_option maxHeartbeats 4000000 in
theorem bsearch_any (v : Value) (l : List Lot) (x : Lot) (w : World) (h : LotsAt w v l) (hs : Srt l) (hn : l.length ≤ 10000) :
    Calls Try.prog 61 #[v, lotV x, .func (.func 50) #[] #[]] w fun e w' => e = .returned (.tuple #[.int .i64 (pos l x), .bool (foundB l x)]) ∧ Below w.heap.size w w' := by
  unfold lotV
  by_cases h0 : l.length = 0
  · obtain ⟨A, cap, rfl⟩ := h.nil h0
    have hl0 := List.eq_nil_of_length_eq_zero h0
    subst hl0
    clear h h0 hn hs
    go_enter Try.func61, Try.ntmps61
    go_wp2
    go_loopg [9, 10] 1 (fun m i j wr => i = .int .i64 0 ∧ j = .int .i64 0 ∧ wr = w.alloc (.cells #[.string x.nom, .string x.hol, .int .i64 x.ser, .int .i64 x.units] 41))
    case atStart => exact ⟨rfl, rfl, rfl⟩
    case round =>
      obtain ⟨rfl, rfl, rfl⟩ := hrel
      go_wp2
      go_quiet (fail)
      go_wp2
      go_ret2
      exact ⟨rfl, below_drewN' ((Below.refl _ _).alloc (Nat.le_refl _) _) _⟩
  · obtain ⟨g, off, cap, rfl, hc⟩ := h.some (by omega)
    obtain ⟨n, hnn⟩ : ∃ n, n = l.length := ⟨_, rfl⟩
    rw [← hnn] at hn h0 ⊢
    have HN := Lib.hid hnn
    have HC := Lib.hid hc
    have HS := Lib.hid hs
    clear hnn hc h hs
    go_enter Try.func61, Try.ntmps61
    go_wp2
    go_loopg [9, 10] n (fun m iv jv wr => ∃ (i j : Nat), i ≤ j ∧ j ≤ n ∧ j - i ≤ m ∧ iv = .int .i64 i ∧ jv = .int .i64 j ∧ (∀ a y, l[a]? = some y → a < i → lotLt y x = true) ∧ (∀ a y, l[a]? = some y → j ≤ a → lotLt y x = false) ∧ Below (w.heap.size + 1) (w.alloc (.cells #[.string x.nom, .string x.hol, .int .i64 x.ser, .int .i64 x.units] 41)) wr)
    case atStart => exact ⟨0, n, by omega, by omega, by omega, rfl, rfl, fun a y _ h => absurd h (by omega), fun a y hy h => absurd (List.getElem?_eq_some_iff.1 hy).1 (by have := HN.out; omega), Below.refl _ _⟩
    case round =>
      obtain ⟨i, j, hij, hj, hm, rfl, rfl, hlo, hhi, hbl⟩ := hrel
      have hsz : w.heap.size < wr.heap.size := by have := hbl.size; simp at this; omega
      have a0 : wr.cell? ⟨w.heap.size, 0, none⟩ = some (.string x.nom) := cell_belowB (by go_cell) hbl (by simp)
      have a1 : wr.cell? ⟨w.heap.size, 1, none⟩ = some (.string x.hol) := cell_belowB (by go_cell) hbl (by simp)
      have a2 : wr.cell? ⟨w.heap.size, 2, none⟩ = some (.int .i64 x.ser) := cell_belowB (by go_cell) hbl (by simp)
      have a3 : wr.cell? ⟨w.heap.size, 3, none⟩ = some (.int .i64 x.units) := cell_belowB (by go_cell) hbl (by simp)
      have b0 := cell_gw a0
      have b1 := cell_gw a1
      have b2 := cell_gw a2
      have b3 := cell_gw a3
      have HBL := Lib.hid hbl
      have HB0 := Lib.hid (show Below w.heap.size w wr from ((Below.refl _ _).alloc (Nat.le_refl _) _).trans (hbl.mono (by omega)))
      have HLO := Lib.hid hlo
      have HHI := Lib.hid hhi
      clear hbl hlo hhi a0 a1 a2 a3
      by_cases hlt : i < j
      · have hsum : IntKind.i64.wrap ((i : Int) + (j : Int)) = (i : Int) + (j : Int) := IntWalk.i64_in _ (by omega)
        obtain ⟨q, hq⟩ : ∃ q, q = (i + j) / 2 := ⟨_, rfl⟩
        have hmid : ((i : Int) + (j : Int)) / 2 = (q : Int) := by omega
        have hq1 : i ≤ q := by omega
        have hq2 : q < j := by omega
        have hqn : q < n := by omega
        clear hq
        obtain ⟨y, hy⟩ : ∃ y, l[q]? = some y := ⟨l[q]'(by rw [← HN.out]; omega), by simp [← HN.out, hqn]⟩
        obtain ⟨c0, c1, c2, c3⟩ := (HC.out q y hy).below HB0.out
        have d0 := cell_gw c0
        have d1 := cell_gw c1
        have d2 := cell_gw c2
        have d3 := cell_gw c3
        clear c0 c1 c2 c3
        have HY := Lib.hid hy
        clear hy
        go_upto_region 5 with fail
        cases hlt2 : lotLt y x with
        | true =>
          have HPL := Lib.hid (place_lt hlt2)
          have HLT := Lib.hid hlt2
          clear hlt2
          refine wp_region_below (by kernel_rfl) (by kernel_rfl) ?_
          repeat (go_big_quiet_step (first | (go_at_call 50; exact Calls.below_of (placeB_any y x (-1) HPL.out _))))
          refine wpQuiet_nil ?_
          intro w' hw'
          obtain ⟨p, rfl⟩ := hw'
          go_wp2
          go_roundg (gk - 1)
          case measure => omega
          case rel => exact ⟨q + 1, j, by omega, by omega, by omega, by go_num, rfl, fun a z hz ha => by
            by_cases haq : a = q
            · subst haq; have := hz.symm.trans HY.out; injection this with e; rw [e]; exact HLT.out
            · have hlen := (List.getElem?_eq_some_iff.1 hz)
              have hlen2 := (List.getElem?_eq_some_iff.1 HY.out)
              have := List.pairwise_iff_getElem.1 HS.out a q hlen.1 hlen2.1 (by omega)
              rw [hlen.2, hlen2.2] at this
              exact lotLt_trans this HLT.out, HHI.out, HBL.out.trans ((below_gw _ _ _).mono hsz)⟩
        | false =>
          obtain ⟨m, hm1, hm2⟩ : ∃ m, place y x = m ∧ 0 ≤ m := ⟨_, rfl, by have := place_neg_iff y x; rw [hlt2] at this; simp at this; omega⟩
          have HPL := Lib.hid hm1
          have HLT := Lib.hid hlt2
          clear hlt2 hm1
          refine wp_region_below (by kernel_rfl) (by kernel_rfl) ?_
          repeat (go_big_quiet_step (first | (go_at_call 50; exact Calls.below_of (placeB_any y x m HPL.out _))))
          refine wpQuiet_nil ?_
          intro w' hw'
          obtain ⟨p, rfl⟩ := hw'
          go_wp2
          go_roundg (gk - 1)
          case measure => omega
          case rel => exact ⟨i, q, by omega, by omega, by omega, rfl, by go_num, HLO.out, (fun a z hz ha => by
            by_cases haq : a = q
            · subst haq; have := hz.symm.trans HY.out; injection this with e; rw [e]; exact HLT.out
            · have hlen := (List.getElem?_eq_some_iff.1 hz)
              have hlen2 := (List.getElem?_eq_some_iff.1 HY.out)
              have := List.pairwise_iff_getElem.1 HS.out q a hlen2.1 hlen.1 (by omega)
              rw [hlen.2, hlen2.2] at this
              cases hzx : lotLt z x
              · rfl
              · have := lotLt_trans this hzx; rw [HLT.out] at this; cases this), HBL.out.trans ((below_gw _ _ _).mono hsz)⟩
      · obtain rfl : i = j := by omega
        have hpos : pos l x = i := pos_eq l x i (by rw [← HN.out]; omega) (fun a ha hai => HLO.out a _ (List.getElem?_eq_getElem ha) hai) (fun hi => HHI.out i _ (List.getElem?_eq_getElem hi) (Nat.le_refl _))
        have HP := Lib.hid hpos
        clear hpos
        by_cases hin : i < n
        · obtain ⟨y, hy⟩ : ∃ y, l[i]? = some y := ⟨l[i]'(by rw [← HN.out]; omega), by simp [← HN.out, hin]⟩
          obtain ⟨c0, c1, c2, c3⟩ := (HC.out i y hy).below HB0.out
          have d0 := cell_gw c0
          have d1 := cell_gw c1
          have d2 := cell_gw c2
          have d3 := cell_gw c3
          clear c0 c1 c2 c3
          have HFD := Lib.hid (show foundB l x = decide (sameKey y x) by unfold foundB; rw [HP.out, hy])
          clear hy
          go_upto_region 8 with fail
          by_cases hk : sameKey y x
          · have HPL := Lib.hid ((place_zero_iff y x).2 hk)
            have HK := Lib.hid hk
            clear hk
            refine wp_region_below (by kernel_rfl) (by kernel_rfl) ?_
            repeat (go_big_quiet_step (first | (go_at_call 50; exact Calls.below_of (placeB_any y x 0 HPL.out _))))
            refine wpQuiet_nil ?_
            intro w' hw'
            obtain ⟨p, rfl⟩ := hw'
            go_wp2
            go_ret2
            exact ⟨ret2_ib (by rw [HP.out]) (by rw [HFD.out, decide_eq_true HK.out]), HB0.out.trans ((below_gw _ _ _).mono HB0.out.size)⟩
          · obtain ⟨m, hm1, hm2⟩ : ∃ m, place y x = m ∧ m ≠ 0 := ⟨_, rfl, fun e => hk ((place_zero_iff y x).1 e)⟩
            have hm3 : (m == 0) = false := beq_eq_false_iff_ne.2 hm2
            have HPL := Lib.hid hm1
            have HK := Lib.hid hk
            clear hk hm1 hm2
            refine wp_region_below (by kernel_rfl) (by kernel_rfl) ?_
            repeat (go_big_quiet_step (first | (go_at_call 50; exact Calls.below_of (placeB_any y x m HPL.out _))))
            refine wpQuiet_nil ?_
            intro w' hw'
            obtain ⟨p, rfl⟩ := hw'
            go_wp2
            go_ret2
            exact ⟨ret2_ib (by rw [HP.out]) (by rw [HFD.out, decide_eq_false HK.out]), HB0.out.trans ((below_gw _ _ _).mono HB0.out.size)⟩
        · have HFD := Lib.hid (show foundB l x = false by unfold foundB; rw [HP.out, List.getElem?_eq_none (by rw [← HN.out]; omega)])
          go_upto_region 8 with fail
          refine wp_region_below (by kernel_rfl) (by kernel_rfl) ?_
          repeat (go_big_quiet_step (fail))
          refine wpQuiet_nil ?_
          intro w' hw'
          obtain ⟨p, rfl⟩ := hw'
          go_wp2
          go_ret2
          exact ⟨ret2_ib (by rw [HP.out]) HFD.out.symm, HB0.out.trans ((below_gw _ _ _).mono HB0.out.size)⟩
end Go.Proofs.Ythhmpdjjfoplgaa
