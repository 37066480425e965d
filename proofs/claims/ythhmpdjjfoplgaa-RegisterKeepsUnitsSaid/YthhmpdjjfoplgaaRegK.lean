/- Two lists of lots held against one another; slices.Clone of lots: walked. -/
import Derived.Test.YthhmpdjjfoplgaaRegJ
set_option linter.unusedVariables false
set_option linter.unusedSimpArgs false
namespace Go.Proofs.Ythhmpdjjfoplgaa
open Go.RowKit Reg

set_option maxRecDepth 100000 in
set_option maxHeartbeats 2000000 in
theorem lots_eq (va vb : Value) (l : List Lot) (w : World) (ha : LotsAt w va l) (hb : LotsAt w vb l) (hn : l.length ≤ 100000) :
    Calls Try.prog 34 #[va, vb] w fun e w' => e = .returned (.bool true) ∧ Below w.heap.size w w' := by
  by_cases h0 : l.length = 0
  · obtain ⟨A, cap, rfl⟩ := ha.nil h0
    obtain ⟨A2, cap2, rfl⟩ := hb.nil h0
    clear ha hb hn
    go_enter Try.func34, Try.ntmps34
    go_wp2
    go_loopg [5] 1 (fun m i wr => i = .int .i64 0 ∧ wr = w)
    case atStart => exact ⟨rfl, rfl⟩
    case round =>
      obtain ⟨rfl, rfl⟩ := hrel
      go_wp2
      go_ret
      exact ⟨rfl, Below.refl _ _⟩
  · obtain ⟨g, off, cap, rfl, hc⟩ := ha.some (by omega)
    obtain ⟨g2, off2, cap2, rfl, hc2⟩ := hb.some (by omega)
    obtain ⟨n, hnn⟩ : ∃ n, n = l.length := ⟨_, rfl⟩
    rw [← hnn] at hn h0 ⊢
    have HN := Lib.hid hnn
    have HC := Lib.hid hc
    have HC2 := Lib.hid hc2
    clear hnn hc hc2 ha hb
    go_enter Try.func34, Try.ntmps34
    go_wp2
    go_loopg [5] n (fun m i wr => ∃ (k d : Nat), k ≤ n ∧ n - k ≤ m ∧ i = .int .i64 k ∧ wr = w.drewN d)
    case atStart => exact ⟨0, 0, by omega, by omega, rfl, rfl⟩
    case round =>
      obtain ⟨k, d, hk, hm, rfl, rfl⟩ := hrel
      by_cases hlt : k < n
      · obtain ⟨x, hx⟩ : ∃ x, l[k]? = some x := ⟨l[k]'(by rw [← HN.out]; exact hlt), by simp [← HN.out, hlt]⟩
        obtain ⟨c0, c1, c2, c3⟩ := HC.out k x hx
        obtain ⟨d0, d1, d2, d3⟩ := HC2.out k x hx
        clear hx
        go_wp2
        go_quiet (fail)
        go_wp2
        go_roundg (gk - 1)
        case measure => omega
        case rel => exact ⟨k + 1, d + nq, by omega, by omega, by go_num, rfl⟩
      · go_wp2
        go_ret
        exact ⟨rfl, below_drewN' (Below.refl _ _) _⟩
set_option maxHeartbeats 1000000 in
theorem same_eq (va vb : Value) (l : List Lot) (w : World) (ha : LotsAt w va l) (hb : LotsAt w vb l) (hn : l.length ≤ 100000) :
    Calls Try.prog 24 #[regV va, regV vb] w fun e w' => e = .returned (.bool true) ∧ Below w.heap.size w w' := by
  have hB : Below w.heap.size w ((w.alloc (.cells #[va] 24)).alloc (.cells #[vb] 24)) := ((Below.refl _ _).alloc (Nat.le_refl _) _).alloc (by simp) _
  have HA := Lib.hid (ha.below hB)
  have HB := Lib.hid (hb.below hB)
  have HW := Lib.hid hB
  have ha1 : (Value.cells va) = #[va] := by obtain ⟨A, c, rfl⟩ := Rd.form ha; rfl
  have hb1 : (Value.cells vb) = #[vb] := by obtain ⟨A, c, rfl⟩ := Rd.form hb; rfl
  obtain ⟨A, c, rfl⟩ := Rd.form ha
  obtain ⟨A2, c2, rfl⟩ := Rd.form hb
  clear ha hb hB ha1 hb1
  unfold regV
  go_enter Try.func24, Try.ntmps24
  go_wp2_with (go_at_call 34; refine (lots_eq _ _ l _ HA.out HB.out hn).mono ?_; rintro e w' ⟨rfl, hb⟩; have HB2 := Lib.hid hb; clear hb)
  go_ret
  exact ⟨rfl, HW.out.trans (HB2.out.mono HW.out.size)⟩

set_option maxRecDepth 100000 in
set_option maxHeartbeats 1000000 in
theorem clone_any (v : Value) (l : List Lot) (w : World) (h : LotsAt w v l) (hn : l.length ≤ 10000) :
    Calls Try.prog 60 #[v] w fun e w' => ∃ v', e = .returned v' ∧ Own w' w.heap.size v' l ∧ Below w.heap.size w w' := by
  obtain ⟨i0, hi, hz0, hz1, hz2⟩ := info_parts Try.info41
  have q22 : ∀ (w : World) (a : Option Addr) (n c n' c' : Nat), (binOp .eql 22 (.slice a n c) (.slice none n' c')).run Try.prog w = .ok (.bool a.isNone) w := fun w a n c n' c' => Lib.run_eql_slice_nil w _ _ a n c n' c' Try.underlying22
  have H := Lib.hid h
  by_cases h0 : l.length = 0
  · obtain ⟨A, cap, rfl⟩ := h.nil h0
    have hl0 := List.eq_nil_of_length_eq_zero h0
    subst hl0
    clear h h0 hn
    cases A with
    | none =>
      go_enter Try.func60, Try.ntmps60
      go_wp2
      go_ret
      exact ⟨_, rfl, Own.nil _ _, Below.refl _ _⟩
    | some ad =>
      go_enter Try.func60, Try.ntmps60
      go_wp2_with (at_builtin; refine wpList_append_own _ rfl _ _ 22 rfl w.heap.size 41 i0 _ 4 48 Try.underlying22 hi hz0 hz1 hz2 rfl (by decide) _ _ _ rfl (World.ownsRow_made w #[] 0 (Nat.le_refl _) (Nat.zero_le _) rfl) ad 0 cap [] rfl ?qc1 ?qc2 ?qc3 ?qc4 ?qc5 ?qc6 ?_)
      case qc1 => rfl
      case qc2 => intro j u hj; simp at hj
      case qc3 => intro u hu; cases hu
      case qc4 => exact small_maxLen (by omega)
      case qc5 => omega
      case qc6 => simp
      intro v' w1 hown hgrow hnil
      have HH := Lib.hid (show Own w1 w.heap.size v' [] by unfold Own; rw [show cellsL [] = [] from rfl]; simpa using hown)
      have HG := Lib.hid hgrow
      clear hown hgrow hnil
      go_wp2
      go_ret
      exact ⟨v', rfl, HH.out, ((Below.refl _ w).alloc (Nat.le_refl _) _).grown HG.out (by simp) (by intro k hk; simp [Value.ownBlock] at hk; omega)⟩
  · obtain ⟨h1, h2, A, cap, rfl, h3⟩ := h
    obtain ⟨g, off, rfl, hc⟩ := h3 (by omega)
    have hlen := cellsL_len l
    obtain ⟨n, hnn⟩ : ∃ n, n = l.length := ⟨_, rfl⟩
    rw [← hnn] at hn h0 hlen H h1 h2 ⊢
    have HN := Lib.hid hnn
    have HC := Lib.hid hc
    have HL := Lib.hid hlen
    clear hnn hc hlen h1 h2 h3
    go_enter Try.func60, Try.ntmps60
    go_wp2_with (at_builtin; refine wpList_append_own _ rfl _ _ 22 rfl w.heap.size 41 i0 _ 4 48 Try.underlying22 hi hz0 hz1 hz2 rfl (by decide) _ _ _ rfl (World.ownsRow_made w #[] 0 (Nat.le_refl _) (Nat.zero_le _) rfl) ⟨g, off, none⟩ n cap (cellsL l) rfl ?qc1 ?qc2 ?qc3 ?qc4 ?qc5 ?qc6 ?_)
    case qc1 => exact HL.out
    case qc2 =>
      intro j u hj
      have hadd : (⟨g, off, none⟩ : Addr).add j = ⟨g, off + j, none⟩ := by unfold Addr.add; split <;> simp_all
      rw [hadd]
      exact cell_alloc (HC.out j u hj) _
    case qc3 => exact cellsL_one l
    case qc4 => exact small_maxLen (by omega)
    case qc5 => omega
    case qc6 => simp
    intro v' w1 hown hgrow hnil
    have HH := Lib.hid (show Own w1 w.heap.size v' l by unfold Own; rw [← HN.out]; simpa using hown)
    have HG := Lib.hid hgrow
    clear hown hgrow hnil
    go_wp2
    go_ret
    exact ⟨v', rfl, HH.out, ((Below.refl _ w).alloc (Nat.le_refl _) _).grown HG.out (by simp) (by intro k hk; simp [Value.ownBlock] at hk; omega)⟩
end Go.Proofs.Ythhmpdjjfoplgaa
