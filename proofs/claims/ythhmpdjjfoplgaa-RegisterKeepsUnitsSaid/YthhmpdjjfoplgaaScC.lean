/- fundadminscene: one lot put among sorted lots, unless there is one of its account and series: walked. -/
import Derived.Test.YthhmpdjjfoplgaaScB
import Derived.Test.YthhmpdjjfoplgaaRfE
set_option linter.unusedVariables false
set_option linter.unusedSimpArgs false
namespace Go.Proofs.Ythhmpdjjfoplgaa
open Go.RowKit Reg

set_option maxRecDepth 100000 in
set_option maxHeartbeats 2000000 in
theorem before_any (a b : Lot) (m : Bool) (hm : lotLt a b = m) (w : World) :
    Calls Try.prog 56 #[.agg #[.string a.nom, .string a.hol, .int .i64 a.ser, .int .i64 a.units], .agg #[.string b.nom, .string b.hol, .int .i64 b.ser, .int .i64 b.units]] w fun e w' => e = .returned (.bool m) ∧ Below w.heap.size w w' := by
  rw [← hm]
  clear hm
  have hL := lotLt.eq_1 a b
  have q1 : (a.nom.toList == b.nom.toList) = decide (a.nom = b.nom) := by
    rw [Bool.eq_iff_iff]; exact (sEq_iff a.nom b.nom).trans (by simp)
  have q2 : (a.hol.toList == b.hol.toList) = decide (a.hol = b.hol) := by
    rw [Bool.eq_iff_iff]; exact (sEq_iff a.hol b.hol).trans (by simp)
  by_cases h1 : a.nom = b.nom
  · rw [if_pos h1] at hL
    rw [decide_eq_true h1] at q1
    by_cases h2 : a.hol = b.hol
    · rw [if_pos h2] at hL
      rw [decide_eq_true h2] at q2
      have HL := Lib.hid hL
      clear hL h1 h2
      go_enter Try.func56, Try.ntmps56
      go_wp2
      go_ret
      exact ⟨ret_bool HL.out.symm, ((Below.refl _ _).alloc (Nat.le_refl _) _).alloc (by simp) _⟩
    · rw [if_neg h2] at hL
      rw [decide_eq_false h2] at q2
      have HL := Lib.hid hL
      clear hL h1 h2
      go_enter Try.func56, Try.ntmps56
      go_wp2
      go_ret
      exact ⟨ret_bool HL.out.symm, ((Below.refl _ _).alloc (Nat.le_refl _) _).alloc (by simp) _⟩
  · rw [if_neg h1] at hL
    rw [decide_eq_false h1] at q1
    have HL := Lib.hid hL
    clear hL h1 q2
    go_enter Try.func56, Try.ntmps56
    go_wp2
    go_ret
    exact ⟨ret_bool HL.out.symm, ((Below.refl _ _).alloc (Nat.le_refl _) _).alloc (by simp) _⟩

theorem Own.drewN {w : World} {B : Nat} {v : Value} {l : List Lot} (h : Own w B v l) (d : Nat) : Own (w.drewN d) B v l := h
namespace Reg
/-- what Put hands back -/
def PutS (l : List Lot) (x : Lot) (l' : List Lot) : Prop := l' = l ∨ (∀ z ∈ l, ¬ sameKey z x) ∧ l' = putR l x
end Reg
def PutP (l : List Lot) (x : Lot) (w : World) (e : Ending) (w' : World) : Prop := ∃ v' l', e = .returned v' ∧ PutS l x l' ∧ Own w' w.heap.size v' l' ∧ Below w.heap.size w w'
set_option maxRecDepth 100000 in
set_option maxHeartbeats 8000000 in
theorem put_any (v : Value) (l : List Lot) (x : Lot) (w : World) (h : LotsAt w v l) (hn : l.length ≤ 1000) :
    Calls Try.prog 36 #[v, .agg #[.string x.nom, .string x.hol, .int .i64 x.ser, .int .i64 x.units]] w (PutP l x w) := by
  obtain ⟨i0, hi, hz0, hz1, hz2⟩ := info_parts Try.info41
  obtain ⟨A, cap, hv⟩ := Rd.form h
  subst hv
  have HAT := Lib.hid (lots_at_any h)
  have HRD := Lib.hid h
  have hb0 : Below w.heap.size w (w.alloc (.cells #[.string x.nom, .string x.hol, .int .i64 x.ser, .int .i64 x.units] 41)) := (Below.refl _ _).alloc (Nat.le_refl _) _
  obtain ⟨w0, hw0⟩ : ∃ w0, w0 = w.alloc (.cells #[.string x.nom, .string x.hol, .int .i64 x.ser, .int .i64 x.units] 41) := ⟨_, rfl⟩
  have hs0 : w0.heap.size = w.heap.size + 1 := by rw [hw0]; simp
  have HX := Lib.hid (show CellsAt w0 w.heap.size 0 x from by
    rw [hw0]
    refine ⟨?_, ?_, ?_, ?_⟩ <;> go_cell)
  rw [← hw0] at hb0
  have HB0 := Lib.hid hb0
  have HS0 := Lib.hid hs0
  obtain ⟨n, hn'⟩ : ∃ n, n = l.length := ⟨_, rfl⟩
  rw [← hn'] at hn ⊢
  have HN := Lib.hid hn'
  clear h hb0 hs0 hn'
  go_enter Try.func36, Try.ntmps36
  go_wp2
  rw [← hw0]
  clear hw0
  go_loopg [5, 6, 7] n (fun m a b i wr => ∃ k : Nat, k ≤ n ∧ n - k ≤ m ∧ i = .int .i64 k ∧ b = .bool (foldP x (l.take k)).2 ∧ (∀ z ∈ l.take k, ¬ sameKey z x) ∧ Own wr w0.heap.size a (foldP x (l.take k)).1 ∧ Below w0.heap.size w0 wr)
  case atStart => exact ⟨0, by omega, by omega, rfl, rfl, by simp, Own.nil _ _, Below.refl _ _⟩
  case round =>
    obtain ⟨k, hk, hm, rfl, rfl, hns, hoa, hbl⟩ := hrel
    have hsz : w0.heap.size ≤ wr.heap.size := hbl.size
    have hwz : w.heap.size < wr.heap.size := by have := HS0.out; omega
    obtain ⟨x0, x1, x2, x3⟩ := show CellsAt wr w.heap.size 0 x from ⟨cell_belowB HX.out.1 hbl (by have := HS0.out; simp; omega), cell_belowB HX.out.2.1 hbl (by have := HS0.out; simp; omega), cell_belowB HX.out.2.2.1 hbl (by have := HS0.out; simp; omega), cell_belowB HX.out.2.2.2 hbl (by have := HS0.out; simp; omega)⟩
    have hfl := foldP_len x (l.take k)
    rw [List.length_take] at hfl
    obtain ⟨o, ho⟩ : ∃ o, o = (foldP x (l.take k)).1 := ⟨_, rfl⟩
    obtain ⟨d, hd⟩ : ∃ d, d = (foldP x (l.take k)).2 := ⟨_, rfl⟩
    rw [← ho] at hoa hfl
    rw [← hd]
    have hol : o.length ≤ 2000 := by omega
    have HOD := Lib.hid (And.intro ho hd)
    have HOA := Lib.hid hoa
    have HBL := Lib.hid hbl
    have HNS := Lib.hid hns
    clear hoa hbl hfl ho hd hns
    by_cases hlt : k < n
    · obtain ⟨y, hy⟩ : ∃ y, l[k]? = some y := ⟨l[k]'(by rw [← HN.out]; exact hlt), by simp [← HN.out, hlt]⟩
      obtain ⟨g, off, rfl, hcc⟩ := HAT.out k y hy
      obtain ⟨c0, c1, c2, c3⟩ := hcc.below (HB0.out.trans (HBL.out.mono HB0.out.size))
      have hgw : g < w.heap.size := World.block_lt_of_cell? w _ hcc.1
      have hne : u5.ownBlock ≠ some g := HOA.out.ne (.inr (by have := HS0.out; omega))
      have hst : foldP x (l.take (k + 1)) = stP x (o, d) y := by rw [foldP_snoc x hy, HOD.out.1, HOD.out.2]
      have q1 : (y.nom.toList == x.nom.toList) = sEq y.nom x.nom := rfl
      have q2 : (y.hol.toList == x.hol.toList) = sEq y.hol x.hol := rfl
      by_cases hk1 : sameKey y x
      · have e1 : sEq y.nom x.nom = true := (sEq_iff _ _).2 hk1.1
        have e2 : sEq y.hol x.hol = true := (sEq_iff _ _).2 hk1.2.1
        have e3 : (y.ser == x.ser) = true := by simp [hk1.2.2]
        rw [e1] at q1
        rw [e2] at q2
        have HRW := Lib.hid (HRD.out.below (HB0.out.trans (HBL.out.mono HB0.out.size)))
        have hnl : 0 < l.length := by rw [← HN.out]; omega
        obtain ⟨hl1, _, A2, cap2, hv2, hc2⟩ := HRW.out
        obtain ⟨g2, off2, hA2, hcl⟩ := hc2 hnl
        injection hv2 with hv2 _ hv3
        subst hA2 hv3
        injection hv2 with hv2
        injection hv2 with hv2 hv4
        subst hv2 hv4
        rw [← HN.out] at hl1
        have HL1 := Lib.hid hl1
        have HCL := Lib.hid hcl
        clear hst hk1 e1 e2 hcc hy hl1 hcl hc2 hnl
        go_wp2
        go_quiet (fail)
        go_wp2_with (at_builtin; refine wpList_append_own _ rfl _ _ 22 rfl w0.heap.size 41 i0 _ 4 48 Try.underlying22 hi hz0 hz1 hz2 rfl (by decide) (.slice none 0 0) 0 [] rfl (World.ownsRow_nil _ _ _ _) ⟨g, off, none⟩ n cap (cellsL l) rfl HL1.out ?_ (cellsL_one _) (small_maxLen (by omega)) (by omega) hsz ?_; (intro j u hj; rw [addLit0]; exact HCL.out j u hj); intro v' w1 hown hgrow hnil)
        have HO1 := Lib.hid (show Own w1 w0.heap.size v' l by unfold Own; rw [← HN.out]; simpa using hown)
        have HB1 := Lib.hid (show Below w0.heap.size w0 w1 from ((below_drewN' HBL.out _).grown hgrow (by simpa using hsz) (by intro k hk; simp [Value.ownBlock] at hk)))
        clear hown hgrow hnil
        go_wp2
        go_ret
        exact ⟨v', l, rfl, .inl rfl, HO1.out.base HB0.out.size, HB0.out.trans (HB1.out.mono HB0.out.size)⟩
      · have hns1 : ∀ z ∈ l.take (k + 1), ¬ sameKey z x := by
          rw [show l.take (k + 1) = l.take k ++ [y] by rw [List.take_add_one, hy]; rfl]
          intro z hz
          rcases List.mem_append.1 hz with hz | hz
          · exact HNS.out z hz
          · simp at hz; subst hz; exact hk1
        have HNS1 := Lib.hid hns1
        have hcase : (sEq y.nom x.nom = false) ∨ (sEq y.nom x.nom = true ∧ sEq y.hol x.hol = false) ∨ (sEq y.nom x.nom = true ∧ sEq y.hol x.hol = true ∧ (y.ser == x.ser) = false) := by
          cases h1 : sEq y.nom x.nom
          · exact .inl rfl
          · cases h2 : sEq y.hol x.hol
            · exact .inr (.inl ⟨rfl, rfl⟩)
            · refine .inr (.inr ⟨rfl, rfl, ?_⟩)
              simp only [beq_eq_false_iff_ne]
              exact fun h3 => hk1 ⟨(sEq_iff _ _).1 h1, (sEq_iff _ _).1 h2, h3⟩
        clear hcc hy hns1
        cases d with
        | true =>
          have HST := Lib.hid (show foldP x (l.take (k + 1)) = (o ++ [y], true) by rw [hst]; simp [stP, hk1])
          clear hst hk1
          rcases hcase with e1 | ⟨e1, e2⟩ | ⟨e1, e2, e3⟩
          · rw [e1] at q1
            clear e1 q2
            have HOD2 := Lib.hid (fun d => Own.drewN HOA.out d)
            go_wp2
            go_quiet (fail)
            go_wp2
            go_quiet (fail)
            go_wp2_with (at_builtin; refine wpList_append_lot rfl _ _ rfl _ w0.heap.size u5 o y rfl (HOD2.out _) _ rfl (by simp) (by omega) hsz ?_; intro v' w1 ho1 hg1 hat1)
            have HO1 := Lib.hid ho1
            have HB1 := Lib.hid (below_grown (below_drewN' HBL.out _) (HOD2.out _) hg1 hsz)
            clear ho1 hg1 hat1
            go_roundg (gk - 1)
            case measure => omega
            case rel => exact ⟨k + 1, by omega, by omega, by go_num, by rw [HST.out], HNS1.out, by rw [HST.out]; exact HO1.out, HB1.out⟩
          · rw [e1] at q1
            rw [e2] at q2
            clear e1 e2
            have HOD2 := Lib.hid (fun d => Own.drewN HOA.out d)
            go_wp2
            go_quiet (fail)
            go_wp2
            go_quiet (fail)
            go_wp2_with (at_builtin; refine wpList_append_lot rfl _ _ rfl _ w0.heap.size u5 o y rfl (HOD2.out _) _ rfl (by simp) (by omega) hsz ?_; intro v' w1 ho1 hg1 hat1)
            have HO1 := Lib.hid ho1
            have HB1 := Lib.hid (below_grown (below_drewN' HBL.out _) (HOD2.out _) hg1 hsz)
            clear ho1 hg1 hat1
            go_roundg (gk - 1)
            case measure => omega
            case rel => exact ⟨k + 1, by omega, by omega, by go_num, by rw [HST.out], HNS1.out, by rw [HST.out]; exact HO1.out, HB1.out⟩
          · rw [e1] at q1
            rw [e2] at q2
            clear e1 e2
            have HOD2 := Lib.hid (fun d => Own.drewN HOA.out d)
            go_wp2
            go_quiet (fail)
            go_wp2
            go_quiet (fail)
            go_wp2_with (at_builtin; refine wpList_append_lot rfl _ _ rfl _ w0.heap.size u5 o y rfl (HOD2.out _) _ rfl (by simp) (by omega) hsz ?_; intro v' w1 ho1 hg1 hat1)
            have HO1 := Lib.hid ho1
            have HB1 := Lib.hid (below_grown (below_drewN' HBL.out _) (HOD2.out _) hg1 hsz)
            clear ho1 hg1 hat1
            go_roundg (gk - 1)
            case measure => omega
            case rel => exact ⟨k + 1, by omega, by omega, by go_num, by rw [HST.out], HNS1.out, by rw [HST.out]; exact HO1.out, HB1.out⟩
        | false =>
          cases hlx : lotLt x y with
          | true =>
            have HST := Lib.hid (show foldP x (l.take (k + 1)) = (o ++ [x, y], true) by rw [hst]; simp [stP, hk1, hlx])
            have HLX := Lib.hid hlx
            clear hst hk1 hlx
            rcases hcase with e1 | ⟨e1, e2⟩ | ⟨e1, e2, e3⟩
            · rw [e1] at q1
              clear e1 q2
              go_wp2
              go_quiet (fail)
              go_wp2
              obtain ⟨Wq, hWq⟩ : ∃ Wq, Wq = wr.drewN nq := ⟨_, rfl⟩
              have hbq : Below wr.heap.size wr Wq := by rw [hWq]; exact below_drewN' (Below.refl _ _) _
              have HOQ := Lib.hid (HOA.out.below hbq)
              have HBQ := Lib.hid (HBL.out.trans (hbq.mono hsz))
              replace x0 := cell_up x0 hbq
              replace x1 := cell_up x1 hbq
              replace x2 := cell_up x2 hbq
              replace x3 := cell_up x3 hbq
              replace c0 := cell_up c0 hbq
              replace c1 := cell_up c1 hbq
              replace c2 := cell_up c2 hbq
              replace c3 := cell_up c3 hbq
              rw [← hWq]
              have hszq : w0.heap.size ≤ Wq.heap.size := HBQ.out.size
              clear hWq hbq
              have gx0 := cell_gw x0
              have gx1 := cell_gw x1
              have gx2 := cell_gw x2
              have gx3 := cell_gw x3
              have gy0 := cell_gw c0
              have gy1 := cell_gw c1
              have gy2 := cell_gw c2
              have gy3 := cell_gw c3
              refine wp_region_below (by kernel_rfl) (by kernel_rfl) ?_
              repeat (go_big_quiet_step (first | (go_at_call 56; exact Calls.below_of (before_any x y _ HLX.out _))))
              refine wpQuiet_nil ?_
              clear gx0 gx1 gx2 gx3 gy0 gy1 gy2 gy3
              intro w2 hw2
              have hb2 : Below Wq.heap.size Wq w2 := by obtain ⟨p, rfl⟩ := hw2; exact below_gw _ _ _
              have HO2 := Lib.hid (HOQ.out.below hb2)
              have HB2 := Lib.hid (HBQ.out.trans (hb2.mono hszq))
              have hsz2 : w0.heap.size ≤ w2.heap.size := HB2.out.size
              have y0 := cell_up c0 hb2
              have y1 := cell_up c1 hb2
              have y2 := cell_up c2 hb2
              have y3 := cell_up c3 hb2
              have z0 := cell_up x0 hb2
              have z1 := cell_up x1 hb2
              have z2 := cell_up x2 hb2
              have z3 := cell_up x3 hb2
              clear hw2 hb2 x0 x1 x2 x3 c0 c1 c2 c3
              have hol3 : (o ++ [x]).length ≤ 2001 := by simp; omega
              go_wp2_with (first
                | (at_builtin; refine wpList_append_lot rfl _ _ rfl _ w0.heap.size u5 o x rfl HO2.out _ rfl (by simp) (by omega) (by first | omega | (simp <;> omega)) ?_; intro v1 w1 ho1 hg1 hat1; have t0 := hg1.cell y0 hne.symm; have t1 := hg1.cell y1 hne.symm; have t2 := hg1.cell y2 hne.symm; have t3 := hg1.cell y3 hne.symm; have HO3 := Lib.hid ho1; have HB3 := Lib.hid (below_grown HB2.out HO2.out hg1 hsz2); have hsz3 : w0.heap.size ≤ w1.heap.size := HB3.out.size; clear ho1 hg1 hat1)
                | (at_builtin; refine wpList_append_lot rfl _ _ rfl _ w0.heap.size v1 (o ++ [x]) y rfl HO3.out _ rfl (by simp) (by omega) (by first | omega | (simp <;> omega)) ?_; intro v3 w3 ho3 hg3 hat3; have HO1 := Lib.hid ho3; have HB1 := Lib.hid (below_grown HB3.out HO3.out hg3 hsz3); clear ho3 hg3 hat3))
              go_roundg (gk - 1)
              case measure => omega
              case rel => exact ⟨k + 1, by omega, by omega, by go_num, by rw [HST.out], HNS1.out, by rw [HST.out]; simpa using HO1.out, HB1.out⟩
            · rw [e1] at q1
              rw [e2] at q2
              clear e1 e2
              go_wp2
              go_quiet (fail)
              go_wp2
              obtain ⟨Wq, hWq⟩ : ∃ Wq, Wq = wr.drewN nq := ⟨_, rfl⟩
              have hbq : Below wr.heap.size wr Wq := by rw [hWq]; exact below_drewN' (Below.refl _ _) _
              have HOQ := Lib.hid (HOA.out.below hbq)
              have HBQ := Lib.hid (HBL.out.trans (hbq.mono hsz))
              replace x0 := cell_up x0 hbq
              replace x1 := cell_up x1 hbq
              replace x2 := cell_up x2 hbq
              replace x3 := cell_up x3 hbq
              replace c0 := cell_up c0 hbq
              replace c1 := cell_up c1 hbq
              replace c2 := cell_up c2 hbq
              replace c3 := cell_up c3 hbq
              rw [← hWq]
              have hszq : w0.heap.size ≤ Wq.heap.size := HBQ.out.size
              clear hWq hbq
              have gx0 := cell_gw x0
              have gx1 := cell_gw x1
              have gx2 := cell_gw x2
              have gx3 := cell_gw x3
              have gy0 := cell_gw c0
              have gy1 := cell_gw c1
              have gy2 := cell_gw c2
              have gy3 := cell_gw c3
              refine wp_region_below (by kernel_rfl) (by kernel_rfl) ?_
              repeat (go_big_quiet_step (first | (go_at_call 56; exact Calls.below_of (before_any x y _ HLX.out _))))
              refine wpQuiet_nil ?_
              clear gx0 gx1 gx2 gx3 gy0 gy1 gy2 gy3
              intro w2 hw2
              have hb2 : Below Wq.heap.size Wq w2 := by obtain ⟨p, rfl⟩ := hw2; exact below_gw _ _ _
              have HO2 := Lib.hid (HOQ.out.below hb2)
              have HB2 := Lib.hid (HBQ.out.trans (hb2.mono hszq))
              have hsz2 : w0.heap.size ≤ w2.heap.size := HB2.out.size
              have y0 := cell_up c0 hb2
              have y1 := cell_up c1 hb2
              have y2 := cell_up c2 hb2
              have y3 := cell_up c3 hb2
              have z0 := cell_up x0 hb2
              have z1 := cell_up x1 hb2
              have z2 := cell_up x2 hb2
              have z3 := cell_up x3 hb2
              clear hw2 hb2 x0 x1 x2 x3 c0 c1 c2 c3
              have hol3 : (o ++ [x]).length ≤ 2001 := by simp; omega
              go_wp2_with (first
                | (at_builtin; refine wpList_append_lot rfl _ _ rfl _ w0.heap.size u5 o x rfl HO2.out _ rfl (by simp) (by omega) (by first | omega | (simp <;> omega)) ?_; intro v1 w1 ho1 hg1 hat1; have t0 := hg1.cell y0 hne.symm; have t1 := hg1.cell y1 hne.symm; have t2 := hg1.cell y2 hne.symm; have t3 := hg1.cell y3 hne.symm; have HO3 := Lib.hid ho1; have HB3 := Lib.hid (below_grown HB2.out HO2.out hg1 hsz2); have hsz3 : w0.heap.size ≤ w1.heap.size := HB3.out.size; clear ho1 hg1 hat1)
                | (at_builtin; refine wpList_append_lot rfl _ _ rfl _ w0.heap.size v1 (o ++ [x]) y rfl HO3.out _ rfl (by simp) (by omega) (by first | omega | (simp <;> omega)) ?_; intro v3 w3 ho3 hg3 hat3; have HO1 := Lib.hid ho3; have HB1 := Lib.hid (below_grown HB3.out HO3.out hg3 hsz3); clear ho3 hg3 hat3))
              go_roundg (gk - 1)
              case measure => omega
              case rel => exact ⟨k + 1, by omega, by omega, by go_num, by rw [HST.out], HNS1.out, by rw [HST.out]; simpa using HO1.out, HB1.out⟩
            · rw [e1] at q1
              rw [e2] at q2
              clear e1 e2
              go_wp2
              go_quiet (fail)
              go_wp2
              obtain ⟨Wq, hWq⟩ : ∃ Wq, Wq = wr.drewN nq := ⟨_, rfl⟩
              have hbq : Below wr.heap.size wr Wq := by rw [hWq]; exact below_drewN' (Below.refl _ _) _
              have HOQ := Lib.hid (HOA.out.below hbq)
              have HBQ := Lib.hid (HBL.out.trans (hbq.mono hsz))
              replace x0 := cell_up x0 hbq
              replace x1 := cell_up x1 hbq
              replace x2 := cell_up x2 hbq
              replace x3 := cell_up x3 hbq
              replace c0 := cell_up c0 hbq
              replace c1 := cell_up c1 hbq
              replace c2 := cell_up c2 hbq
              replace c3 := cell_up c3 hbq
              rw [← hWq]
              have hszq : w0.heap.size ≤ Wq.heap.size := HBQ.out.size
              clear hWq hbq
              have gx0 := cell_gw x0
              have gx1 := cell_gw x1
              have gx2 := cell_gw x2
              have gx3 := cell_gw x3
              have gy0 := cell_gw c0
              have gy1 := cell_gw c1
              have gy2 := cell_gw c2
              have gy3 := cell_gw c3
              refine wp_region_below (by kernel_rfl) (by kernel_rfl) ?_
              repeat (go_big_quiet_step (first | (go_at_call 56; exact Calls.below_of (before_any x y _ HLX.out _))))
              refine wpQuiet_nil ?_
              clear gx0 gx1 gx2 gx3 gy0 gy1 gy2 gy3
              intro w2 hw2
              have hb2 : Below Wq.heap.size Wq w2 := by obtain ⟨p, rfl⟩ := hw2; exact below_gw _ _ _
              have HO2 := Lib.hid (HOQ.out.below hb2)
              have HB2 := Lib.hid (HBQ.out.trans (hb2.mono hszq))
              have hsz2 : w0.heap.size ≤ w2.heap.size := HB2.out.size
              have y0 := cell_up c0 hb2
              have y1 := cell_up c1 hb2
              have y2 := cell_up c2 hb2
              have y3 := cell_up c3 hb2
              have z0 := cell_up x0 hb2
              have z1 := cell_up x1 hb2
              have z2 := cell_up x2 hb2
              have z3 := cell_up x3 hb2
              clear hw2 hb2 x0 x1 x2 x3 c0 c1 c2 c3
              have hol3 : (o ++ [x]).length ≤ 2001 := by simp; omega
              go_wp2_with (first
                | (at_builtin; refine wpList_append_lot rfl _ _ rfl _ w0.heap.size u5 o x rfl HO2.out _ rfl (by simp) (by omega) (by first | omega | (simp <;> omega)) ?_; intro v1 w1 ho1 hg1 hat1; have t0 := hg1.cell y0 hne.symm; have t1 := hg1.cell y1 hne.symm; have t2 := hg1.cell y2 hne.symm; have t3 := hg1.cell y3 hne.symm; have HO3 := Lib.hid ho1; have HB3 := Lib.hid (below_grown HB2.out HO2.out hg1 hsz2); have hsz3 : w0.heap.size ≤ w1.heap.size := HB3.out.size; clear ho1 hg1 hat1)
                | (at_builtin; refine wpList_append_lot rfl _ _ rfl _ w0.heap.size v1 (o ++ [x]) y rfl HO3.out _ rfl (by simp) (by omega) (by first | omega | (simp <;> omega)) ?_; intro v3 w3 ho3 hg3 hat3; have HO1 := Lib.hid ho3; have HB1 := Lib.hid (below_grown HB3.out HO3.out hg3 hsz3); clear ho3 hg3 hat3))
              go_roundg (gk - 1)
              case measure => omega
              case rel => exact ⟨k + 1, by omega, by omega, by go_num, by rw [HST.out], HNS1.out, by rw [HST.out]; simpa using HO1.out, HB1.out⟩
          | false =>
            have HST := Lib.hid (show foldP x (l.take (k + 1)) = (o ++ [y], false) by rw [hst]; simp [stP, hk1, hlx])
            have HLX := Lib.hid hlx
            clear hst hk1 hlx
            rcases hcase with e1 | ⟨e1, e2⟩ | ⟨e1, e2, e3⟩
            · rw [e1] at q1
              clear e1 q2
              go_wp2
              go_quiet (fail)
              go_wp2
              obtain ⟨Wq, hWq⟩ : ∃ Wq, Wq = wr.drewN nq := ⟨_, rfl⟩
              have hbq : Below wr.heap.size wr Wq := by rw [hWq]; exact below_drewN' (Below.refl _ _) _
              have HOQ := Lib.hid (HOA.out.below hbq)
              have HBQ := Lib.hid (HBL.out.trans (hbq.mono hsz))
              replace x0 := cell_up x0 hbq
              replace x1 := cell_up x1 hbq
              replace x2 := cell_up x2 hbq
              replace x3 := cell_up x3 hbq
              replace c0 := cell_up c0 hbq
              replace c1 := cell_up c1 hbq
              replace c2 := cell_up c2 hbq
              replace c3 := cell_up c3 hbq
              rw [← hWq]
              have hszq : w0.heap.size ≤ Wq.heap.size := HBQ.out.size
              clear hWq hbq
              have gx0 := cell_gw x0
              have gx1 := cell_gw x1
              have gx2 := cell_gw x2
              have gx3 := cell_gw x3
              have gy0 := cell_gw c0
              have gy1 := cell_gw c1
              have gy2 := cell_gw c2
              have gy3 := cell_gw c3
              refine wp_region_below (by kernel_rfl) (by kernel_rfl) ?_
              repeat (go_big_quiet_step (first | (go_at_call 56; exact Calls.below_of (before_any x y _ HLX.out _))))
              refine wpQuiet_nil ?_
              clear gx0 gx1 gx2 gx3 gy0 gy1 gy2 gy3
              intro w2 hw2
              have hb2 : Below Wq.heap.size Wq w2 := by obtain ⟨p, rfl⟩ := hw2; exact below_gw _ _ _
              have HO2 := Lib.hid (HOQ.out.below hb2)
              have HB2 := Lib.hid (HBQ.out.trans (hb2.mono hszq))
              have hsz2 : w0.heap.size ≤ w2.heap.size := HB2.out.size
              have y0 := cell_up c0 hb2
              have y1 := cell_up c1 hb2
              have y2 := cell_up c2 hb2
              have y3 := cell_up c3 hb2
              have z0 := cell_up x0 hb2
              have z1 := cell_up x1 hb2
              have z2 := cell_up x2 hb2
              have z3 := cell_up x3 hb2
              clear hw2 hb2 x0 x1 x2 x3 c0 c1 c2 c3
              go_wp2_with (at_builtin; refine wpList_append_lot rfl _ _ rfl _ w0.heap.size u5 o y rfl HO2.out _ rfl (by simp) (by omega) (by first | omega | (simp <;> omega)) ?_; intro v' w1 ho1 hg1 hat1)
              have HO1 := Lib.hid ho1
              have HB1 := Lib.hid (below_grown HB2.out HO2.out hg1 hsz2)
              clear ho1 hg1 hat1 y0 y1 y2 y3 z0 z1 z2 z3
              go_roundg (gk - 1)
              case measure => omega
              case rel => exact ⟨k + 1, by omega, by omega, by go_num, by rw [HST.out], HNS1.out, by rw [HST.out]; exact HO1.out, HB1.out⟩
            · rw [e1] at q1
              rw [e2] at q2
              clear e1 e2
              go_wp2
              go_quiet (fail)
              go_wp2
              obtain ⟨Wq, hWq⟩ : ∃ Wq, Wq = wr.drewN nq := ⟨_, rfl⟩
              have hbq : Below wr.heap.size wr Wq := by rw [hWq]; exact below_drewN' (Below.refl _ _) _
              have HOQ := Lib.hid (HOA.out.below hbq)
              have HBQ := Lib.hid (HBL.out.trans (hbq.mono hsz))
              replace x0 := cell_up x0 hbq
              replace x1 := cell_up x1 hbq
              replace x2 := cell_up x2 hbq
              replace x3 := cell_up x3 hbq
              replace c0 := cell_up c0 hbq
              replace c1 := cell_up c1 hbq
              replace c2 := cell_up c2 hbq
              replace c3 := cell_up c3 hbq
              rw [← hWq]
              have hszq : w0.heap.size ≤ Wq.heap.size := HBQ.out.size
              clear hWq hbq
              have gx0 := cell_gw x0
              have gx1 := cell_gw x1
              have gx2 := cell_gw x2
              have gx3 := cell_gw x3
              have gy0 := cell_gw c0
              have gy1 := cell_gw c1
              have gy2 := cell_gw c2
              have gy3 := cell_gw c3
              refine wp_region_below (by kernel_rfl) (by kernel_rfl) ?_
              repeat (go_big_quiet_step (first | (go_at_call 56; exact Calls.below_of (before_any x y _ HLX.out _))))
              refine wpQuiet_nil ?_
              clear gx0 gx1 gx2 gx3 gy0 gy1 gy2 gy3
              intro w2 hw2
              have hb2 : Below Wq.heap.size Wq w2 := by obtain ⟨p, rfl⟩ := hw2; exact below_gw _ _ _
              have HO2 := Lib.hid (HOQ.out.below hb2)
              have HB2 := Lib.hid (HBQ.out.trans (hb2.mono hszq))
              have hsz2 : w0.heap.size ≤ w2.heap.size := HB2.out.size
              have y0 := cell_up c0 hb2
              have y1 := cell_up c1 hb2
              have y2 := cell_up c2 hb2
              have y3 := cell_up c3 hb2
              have z0 := cell_up x0 hb2
              have z1 := cell_up x1 hb2
              have z2 := cell_up x2 hb2
              have z3 := cell_up x3 hb2
              clear hw2 hb2 x0 x1 x2 x3 c0 c1 c2 c3
              go_wp2_with (at_builtin; refine wpList_append_lot rfl _ _ rfl _ w0.heap.size u5 o y rfl HO2.out _ rfl (by simp) (by omega) (by first | omega | (simp <;> omega)) ?_; intro v' w1 ho1 hg1 hat1)
              have HO1 := Lib.hid ho1
              have HB1 := Lib.hid (below_grown HB2.out HO2.out hg1 hsz2)
              clear ho1 hg1 hat1 y0 y1 y2 y3 z0 z1 z2 z3
              go_roundg (gk - 1)
              case measure => omega
              case rel => exact ⟨k + 1, by omega, by omega, by go_num, by rw [HST.out], HNS1.out, by rw [HST.out]; exact HO1.out, HB1.out⟩
            · rw [e1] at q1
              rw [e2] at q2
              clear e1 e2
              go_wp2
              go_quiet (fail)
              go_wp2
              obtain ⟨Wq, hWq⟩ : ∃ Wq, Wq = wr.drewN nq := ⟨_, rfl⟩
              have hbq : Below wr.heap.size wr Wq := by rw [hWq]; exact below_drewN' (Below.refl _ _) _
              have HOQ := Lib.hid (HOA.out.below hbq)
              have HBQ := Lib.hid (HBL.out.trans (hbq.mono hsz))
              replace x0 := cell_up x0 hbq
              replace x1 := cell_up x1 hbq
              replace x2 := cell_up x2 hbq
              replace x3 := cell_up x3 hbq
              replace c0 := cell_up c0 hbq
              replace c1 := cell_up c1 hbq
              replace c2 := cell_up c2 hbq
              replace c3 := cell_up c3 hbq
              rw [← hWq]
              have hszq : w0.heap.size ≤ Wq.heap.size := HBQ.out.size
              clear hWq hbq
              have gx0 := cell_gw x0
              have gx1 := cell_gw x1
              have gx2 := cell_gw x2
              have gx3 := cell_gw x3
              have gy0 := cell_gw c0
              have gy1 := cell_gw c1
              have gy2 := cell_gw c2
              have gy3 := cell_gw c3
              refine wp_region_below (by kernel_rfl) (by kernel_rfl) ?_
              repeat (go_big_quiet_step (first | (go_at_call 56; exact Calls.below_of (before_any x y _ HLX.out _))))
              refine wpQuiet_nil ?_
              clear gx0 gx1 gx2 gx3 gy0 gy1 gy2 gy3
              intro w2 hw2
              have hb2 : Below Wq.heap.size Wq w2 := by obtain ⟨p, rfl⟩ := hw2; exact below_gw _ _ _
              have HO2 := Lib.hid (HOQ.out.below hb2)
              have HB2 := Lib.hid (HBQ.out.trans (hb2.mono hszq))
              have hsz2 : w0.heap.size ≤ w2.heap.size := HB2.out.size
              have y0 := cell_up c0 hb2
              have y1 := cell_up c1 hb2
              have y2 := cell_up c2 hb2
              have y3 := cell_up c3 hb2
              have z0 := cell_up x0 hb2
              have z1 := cell_up x1 hb2
              have z2 := cell_up x2 hb2
              have z3 := cell_up x3 hb2
              clear hw2 hb2 x0 x1 x2 x3 c0 c1 c2 c3
              go_wp2_with (at_builtin; refine wpList_append_lot rfl _ _ rfl _ w0.heap.size u5 o y rfl HO2.out _ rfl (by simp) (by omega) (by first | omega | (simp <;> omega)) ?_; intro v' w1 ho1 hg1 hat1)
              have HO1 := Lib.hid ho1
              have HB1 := Lib.hid (below_grown HB2.out HO2.out hg1 hsz2)
              clear ho1 hg1 hat1 y0 y1 y2 y3 z0 z1 z2 z3
              go_roundg (gk - 1)
              case measure => omega
              case rel => exact ⟨k + 1, by omega, by omega, by go_num, by rw [HST.out], HNS1.out, by rw [HST.out]; exact HO1.out, HB1.out⟩
    · have hfin : foldP x (l.take k) = foldP x l := by rw [List.take_of_length_le (by have := HN.out; omega)]
      have HFIN := Lib.hid hfin
      have HNS2 := Lib.hid (show ∀ z ∈ l, ¬ sameKey z x by have := HNS.out; rwa [List.take_of_length_le (by have := HN.out; omega)] at this)
      clear hfin
      cases d with
      | true =>
        go_wp2
        go_ret
        refine ⟨_, _, rfl, .inr ⟨HNS2.out, rfl⟩, ?_, HB0.out.trans (HBL.out.mono HB0.out.size)⟩
        have h2 := HOD.out.2
        have h1 := HOD.out.1
        rw [HFIN.out] at h1 h2
        unfold putR
        rw [if_pos h2.symm, ← h1]
        exact HOA.out.base HB0.out.size
      | false =>
        go_wp2_with (at_builtin; refine wpList_append_lot rfl _ _ rfl _ w0.heap.size u5 o x rfl HOA.out _ rfl (by simp) (by omega) (by first | omega | (simp <;> omega)) ?_; intro v' w1 ho1 hg1 hat1)
        have HO1 := Lib.hid ho1
        have HB1 := Lib.hid (below_grown HBL.out HOA.out hg1 hsz)
        clear ho1 hg1 hat1
        go_wp2
        go_ret
        refine ⟨_, _, rfl, .inr ⟨HNS2.out, rfl⟩, ?_, HB0.out.trans (HB1.out.mono HB0.out.size)⟩
        have h2 := HOD.out.2
        have h1 := HOD.out.1
        rw [HFIN.out] at h1 h2
        unfold putR
        rw [if_neg (by rw [← h2]; simp), ← h1]
        exact HO1.out.base HB0.out.size
end Go.Proofs.Ythhmpdjjfoplgaa
