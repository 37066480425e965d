/- The reference's Holders, walked. -/
import Derived.Test.YthhmpdjjfoplgaaRfM
import Derived.Test.YthhmpdjjfoplgaaRfN
import Derived.Laws.AppendOwnNone
set_option linter.unusedVariables false
set_option linter.unusedSimpArgs false
namespace Go.Proofs.Ythhmpdjjfoplgaa
open Go.RowKit Reg Go.Maps

theorem cellsH_set (l : List Hol) (i : Nat) (y : Hol) (u : Int) (h : l[i]? = some y) : (cellsH l).set (i * 2 + 1) (.int .i64 u) = cellsH (l.set i ⟨y.name, u⟩) := by
  induction l generalizing i with
  | nil => simp at h
  | cons a l ih =>
    cases i with
    | zero => simp at h; subst h; simp [cellsH, Hol.cells]
    | succ i =>
      have := ih i (by simpa using h)
      simp only [cellsH, List.flatMap_cons, Hol.cells, List.cons_append, List.nil_append, List.set_cons_succ] at this ⊢
      rw [show (i + 1) * 2 = (i * 2 + 1) + 1 by omega]
      simp only [List.set_cons_succ]
      rw [this]
theorem OwnH.set {w : World} {B g cap i n : Nat} {l : List Hol} {y : Hol} {u : Int} (h : OwnH w B (.slice (some ⟨g, 0, none⟩) n cap) l) (hn : n = l.length) (hy : l[i]? = some y) : OwnH (w.setCell ⟨g, i * 2 + 1, none⟩ (.int .i64 u)) B (.slice (some ⟨g, 0, none⟩) n cap) (l.set i ⟨y.name, u⟩) := by
  unfold OwnH at h ⊢
  rw [List.length_set, ← hn]
  rw [← hn] at h
  have := owns_set (j := i * 2 + 1) (u := .int .i64 u) h
  rwa [cellsH_set l i y u hy] at this
/-- where a row of holders lies -/
theorem ownH_at {w : World} {B : Nat} {v : Value} {l : List Hol} (h : OwnH w B v l) (hn : 0 < l.length) : ∃ g cap, v = .slice (some ⟨g, 0, none⟩) l.length cap ∧ l.length ≤ cap ∧ cap ≤ maxLen ∧ B ≤ g ∧ g < w.heap.size ∧ (∀ o, w.frozen? ⟨g, o, none⟩ = false) ∧ (∀ j u, (cellsH l)[j]? = some u → w.cell? ⟨g, j, none⟩ = some u) ∧
    ∀ k x, l[k]? = some x → w.cell? ⟨g, k * 2, none⟩ = some (.string x.name) ∧ w.cell? ⟨g, k * 2 + 1, none⟩ = some (.int .i64 x.units) := by
  have hc := fun g => World.ownsRow.cells h (g := g)
  rcases h.2 with ⟨_, h2⟩ | ⟨g, cap, cur, hv, hbg, hg, hnc, hcm, _⟩
  · omega
  · have hh := hc g (by rw [hv]; rfl)
    have hh2 : ∀ j u, (cellsH l)[j]? = some u → w.cell? ⟨g, j, none⟩ = some u := fun j u hj => by have := hh j u hj; rwa [add_lit, Nat.zero_add] at this
    refine ⟨g, cap, hv, hnc, hcm, hbg, (Array.getElem?_eq_some_iff.1 hg).1, fun o => by simp [World.frozen?, hg], hh2, fun k x hx => ?_⟩
    obtain ⟨c0, c1⟩ := cellsH_get l k x hx
    exact ⟨hh2 _ _ c0, hh2 _ _ c1⟩
theorem OwnH.below {w w' : World} {B : Nat} {v : Value} {l : List Hol} (h : OwnH w B v l) (hb : Below w.heap.size w w') : OwnH w' B v l := ownsRow_below h hb
theorem OwnH.base {w : World} {B B' : Nat} {v : Value} {l : List Hol} (h : OwnH w B v l) (hb : B' ≤ B) : OwnH w B' v l := ownsRow_base h hb
theorem OwnH.drewN {w : World} {B : Nat} {v : Value} {l : List Hol} (h : OwnH w B v l) (d : Nat) : OwnH (w.drewN d) B v l := h
/-- a holder in a block of its own, beside a row -/
def BoxH (W : World) (p : Nat) (s : ByteArray) (u : Int) : Prop := W.cell? ⟨p, 0, none⟩ = some (.string s) ∧ W.cell? ⟨p, 1, none⟩ = some (.int .i64 u) ∧ p < W.heap.size
theorem empty_b (s : ByteArray) : (s.toList == ByteArray.toList ⟨#[]⟩) = decide (s.size = 0) ∧ s.toList.isEmpty = decide (s.size = 0) := by
  by_cases hs : s.size = 0
  · have := nil_of_size hs
    subst this
    exact ⟨by rw [beq_self_eq_true]; rfl, by rw [tl]; rfl⟩
  · obtain ⟨a, b⟩ := eq_empty_no (s := s) (by omega)
    rw [a, b]
    simp [hs]
theorem box_new (W : World) (s : ByteArray) (u : Int) (t : TypeId) : BoxH (W.alloc (.cells #[.string s, .int .i64 u] t)).drew W.heap.size s u :=
  ⟨show (W.alloc (.cells #[.string s, .int .i64 u] t)).cell? _ = _ by go_cell, show (W.alloc (.cells #[.string s, .int .i64 u] t)).cell? _ = _ by go_cell, show W.heap.size < (W.alloc (.cells #[.string s, .int .i64 u] t)).heap.size by simp⟩
/-- append of nothing, as one step of a region that draws its order -/
theorem step_append_none {P : Program} {ops : Array Oper} {o : Oper} {a : Act} {w : World} {K : Act → World → Prop} {Q : Exit → Act → World → Prop} {E : Prop} (hgd : o.guard = none) (s x : Operand) (t : TypeId)
    (ho : o.op = .call { callee := .builtin .append, args := #[s, x], argTypes := #[t, t] })
    (base : Nat) (e : TypeId) (i : TypeInfo) (size : Nat) (ht : P.underlying t = some (.slice e)) (hi : P.info? e = some i)
    (v : Value) (n : Nat) (xs : List Value) (hs : a.eval s = v) (hown : w.ownsRow base e size v n xs) (hx : a.eval x = .slice none 0 0)
    (h : K (a.put o.dst v) w) : if Region.wanted o (yielded ops a.tmps) = true then Oper.wp P o a w K Q else E := by
  rw [if_pos (by simp [Region.wanted, hgd])]
  have hrun := run_append_owned_none (P := P) (w := w) base t o.type e i size ht hi v n xs hown
  unfold Oper.wp
  simp [execOp, ho, resolve, invoke, builtin, hs, hx, hrun, Result.andThen]
  exact h

set_option maxRecDepth 100000 in
set_option maxHeartbeats 8000000 in
theorem rholders_yes (v : Value) (l : List Lot) (w : World) (h : LotsAt w v l) (hc : checkB l = true) :
    Calls Try.prog 44 #[.agg #[v]] w fun e w' => ∃ v' hs, e = .returned (.tuple #[v', .int .i64 0]) ∧ OwnH w' w.heap.size v' hs ∧ IsHold l hs ∧ Below w.heap.size w w' := by
  obtain ⟨A, cap, hv⟩ := Rd.form h
  subst hv
  obtain ⟨w0, hw0, hb0, hs0, c0⟩ := box_one w A l.length cap
  have HL := Lib.hid (fun W hb => LotsAt.below (w' := W) h hb)
  have HAT := Lib.hid (lots_at_any h)
  have HB0 := Lib.hid hb0
  have H1 := Lib.hid hc
  obtain ⟨f1, f2, f3, f4, f5⟩ := check_facts hc
  have HU := Lib.hid f5
  have HS := Lib.hid f3
  obtain ⟨n, hn⟩ : ∃ n, n = l.length := ⟨_, rfl⟩
  rw [← hn] at hw0 HL c0 f1 ⊢
  have HN := Lib.hid hn
  obtain ⟨i0, hi, hz0, hz1, hz2⟩ := info_parts Try.info64
  clear h hc hb0 hn f2 f3 f4 f5
  go_enter Try.func44, Try.ntmps44
  go_wp2_with fail
  rw [← hw0]
  refine (rcheck_yes _ l w0 (HL.out _ HB0.out) H1.out).mono ?_
  rintro e w1 ⟨rfl, hb⟩
  have HB1 := Lib.hid (HB0.out.trans (hb.mono HB0.out.size))
  have k0 := cell_up c0 hb
  have hz1' : w.heap.size < w1.heap.size := by have := hb.size; omega
  have HK0 := Lib.hid k0
  clear hb hw0 hs0 c0 k0
  go_wp2
  go_loopg [5, 6] n (fun m a i wr => ∃ (k : Nat) (out : List Hol), k ≤ n ∧ n - k ≤ m ∧ i = .int .i64 k ∧ OwnH wr w1.heap.size a out ∧ IsHold (l.take k) out ∧ out.length ≤ k ∧ Below w1.heap.size w1 wr ∧ (out.length = 0 → a = .slice none 0 0))
  case atStart => exact ⟨0, [], by omega, by omega, rfl, OwnH.nil _ _, IsHold.nil, by simp, Below.refl _ _, fun _ => rfl⟩
  case round =>
    obtain ⟨k, out, hk, hm, rfl, ho, hh, hol, hbl, hnil⟩ := hrel
    obtain ⟨G, hG⟩ : ∃ G, G = gk := ⟨_, rfl⟩
    rw [← hG] at hm
    have HGG := Lib.hid hG
    clear hG
    have hsz : w1.heap.size ≤ wr.heap.size := hbl.size
    have k0 := cell_belowB HK0.out hbl (by simp; omega)
    have HO := Lib.hid ho
    have HH := Lib.hid hh
    have HBL := Lib.hid hbl
    have HNIL := Lib.hid hnil
    clear ho hh hbl hnil
    by_cases hlt : k < n
    · obtain ⟨x, hx⟩ : ∃ x, l[k]? = some x := ⟨l[k]'(by rw [← HN.out]; exact hlt), by simp [← HN.out, hlt]⟩
      obtain ⟨g, off, rfl, hcc⟩ := HAT.out k x hx
      obtain ⟨c0, c1, c2, c3⟩ := hcc.below (HB1.out.trans (HBL.out.mono HB1.out.size))
      have HX := Lib.hid hx
      clear hcc hx
      obtain ⟨z0, z1⟩ := empty_b x.nom
      obtain ⟨b, hb⟩ : ∃ b, b = decide (x.nom.size = 0) := ⟨_, rfl⟩
      rw [← hb] at z0 z1
      have HBB := Lib.hid hb
      have hwz : w.heap.size < wr.heap.size := by omega
      clear hb
      go_upto_region 8 with fail
      go_region_held3 (fun W : World => W.cell? ⟨w.heap.size, 0, none⟩ = some (.slice (some ⟨g, off, none⟩) n cap) ∧ W.cell? ⟨g, off + k * 4, none⟩ = some (.string x.nom) ∧ W.cell? ⟨g, off + k * 4 + 1, none⟩ = some (.string x.hol) ∧ W.cell? ⟨g, off + k * 4 + 2, none⟩ = some (.int .i64 x.ser) ∧ W.cell? ⟨g, off + k * 4 + 3, none⟩ = some (.int .i64 x.units)) (first | exact ⟨k0, c0, c1, c2, c3⟩ | exact ⟨cell_alloc k0 _, cell_alloc c0 _, cell_alloc c1 _, cell_alloc c2 _, cell_alloc c3 _⟩ | (simp [*]; done)) (fail)
      have q0 : (wr.alloc (.cells #[.string x.nom, .int .i64 x.units] 64)).drew.cell? ⟨w.heap.size, 0, none⟩ = some (.slice (some ⟨g, off, none⟩) n cap) := cell_alloc k0 _
      have q2 : (wr.alloc (.cells #[.string x.nom, .int .i64 x.units] 64)).drew.cell? ⟨g, off + k * 4 + 1, none⟩ = some (.string x.hol) := cell_alloc c1 _
      go_upto_if 37 with fail
      go_cut [7] from 14 to 98 (fun p wx => ∃ P : Nat, p = .pointer (some ⟨P, 0, none⟩) ∧ BoxH wx P (nameOf x) x.units ∧ wr.heap.size ≤ P ∧ Below wr.heap.size wr wx)
      case first =>
        cases b with
        | true =>
          go_wp2_with fail
          go_meet
          have hn : nameOf x = x.hol := by unfold nameOf; rw [if_pos (by have := HBB.out; simpa using this.symm)]
          rw [hn]
          exact ⟨_, rfl, box_new _ _ _ _, Nat.le_refl _, below_drew ((Below.refl _ _).alloc (Nat.le_refl _) _)⟩
        | false =>
          go_wp2_with fail
          go_meet
          have hn : nameOf x = x.nom := by unfold nameOf; rw [if_neg (by have := HBB.out; simpa using this.symm)]
          rw [hn]
          exact ⟨_, rfl, box_new _ _ _ _, Nat.le_refl _, below_drew ((Below.refl _ _).alloc (Nat.le_refl _) _)⟩
      case rest =>
        obtain ⟨P, rfl, hbox, hP, hbx⟩ := hcut
        obtain ⟨b0, b1, hPl⟩ := hbox
        obtain ⟨s, hs⟩ : ∃ s, s = nameOf x := ⟨_, rfl⟩
        rw [← hs] at b0
        have HSN := Lib.hid hs
        have HO2 := Lib.hid (HO.out.below hbx)
        have HB2 := Lib.hid (HBL.out.trans (hbx.mono hsz))
        have hne : u5.ownBlock ≠ some P := fun e => by have := (World.ownsRow.lt HO.out P e).2; omega
        have HNE := Lib.hid hne
        have hPw : w1.heap.size ≤ P := by omega
        obtain ⟨m, hm'⟩ : ∃ m, m = out.length := ⟨_, rfl⟩
        have HM := Lib.hid hm'
        have hm256 : m ≤ 256 := by omega
        by_cases hm0 : m = 0
        · have hv5 : u5 = .slice none 0 0 := HNIL.out (by omega)
          subst hv5
          have hout : out = [] := List.eq_nil_of_length_eq_zero (by omega)
          have HOUT := Lib.hid hout
          subst hm0
          have HPOS := Lib.hid (show PosH out s 0 from ⟨Nat.zero_le _, fun i y h hi => by omega, fun y h => by rw [HOUT.out] at h; simp at h⟩)
          have HNEQ := Lib.hid (show ∀ z, out[0]? = some z → z.name ≠ s from fun z h => by rw [HOUT.out] at h; simp at h)
          clear z0 z1 q0 q2 k0 c0 c1 c2 c3 hs hbx hne hm' hout
          go_wp2
          go_loopg [8] 1 (fun gg a wr2 => a = .int .i64 0 ∧ wr2 = wc)
          case atStart => exact ⟨rfl, rfl⟩
          case round =>
            obtain ⟨rfl, hwr⟩ := hrel
            subst wr
            go_wp2
            go_quiet (fail)
            go_wp2
            go_quiet (fail)
            go_wp2
            have HI := Lib.hid (hold_ins (at_ := 0) HX.out HH.out (by rw [← HSN.out]; exact HPOS.out) (by rw [← HSN.out]; exact HNEQ.out))
            rw [← HSN.out] at HI
            go_region_held3 (fun W : World => W.cell? ⟨P, 0, none⟩ = some (.string s) ∧ W.cell? ⟨P, 1, none⟩ = some (.int .i64 x.units)) (first | exact ⟨b0, b1⟩ | exact ⟨cell_alloc b0 _, cell_alloc b1 _⟩ | exact ⟨f0, f1'⟩) (first
              | (refine step_append_none rfl _ _ 60 rfl wc.heap.size 64 i0 2 Try.underlying60 hi (.slice none 0 0) 0 [] rfl (World.ownsRow_nil _ _ _ _) rfl ?_)
              | (refine step_append_own rfl _ _ 60 rfl wc.heap.size 64 i0 _ 2 24 Try.underlying60 hi hz0 hz1 hz2 rfl (by decide) (.slice none 0 0) 0 [] rfl (World.ownsRow_nil _ _ _ _) _ 1 1 [.string s, .int .i64 x.units] rfl rfl ?_ ?_ ?_ ?_ ?_ ?_; (first | exact cells_new (wc.drewN _) [.string s, .int .i64 x.units] _ | exact cells_new wc [.string s, .int .i64 x.units] _); (intro u hu; simp at hu; rcases hu with rfl | rfl <;> rfl); exact small_maxLen (by omega); omega; (first | exact Nat.le_refl _ | exact (by simp) | (simp; omega)); intro v2 w3 ho2 hg2 hn2; have f0 : w3.cell? ⟨P, 0, none⟩ = some (.string s) := hg2.cell (cell_alloc b0 _) (by simp [Value.ownBlock]); have f1' : w3.cell? ⟨P, 1, none⟩ = some (.int .i64 x.units) := hg2.cell (cell_alloc b1 _) (by simp [Value.ownBlock]))
              | (refine step_append_none rfl _ _ 60 rfl wc.heap.size 64 i0 2 Try.underlying60 hi v2 _ _ rfl ho2 rfl ?_))
            all_goals
              have HOF := Lib.hid (show OwnH w3 wc.heap.size v2 (out.take 0 ++ [(⟨s, x.units⟩ : Hol)] ++ out.drop 0) by
                unfold OwnH
                rw [HOUT.out]
                simpa [cellsH, Hol.cells] using ho2)
              have HBF := Lib.hid (show Below w1.heap.size w1 w3 from (HB2.out.alloc HB2.out.size _).grown (show (wc.alloc (.cells #[.string s, .int .i64 x.units] 64)).grownBy w3 none from ⟨hg2.os, hg2.tape, hg2.output, hg2.size, hg2.block⟩) (by have := HB2.out.size; simp; omega) (fun j hj => by cases hj))
              have HFN := Lib.hid (show (out.take 0 ++ [(⟨s, x.units⟩ : Hol)] ++ out.drop 0).length = 1 by rw [HOUT.out]; rfl)
              clear ho2 hg2 hn2 f0 f1' b0 b1
              go_wp2
              go_roundg (G - 1)
              case measure => have := HGG.out; omega
              case rel => exact ⟨k + 1, _, by omega, by have := HGG.out; omega, by go_num, HOF.out.base HB2.out.size, HI.out, by have := HFN.out; omega, HBF.out, fun h => by have := HFN.out; omega⟩
        obtain ⟨go, co, hvo, hcl, hcm, hg1, hg2, hg3, hg4, hg5⟩ := ownH_at HO2.out (by omega)
        rw [← hm'] at hvo
        subst hvo
        have HG4 := Lib.hid hg4
        have HG5 := Lib.hid hg5
        have HG3 := Lib.hid hg3
        have hgoP : go ≠ P := fun e => HNE.out (by rw [e]; rfl)
        clear z0 z1 q0 q2 k0 c0 c1 c2 c3 hs hbx hne hm' hg4 hg5 hg3
        go_wp2
        go_loopg [8] m (fun gg a wr2 => ∃ (p d : Nat), p ≤ m ∧ m - p ≤ gg ∧ a = .int .i64 p ∧ (∀ i y, out[i]? = some y → i < p → sLt y.name s = true) ∧ wr2 = wc.drewN d)
        case atStart => exact ⟨0, 0, by omega, by omega, rfl, fun i y _ h => by omega, rfl⟩
        case round =>
          obtain ⟨p, d, hp, hpm, rfl, hlo, rfl⟩ := hrel
          have HLO := Lib.hid hlo
          clear hlo
          by_cases hpl : p < m
          · obtain ⟨y, hy⟩ : ∃ y, out[p]? = some y := ⟨out[p]'(by rw [← HM.out]; exact hpl), by simp [← HM.out, hpl]⟩
            obtain ⟨y0, y1⟩ := HG5.out p y hy
            have q1 : Op.bytesLess y.name.toList s.toList = sLt y.name s := rfl
            have HY := Lib.hid hy
            clear hy
            cases hls : sLt y.name s with
            | true =>
              rw [hls] at q1
              have HLS := Lib.hid hls
              clear hls
              go_wp2
              go_quiet (fail)
              go_wp2
              go_roundg (gk - 1)
              case measure => omega
              case rel => exact ⟨p + 1, d + nq, by omega, by omega, by go_num, fun i z hz hi => by
                by_cases hip : i < p
                · exact HLO.out i z hz hip
                · obtain rfl : i = p := by omega
                  rw [HY.out] at hz; injection hz with hz; subst hz; exact HLS.out, rfl⟩
            | false =>
              rw [hls] at q1
              have HLS := Lib.hid hls
              have q2 : (y.name.toList == s.toList) = sEq y.name s := rfl
              clear hls
              have HPOS := Lib.hid (show PosH out s p from ⟨by have := HM.out; omega, HLO.out, fun z hz => by rw [HY.out] at hz; injection hz with hz; subst hz; exact HLS.out⟩)
              cases heq : sEq y.name s with
              | true =>
                rw [heq] at q2
                have hyn : y.name = s := (sEq_iff _ _).1 heq
                have HI := Lib.hid (hold_add HX.out HH.out HY.out (hyn.trans HSN.out))
                have hxu := HU.out x (List.mem_of_getElem? HX.out)
                have hyu := hold_len HH.out y (List.mem_of_getElem? HY.out)
                have htb := tot_bd (l.take k) y.name (fun z hz => by have := HU.out z (List.mem_of_mem_take hz); omega)
                have hts := (sumU_take l k (fun z hz => by have := HU.out z hz; omega)).1
                have hss := HS.out
                rw [← hyu] at htb
                have hadd : IntKind.i64.wrap (y.units + x.units) = y.units + x.units := IntWalk.i64_in _ (by omega)
                have fz := HG3.out (p * 2 + 1)
                have HO3 := Lib.hid (HO2.out.set (u := y.units + x.units) HM.out HY.out)
                have HB3 := Lib.hid (below_set HB2.out ⟨go, p * 2 + 1, none⟩ (.int .i64 (y.units + x.units)) hg1)
                clear heq hyn hxu hyu htb hts hss
                go_wp2
                go_quiet (fail)
                go_wp2
                go_quiet (fail)
                go_wp2
                go_region
                all_goals
                  go_wp2
                  go_roundg (G - 1)
                  case measure => have := HGG.out; omega
                  case rel => exact ⟨k + 1, _, by omega, by have := HGG.out; omega, by go_num, HO3.out, HI.out, by simp; omega, ⟨HB3.out.os, HB3.out.tape, HB3.out.output, HB3.out.size, HB3.out.block⟩, fun h => by simp at h; have := HM.out; rw [h] at this; simp at this; omega⟩
              | false =>
                rw [heq] at q2
                have HNEQ := Lib.hid (show ∀ z, out[p]? = some z → z.name ≠ s from fun z hz e => by
                  rw [HY.out] at hz; injection hz with hz; subst hz; rw [(sEq_iff _ _).2 e] at heq; cases heq)
                clear heq
                go_wp2
                go_quiet (fail)
                go_wp2
                go_quiet (fail)
                go_wp2
                have hp' : p ≤ m := hp
                have hl1 : (cellsH (out.take p)).length = p * 2 := by rw [cellsH_len, List.length_take]; have := HM.out; congr 1; omega
                have hl2 : (cellsH (out.drop p)).length = (m - p) * 2 := by rw [cellsH_len, List.length_drop]; have := HM.out; congr 1; omega
                have hsplit : cellsH out = cellsH (out.take p) ++ cellsH (out.drop p) := by rw [← cellsH_app, List.take_append_drop]
                have HTK := Lib.hid (show ∀ j u, (cellsH (out.take p))[j]? = some u → (cellsH out)[j]? = some u from fun j u hj => by rw [hsplit, List.getElem?_append_left (List.getElem?_eq_some_iff.1 hj).1]; exact hj)
                obtain ⟨o2, hif, hdr⟩ : ∃ o2, (if co = p then some ⟨go, 0, none⟩ else some ⟨go, p * 2, none⟩ : Option Addr) = some ⟨go, o2, none⟩ ∧ ∀ j u, (cellsH (out.drop p))[j]? = some u → (cellsH out)[o2 + j]? = some u := by
                  by_cases hcp : co = p
                  · refine ⟨0, by rw [if_pos hcp], fun j u hj => ?_⟩
                    have := (List.getElem?_eq_some_iff.1 hj).1
                    rw [hl2] at this
                    have := HM.out
                    omega
                  · refine ⟨p * 2, by rw [if_neg hcp], fun j u hj => ?_⟩
                    rw [hsplit, List.getElem?_append_right (by omega), hl1, Nat.add_sub_cancel_left]
                    exact hj
                have HDR := Lib.hid hdr
                have HI := Lib.hid (hold_ins HX.out HH.out (by rw [← HSN.out]; exact HPOS.out) (by rw [← HSN.out]; exact HNEQ.out))
                rw [← HSN.out] at HI
                have HL12 := Lib.hid (And.intro hl1 hl2)
                have hpc : p ≤ co := by have := HM.out; omega
                have hmc : m ≤ co := by have := HM.out; omega
                clear hl1 hl2 hsplit hdr
                go_region_held3 (fun W : World => W.cell? ⟨P, 0, none⟩ = some (.string s) ∧ W.cell? ⟨P, 1, none⟩ = some (.int .i64 x.units)) (first | exact ⟨b0, b1⟩ | exact ⟨cell_alloc b0 _, cell_alloc b1 _⟩ | exact ⟨d0, d1⟩ | exact ⟨cell_alloc d0 _, cell_alloc d1 _⟩ | exact ⟨f0, f1'⟩ | exact ⟨i0', i1'⟩) (first
                  | (refine step_append_own rfl _ _ 60 rfl wc.heap.size 64 i0 _ 2 24 Try.underlying60 hi hz0 hz1 hz2 rfl (by decide) (.slice none 0 0) 0 [] rfl (World.ownsRow_nil _ _ _ _) ⟨go, 0, none⟩ p co (cellsH (out.take p)) rfl HL12.out.1 ?_ (cellsH_one _) (small_maxLen (by omega)) (by omega) (by first | exact Nat.le_refl _ | exact (by simp) | (simp; omega)) ?_; (intro j u hj; rw [add_lit, Nat.zero_add]; first | exact HG4.out j u (HTK.out j u hj) | exact cell_alloc (HG4.out j u (HTK.out j u hj)) _); intro v1 w2 ho1 hg1 hn1; have T2 : ∀ j u, (cellsH out)[j]? = some u → w2.cell? ⟨go, j, none⟩ = some u := (by first | exact fun j u hj => hg1.cell (HG4.out j u hj) (by simp [Value.ownBlock]) | exact fun j u hj => hg1.cell (cell_alloc (HG4.out j u hj) _) (by simp [Value.ownBlock])); have d0 : w2.cell? ⟨P, 0, none⟩ = some (.string s) := (by first | exact hg1.cell b0 (by simp [Value.ownBlock]) | exact hg1.cell (cell_alloc b0 _) (by simp [Value.ownBlock])); have d1 : w2.cell? ⟨P, 1, none⟩ = some (.int .i64 x.units) := (by first | exact hg1.cell b1 (by simp [Value.ownBlock]) | exact hg1.cell (cell_alloc b1 _) (by simp [Value.ownBlock])); have hz2' : wc.heap.size ≤ w2.heap.size := (by have := hg1.size; first | omega | (simp at this; omega)))
                  | (refine step_append_own rfl _ _ 60 rfl wc.heap.size 64 i0 _ 2 24 Try.underlying60 hi hz0 hz1 hz2 rfl (by decide) v1 (0 + p) ([] ++ cellsH (out.take p)) rfl ?_ _ 1 1 [.string s, .int .i64 x.units] rfl rfl ?_ ?_ ?_ ?_ ?_ ?_; (first | exact ho1 | exact World.ownsRow.alloc ho1 _); (first | exact cells_new w2 _ _ | exact fun j u hj => hg1.cell (cells_new (wc.drewN _) [.string s, .int .i64 x.units] _ j u hj) (by simp [Value.ownBlock])); (intro u hu; simp at hu; rcases hu with rfl | rfl <;> rfl); exact small_maxLen (by omega); omega; (first | exact hz2' | (simp; omega)); intro v2 w3 ho2 hg2 hn2; have hv1 : v1.ownBlock ≠ some go := (fun e => by have := (World.ownsRow.lt ho1 go e).1; omega); have hv1P : v1.ownBlock ≠ some P := (fun e => by have := (World.ownsRow.lt ho1 P e).1; omega); have T3 : ∀ j u, (cellsH out)[j]? = some u → w3.cell? ⟨go, j, none⟩ = some u := (by first | exact fun j u hj => hg2.cell (T2 j u hj) hv1.symm | exact fun j u hj => hg2.cell (cell_alloc (T2 j u hj) _) hv1.symm); have f0 : w3.cell? ⟨P, 0, none⟩ = some (.string s) := (by first | exact hg2.cell d0 hv1P.symm | exact hg2.cell (cell_alloc d0 _) hv1P.symm); have f1' : w3.cell? ⟨P, 1, none⟩ = some (.int .i64 x.units) := (by first | exact hg2.cell d1 hv1P.symm | exact hg2.cell (cell_alloc d1 _) hv1P.symm); have hz3' : wc.heap.size ≤ w3.heap.size := (by have := hg2.size; first | omega | (simp at this; omega)))
                  | (refine step_append_own rfl _ _ 60 rfl wc.heap.size 64 i0 _ 2 24 Try.underlying60 hi hz0 hz1 hz2 rfl (by decide) v2 _ _ rfl ho2 ⟨go, o2, none⟩ (m - p) (co - p) (cellsH (out.drop p)) rfl HL12.out.2 ?_ (cellsH_one _) (small_maxLen (by omega)) (by omega) hz3' ?_; (intro j u hj; rw [add_lit]; exact T3 _ _ (HDR.out j u hj)); intro v4 w4 ho4 hg4 hn4; have hv2P : v2.ownBlock ≠ some P := (fun e => by have := (World.ownsRow.lt ho2 P e).1; omega); have i0' := hg4.cell f0 hv2P.symm; have i1' := hg4.cell f1' hv2P.symm))
                all_goals
                  have hlen : 0 + p + 1 + (m - p) = (out.take p ++ [(⟨s, x.units⟩ : Hol)] ++ out.drop p).length := by have := HM.out; simp; omega
                  have HOF := Lib.hid (show OwnH w4 wc.heap.size v4 (out.take p ++ [(⟨s, x.units⟩ : Hol)] ++ out.drop p) by
                    unfold OwnH
                    rw [← hlen, cellsH_app, cellsH_app]
                    simpa [cellsH, Hol.cells] using ho4)
                  have HBF := Lib.hid (show Below w1.heap.size w1 w4 from by
                    have hw : w1.heap.size ≤ wc.heap.size := HB2.out.size
                    have l1 : ∀ j, v1.ownBlock = some j → w1.heap.size ≤ j := fun j hj => by have := (World.ownsRow.lt ho1 j hj).1; omega
                    have l2 : ∀ j, v2.ownBlock = some j → w1.heap.size ≤ j := fun j hj => by have := (World.ownsRow.lt ho2 j hj).1; omega
                    have s2 : w1.heap.size ≤ w2.heap.size := by omega
                    have s3 : w1.heap.size ≤ w3.heap.size := by omega
                    have n0 : ∀ j, (none : Option Nat) = some j → w1.heap.size ≤ j := fun j hj => by cases hj
                    first
                      | exact (((HB2.out.grown (show wc.grownBy w2 none from ⟨hg1.os, hg1.tape, hg1.output, hg1.size, hg1.block⟩) hw n0).alloc s2 _).grown (show (w2.alloc (.cells #[.string s, .int .i64 x.units] 64)).grownBy w3 v1.ownBlock from ⟨hg2.os, hg2.tape, hg2.output, hg2.size, hg2.block⟩) (by simp; omega) l1).grown (show w3.grownBy w4 v2.ownBlock from ⟨hg4.os, hg4.tape, hg4.output, hg4.size, hg4.block⟩) s3 l2
                      | exact (((HB2.out.alloc hw _).grown (show (wc.alloc (.cells #[.string s, .int .i64 x.units] 64)).grownBy w2 none from ⟨hg1.os, hg1.tape, hg1.output, hg1.size, hg1.block⟩) (by simp; omega) n0).grown (show w2.grownBy w3 v1.ownBlock from ⟨hg2.os, hg2.tape, hg2.output, hg2.size, hg2.block⟩) s2 l1).grown (show w3.grownBy w4 v2.ownBlock from ⟨hg4.os, hg4.tape, hg4.output, hg4.size, hg4.block⟩) s3 l2)
                  have hfl : (out.take p ++ [(⟨s, x.units⟩ : Hol)] ++ out.drop p).length ≤ k + 1 := by rw [← hlen]; have := HM.out; omega
                  have hne0 : (out.take p ++ [(⟨s, x.units⟩ : Hol)] ++ out.drop p).length ≠ 0 := by rw [← hlen]; omega
                  have HFN := Lib.hid (And.intro hfl hne0)
                  clear hlen hfl hne0 ho1 ho2 ho4 hg1 hg2 hg4 hn1 hn2 hn4 T2 T3 d0 d1 f0 f1' i0' i1' b0 b1
                  go_wp2
                  go_roundg (G - 1)
                  case measure => have := HGG.out; omega
                  case rel => exact ⟨k + 1, _, by omega, by have := HGG.out; omega, by go_num, HOF.out.base HB2.out.size, HI.out, HFN.out.1, HBF.out, fun h => absurd h HFN.out.2⟩
          · have HPOS := Lib.hid (show PosH out s p from ⟨by have := HM.out; omega, HLO.out, fun z hz => by have := (List.getElem?_eq_some_iff.1 hz).1; have := HM.out; omega⟩)
            have HNEQ := Lib.hid (show ∀ z, out[p]? = some z → z.name ≠ s from fun z hz => by have := (List.getElem?_eq_some_iff.1 hz).1; have := HM.out; omega)
            go_wp2
            go_quiet (fail)
            go_wp2
            go_quiet (fail)
            go_wp2
            have hp' : p ≤ m := hp
            have hl1 : (cellsH (out.take p)).length = p * 2 := by rw [cellsH_len, List.length_take]; have := HM.out; congr 1; omega
            have hl2 : (cellsH (out.drop p)).length = (m - p) * 2 := by rw [cellsH_len, List.length_drop]; have := HM.out; congr 1; omega
            have hsplit : cellsH out = cellsH (out.take p) ++ cellsH (out.drop p) := by rw [← cellsH_app, List.take_append_drop]
            have HTK := Lib.hid (show ∀ j u, (cellsH (out.take p))[j]? = some u → (cellsH out)[j]? = some u from fun j u hj => by rw [hsplit, List.getElem?_append_left (List.getElem?_eq_some_iff.1 hj).1]; exact hj)
            obtain ⟨o2, hif, hdr⟩ : ∃ o2, (if co = p then some ⟨go, 0, none⟩ else some ⟨go, p * 2, none⟩ : Option Addr) = some ⟨go, o2, none⟩ ∧ ∀ j u, (cellsH (out.drop p))[j]? = some u → (cellsH out)[o2 + j]? = some u := by
              by_cases hcp : co = p
              · refine ⟨0, by rw [if_pos hcp], fun j u hj => ?_⟩
                have := (List.getElem?_eq_some_iff.1 hj).1
                rw [hl2] at this
                have := HM.out
                omega
              · refine ⟨p * 2, by rw [if_neg hcp], fun j u hj => ?_⟩
                rw [hsplit, List.getElem?_append_right (by omega), hl1, Nat.add_sub_cancel_left]
                exact hj
            have HDR := Lib.hid hdr
            have HI := Lib.hid (hold_ins HX.out HH.out (by rw [← HSN.out]; exact HPOS.out) (by rw [← HSN.out]; exact HNEQ.out))
            rw [← HSN.out] at HI
            have HL12 := Lib.hid (And.intro hl1 hl2)
            have hpc : p ≤ co := by have := HM.out; omega
            have hmc : m ≤ co := by have := HM.out; omega
            clear hl1 hl2 hsplit hdr
            go_region_held3 (fun W : World => W.cell? ⟨P, 0, none⟩ = some (.string s) ∧ W.cell? ⟨P, 1, none⟩ = some (.int .i64 x.units)) (first | exact ⟨b0, b1⟩ | exact ⟨cell_alloc b0 _, cell_alloc b1 _⟩ | exact ⟨d0, d1⟩ | exact ⟨cell_alloc d0 _, cell_alloc d1 _⟩ | exact ⟨f0, f1'⟩ | exact ⟨i0', i1'⟩) (first
              | (refine step_append_own rfl _ _ 60 rfl wc.heap.size 64 i0 _ 2 24 Try.underlying60 hi hz0 hz1 hz2 rfl (by decide) (.slice none 0 0) 0 [] rfl (World.ownsRow_nil _ _ _ _) ⟨go, 0, none⟩ p co (cellsH (out.take p)) rfl HL12.out.1 ?_ (cellsH_one _) (small_maxLen (by omega)) (by omega) (by first | exact Nat.le_refl _ | exact (by simp) | (simp; omega)) ?_; (intro j u hj; rw [add_lit, Nat.zero_add]; first | exact HG4.out j u (HTK.out j u hj) | exact cell_alloc (HG4.out j u (HTK.out j u hj)) _); intro v1 w2 ho1 hg1 hn1; have T2 : ∀ j u, (cellsH out)[j]? = some u → w2.cell? ⟨go, j, none⟩ = some u := (by first | exact fun j u hj => hg1.cell (HG4.out j u hj) (by simp [Value.ownBlock]) | exact fun j u hj => hg1.cell (cell_alloc (HG4.out j u hj) _) (by simp [Value.ownBlock])); have d0 : w2.cell? ⟨P, 0, none⟩ = some (.string s) := (by first | exact hg1.cell b0 (by simp [Value.ownBlock]) | exact hg1.cell (cell_alloc b0 _) (by simp [Value.ownBlock])); have d1 : w2.cell? ⟨P, 1, none⟩ = some (.int .i64 x.units) := (by first | exact hg1.cell b1 (by simp [Value.ownBlock]) | exact hg1.cell (cell_alloc b1 _) (by simp [Value.ownBlock])); have hz2' : wc.heap.size ≤ w2.heap.size := (by have := hg1.size; first | omega | (simp at this; omega)))
              | (refine step_append_own rfl _ _ 60 rfl wc.heap.size 64 i0 _ 2 24 Try.underlying60 hi hz0 hz1 hz2 rfl (by decide) v1 (0 + p) ([] ++ cellsH (out.take p)) rfl ?_ _ 1 1 [.string s, .int .i64 x.units] rfl rfl ?_ ?_ ?_ ?_ ?_ ?_; (first | exact ho1 | exact World.ownsRow.alloc ho1 _); (first | exact cells_new w2 _ _ | exact fun j u hj => hg1.cell (cells_new (wc.drewN _) [.string s, .int .i64 x.units] _ j u hj) (by simp [Value.ownBlock])); (intro u hu; simp at hu; rcases hu with rfl | rfl <;> rfl); exact small_maxLen (by omega); omega; (first | exact hz2' | (simp; omega)); intro v2 w3 ho2 hg2 hn2; have hv1 : v1.ownBlock ≠ some go := (fun e => by have := (World.ownsRow.lt ho1 go e).1; omega); have hv1P : v1.ownBlock ≠ some P := (fun e => by have := (World.ownsRow.lt ho1 P e).1; omega); have T3 : ∀ j u, (cellsH out)[j]? = some u → w3.cell? ⟨go, j, none⟩ = some u := (by first | exact fun j u hj => hg2.cell (T2 j u hj) hv1.symm | exact fun j u hj => hg2.cell (cell_alloc (T2 j u hj) _) hv1.symm); have f0 : w3.cell? ⟨P, 0, none⟩ = some (.string s) := (by first | exact hg2.cell d0 hv1P.symm | exact hg2.cell (cell_alloc d0 _) hv1P.symm); have f1' : w3.cell? ⟨P, 1, none⟩ = some (.int .i64 x.units) := (by first | exact hg2.cell d1 hv1P.symm | exact hg2.cell (cell_alloc d1 _) hv1P.symm); have hz3' : wc.heap.size ≤ w3.heap.size := (by have := hg2.size; first | omega | (simp at this; omega)))
              | (refine step_append_own rfl _ _ 60 rfl wc.heap.size 64 i0 _ 2 24 Try.underlying60 hi hz0 hz1 hz2 rfl (by decide) v2 _ _ rfl ho2 ⟨go, o2, none⟩ (m - p) (co - p) (cellsH (out.drop p)) rfl HL12.out.2 ?_ (cellsH_one _) (small_maxLen (by omega)) (by omega) hz3' ?_; (intro j u hj; rw [add_lit]; exact T3 _ _ (HDR.out j u hj)); intro v4 w4 ho4 hg4 hn4; have hv2P : v2.ownBlock ≠ some P := (fun e => by have := (World.ownsRow.lt ho2 P e).1; omega); have i0' := hg4.cell f0 hv2P.symm; have i1' := hg4.cell f1' hv2P.symm))
            all_goals
              have hlen : 0 + p + 1 + (m - p) = (out.take p ++ [(⟨s, x.units⟩ : Hol)] ++ out.drop p).length := by have := HM.out; simp; omega
              have HOF := Lib.hid (show OwnH w4 wc.heap.size v4 (out.take p ++ [(⟨s, x.units⟩ : Hol)] ++ out.drop p) by
                unfold OwnH
                rw [← hlen, cellsH_app, cellsH_app]
                simpa [cellsH, Hol.cells] using ho4)
              have HBF := Lib.hid (show Below w1.heap.size w1 w4 from by
                have hw : w1.heap.size ≤ wc.heap.size := HB2.out.size
                have l1 : ∀ j, v1.ownBlock = some j → w1.heap.size ≤ j := fun j hj => by have := (World.ownsRow.lt ho1 j hj).1; omega
                have l2 : ∀ j, v2.ownBlock = some j → w1.heap.size ≤ j := fun j hj => by have := (World.ownsRow.lt ho2 j hj).1; omega
                have s2 : w1.heap.size ≤ w2.heap.size := by omega
                have s3 : w1.heap.size ≤ w3.heap.size := by omega
                have n0 : ∀ j, (none : Option Nat) = some j → w1.heap.size ≤ j := fun j hj => by cases hj
                first
                  | exact (((HB2.out.grown (show wc.grownBy w2 none from ⟨hg1.os, hg1.tape, hg1.output, hg1.size, hg1.block⟩) hw n0).alloc s2 _).grown (show (w2.alloc (.cells #[.string s, .int .i64 x.units] 64)).grownBy w3 v1.ownBlock from ⟨hg2.os, hg2.tape, hg2.output, hg2.size, hg2.block⟩) (by simp; omega) l1).grown (show w3.grownBy w4 v2.ownBlock from ⟨hg4.os, hg4.tape, hg4.output, hg4.size, hg4.block⟩) s3 l2
                  | exact (((HB2.out.alloc hw _).grown (show (wc.alloc (.cells #[.string s, .int .i64 x.units] 64)).grownBy w2 none from ⟨hg1.os, hg1.tape, hg1.output, hg1.size, hg1.block⟩) (by simp; omega) n0).grown (show w2.grownBy w3 v1.ownBlock from ⟨hg2.os, hg2.tape, hg2.output, hg2.size, hg2.block⟩) s2 l1).grown (show w3.grownBy w4 v2.ownBlock from ⟨hg4.os, hg4.tape, hg4.output, hg4.size, hg4.block⟩) s3 l2)
              have hfl : (out.take p ++ [(⟨s, x.units⟩ : Hol)] ++ out.drop p).length ≤ k + 1 := by rw [← hlen]; have := HM.out; omega
              have hne0 : (out.take p ++ [(⟨s, x.units⟩ : Hol)] ++ out.drop p).length ≠ 0 := by rw [← hlen]; omega
              have HFN := Lib.hid (And.intro hfl hne0)
              clear hlen hfl hne0 ho1 ho2 ho4 hg1 hg2 hg4 hn1 hn2 hn4 T2 T3 d0 d1 f0 f1' i0' i1' b0 b1
              go_wp2
              go_roundg (G - 1)
              case measure => have := HGG.out; omega
              case rel => exact ⟨k + 1, _, by omega, by have := HGG.out; omega, by go_num, HOF.out.base HB2.out.size, HI.out, HFN.out.1, HBF.out, fun h => absurd h HFN.out.2⟩
    · go_wp2
      go_ret2
      refine ⟨_, out, rfl, HO.out.base (by omega), ?_, HB1.out.trans (HBL.out.mono HB1.out.size)⟩
      have := HH.out
      rwa [List.take_of_length_le (by have := HN.out; omega)] at this
end Go.Proofs.Ythhmpdjjfoplgaa
