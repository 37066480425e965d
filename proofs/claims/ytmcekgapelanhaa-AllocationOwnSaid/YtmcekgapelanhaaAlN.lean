import Derived.Test.YtmcekgapelanhaaAlL
import Derived.BigQuiet
import Derived.Deep.CutRange
/- AllocationOwn, walked. -/
set_option linter.unusedVariables false
set_option linter.unusedSimpArgs false
namespace Go.Proofs.Ytmcekgapelanhaa
open Go.RowKit Al Tok Ap
namespace Al
/-- the five cells of a share -/
theorem sh_cells {w : World} {g off k : Nat} {s : Sh} (h : ∀ j u, s.cells[j]? = some u → w.cell? ⟨g, off + (k * 5 + j), none⟩ = some u) : w.cell? ⟨g, off + k * 5, none⟩ = some (.string s.name) ∧ w.cell? ⟨g, off + k * 5 + 1, none⟩ = some (.int .i64 s.opening) ∧ w.cell? ⟨g, off + k * 5 + 2, none⟩ = some (.int .i64 s.own) ∧ w.cell? ⟨g, off + k * 5 + 3, none⟩ = some (.int .i64 s.result) ∧ w.cell? ⟨g, off + k * 5 + 4, none⟩ = some (.int .i64 s.net) :=
  ⟨by have := h 0 _ rfl; rwa [← Nat.add_assoc] at this, by have := h 1 _ rfl; rwa [← Nat.add_assoc] at this, by have := h 2 _ rfl; rwa [← Nat.add_assoc] at this, by have := h 3 _ rfl; rwa [← Nat.add_assoc] at this, by have := h 4 _ rfl; rwa [← Nat.add_assoc] at this⟩
end Al
theorem cell_lt {w : World} {g o : Nat} {v : Value} (h : w.cell? ⟨g, o, none⟩ = some v) : g < w.heap.size := by
  rcases Nat.lt_or_ge g w.heap.size with h1 | h1
  · exact h1
  · unfold World.cell? at h
    rw [Array.getElem?_eq_none h1] at h
    cases h
set_option maxRecDepth 100000 in
set_option maxHeartbeats 4000000 in
theorem own_any (a : Option Addr) (len cap : Nat) (z : List Int) (w : World) (hr : IsRow .i64 w a len cap z) :
    Calls Try.prog 4 #[.slice a len cap] w fun e w' => e = .returned (.bool true) ∧ Below w.heap.size w w' := by
  have ht0 := hr.tape 25
  clear hr
  go_enter Try.func4, Try.ntmps4
  go_wp2_with fail
  refine (books_any w.heap.size 0 _ ht0 (by omega)).mono ?_
  rintro e w1 ⟨v, l, at1, rfl, hD, hown, ht1, ha1, hg1⟩
  have hB1 := ((Below.refl w.heap.size w).alloc (Nat.le_refl _) (.cells #[.slice a len cap, .int .i64 0] 25)).trans (below_grownBy hg1 (Nat.le_refl _) (by simp))
  obtain ⟨bt, hbt⟩ : ∃ bt, bt = w.heap.size := ⟨_, rfl⟩
  have hown1 : w1.ownsRow (bt + 1) 30 5 v l.length (cellsB l) := by have := hown; simp at this; rw [hbt]; exact this
  clear hown ht0 hg1
  rw [← hbt] at ht1 ⊢
  obtain ⟨n, hn⟩ : ∃ n, n = l.length := ⟨_, rfl⟩
  have hl := hD.len
  rw [← hn] at hown1 hl
  obtain ⟨g, cp, rfl, hgb, hgl⟩ := form_own hown1 (by omega)
  have HBT := Lib.hid hbt
  have HO := Lib.hid hown1
  have HD := Lib.hid (And.intro hD hn)
  have HB := Lib.hid hB1
  have hbtb : ∀ {x y : World}, w.heap.size ≤ x.heap.size → x.grownBy y (some bt) → Below w.heap.size x y := fun hs hg => below_grownBy hg (by rw [HBT.out]; exact Nat.le_refl _) hs
  clear hown1 hD hB1 hbt hn
  go_wp2_with fail
  refine (next_any bt at1 2000000 _ ht1 (by omega) (by omega)).mono ?_
  rintro e w2 ⟨u, rfl, ht2, hg2⟩
  have hb2 := foldI_bd u 2000000 (by omega)
  generalize foldI u 2000000 = total at *
  replace HB := Lib.hid (HB.out.trans (hbtb HB.out.size hg2))
  replace HO := Lib.hid (own_keptB HO.out hg2 (by omega))
  clear ht1 hg2 hgl
  go_wp2_with fail
  refine (range_any bt _ (-5000) 5000 _ ht2 (by omega) (by omega) (by omega) (by omega)).mono ?_
  rintro e w3 ⟨o, ho1, ho2, rfl, ht3, hg3⟩
  replace HB := Lib.hid (HB.out.trans (hbtb HB.out.size hg3))
  replace HO := Lib.hid (own_keptB HO.out hg3 (by omega))
  clear ht2 hg3
  go_wp2_with fail
  refine (next_any bt _ (n : Int) _ ht3 (by omega) (by omega)).mono ?_
  rintro e w4 ⟨u2, rfl, ht4, hg4⟩
  have hb4 := foldI_bd u2 (n : Int) (by omega)
  generalize foldI u2 (n : Int) = fi at *
  obtain ⟨i, rfl⟩ := Int.eq_ofNat_of_zero_le hb4.1
  have hin : i < n := by omega
  replace HB := Lib.hid (HB.out.trans (hbtb HB.out.size hg4))
  replace HO := Lib.hid (own_keptB HO.out hg4 (by omega))
  clear ht3 hg4 ht4 hbtb hb4
  obtain ⟨bi, hbi⟩ : ∃ b, l[i]? = some b := ⟨_, List.getElem?_eq_getElem (by rw [← HD.out.2]; exact hin)⟩
  have HBI := Lib.hid hbi
  have hmd := HD.out.1.all bi (List.mem_of_getElem? hbi)
  have hob := hmd.own
  have HAL := Lib.hid (alloc_any total l (.slice (some ⟨g, 0, none⟩) n cp) w4 (by have := Rd.of_own HO.out; unfold BksAt; rw [← HD.out.2]; exact this) HD.out.1.check)
  have hgl4 : g < w4.heap.size := (HO.out.lt g rfl).2
  clear hbi hmd
  go_upto_region 6 with (go_at_call 9; refine HAL.out.mono ?_; rintro e w5 ⟨vs, r, hr, rfl, hrd, hb5⟩)
  have HR := Lib.hid hr
  have HRD := Lib.hid hrd
  replace HB := Lib.hid (HB.out.trans (hb5.mono HB.out.size))
  replace HO := Lib.hid (ownsRow_below HO.out hb5)
  have hgl5 : g < w5.heap.size := (HO.out.lt g rfl).2
  clear HAL hr hrd hb5 hgl4
  obtain ⟨i0, hi, hz0, hz1, hz2⟩ := info_parts Try.infoB5
  have hN : (cellsB l).length = n * 5 := by rw [cellsB_len, HD.out.2]
  have HN := Lib.hid hN
  clear hN
  go_upto_region 7 with (first | (refine wpList_build0 rfl rfl Try.underlying26 hi ?_) | (at_builtin; refine wpList_append_own _ rfl _ _ 26 rfl w5.heap.size 30 i0 _ 5 48 Try.underlying26 hi hz0 hz1 hz2 rfl (by decide) _ _ _ rfl (own_empty w5 w5.heap.size _ 5 (Nat.le_refl _)) ⟨g, 0, none⟩ n cp (cellsB l) rfl HN.out ?_ ?_ ?_ ?_ ?_ ?_; (intro j u hu; exact (HO.out.alloc _).cells rfl j u hu); exact oneB l; exact small_maxLen (by omega); omega; (simp); intro v' w6 hown' hgrow _))
  have hown6 : w6.ownsRow w5.heap.size 30 5 v' n (cellsB l) := by simpa using hown'
  have hb6 : Below w5.heap.size w5 w6 := ((Below.refl w5.heap.size w5).alloc (Nat.le_refl _) _).grown hgrow (by simp) (fun q hq => by have : w5.heap.size = q := Option.some.inj hq; omega)
  clear hown' hgrow hi hz0 hz1 hz2
  obtain ⟨gm, cm, rfl, hgm, hgml⟩ := form_own hown6 (by omega)
  have hc3 : w6.cell? ⟨gm, i * 5 + 3, none⟩ = some (.int .i64 bi.own) := by
    have := hown6.cells rfl (i * 5 + 3) (.int .i64 bi.own) (cellsB_get l i bi HBI.out 3 _ rfl)
    have hadd : (⟨gm, 0, none⟩ : Addr).add (i * 5 + 3) = ⟨gm, 0 + (i * 5 + 3), none⟩ := by unfold Addr.add; split <;> simp_all
    rw [hadd, Nat.zero_add] at this; exact this
  have hf3 : w6.frozen? ⟨gm, i * 5 + 3, none⟩ = false := hown6.frozenAt _
  have wo : IntKind.i64.wrap (bi.own + o) = bi.own + o := IntWalk.i64_in _ (by omega)
  have hst := hown6.stored (i * 5 + 3) (.int .i64 (bi.own + o))
  rw [← cellsB_set l i bi { bi with own := bi.own + o } 3 (.int .i64 (bi.own + o)) HBI.out rfl (by omega)] at hst
  have HST := Lib.hid (show (w6.setCell ⟨gm, i * 5 + 3, none⟩ (.int .i64 (bi.own + o))).ownsRow w5.heap.size 30 5 (.slice (some ⟨gm, 0, none⟩) n cm) n (cellsB (setOwn l i bi o)) from hst.1)
  have hb7 := hb6.grown hst.2 hb6.size (fun q hq => by injection hq with hq; omega)
  replace HRD := Lib.hid (Rd.below HRD.out hb7)
  replace HB := Lib.hid (HB.out.trans (hb7.mono HB.out.size))
  clear hst hown6 hb6 hb7 HO hgl5 HN
  have hsl : (setOwn l i bi o).length = n := by rw [HD.out.2]; simp [setOwn]
  go_upto_region 8 with fail
  obtain ⟨W, hW⟩ : ∃ W, W = w6.setCell ⟨gm, i * 5 + 3, none⟩ (.int .i64 (bi.own + o)) := ⟨_, rfl⟩
  rw [← hW] at HST HRD HB ⊢
  clear hW hc3 hf3 hgml hgm
  have HAL := Lib.hid (alloc_any (total + o) (setOwn l i bi o) (.slice (some ⟨gm, 0, none⟩) n cm) W (by have := Rd.of_own HST.out; unfold BksAt; rw [hsl]; exact this) (own_check HD.out.1 HBI.out ho1 ho2))
  have wt : IntKind.i64.wrap (total + o) = total + o := IntWalk.i64_in _ (by omega)
  go_upto_region 9 with (go_at_call 9; refine HAL.out.mono ?_; rintro e w9 ⟨vs2, r2, hr2, rfl, hrd2, hb9⟩)
  have hB9 := HB.out.trans (hb9.mono HB.out.size)
  have hrd1 := Rd.below HRD.out hb9
  have hboth := own_both HD.out.1 HBI.out ho1 ho2 hb2.1 (by omega) HR.out hr2
  clear HR hr2 HAL HST HRD HB hb9
  rcases hboth with ⟨rfl, rfl⟩ | ⟨rs, rfl, rfl, hrl, hrb⟩
  · obtain ⟨A1, c1, rfl⟩ := Rd.form hrd1
    obtain ⟨A2, c2, rfl⟩ := Rd.form hrd2
    clear hrd1 hrd2
    simp only [List.length_nil]
    go_wp2
    refine wp_loop_rounds 1 ?_
    rw [rounds_succ]
    go_wp2_with fail
    refine (known_any _).mono ?_
    rintro e w10 ⟨rfl, hb10⟩
    go_wp2
    go_ret
    exact ⟨rfl, hB9.trans (hb10.mono hB9.size)⟩
  · have hL1 : (shL l rs).length = n := by rw [shL_len hrl]; exact HD.out.2.symm
    have hL2 : (shL (setOwn l i bi o) rs).length = n := by rw [shL_len (by rw [hrl, hsl]; exact HD.out.2.symm)]; exact hsl
    obtain ⟨ga, oa, ca, rfl, hca⟩ := shs_some hrd1 (by show 0 < (shL l rs).length; omega)
    obtain ⟨gb, ob, cb, rfl, hcb⟩ := shs_some hrd2 (by show 0 < (shL (setOwn l i bi o) rs).length; omega)
    have hga : ga < w9.heap.size := by
      obtain ⟨b, hb⟩ : ∃ b, (shL l rs)[0]? = some b := ⟨_, List.getElem?_eq_getElem (by omega)⟩
      exact cell_lt (sh_cells (hca 0 b hb)).1
    have HALL := Lib.hid (show ∀ k, k < n → ∃ (nm : ByteArray) (op : Nat) (ow x nt : Int), (-300 ≤ ow ∧ ow ≤ 200) ∧ (-20000000000 ≤ nt ∧ nt ≤ 20000000000) ∧
        (w9.cell? ⟨ga, oa + k * 5, none⟩ = some (.string nm) ∧ w9.cell? ⟨ga, oa + k * 5 + 1, none⟩ = some (.int .i64 (op : Int)) ∧ w9.cell? ⟨ga, oa + k * 5 + 2, none⟩ = some (.int .i64 ow) ∧ w9.cell? ⟨ga, oa + k * 5 + 3, none⟩ = some (.int .i64 x) ∧ w9.cell? ⟨ga, oa + k * 5 + 4, none⟩ = some (.int .i64 nt)) ∧
        (w9.cell? ⟨gb, ob + k * 5, none⟩ = some (.string nm) ∧ w9.cell? ⟨gb, ob + k * 5 + 1, none⟩ = some (.int .i64 (op : Int)) ∧ w9.cell? ⟨gb, ob + k * 5 + 2, none⟩ = some (.int .i64 (if k = i then ow + o else ow)) ∧ w9.cell? ⟨gb, ob + k * 5 + 3, none⟩ = some (.int .i64 x) ∧ w9.cell? ⟨gb, ob + k * 5 + 4, none⟩ = some (.int .i64 (if k = i then nt + o else nt))) from fun k hk => by
      obtain ⟨b, hb⟩ : ∃ b, l[k]? = some b := ⟨_, List.getElem?_eq_getElem (by rw [← HD.out.2]; exact hk)⟩
      obtain ⟨x, hx⟩ : ∃ x, rs[k]? = some x := ⟨_, List.getElem?_eq_getElem (by rw [hrl, ← HD.out.2]; exact hk)⟩
      have hm := HD.out.1.all b (List.mem_of_getElem? hb)
      have h3 := hm.sum; have h4 := hm.own
      have h5 := hrb x (List.mem_of_getElem? hx)
      have e2 : (b.op : Int) = b.net + b.flows := by unfold Bk.op; omega
      have s1 := sh_cells (hca k (shOf b x) (shL_get hb hx))
      have s2 := sh_cells (hcb k _ (shL_get (own_get (o := o) HBI.out hb) hx))
      refine ⟨b.name, b.op, b.own, x, b.op + b.own + x, h4, by omega, s1, ?_⟩
      by_cases hki : k = i
      · rw [if_pos hki] at s2 ⊢
        rw [if_pos hki]
        have e : (b.op : Int) + b.own + x + o = b.op + (b.own + o) + x := by omega
        rw [e]; exact s2
      · rw [if_neg hki] at s2 ⊢
        rw [if_neg hki]; exact s2)
    have HB9 := Lib.hid hB9
    clear hrd1 hrd2 hca hcb hrl hrb hB9 hsl hob
    simp only [hL1, hL2]
    clear hL1 hL2
    go_wp2
    go_loopg [13] n (fun m kv wr => ∃ k : Nat, kv = .int .i64 k ∧ k ≤ n ∧ n ≤ m + k ∧ Below w9.heap.size w9 wr)
    case atStart => exact ⟨0, rfl, by omega, by omega, Below.refl _ _⟩
    case round =>
      obtain ⟨k, rfl, hk, hm, hbr⟩ := hrel
      by_cases hkn : k < n
      · obtain ⟨nm, op, ow, x, nt, how, hnt, ⟨a0, a1, a2, a3, a4⟩, ⟨b0, b1, b2, b3, b4⟩⟩ := HALL.out k hkn
        replace a0 := cell_up a0 hbr
        replace a1 := cell_up a1 hbr
        replace a2 := cell_up a2 hbr
        replace a3 := cell_up a3 hbr
        replace a4 := cell_up a4 hbr
        replace b0 := cell_up b0 hbr
        replace b1 := cell_up b1 hbr
        replace b2 := cell_up b2 hbr
        replace b3 := cell_up b3 hbr
        replace b4 := cell_up b4 hbr
        have HBR := Lib.hid hbr
        have hsz := hbr.size
        clear hbr
        go_upto_region 15 with fail
        obtain ⟨X, hX⟩ : ∃ X, X = wr.heap.size := ⟨_, rfl⟩
        obtain ⟨W1, hW1⟩ : ∃ W1, W1 = wr.alloc (.cells #[.string nm, .int .i64 (op : Int), .int .i64 ow, .int .i64 x, .int .i64 nt] 38) := ⟨_, rfl⟩
        have hbW : Below wr.heap.size wr W1 := by rw [hW1]; exact (Below.refl _ _).alloc (Nat.le_refl _) _
        have x0 : W1.cell? ⟨X, 0, none⟩ = some (.string nm) := by rw [hW1, hX]; go_cell
        have x1 : W1.cell? ⟨X, 1, none⟩ = some (.int .i64 (op : Int)) := by rw [hW1, hX]; go_cell
        have x2 : W1.cell? ⟨X, 2, none⟩ = some (.int .i64 ow) := by rw [hW1, hX]; go_cell
        have x3 : W1.cell? ⟨X, 3, none⟩ = some (.int .i64 x) := by rw [hW1, hX]; go_cell
        have x4 : W1.cell? ⟨X, 4, none⟩ = some (.int .i64 nt) := by rw [hW1, hX]; go_cell
        have xf : ∀ o, W1.frozen? ⟨X, o, none⟩ = false := fun o => by rw [hW1, hX]; simp
        have hgX : gb < X := by rw [hX]; exact cell_lt b0
        replace b0 := cell_up b0 hbW
        replace b1 := cell_up b1 hbW
        replace b2 := cell_up b2 hbW
        replace b3 := cell_up b3 hbW
        replace b4 := cell_up b4 hbW
        rw [← hW1, ← hX]
        replace HBR := Lib.hid (HBR.out.trans (hbW.mono hsz))
        rw [← hX] at hsz
        clear hW1 hX hbW a0 a1 a2 a3 a4
        by_cases hki : k = i
        · rw [if_pos hki] at b2 b4
          have f2 := xf 2
          have f4 := xf 4
          have w1' : IntKind.i64.wrap (ow + o) = ow + o := IntWalk.i64_in _ (by omega)
          have w2' : IntKind.i64.wrap (nt + o) = nt + o := IntWalk.i64_in _ (by omega)
          have hki' : ((k : Int) == (i : Int)) = true := by simp [hki]
          clear xf hki
          go_upto_region 18 with fail
          obtain ⟨W2, hW2⟩ : ∃ W2, W2 = (W1.setCell ⟨X, 2, none⟩ (.int .i64 (ow + o))).setCell ⟨X, 4, none⟩ (.int .i64 (nt + o)) := ⟨_, rfl⟩
          have hbk : W2.heap[gb]? = W1.heap[gb]? := by rw [hW2, Below.heap_setCell _ _ _ _ (by show gb ≠ X; omega), Below.heap_setCell _ _ _ _ (by show gb ≠ X; omega)]
          rw [← World.cell?_of_block (w := W1) (w' := W2) hbk] at b0 b1 b2 b3 b4
          replace x0 : W2.cell? ⟨X, 0, none⟩ = some (.string nm) := by rw [hW2, World.cell?_setCell_other _ _ _ _ (by simp), World.cell?_setCell_other _ _ _ _ (by simp)]; exact x0
          replace x1 : W2.cell? ⟨X, 1, none⟩ = some (.int .i64 (op : Int)) := by rw [hW2, World.cell?_setCell_other _ _ _ _ (by simp), World.cell?_setCell_other _ _ _ _ (by simp)]; exact x1
          replace x3 : W2.cell? ⟨X, 3, none⟩ = some (.int .i64 x) := by rw [hW2, World.cell?_setCell_other _ _ _ _ (by simp), World.cell?_setCell_other _ _ _ _ (by simp)]; exact x3
          have y2 : W2.cell? ⟨X, 2, none⟩ = some (.int .i64 (ow + o)) := by rw [hW2, World.cell?_setCell_other _ _ _ _ (by simp)]; exact World.cell?_setCell_same _ _ _ x2
          have y4 : W2.cell? ⟨X, 4, none⟩ = some (.int .i64 (nt + o)) := by rw [hW2]; exact World.cell?_setCell_same _ _ _ (by rw [World.cell?_setCell_other _ _ _ _ (by simp)]; exact x4)
          have hs1 := grownBy_setCell (w := W1) ⟨X, 2, none⟩ rfl (.int .i64 (ow + o))
          have hB2 : Below w9.heap.size w9 W2 := by
            rw [hW2]
            exact (HBR.out.grown (row := some X) (grownBy_setCell ⟨X, 2, none⟩ rfl _) HBR.out.size (fun q hq => by have : X = q := Option.some.inj hq; omega)).grown (row := some X) (grownBy_setCell ⟨X, 4, none⟩ rfl _) (by simpa using HBR.out.size) (fun q hq => by have : X = q := Option.some.inj hq; omega)
          rw [← hW2]
          clear hW2 hbk x2 x4 hs1 f2 f4 hki'
          go_quiet (fail)
          go_wp2
          go_roundg (gk - 1)
          case measure => omega
          case rel => exact ⟨k + 1, by go_num, by omega, by omega, below_drewN hB2 _⟩
        · rw [if_neg hki] at b2 b4
          have hki' : ((k : Int) == (i : Int)) = false := beq_eq_false_iff_ne.2 (by omega)
          clear xf
          go_upto_region 18 with fail
          go_quiet (fail)
          go_wp2
          go_roundg (gk - 1)
          case measure => omega
          case rel => exact ⟨k + 1, by go_num, by omega, by omega, below_drewN HBR.out _⟩
      · go_wp2_with fail
        refine (known_any _).mono ?_
        rintro e w10 ⟨rfl, hb10⟩
        go_wp2
        go_ret
        exact ⟨rfl, (HB9.out.trans (hbr.mono HB9.out.size)).trans (hb10.mono (Nat.le_trans HB9.out.size hbr.size))⟩
end Go.Proofs.Ytmcekgapelanhaa
