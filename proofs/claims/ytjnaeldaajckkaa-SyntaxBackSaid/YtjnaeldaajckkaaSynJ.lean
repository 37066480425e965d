/- The program's parser: Parse. -/
import Derived.Test.YtjnaeldaajckkaaSynI
import Derived.Test.YtjnaeldaajckkaaSyY
import Derived.Test.YtjnaeldaajckkaaTokJ
import Derived.BigQuiet
set_option linter.unusedVariables false
set_option linter.unusedSimpArgs false
namespace Go.Proofs.Ytjnaeldaajckkaa
open Go.RowKit Tok Syn

theorem Try.info75 : (Try.prog.info? 75).map (fun i => (i.zero, i.size, i.bytes)) = some (some (.agg #[.string ByteArray.empty, .slice none 0 0, .slice none 0 0, .int .i64 0, .int .i64 0]), 5, 80) := by kernel_rfl
namespace Syn
/-- what Parse gives -/
structure PR where
  l : List Bk
  pl : Nat
  pc : Nat
  err : Int
def parseR (s : List UInt8) : PR := if (scanR s).err = 0 then (match blocksP (scanR s).toks with
  | .error t => ⟨[], (posP t).1, (posP t).2, 110⟩
  | .ok l => ⟨l, 0, 0, 0⟩) else ⟨[], (scanR s).pl, (scanR s).pc, (scanR s).err⟩
theorem posP_hd (s : List T) : posP s = ((hdT s).line, (hdT s).col) := by cases s <;> rfl
end Syn
theorem parse_bad {s : List UInt8} (h : ¬ (scanR s).err = 0) : parseR s = ⟨[], (scanR s).pl, (scanR s).pc, (scanR s).err⟩ := if_neg h
theorem parse_no {s : List UInt8} {t : List T} (h : (scanR s).err = 0) (h2 : blocksP (scanR s).toks = .error t) : parseR s = ⟨[], (hdT t).line, (hdT t).col, 110⟩ := by
  unfold parseR; rw [if_pos h, h2]; simp only [posP_hd]
theorem parse_yes {s : List UInt8} {l : List Bk} (h : (scanR s).err = 0) (h2 : blocksP (scanR s).toks = .ok l) : parseR s = ⟨l, 0, 0, 0⟩ := by
  unfold parseR; rw [if_pos h, h2]
def preK (acc : List Bk) (x : Except (List T) (List Bk)) : Except (List T) (List Bk) := match x with
  | .error s => .error s
  | .ok l => .ok (acc ++ l)
theorem preK_nil (x : Except (List T) (List Bk)) : preK [] x = x := by cases x <;> rfl
theorem blocks_bad {r s : List T} (hr : r ≠ []) (h2 : fundP r = .error s) : blocksP r = .error s := by
  cases r with
  | nil => exact absurd rfl hr
  | cons t r => rw [blocksP_cons, h2]
theorem blocks_more {acc : List Bk} {r r2 : List T} {c : Bk} (h2 : fundP r = .ok (c, r2)) : preK acc (blocksP r) = preK (acc ++ [c]) (blocksP r2) ∧ r2.length < r.length := by
  have ht := fund_tl r
  rw [h2] at ht
  refine ⟨?_, ht.2⟩
  cases r with
  | nil => cases h2
  | cons t r =>
    rw [blocksP_cons, h2]
    simp only
    cases blocksP r2 with
    | error s => rfl
    | ok p => simp [preK]
theorem cellsOf_no {l : List T} {j : Nat} {A : Option Addr} {n c : Nat} (h : (cellsOf l)[j]? = some (.slice A n c)) : False := by
  have hm := List.mem_of_getElem? h
  simp only [cellsOf, List.mem_flatMap] at hm
  obtain ⟨t, _, ht⟩ := hm
  simp [T.cells] at ht
/-- a cell that holds a slice is none of the parser's tokens -/
theorem Pr.put {w : World} {bp b0 : Nat} {r : List T} {A : Option Addr} {n c : Nat} (h : Pr w bp r) (hc : w.cell? ⟨b0, 0, none⟩ = some (.slice A n c)) (hb : b0 ≠ bp) (u : Value) : Pr (w.setCell ⟨b0, 0, none⟩ u) bp r := by
  obtain ⟨l, a, ⟨v, h0, h1, h2, ⟨h3, h4, h5⟩, h6, h7, h8⟩, q⟩ := h
  refine ⟨l, a, ⟨v, by rw [set_far hb]; exact h0, by rw [set_far hb]; exact h1, fun o => by simp only [World.frozen?_setCell]; exact h2 o, ⟨h3, h4, ?_⟩, h6, h7, h8⟩, q⟩
  rcases h5 with h5 | ⟨g, off, cap, hv, hx⟩
  · exact .inl h5
  · refine .inr ⟨g, off, cap, hv, fun j x hj => ?_⟩
    have hcell := hx j x hj
    by_cases e : (⟨b0, 0, none⟩ : Addr) = ⟨g, off + j, none⟩
    · rw [← e, hc] at hcell
      injection hcell with hcell
      subst hcell
      exact (cellsOf_no hj).elim
    · rw [World.cell?_setCell_other _ _ _ _ e]; exact hcell
theorem cbsD_form {w : World} {D : Nat → Prop} {v : Value} {l : List Cb} (h : CbsD w D v l) : ∃ A c, v = .slice A l.length c := by
  obtain ⟨xs, _, ⟨_, _, h | ⟨g, off, cap, h, _⟩⟩, _⟩ := h
  · exact ⟨none, 0, by rw [h.1, h.2]⟩
  · exact ⟨_, _, h⟩
theorem BldR.setAt {α : Type} {w : World} {R : World → (Nat → Prop) → α → List Value → Prop} {D : Nat → Prop} {B : Nat} {T : TypeId} {size : Nat} {v : Value} {l : List α}
    (hR : ∀ {w w' : World} {D D' : Nat → Prop}, KeepsD D w w' → (∀ k, D k → D' k) → ∀ a c, R w D a c → R w' D' a c) (h : BldR w R D B T size v l) (p : Addr) (u : Value) (hD : ∀ k, D k → k < w.heap.size) (h1 : ¬ D p.block) (h2 : v.ownBlock ≠ some p.block) : BldR (w.setCell p u) R D B T size v l :=
  h.upg hR (grownBy_setCell p rfl u) hD (fun g e => by cases e; exact ⟨h1, h2⟩) (fun _ h => h) (fun _ h => .inl h)
/-- the blocks under construction -/
structure PaS (bp b0 : Nat) (w : World) (x y : Int) (r : List T) (wr : World) (acc : List Bk) (rr : List T) (v : Value) (D : Nat → Prop) : Prop where
  pr : Pr wr bp rr
  st : StA wr b0 [v]
  z1 : StA wr (b0 + 1) [.int .i64 x, .int .i64 y]
  z2 : StA wr (b0 + 1 + 1) [.int .i64 0]
  row : BldR wr BkR D (bp + 1) 75 5 v acc
  gr : Below w.heap.size w wr
  vp : preK acc (blocksP rr) = blocksP r
  len : acc.length + rr.length ≤ 65536
  dd : ∀ k, D k → bp < k ∧ k < wr.heap.size
  b1 : b0 + 1 + 1 < bp
  b4 : b0 = w.heap.size
theorem PaS.below {bp b0 : Nat} {w : World} {x y : Int} {r : List T} {wr w' : World} {acc : List Bk} {rr : List T} {v : Value} {D : Nat → Prop} (h : PaS bp b0 w x y r wr acc rr v D) (hb : Below wr.heap.size wr w') : PaS bp b0 w x y r w' acc rr v D where
  pr := h.pr.below hb
  st := h.st.below hb
  z1 := h.z1.below hb
  z2 := h.z2.below hb
  row := h.row.below BkR.up hb fun k hk => (h.dd k hk).2
  gr := h.gr.trans (hb.mono h.gr.size)
  vp := h.vp
  len := h.len
  dd k hk := ⟨(h.dd k hk).1, Nat.lt_of_lt_of_le (h.dd k hk).2 hb.size⟩
  b1 := h.b1
  b4 := h.b4
/-- a fund more -/
theorem PaS.app {bp b0 : Nat} {w : World} {x y : Int} {r : List T} {W0 W W2 : World} {acc : List Bk} {rr rr2 : List T} {v : Value} {D E : Nat → Prop} {xs : List Value} {c : Bk} {u1 u2 : Value} {g cap : Nat} {o : Obj}
    (h : PaS bp b0 w x y r W0 acc rr v D) (x1 : CellsR (BkR W0 D) acc xs) (x2 : W0.ownsRow (bp + 1) 75 5 v acc.length xs) (x3 : ∀ g, v.ownBlock = some g → ¬ D g)
    (hc1 : ClsD W E u1 c.cls) (hc2 : CbsD W E u2 c.cbs) (hE : ∀ k, E k → W0.heap.size ≤ k ∧ k < W.heap.size) (hp : Pr W bp rr2) (hg : W0.grownBy W (some bp))
    (hv : preK acc (blocksP rr) = preK (acc ++ [c]) (blocksP rr2)) (hl : rr2.length < rr.length)
    (h1 : W2.ownsRow (bp + 1) 75 5 (.slice (some ⟨g, 0, none⟩) (acc.length + 1) cap) (acc.length + 1) (xs ++ csV (.agg #[strV c.name, u1, u2, .int .i64 c.line, .int .i64 c.col])))
    (h2 : (W.alloc o).grownBy W2 v.ownBlock) (h3 : v.ownBlock = some g ∨ g = W.heap.size + 1) :
    PaS bp b0 w x y r (W2.setCell ⟨b0, 0, none⟩ (.slice (some ⟨g, 0, none⟩) (acc.length + 1) cap)) (acc ++ [c]) rr2 (.slice (some ⟨g, 0, none⟩) (acc.length + 1) cap) (DD D E) := by
  have hsz := hg.size
  have hlt := h.pr.lt
  have hb1 := h.b1
  have hb4 := h.b4
  have x2l : ∀ k, v.ownBlock = some k → bp < k ∧ k < W0.heap.size := fun k hk => x2.lt k hk
  have hB1 : Below (bp + 1) W W2 := ((Below.refl (bp + 1) W).alloc (by omega) o).grown h2 (by simp; omega) (fun k hk => (x2l k hk).1)
  have hgB : Below w.heap.size W0 W := ⟨hg.os, hg.tape, hg.output, hg.size, fun k hk => hg.block k (by have := h.gr.size; omega) (fun e => by injection e with e; omega)⟩
  have hB : Below w.heap.size w (W2.setCell ⟨b0, 0, none⟩ (.slice (some ⟨g, 0, none⟩) (acc.length + 1) cap)) := ((h.gr.trans hgB).trans (hB1.mono (by omega))).setCell (p := ⟨b0, 0, none⟩) (by show w.heap.size ≤ b0; omega) _
  have hB2 : Below b0 W (W2.setCell ⟨b0, 0, none⟩ (.slice (some ⟨g, 0, none⟩) (acc.length + 1) cap)) := (hB1.mono (show b0 ≤ bp + 1 by omega)).setCell (p := ⟨b0, 0, none⟩) (Nat.le_refl _) _
  have hd' : ∀ k, DD D E k → D k ∨ (W0.heap.size ≤ k ∧ k < W.heap.size) := fun k hk => hk.imp id fun e => hE k e
  have nbp : ¬ D bp := fun e => by have := (h.dd bp e).1; omega
  have nb0 : ¬ DD D E b0 := fun e => by
    rcases hd' b0 e with q | q
    · have := (h.dd b0 q).1; omega
    · omega
  have hrow := BldR.round (bx := b0) (fo := 0) (D' := DD D E) (a := c) BkR.up x1 x2 x3 (fun k hk => (h.dd k hk).2) hg nbp (by omega) (fun k hk => .inl hk) hd' ⟨_, _, rfl, hc1.up (KeepsD.refl _ _) fun k hk => .inr hk, hc2.up (KeepsD.refl _ _) fun k hk => .inr hk⟩ (by omega) nb0 (by omega) h1 h2 h3
  have hpp : Pr (W2.setCell ⟨b0, 0, none⟩ (.slice (some ⟨g, 0, none⟩) (acc.length + 1) cap)) bp rr2 := by
    obtain ⟨A, cp, rfl⟩ := own_form x2
    exact (hp.above hB1 (by omega)).put (((h.st.grown hg (fun e => by injection e with e; omega)).above hB1 (by omega)).c 0 _ rfl) (by omega) _
  exact
    { pr := hpp
      st := ((h.st.grown hg (fun e => by injection e with e; omega)).above hB1 (by omega)).set 0 _ (by simp)
      z1 := ((h.z1.grown hg (fun e => by injection e with e; omega)).above hB1 (by omega)).far _ _ (by show b0 ≠ b0 + 1; omega)
      z2 := ((h.z2.grown hg (fun e => by injection e with e; omega)).above hB1 (by omega)).far _ _ (by show b0 ≠ b0 + 1 + 1; omega)
      row := hrow
      gr := hB
      vp := hv.symm.trans h.vp
      len := by have := h.len; simp; omega
      dd := fun k hk => by
        have := hB2.size
        rcases hd' k hk with q | q
        · have := h.dd k q; omega
        · omega
      b1 := hb1
      b4 := h.b4 }
set_option maxRecDepth 100000 in
set_option maxHeartbeats 4000000 in
theorem parse_any (s : ByteArray) (w : World) (hs : s.size ≤ maxLen) :
    Calls Try.prog 33 #[.string s] w fun e w' => ∃ v D, e = .returned (.tuple #[v, .agg #[.int .i64 (parseR s.data.toList).pl, .int .i64 (parseR s.data.toList).pc], .int .i64 (parseR s.data.toList).err]) ∧
      BksD w' D v (parseR s.data.toList).l ∧ (∀ k, D k → w.heap.size ≤ k ∧ k < w'.heap.size) ∧ Below w.heap.size w w' := by
  have hmf : ∀ (fn : Fn) (first cap : Array Value) (w : World), (Instr.makeFunc fn first cap).run Try.prog w = .ok (.func fn first cap) w := fun _ _ _ _ => rfl
  have hz0 := ((StA.new w [.slice none 0 0] 51).below ((Below.refl _ _).alloc (Nat.le_refl _) (.cells #[.int .i64 0, .int .i64 0] 24))).below ((Below.refl _ _).alloc (Nat.le_refl _) (.cells #[.int .i64 0] 25))
  have hz1 := (StA.new (w.alloc (.cells #[.slice none 0 0] 51)) [.int .i64 0, .int .i64 0] 24).below ((Below.refl _ _).alloc (Nat.le_refl _) (.cells #[.int .i64 0] 25))
  have hz2 := StA.new ((w.alloc (.cells #[.slice none 0 0] 51)).alloc (.cells #[.int .i64 0, .int .i64 0] 24)) [.int .i64 0] 25
  have hB0 := (((Below.refl w.heap.size w).alloc (Nat.le_refl _) (.cells #[.slice none 0 0] 51)).alloc (by simp) (.cells #[.int .i64 0, .int .i64 0] 24)).alloc (by simp; omega) (.cells #[.int .i64 0] 25)
  rw [World.size_alloc] at hz1 hz2
  rw [World.size_alloc] at hz2
  have HZ0 := Lib.hid hz0
  have HZ1 := Lib.hid hz1
  have HZ2 := Lib.hid hz2
  have HB0 := Lib.hid hB0
  clear hz0 hz1 hz2 hB0
  go_enter_defers Try.func33, Try.ntmps33
  go_wp2_with fail
  refine (scan_any s _ hs).mono ?_
  rintro e w1 ⟨v, r, hr, rfl, hown, hb1⟩
  have hlen : r.toks.length ≤ 65536 := by rw [hr]; exact scanR_len _
  obtain ⟨A, cp, rfl⟩ := own_form hown
  have HR := Lib.hid hr
  clear hr
  have HO := Lib.hid hown
  have HB1 := Lib.hid (HB0.out.trans (hb1.mono HB0.out.size))
  have h0 := HZ0.out.below hb1
  have h1 := HZ1.out.below hb1
  have h2 := HZ2.out.below hb1
  have hs1 := hb1.size
  simp only [World.size_alloc] at hs1
  have H0 := Lib.hid h0
  have H1 := Lib.hid h1
  have H2 := Lib.hid h2
  have c0 := h0.c 0 _ rfl
  have c1 := h1.c 0 _ rfl
  have c2 := h1.c 1 _ rfl
  have c3 := h2.c 0 _ rfl
  have f0 := h0.f 0
  have f1 := h1.f 0
  have f2 := h1.f 1
  have f3 := h2.f 0
  clear hown hb1 h0 h1 h2 HZ0 HZ1 HZ2 HB0
  have n1 : ¬ w.heap.size + 1 = w.heap.size := by omega
  have n2 : ¬ w.heap.size + 1 + 1 = w.heap.size := by omega
  have n3 : ¬ w.heap.size + 1 + 1 = w.heap.size + 1 := by omega
  by_cases he : r.err = 0
  · go_wp2_with fail
    go_loopg [] (r.toks.length + 1) (fun n wr => ∃ acc rr v D, rr.length < n ∧ PaS w1.heap.size w.heap.size w r.pl r.pc r.toks wr acc rr v D)
    case atStart =>
      have hb : w.heap.size + 1 + 1 < w1.heap.size := by omega
      have ho := ownsRow_setCell_below (ownsRow_setCell_below (ownsRow_setCell_below HO.out (a := ⟨w.heap.size + 1, 0, none⟩) (by simp) (.int .i64 r.pl)) (a := ⟨w.heap.size + 1, 1, none⟩) (by simp) (.int .i64 r.pc)) (a := ⟨w.heap.size + 1 + 1, 0, none⟩) (by simp) (.int .i64 0)
      have hsz : (((w1.setCell ⟨w.heap.size + 1, 0, none⟩ (.int .i64 r.pl)).setCell ⟨w.heap.size + 1, 1, none⟩ (.int .i64 r.pc)).setCell ⟨w.heap.size + 1 + 1, 0, none⟩ (.int .i64 0)).heap.size = w1.heap.size := by simp [World.setCell]
      have hal := (Below.refl _ (((w1.setCell ⟨w.heap.size + 1, 0, none⟩ (.int .i64 r.pl)).setCell ⟨w.heap.size + 1, 1, none⟩ (.int .i64 r.pc)).setCell ⟨w.heap.size + 1 + 1, 0, none⟩ (.int .i64 0))).alloc (Nat.le_refl _) (.cells #[.slice A r.toks.length cp, .int .i64 0] 71)
      have hnew := StA.new (((w1.setCell ⟨w.heap.size + 1, 0, none⟩ (.int .i64 r.pl)).setCell ⟨w.heap.size + 1, 1, none⟩ (.int .i64 r.pc)).setCell ⟨w.heap.size + 1 + 1, 0, none⟩ (.int .i64 0)) [.slice A r.toks.length cp, .int .i64 0] 71
      rw [hsz] at hnew
      refine ⟨[], r.toks, .slice none 0 0, fun _ => False, by omega, ?_⟩
      exact
        { pr := ⟨r.toks, 0, ⟨_, hnew.c 0 _ rfl, hnew.c 1 _ rfl, hnew.f, Reads.of_own (ownsRow_below ho hal), by omega, hlen, fun g off n cap e => (HO.out.lt g (by rw [e]; rfl)).2⟩, rfl⟩
          st := (((H0.out.far _ _ n1).far _ _ n1).far _ _ n2).below hal
          z1 := (((H1.out.set 0 (.int .i64 r.pl) (by simp)).set 1 (.int .i64 r.pc) (by simp)).far _ _ n3).below hal
          z2 := (((H2.out.far _ _ (fun e => n3 e.symm)).far _ _ (fun e => n3 e.symm)).set 0 (.int .i64 0) (by simp)).below hal
          row := BldR.nil _ _ _ _ _ _
          gr := ((((HB1.out.setCell (p := ⟨w.heap.size + 1, 0, none⟩) (by simp) (.int .i64 r.pl))).setCell (p := ⟨w.heap.size + 1, 1, none⟩) (by simp) (.int .i64 r.pc)).setCell (p := ⟨w.heap.size + 1 + 1, 0, none⟩) (by show w.heap.size ≤ w.heap.size + 1 + 1; omega) (.int .i64 0)).alloc (by rw [hsz]; omega) _
          vp := preK_nil _
          len := by simp; omega
          dd := fun k h => h.elim
          b1 := hb
          b4 := rfl }
    case round =>
      obtain ⟨acc, rr, v, D, hn, HQ⟩ := hrel
      have HQ := Lib.hid HQ
      obtain ⟨l, at_, ⟨pv, p0, p1, p2, p3, p4, p5, p6⟩, hdr⟩ := HQ.out.pr
      obtain ⟨A3, cp3, rfl⟩ : ∃ A c, pv = .slice A l.length c := by
        obtain ⟨_, _, h | ⟨g, off, cap, h, _⟩⟩ := p3
        · exact ⟨none, 0, by rw [h.1, h.2]⟩
        · exact ⟨_, _, h⟩
      have P3 := Lib.hid p3
      have HDR := Lib.hid hdr
      clear p3 p6 hdr H0 H1 H2 HO c0 c1 c2 c3 f0 f1 f2 f3
      by_cases hlt : at_ < l.length
      · go_wp2_with fail
        go_region
        go_wp2_with fail
        have hne : rr ≠ [] := fun e => by
          have h1 := HDR.out
          rw [e] at h1
          have h2 := congrArg List.length h1
          rw [List.length_drop] at h2
          simp at h2; omega
        have HQ6 := Lib.hid (HQ.out.below ((Below.refl _ _).drew.drew))
        have hlen2 := HQ6.out.len
        have hltp := HQ.out.pr.lt
        obtain ⟨xs, x1, x2, x3⟩ := HQ6.out.row
        have nvb : v.ownBlock ≠ some w.heap.size := fun e => by have := (x2.lt _ e).1; omega
        have m3 : some w1.heap.size ≠ some w.heap.size := fun e => by injection e with e; omega
        cases hc : fundP rr
        · rename_i sx
          refine wp_region_lce (P := Try.prog) [(1, 32, .pointer (some ⟨w1.heap.size, 0, none⟩))] 0 2 31 v _ (fun c w' => c = faultC (hdT sx) ∧ wr.drew.drew.grownBy w' (some w1.heap.size)) (by kernel_rfl) (by kernel_rfl) (by rfl) (by rfl) rfl rfl rfl (by simp only [putsA, List.foldl_cons, List.foldl_nil, Act.put, List.setIfInBounds_toArray, List.set_cons_zero, List.set_cons_succ]; rfl) ?_ ?_ ?_ ?_ ?_
          · skip
            refine ⟨⟨_, rfl, rfl, .inl ⟨by rfl, fun _ _ => by rfl⟩⟩, ?_⟩
            simp only [Act.put, List.setIfInBounds_toArray, List.set_cons_zero, List.set_cons_succ]
            exact trivial
          · have h1 := HQ6.out.st.c 0 _ rfl
            simp [execOp, Act.eval, go_sem, h1]
          · exact ⟨_, _, by simp [execOp, Act.eval, go_sem], (fund_any HQ6.out.pr).mono (fun e w' h => by obtain ⟨q1, q2⟩ := h.no hc; exact ⟨_, q1, rfl, q2⟩)⟩
          · exact ⟨_, _, by simp [execOp, Act.eval, go_sem], (fund_any HQ6.out.pr).mono (fun e w' h => by obtain ⟨q1, q2⟩ := h.no hc; exact ⟨_, q1, rfl, q2⟩)⟩
          · rintro c a' w' hd hsz ht ⟨rfl, hg⟩
            obtain ⟨tm, df⟩ := a'
            simp only at hd hsz ht
            subst hd
            change bodyPostD Try.prog _ _ (Exit.panic (faultC (hdT sx))) _ w'
            have hgg := hg
            have t2 : tm[2]? = some (.pointer (some ⟨w.heap.size, 0, none⟩)) := by rw [ht 2 (by simp)]; rfl
            have t3 : tm[3]? = some (.pointer (some ⟨w.heap.size + 1, 0, none⟩)) := by rw [ht 3 (by simp)]; rfl
            have t4 : tm[4]? = some (.pointer (some ⟨w.heap.size + 1 + 1, 0, none⟩)) := by rw [ht 4 (by simp)]; rfl
            clear ht hsz
            have g0 := HQ6.out.st.grown hg m3
            have g1 := HQ6.out.z1.grown hg (fun e => by injection e with e; omega)
            have g2 := HQ6.out.z2.grown hg (fun e => by injection e with e; omega)
            refine leaves_cons (f := 50) (args := #[.pointer (some ⟨w.heap.size, 0, none⟩), .pointer (some ⟨w.heap.size + 1, 0, none⟩), .pointer (some ⟨w.heap.size + 1 + 1, 0, none⟩)]) (by simp) (by simp [go_sem]) ?_
            refine (catch_panicking w.heap.size (w.heap.size + 1) (w.heap.size + 1 + 1) w.heap.size (hdT sx) [] _ g0 g1 g2 rfl rfl rfl (by omega) (by omega) (Nat.le_refl _)).mono ?_
            rintro e u' w'' ⟨rfl, rfl, e1, e2, e3, e4⟩
            change Leaves _ _ _ _ [] .returning _
            have d0 := e1.c 0 _ rfl
            have d1 := e2.c 0 _ rfl
            have d2 := e2.c 1 _ rfl
            have d3 := e3.c 0 _ rfl
            refine ⟨.tuple #[.slice none 0 0, .agg #[.int .i64 (hdT sx).line, .int .i64 (hdT sx).col], .int .i64 110], by simp [results, Try.results33, go_sem, t2, t3, t4, d0, d1, d2, d3], ?_⟩
            have hvp := HQ6.out.vp
            rw [blocks_bad hne hc] at hvp
            have hpar : parseR s.data.toList = ⟨[], (hdT sx).line, (hdT sx).col, 110⟩ := by
              rw [HR.out] at he hvp
              exact parse_no he (by rw [← hvp]; rfl)
            rw [hpar]
            have hgr := HQ6.out.gr
            have hgs := hgr.size
            have hgB : Below w.heap.size wr.drew.drew w' := ⟨hgg.os, hgg.tape, hgg.output, hgg.size, fun k hk => hgg.block k (by omega) (fun e => by injection e with e; omega)⟩
            exact ⟨_, fun _ => False, rfl, ⟨[], rfl, ⟨rfl, Nat.zero_le _, .inl ⟨rfl, rfl⟩⟩, fun g e => by cases e⟩, fun k h => h.elim, (hgr.trans hgB).trans e4⟩
        · rename_i q
          obtain ⟨c, rr2⟩ := q
          obtain ⟨hvm, hl⟩ := blocks_more (acc := acc) hc
          obtain ⟨i0, hi, hz0, hz1, hz2⟩ := info_parts Try.info75
          refine wp_region_lca (P := Try.prog) [(1, 32, .pointer (some ⟨w1.heap.size, 0, none⟩))] [] (fun _ => []) [] 0 2 3 4 5 31 33 34 35 v _ _ _ (fun _ => True) (fun u W => ∃ A cp A2 cp2, u = .agg #[strV c.name, .slice A c.cls.length cp, .slice A2 c.cbs.length cp2, .int .i64 c.line, .int .i64 c.col] ∧ (∃ E : Nat → Prop, ClsD W E (.slice A c.cls.length cp) c.cls ∧ CbsD W E (.slice A2 c.cbs.length cp2) c.cbs ∧ ∀ k, E k → wr.drew.drew.heap.size ≤ k ∧ k < W.heap.size) ∧ Pr W w1.heap.size rr2 ∧ wr.drew.drew.grownBy W (some w1.heap.size)) csV (w1.heap.size + 1) 75 5 80 acc.length xs i0 (.agg #[.string ByteArray.empty, .slice none 0 0, .slice none 0 0, .int .i64 0, .int .i64 0]) (w.heap.size) 0 _ _ 51 (by kernel_rfl) (by kernel_rfl) (by rfl) (by rfl) (by rfl) (by rfl) (by rfl) ⟨rfl, rfl, rfl, rfl, rfl⟩ ⟨rfl, rfl, rfl, rfl, rfl⟩ (fun _ => rfl) (by intros; simp only [putsA, List.foldl_cons, List.foldl_nil, Act.put, List.setIfInBounds_toArray, List.set_cons_zero, List.set_cons_succ] <;> rfl) (by intros; simp only [putsA, List.foldl_cons, List.foldl_nil, Act.put, List.setIfInBounds_toArray, List.set_cons_zero, List.set_cons_succ] <;> rfl) (by intros; simp only [putsA, List.foldl_cons, List.foldl_nil, Act.put, List.setIfInBounds_toArray, List.set_cons_zero, List.set_cons_succ] <;> rfl) (by intros; simp only [putsA, List.foldl_cons, List.foldl_nil, Act.put, List.setIfInBounds_toArray, List.set_cons_zero, List.set_cons_succ] <;> rfl) (by intros; simp only [putsA, List.foldl_cons, List.foldl_nil, Act.put, List.setIfInBounds_toArray, List.set_cons_zero, List.set_cons_succ] <;> rfl) ?khS ?khSR ?khSA ?khSG ?khSE ?kpre ?km1 ?km2 ?kL0 ?kL2 ?kL3 ?kC1 ?kC2 ?kb1 ?kb2 ?kcs rfl (by intros; rfl) (by intros; rfl) (by kernel_rfl) hi hz0 hz1 hz2 rfl (by decide) ?kh63 ?khbytes ?kown ?kpost ?kst ?kQ
          case khS =>
            exact trivial
          case khSR =>
            exact fun _ _ _ => trivial
          case khSA =>
            exact fun _ _ _ => trivial
          case khSG =>
            exact fun _ _ _ _ => trivial
          case khSE =>
            exact fun _ _ _ => trivial
          case kpre =>
            refine ⟨⟨_, rfl, rfl, .inl ⟨by rfl, fun _ _ => by rfl⟩⟩, ?_⟩
            simp only [Act.put, List.setIfInBounds_toArray, List.set_cons_zero, List.set_cons_succ]
            exact trivial
          case km1 =>
            exact fun _ _ _ => trivial
          case km2 =>
            exact fun _ _ _ => trivial
          case kL0 =>
            have h1 := (HQ6.out.st).c 0 _ rfl
            simp [execOp, Act.eval, go_sem, h1]
          case kL2 =>
            rintro u W ⟨A, cp, A2, cp2, rfl, hrow, hp, hg⟩
            have h1 := (HQ6.out.st.grown hg m3).c 0 _ rfl
            simp [execOp, Act.eval, go_sem, h1]
          case kL3 =>
            rintro u b W o ⟨A, cp, A2, cp2, rfl, hrow, hp, hg⟩
            have h1 := cell_alloc ((HQ6.out.st.grown hg m3).c 0 _ rfl) o
            simp [execOp, Act.eval, go_sem, h1]
          case kC1 =>
            refine GY.call (by simp [execOp, Act.eval, go_sem]) ((fund_any HQ6.out.pr).mono ?_)
            intro e W h
            obtain ⟨⟨u1, u2, E, rfl, hc1, hc2, hE⟩, hp, hg⟩ := h.yes hc
            obtain ⟨A, cp, rfl⟩ := clsD_form hc1
            obtain ⟨A2, cp2, rfl⟩ := cbsD_form hc2
            exact ⟨_, rfl, A, cp, A2, cp2, rfl, ⟨E, hc1, hc2, hE⟩, hp, hg⟩
          case kC2 =>
            refine GY.call (by simp [execOp, Act.eval, go_sem]) ((fund_any HQ6.out.pr).mono ?_)
            intro e W h
            obtain ⟨⟨u1, u2, E, rfl, hc1, hc2, hE⟩, hp, hg⟩ := h.yes hc
            obtain ⟨A, cp, rfl⟩ := clsD_form hc1
            obtain ⟨A2, cp2, rfl⟩ := cbsD_form hc2
            exact ⟨_, rfl, A, cp, A2, cp2, rfl, ⟨E, hc1, hc2, hE⟩, hp, hg⟩
          case kb1 =>
            rintro u W ⟨A, cp, A2, cp2, rfl, hrow, hp, hg⟩
            simp [execOp, Act.eval, go_sem, csV, strV]
          case kb2 =>
            rintro u W ⟨A, cp, A2, cp2, rfl, hrow, hp, hg⟩
            simp [execOp, Act.eval, go_sem, csV, strV]
          case kcs =>
            rintro u W ⟨A, cp, A2, cp2, rfl, hrow, hp, hg⟩
            simp [csV, strV, Value.oneCell']
          case kh63 =>
            exact small_maxLen (by omega)
          case khbytes =>
            omega
          case kown =>
            rintro u W ⟨A, cp, A2, cp2, rfl, hrow, hp, hg⟩
            have hsz := hg.size
            simp only [World.size_drew] at hsz
            have hst := HQ6.out.st.grown hg m3
            exact ⟨x2.kept hg (by cases hv : v.ownBlock with | none => exact .inl rfl | some g => exact .inr fun e => by injection e with e; have := (x2.lt g hv).1; omega), by omega, ⟨_, hst.c 0 _ rfl⟩, hst.f 0, hst.lt, nvb⟩
          case kpost =>
            exact fun _ _ _ => trivial
          case kst =>
            rintro u b g cap W2 ⟨x, hx⟩ hf
            simp only [putsA, List.foldl_cons, List.foldl_nil, Act.put, List.setIfInBounds_toArray, List.set_cons_zero, List.set_cons_succ]
            simp [execOp, Act.eval, go_sem, hx, hf]
          case kQ =>
            rintro u W ⟨A, cp, A2, cp2, rfl, hrow, hp, hg⟩ b g cap W2 h1 h2 h3 h4
            simp only [putsA, List.foldl_cons, List.foldl_nil, Act.put, List.setIfInBounds_toArray, List.set_cons_zero, List.set_cons_succ]
            obtain ⟨E, hc1, hc2, hE⟩ := hrow
            have HN := Lib.hid (HQ6.out.app x1 x2 x3 hc1 hc2 hE hp hg hvm hl h1 h2 h3)
            clear h1 h2 h3 h4 hg hp hc1 hc2 hE
            go_wp2
            go_roundg (gk - 1)
            case rel => exact ⟨_, rr2, _, _, by omega, HN.out⟩
            case measure => omega
      · obtain ⟨xs, x1, x2, x3⟩ := HQ.out.row
        obtain ⟨A4, cp4, rfl⟩ := own_form x2
        have z0 := HQ.out.st.c 0 _ rfl
        have z1 := HQ.out.z1.c 0 _ rfl
        have z2 := HQ.out.z1.c 1 _ rfl
        have z3 := HQ.out.z2.c 0 _ rfl
        have f0 := HQ.out.st.f 0
        have f1 := HQ.out.z1.f 0
        have f2 := HQ.out.z1.f 1
        have f3 := HQ.out.z2.f 0
        clear x1 x2 x3
        go_wp2_with fail
        go_region
        go_wp2_with fail
        have HZ := Lib.hid (And.intro z0 (And.intro f0 f1))
        refine leaves_cons (f := 50) (args := #[.pointer (some ⟨w.heap.size, 0, none⟩), .pointer (some ⟨w.heap.size + 1, 0, none⟩), .pointer (some ⟨w.heap.size + 1 + 1, 0, none⟩)]) (by simp) (by simp [go_sem]) ?_
        refine (catch_idle _ _ _ _).mono ?_
        rintro e u' w'' ⟨rfl, rfl, rfl⟩
        change Leaves _ _ _ _ [] .returning _
        refine ⟨.tuple #[.slice A4 acc.length cp4, .agg #[.int .i64 0, .int .i64 0], .int .i64 0], by simp [results, Try.results33, go_sem, z0, z1, z2, z3, n1, n2, n3], ?_⟩
        have hrr : rr = [] := by rw [← HDR.out]; exact List.drop_eq_nil_of_le (by omega)
        have hvp := HQ.out.vp
        rw [hrr, blocksP_nil] at hvp
        have hpar : parseR s.data.toList = ⟨acc, 0, 0, 0⟩ := by
          rw [HR.out] at he hvp
          exact parse_yes he (by rw [← hvp]; simp [preK])
        rw [hpar]
        have hdd := HQ.out.dd
        have hd0 : ∀ k, D k → k < wr.heap.size := fun k hk => (hdd k hk).2
        have hown : ∀ k, (Value.slice A4 acc.length cp4).ownBlock = some k → w1.heap.size < k ∧ k < wr.heap.size := fun k hk => by
          obtain ⟨xs, _, x2, _⟩ := HQ.out.row
          have := x2.lt _ hk; omega
        have hb0 := HQ.out.b1
        have k1 := HQ.out.row.setAt BkR.up ⟨w.heap.size, 0, none⟩ (.slice A4 acc.length cp4) hd0 (fun h => by have := (hdd _ h).1; simp only at this; omega) (fun h => by have := (hown _ h).1; simp only at this; omega)
        have k2 := k1.setAt BkR.up ⟨w.heap.size + 1, 0, none⟩ (.int .i64 0) (fun k hk => by have := hd0 k hk; simpa [World.setCell] using this) (fun h => by have := (hdd _ h).1; simp only at this; omega) (fun h => by have := (hown _ h).1; simp only at this; omega)
        have k3 := k2.setAt BkR.up ⟨w.heap.size + 1, 1, none⟩ (.int .i64 0) (fun k hk => by have := hd0 k hk; simpa [World.setCell] using this) (fun h => by have := (hdd _ h).1; simp only at this; omega) (fun h => by have := (hown _ h).1; simp only at this; omega)
        have k4 := k3.setAt BkR.up ⟨w.heap.size + 1 + 1, 0, none⟩ (.int .i64 0) (fun k hk => by have := hd0 k hk; simpa [World.setCell] using this) (fun h => by have := (hdd _ h).1; simp only at this; omega) (fun h => by have := (hown _ h).1; simp only at this; omega)
        have hgr := HQ.out.gr
        have hgs := hgr.size
        refine ⟨_, fun k => D k ∨ (Value.slice A4 acc.length cp4).ownBlock = some k, rfl, k4.fin (D' := fun k => D k ∨ (Value.slice A4 acc.length cp4).ownBlock = some k) (fun h hd a c => BkR.up h hd a c) (fun _ => Iff.rfl), ?_, ?_⟩
        · rintro k (hk | hk)
          · have := hdd k hk; simp [World.setCell]; omega
          · have := hown k hk; simp [World.setCell]; omega
        · exact ((((hgr.setCell (p := ⟨w.heap.size, 0, none⟩) (Nat.le_refl _) _).setCell (p := ⟨w.heap.size + 1, 0, none⟩) (by show w.heap.size ≤ w.heap.size + 1; omega) _).setCell (p := ⟨w.heap.size + 1, 1, none⟩) (by show w.heap.size ≤ w.heap.size + 1; omega) _).setCell (p := ⟨w.heap.size + 1 + 1, 0, none⟩) (by show w.heap.size ≤ w.heap.size + 1 + 1; omega) _).drew
  · have HE := Lib.hid he
    go_wp2_with fail
    go_region
    go_wp2_with fail
    have q0 : ¬ w.heap.size = w.heap.size + 1 := by omega
    have q1 : ¬ w.heap.size = w.heap.size + 1 + 1 := by omega
    have q2 : ¬ w.heap.size + 1 = w.heap.size + 1 + 1 := by omega
    have E0 := ((((((H0.out.far ⟨w.heap.size + 1, 0, none⟩ (.int .i64 r.pl) n1).far ⟨w.heap.size + 1, 1, none⟩ (.int .i64 r.pc) n1).far ⟨w.heap.size + 1 + 1, 0, none⟩ (.int .i64 r.err) n2).set 0 (.slice none 0 0) (by simp)).far ⟨w.heap.size + 1, 0, none⟩ (.int .i64 r.pl) n1).far ⟨w.heap.size + 1, 1, none⟩ (.int .i64 r.pc) n1).far ⟨w.heap.size + 1 + 1, 0, none⟩ (.int .i64 r.err) n2
    have E1 := ((((((H1.out.set 0 (.int .i64 r.pl) (by simp)).set 1 (.int .i64 r.pc) (by simp)).far ⟨w.heap.size + 1 + 1, 0, none⟩ (.int .i64 r.err) n3).far ⟨w.heap.size, 0, none⟩ (.slice none 0 0) q0).set 0 (.int .i64 r.pl) (by simp)).set 1 (.int .i64 r.pc) (by simp)).far ⟨w.heap.size + 1 + 1, 0, none⟩ (.int .i64 r.err) n3
    have E2 := ((((((H2.out.far ⟨w.heap.size + 1, 0, none⟩ (.int .i64 r.pl) q2).far ⟨w.heap.size + 1, 1, none⟩ (.int .i64 r.pc) q2).set 0 (.int .i64 r.err) (by simp)).far ⟨w.heap.size, 0, none⟩ (.slice none 0 0) q1).far ⟨w.heap.size + 1, 0, none⟩ (.int .i64 r.pl) q2).far ⟨w.heap.size + 1, 1, none⟩ (.int .i64 r.pc) q2).set 0 (.int .i64 r.err) (by simp)
    have d0 := E0.c 0 _ rfl
    have d1 := E1.c 0 _ rfl
    have d2 := E1.c 1 _ rfl
    have d3 := E2.c 0 _ rfl
    clear c0 c1 c2 c3
    refine ⟨.tuple #[.slice none 0 0, .agg #[.int .i64 r.pl, .int .i64 r.pc], .int .i64 r.err], by simp [results, Try.results33, go_sem, d0, d1, d2, d3], ?_⟩
    have hpar : parseR s.data.toList = ⟨[], r.pl, r.pc, r.err⟩ := by rw [HR.out] at HE ⊢; exact parse_bad HE.out
    rw [hpar]
    refine ⟨_, fun _ => False, rfl, ⟨[], rfl, ⟨rfl, Nat.zero_le _, .inl ⟨rfl, rfl⟩⟩, fun g e => by cases e⟩, fun k h => h.elim, ?_⟩
    exact (((((((HB1.out.setCell (p := ⟨w.heap.size + 1, 0, none⟩) (Nat.le_succ _) _).setCell (p := ⟨w.heap.size + 1, 1, none⟩) (Nat.le_succ _) _).setCell (p := ⟨w.heap.size + 1 + 1, 0, none⟩) (Nat.le_add_right _ 2) _).setCell (p := ⟨w.heap.size, 0, none⟩) (Nat.le_refl _) _).setCell (p := ⟨w.heap.size + 1, 0, none⟩) (Nat.le_succ _) _).setCell (p := ⟨w.heap.size + 1, 1, none⟩) (Nat.le_succ _) _).setCell (p := ⟨w.heap.size + 1 + 1, 0, none⟩) (Nat.le_add_right _ 2) _).drew
end Go.Proofs.Ytjnaeldaajckkaa
