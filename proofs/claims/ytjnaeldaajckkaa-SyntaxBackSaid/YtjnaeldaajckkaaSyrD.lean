/- The reference's parser: class. -/
import Derived.Test.YtjnaeldaajckkaaSyrC
import Derived.BigQuiet
set_option linter.unusedVariables false
set_option linter.unusedSimpArgs false
namespace Go.Proofs.Ytjnaeldaajckkaa
open Go.RowKit Tok Syn

def ckR (nm : List UInt8) (ln cl : Nat) (x : Except (List T) (List Cl × List T)) : Except (List T) (Cb × List T) := match x with
  | .error s => .error s
  | .ok (v, r) => .ok (⟨nm, v, ln, cl⟩, r)
theorem class_ck {l r : List T} {h : List UInt8 × Nat × Nat} (hh : headP l = .ok (h, r)) : classP l = ckR h.1 h.2.1 h.2.2 (preC [] (clsP r)) := by
  rw [classP_of hh, preC_nil]; rfl
theorem clause_cls {r : List T} (h : isW (hdT r) sClass = true) : clauseP r = .error r := by
  apply clauseP_no
  simp only [isW, Bool.and_eq_true] at h
  rw [h.1, bne, h.2]; rfl
/-- the reference's class under construction; x: what it comes to -/
structure RkS (bp b0 b3 : Nat) (w : World) (tv : Value) (L : List T) (x : Except (List T) (Cb × List T)) (nm : List UInt8) (ln cl : Nat) (wr : World) (bad : Bool) (acc : List Cl) (rr : List T) (v : Value) (D : Nat → Prop) : Prop where
  pr : RP wr bp tv L rr bad
  st : StA wr b3 [strV nm, v, .int .i64 ln, .int .i64 cl]
  z : StA wr b0 [strV [], .slice none 0 0, .int .i64 0, .int .i64 0]
  form : ∃ A n cp, v = .slice A n cp
  row : bad = false → BldR wr ClR D (b3 + 1) 81 4 v acc
  gr : w.grownBy wr (some bp)
  vp : x = if bad then .error rr else ckR nm ln cl (preC acc (clsP rr))
  len : bad = false → acc.length + rr.length ≤ 65536
  dd : bad = false → ∀ k, D k → b3 < k ∧ k < wr.heap.size
  b1 : bp < b0
  b2 : b0 < b3
  b4 : b0 = w.heap.size
section
variable {bp b0 b3 : Nat} {w : World} {tv : Value} {L : List T} {x : Except (List T) (Cb × List T)} {nm : List UInt8} {ln cl : Nat} {wr w' W0 W W2 : World} {bad : Bool} {acc : List Cl} {rr rr2 : List T} {v : Value} {D : Nat → Prop}
theorem RkS.below (h : RkS bp b0 b3 w tv L x nm ln cl wr bad acc rr v D) (hb : Below wr.heap.size wr w') : RkS bp b0 b3 w tv L x nm ln cl w' bad acc rr v D where
  pr := h.pr.below hb
  st := h.st.below hb
  z := h.z.below hb
  form := h.form
  row e := (h.row e).below ClR.up hb fun k hk => (h.dd e k hk).2
  gr := grownBy_trans h.gr (grownBy_below hb _)
  vp := h.vp
  len := h.len
  dd e k hk := ⟨(h.dd e k hk).1, Nat.lt_of_lt_of_le (h.dd e k hk).2 hb.size⟩
  b1 := h.b1
  b2 := h.b2
  b4 := h.b4
/-- the parser moved -/
theorem RkS.moved (h : RkS bp b0 b3 w tv L x nm ln cl wr bad acc rr v D) (hg : wr.grownBy w' (some bp)) : StA w' b3 [strV nm, v, .int .i64 ln, .int .i64 cl] ∧ StA w' b0 [strV [], .slice none 0 0, .int .i64 0, .int .i64 0] ∧ w.grownBy w' (some bp) ∧ (bad = false → BldR w' ClR D (b3 + 1) 81 4 v acc) := by
  have h1 := h.b1
  have h2 := h.b2
  refine ⟨h.st.grown hg (fun e => by injection e with e; omega), h.z.grown hg (fun e => by injection e with e; omega), grownBy_trans h.gr hg, fun e => ?_⟩
  refine (h.row e).upg ClR.up hg (fun k hk => (h.dd e k hk).2) (fun g e2 => ?_) (fun _ h => h) (fun _ h => .inl h)
  injection e2 with e2
  subst e2
  refine ⟨fun hk => by have := (h.dd e _ hk).1; omega, fun hv => ?_⟩
  obtain ⟨xs, _, x2, _⟩ := h.row e
  have := (x2.lt _ hv).1
  omega
/-- a clause more -/
theorem RkS.app {xs : List Value} {c : Cl} {A : Option Addr} {cp g cap : Nat} {o : Obj}
    (h : RkS bp b0 b3 w tv L x nm ln cl W0 false acc rr v D) (x1 : CellsR (ClR W0 D) acc xs) (x2 : W0.ownsRow (b3 + 1) 81 4 v acc.length xs) (x3 : ∀ g, v.ownBlock = some g → ¬ D g)
    (ho : W.ownsRow W0.heap.size 9 1 (.slice A c.vals.length cp) c.vals.length (c.vals.map strV)) (hp : RP W bp tv L rr2 false) (hg : W0.grownBy W (some bp))
    (hv : preC acc (clsP rr) = preC (acc ++ [c]) (clsP rr2)) (hl : rr2.length < rr.length)
    (h1 : W2.ownsRow (b3 + 1) 81 4 (.slice (some ⟨g, 0, none⟩) (acc.length + 1) cap) (acc.length + 1) (xs ++ csV (.agg #[strV c.word, .slice A c.vals.length cp, .int .i64 c.line, .int .i64 c.col])))
    (h2 : (W.alloc o).grownBy W2 v.ownBlock) (h3 : v.ownBlock = some g ∨ g = W.heap.size + 1) :
    RkS bp b0 b3 w tv L x nm ln cl (W2.setCell ⟨b3, 1, none⟩ (.slice (some ⟨g, 0, none⟩) (acc.length + 1) cap)) false (acc ++ [c]) rr2 (.slice (some ⟨g, 0, none⟩) (acc.length + 1) cap) (DD D fun k => (Value.slice A c.vals.length cp).ownBlock = some k) := by
  have hsz := hg.size
  have hlt := h.st.lt
  have hb1 := h.b1
  have hb2 := h.b2
  have hdd := h.dd rfl
  have hoW : ∀ k, v.ownBlock = some k → b3 + 1 ≤ k := fun k hk => (x2.lt k hk).1
  have hB1 : Below (b3 + 1) W W2 := ((Below.refl (b3 + 1) W).alloc (by omega) o).grown h2 (by simp; omega) hoW
  have hB : Below b3 W (W2.setCell ⟨b3, 1, none⟩ (.slice (some ⟨g, 0, none⟩) (acc.length + 1) cap)) := (hB1.mono (Nat.le_succ b3)).setCell (p := ⟨b3, 1, none⟩) (Nat.le_refl _) _
  have hd' : ∀ k, DD D (fun k => (Value.slice A c.vals.length cp).ownBlock = some k) k → D k ∨ (W0.heap.size ≤ k ∧ k < W.heap.size) := fun k hk => hk.imp id fun e => ho.lt k e
  have hrow := BldR.round (bx := b3) (fo := 1) (D' := DD D fun k => (Value.slice A c.vals.length cp).ownBlock = some k) (a := c) ClR.up x1 x2 x3 (fun k hk => (hdd k hk).2) hg (fun e => by have := (hdd bp e).1; omega) (by omega) (fun k hk => .inl hk) hd' ⟨_, rfl, .of_own ho fun g e => .inr e⟩ (by omega) (fun e => by
    rcases hd' b3 e with q | q
    · have := (hdd b3 q).1; omega
    · omega) (by omega) h1 h2 h3
  exact
    { pr := hp.above hB (by omega)
      st := ((h.st.grown hg (fun e => by injection e with e; omega)).above hB1 (Nat.lt_succ_self _)).set 1 _ (by simp)
      z := (h.z.grown hg (fun e => by injection e with e; omega)).above hB hb2
      form := ⟨_, _, _, rfl⟩
      row := fun _ => hrow
      gr := grownBy_thenB (grownBy_trans h.gr hg) (hB.mono (by have := h.b4; omega))
      vp := by have := h.vp; rw [if_neg (by simp), hv] at this; rw [if_neg (by simp)]; exact this
      len := fun _ => by have := h.len rfl; simp; omega
      dd := fun _ k hk => by
        have := hB.size
        rcases hd' k hk with q | q
        · have := hdd k q; omega
        · omega
      b1 := hb1
      b2 := hb2
      b4 := h.b4 }
/-- a clause that is wrong -/
theorem RkS.app' {xs : List Value} {g n cap : Nat} {o : Obj} {s : List T}
    (h : RkS bp b0 b3 w tv L x nm ln cl W0 false acc rr v D) (x2 : W0.ownsRow (b3 + 1) 81 4 v acc.length xs)
    (hp : RP W bp tv L s true) (hg : W0.grownBy W (some bp)) (hs : clsP rr = .error s)
    (h2 : (W.alloc o).grownBy W2 v.ownBlock) :
    RkS bp b0 b3 w tv L x nm ln cl (W2.setCell ⟨b3, 1, none⟩ (.slice (some ⟨g, 0, none⟩) n cap)) true acc s (.slice (some ⟨g, 0, none⟩) n cap) D := by
  have hsz := hg.size
  have hlt := h.st.lt
  have hb1 := h.b1
  have hb2 := h.b2
  have hoW : ∀ k, v.ownBlock = some k → b3 + 1 ≤ k := fun k hk => (x2.lt k hk).1
  have hB1 : Below (b3 + 1) W W2 := ((Below.refl (b3 + 1) W).alloc (by omega) o).grown h2 (by simp; omega) hoW
  have hB : Below b3 W (W2.setCell ⟨b3, 1, none⟩ (.slice (some ⟨g, 0, none⟩) n cap)) := (hB1.mono (Nat.le_succ b3)).setCell (p := ⟨b3, 1, none⟩) (Nat.le_refl _) _
  exact
    { pr := hp.above hB (by omega)
      st := ((h.st.grown hg (fun e => by injection e with e; omega)).above hB1 (Nat.lt_succ_self _)).set 1 _ (by simp)
      z := (h.z.grown hg (fun e => by injection e with e; omega)).above hB hb2
      form := ⟨_, _, _, rfl⟩
      row := fun e => by cases e
      gr := grownBy_thenB (grownBy_trans h.gr hg) (hB.mono (by have := h.b4; omega))
      vp := by have := h.vp; rw [if_neg (by simp), hs] at this; rw [if_pos rfl]; exact this
      len := fun e => by cases e
      dd := fun e => by cases e
      b1 := hb1
      b2 := hb2
      b4 := h.b4 }
end
set_option maxRecDepth 100000 in
set_option maxHeartbeats 4000000 in
theorem rclass_any {w : World} {bp : Nat} {tv : Value} {L r : List T} {t : T} (hp : RP w bp tv L (t :: r) false) (hwt : wrd t = true) :
    Calls Try.prog 80 #[.pointer (some ⟨bp, 0, none⟩)] w fun e w' => w.grownBy w' (some bp) ∧
      ∃ (nm : List UInt8) (A : Option Addr) (n cp ln cl : Nat), e = .returned (.agg #[.string ⟨nm.toArray⟩, .slice A n cp, .int .i64 ln, .int .i64 cl]) ∧
        (∀ s, classP (t :: r) = .error s → RP w' bp tv L s true) ∧ (∀ c r', classP (t :: r) = .ok (c, r') → RP w' bp tv L r' false ∧ nm = c.name ∧ ln = c.line ∧ cl = c.col ∧ n = c.cls.length ∧ ∃ D : Nat → Prop, ClsD w' D (.slice A n cp) c.cls ∧ ∀ k, D k → w.heap.size ≤ k ∧ k < w'.heap.size) := by
  have hbp := hp.lt
  have hrl := hp.rl
  have hLl := hp.len
  rw [List.length_cons] at hrl
  have hB0 := (Below.refl w.heap.size w).alloc (Nat.le_refl _) (.cells #[.string ⟨#[]⟩, .slice none 0 0, .int .i64 0, .int .i64 0] 84)
  have HT := Lib.hid (hp.above hB0 hbp)
  have HB0 := Lib.hid hB0
  have HZ0 := Lib.hid (StA.new w [.string ⟨#[]⟩, .slice none 0 0, .int .i64 0, .int .i64 0] 84)
  clear hp hB0
  have hF2 := fld_pos
  go_enter Try.func80, Try.ntmps80
  go_wp2_with fail
  refine (rtok_any HT.out).mono ?_
  rintro e w1 ⟨rfl, hb1⟩
  rw [show tokT (t :: r) false = t from rfl]
  simp only [Tok.T.val]
  have hb01 := HB0.out.trans (hb1.mono HB0.out.size)
  have hs1 := hb1.size
  simp at hs1
  have hal := (Below.refl _ w1).alloc (Nat.le_refl _) (.cells #[.string ⟨#[]⟩, .slice none 0 0, .int .i64 t.line, .int .i64 t.col] 84)
  have HP1 := Lib.hid ((HT.out.below hb1).below hal)
  have HZ1 := Lib.hid ((HZ0.out.below hb1).below hal)
  have HS1 := Lib.hid (StA.new w1 [.string ⟨#[]⟩, .slice none 0 0, .int .i64 t.line, .int .i64 t.col] 84)
  have HB1 := Lib.hid (hb01.trans (hal.mono hb01.size))
  clear hb1 hal hb01 HT HZ0 HB0
  go_wp2_with fail
  refine (rword_any HP1.out).mono ?_
  rintro e w2 ⟨⟨wd, rfl, _⟩, hg2, _, hy2⟩
  have hp2 := hy2 t r rfl (by simp) hwt
  have hs2 := hg2.size
  simp at hs2
  have n3 : some bp ≠ some w1.heap.size := fun e => by injection e with e; omega
  have n0 : some bp ≠ some w.heap.size := fun e => by injection e with e; omega
  have HP2 := Lib.hid hp2
  have HS2 := Lib.hid (HS1.out.grown hg2 n3)
  have HZ2 := Lib.hid (HZ1.out.grown hg2 n0)
  have HG2 := Lib.hid (grownBy_trans (grownBy_below HB1.out (some bp)) hg2)
  clear hg2 hy2 hp2 HP1 HZ1 HS1 HB1
  go_wp2_with fail
  refine (rword_any HP2.out).mono ?_
  rintro e w3 ⟨⟨nm, rfl, hnm⟩, hg3, hn3, hy3⟩
  have hs3 := hg3.size
  have hS3 := HS2.out.grown hg3 n3
  have c0 := hS3.c 0 _ rfl
  have f0 := hS3.f 0
  have HS3 := Lib.hid hS3
  have HZ3 := Lib.hid (HZ2.out.grown hg3 n0)
  have HG3 := Lib.hid (grownBy_trans HG2.out hg3)
  have hb4 : Below w1.heap.size w3 (w3.setCell ⟨w1.heap.size, 0, none⟩ (.string ⟨nm.toArray⟩)) := (Below.refl _ w3).setCell (p := ⟨w1.heap.size, 0, none⟩) (Nat.le_refl _) _
  have nb : w1.heap.size ≠ w.heap.size := by omega
  have HS4 : Hid (StA (w3.setCell ⟨w1.heap.size, 0, none⟩ (.string ⟨nm.toArray⟩)) w1.heap.size [strV nm, .slice none 0 0, .int .i64 t.line, .int .i64 t.col]) := Lib.hid (HS3.out.set 0 (.string ⟨nm.toArray⟩) (by simp))
  have HZ4 := Lib.hid (HZ3.out.far ⟨w1.heap.size, 0, none⟩ (.string ⟨nm.toArray⟩) nb)
  have HG4 := Lib.hid (grownBy_thenB HG3.out (hb4.mono (by omega)))
  have HPS : Hid (∃ rr bad, RP (w3.setCell ⟨w1.heap.size, 0, none⟩ (.string ⟨nm.toArray⟩)) bp tv L rr bad ∧ rr.length ≤ r.length ∧ ((bad = true ∧ classP (t :: r) = .error rr) ∨ (bad = false ∧ ∃ n, r = n :: rr ∧ wrd n = true ∧ nm = n.text))) := by
    refine Lib.hid ?_
    cases hw : wrd (hdT r)
    · exact ⟨r, true, (hn3 hw).above hb4 (by omega), by omega, .inl ⟨rfl, classP_no (headP_no1 hw)⟩⟩
    · obtain ⟨n, r2, rfl⟩ := wrd_cons hw
      exact ⟨r2, false, (hy3 n r2 rfl (by simp) hw).above hb4 (by omega), by simp, .inr ⟨rfl, n, rfl, hw, hnm n r2 rfl (by simp) hw⟩⟩
  clear hg3 hn3 hy3 hS3 hnm HP2 HS2 HZ2 HG2 HS3 HZ3 HG3 hb4
  obtain ⟨rr0, bad0, hp0, hrl0, hor⟩ := HPS.out
  have HP0 := Lib.hid hp0
  have HOR := Lib.hid hor
  clear hp0 hor HPS
  go_wp2_with fail
  refine (rsign_any 123 HP0.out).mono ?_
  rintro e w5 ⟨rfl, hg5, hn5, hy5⟩
  have HS5 := Lib.hid (HS4.out.grown hg5 n3)
  have HZ5 := Lib.hid (HZ4.out.grown hg5 n0)
  have HG5 := Lib.hid (grownBy_trans HG4.out hg5)
  have HPS : Hid (∃ rr bad, RP w5 bp tv L rr bad ∧ rr.length ≤ r.length ∧ classP (t :: r) = if bad then .error rr else ckR nm t.line t.col (preC [] (clsP rr))) := by
    refine Lib.hid ?_
    rcases HOR.out with ⟨rfl, hb⟩ | ⟨rfl, n, rfl, hw, hnm⟩
    · exact ⟨rr0, true, hn5 rfl, hrl0, by rw [if_pos rfl]; exact hb⟩
    · cases hs : sgn (hdT rr0) 123
      · exact ⟨rr0, true, hn5 hs, hrl0, by rw [if_pos rfl]; exact classP_no (headP_no2 hw hs)⟩
      · cases rr0 with
        | nil => rw [sgn_no] at hs; cases hs
        | cons b r3 =>
          refine ⟨r3, false, hy5 b r3 rfl rfl hs, by simp; omega, ?_⟩
          have hs' : sgn b 123 = true := hs
          rw [if_neg (by simp), class_ck (headP_yes (t := t) hw hs'), hnm]
  clear hg5 hn5 hy5 HP0 HOR HS4 HZ4 HG4 c0 f0
  go_wp2
  go_loopg [] (r.length + 2) (fun n wr => ∃ bad acc rr v D, rr.length + (bif bad then 0 else 1) < n ∧ RkS bp w.heap.size w1.heap.size w tv L (classP (t :: r)) nm t.line t.col wr bad acc rr v D)
  case atStart =>
    obtain ⟨rr, bad, hp, hl, hx⟩ := HPS.out
    refine ⟨bad, [], rr, .slice none 0 0, fun _ => False, by cases bad <;> simp <;> omega, ?_⟩
    exact
      { pr := hp
        st := HS5.out
        z := HZ5.out
        form := ⟨_, _, _, rfl⟩
        row := fun _ => BldR.nil _ _ _ _ _ _
        gr := HG5.out
        vp := hx
        len := fun _ => by simp; omega
        dd := fun _ k h => h.elim
        b1 := hbp
        b2 := by omega
        b4 := rfl }
  case round =>
    obtain ⟨bad, acc, rr, v, D, hn, HQ⟩ := hrel
    have HQ := Lib.hid HQ
    clear HS5 HZ5 HG5 HPS
    obtain ⟨A, n0', cp, rfl⟩ := HQ.out.form
    have hlt3 := HQ.out.st.lt
    have hb2 := HQ.out.b2
    have nb3 : ¬ w1.heap.size = w.heap.size := by omega
    have nbp : ¬ w1.heap.size = bp := by omega
    have nbp2 : ¬ bp = w1.heap.size := by omega
    have nbp3 : ¬ w.heap.size = bp := by omega
    have nbp4 : ¬ bp = w.heap.size := by omega
    have q2 := HQ.out.pr.c2
    have hrr := HQ.out.pr.rl
    cases bad
    · have hn : rr.length + 1 < gk := hn
      go_wp2_with fail
      refine (ris_any 5 [125] HQ.out.pr).mono ?_
      rintro e w3 ⟨rfl, hb3⟩
      have HQ3 := Lib.hid (HQ.out.below hb3)
      clear hb3 HQ q2
      rw [show ((tokT rr false).kind == 5 && (tokT rr false).text == [125]) = sgn (hdT rr) 125 from rfl]
      cases hsg : sgn (hdT rr) 125
      · go_wp2_with fail
        refine (ris_any 1 sClass HQ3.out.pr).mono ?_
        rintro e w4 ⟨rfl, hb4⟩
        have HQ4 := Lib.hid (HQ3.out.below hb4)
        clear hb4 HQ3
        rw [show ((tokT rr false).kind == 1 && (tokT rr false).text == sClass) = isW (hdT rr) sClass from rfl]
        cases hwc : isW (hdT rr) sClass
        · have HQ6 := Lib.hid (HQ4.out.below (Below.refl _ _).drew)
          have hlen := HQ6.out.len rfl
          have hlt4 := HQ6.out.st.lt
          rw [World.size_drew] at hlt4
          obtain ⟨xs, x1, x2, x3⟩ := HQ6.out.row rfl
          have nvb : (Value.slice A n0' cp).ownBlock ≠ some w1.heap.size := fun e => by have := (x2.lt _ e).1; omega
          obtain ⟨i0, hi, hz0, hz1, hz2⟩ := info_parts Try.info81
          have hrp : acc.length + 1 ≤ 65537 := by omega
          go_wp2_with fail
          refine wp_region_lca (P := Try.prog) [(0, 31, .pointer (some ⟨w1.heap.size, 1, none⟩)), (2, 33, .pointer (some ⟨bp, 0, none⟩))] [(6, 37, .pointer (some ⟨w1.heap.size, 1, none⟩))] (fun _ => []) [] 1 3 4 5 7 32 34 35 36 (.slice A n0' cp) _ _ _ (fun _ => True) (fun u W => ∃ (wd : List UInt8) (A1 : Option Addr) (n1 cp1 l1 k1 : Nat), u = .agg #[.string ⟨wd.toArray⟩, .slice A1 n1 cp1, .int .i64 l1, .int .i64 k1] ∧ w4.drew.grownBy W (some bp) ∧ (∀ s, clauseP rr = .error s → RP W bp tv L s true) ∧ (∀ c r', clauseP rr = .ok (c, r') → RP W bp tv L r' false ∧ wd = c.word ∧ l1 = c.line ∧ k1 = c.col ∧ n1 = c.vals.length ∧ W.ownsRow w4.drew.heap.size 9 1 (.slice A1 n1 cp1) c.vals.length (c.vals.map strV))) csV (w1.heap.size + 1) 81 4 56 acc.length xs i0 (.agg #[.string ByteArray.empty, .slice none 0 0, .int .i64 0, .int .i64 0]) (w1.heap.size) 1 _ _ 72 (by kernel_rfl) (by kernel_rfl) (by rfl) (by rfl) (by rfl) (by rfl) (by rfl) ⟨rfl, rfl, rfl, rfl, rfl⟩ ⟨rfl, rfl, rfl, rfl, rfl⟩ (fun _ => rfl) (by intros; simp only [putsA, List.foldl_cons, List.foldl_nil, Act.put, List.setIfInBounds_toArray, List.set_cons_zero, List.set_cons_succ] <;> rfl) (by intros; simp only [putsA, List.foldl_cons, List.foldl_nil, Act.put, List.setIfInBounds_toArray, List.set_cons_zero, List.set_cons_succ] <;> rfl) (by intros; simp only [putsA, List.foldl_cons, List.foldl_nil, Act.put, List.setIfInBounds_toArray, List.set_cons_zero, List.set_cons_succ] <;> rfl) (by intros; simp only [putsA, List.foldl_cons, List.foldl_nil, Act.put, List.setIfInBounds_toArray, List.set_cons_zero, List.set_cons_succ] <;> rfl) (by intros; simp only [putsA, List.foldl_cons, List.foldl_nil, Act.put, List.setIfInBounds_toArray, List.set_cons_zero, List.set_cons_succ] <;> rfl) ?khS ?khSR ?khSA ?khSG ?khSE ?kpre ?km1 ?km2 ?kL0 ?kL2 ?kL3 ?kC1 ?kC2 ?kb1 ?kb2 ?kcs rfl (by intros; rfl) (by intros; rfl) (by kernel_rfl) hi hz0 hz1 hz2 rfl (by decide) ?kh63 ?khbytes ?kown ?kpost ?kst ?kQ
          case khS =>
            exact trivial
          case khSR =>
            exact fun _ _ _ => trivial
          case khSA =>
            exact fun _ _ _ => trivial
          case khSG =>
            exact fun _ _ _ _ => trivial
          case khSE =>
            exact fun _ _ _ => trivial
          case kpre =>
            refine ⟨⟨_, rfl, rfl, .inl ⟨by rfl, fun _ _ => by rfl⟩⟩, ?_⟩
            simp only [Act.put, List.setIfInBounds_toArray, List.set_cons_zero, List.set_cons_succ]
            refine ⟨⟨_, rfl, rfl, .inl ⟨by rfl, fun _ _ => by rfl⟩⟩, ?_⟩
            simp only [Act.put, List.setIfInBounds_toArray, List.set_cons_zero, List.set_cons_succ]
            exact trivial
          case km1 =>
            exact fun _ _ _ => trivial
          case km2 =>
            exact fun _ _ _ => trivial
          case kL0 =>
            have h1 := (HQ6.out.st).c 1 _ rfl
            simp [execOp, Act.eval, go_sem, h1]
          case kL2 =>
            rintro u W ⟨wd, A1, n1, cp1, l1, k1, rfl, hg, he, hy⟩
            have h1 := (HQ6.out.st.grown hg n3).c 1 _ rfl
            simp [execOp, Act.eval, go_sem, h1]
          case kL3 =>
            rintro u b W o ⟨wd, A1, n1, cp1, l1, k1, rfl, hg, he, hy⟩
            have h1 := cell_alloc ((HQ6.out.st.grown hg n3).c 1 _ rfl) o
            simp [execOp, Act.eval, go_sem, h1]
          case kC1 =>
            refine GY.call (by simp [execOp, Act.eval, go_sem]) ((rclause_any HQ6.out.pr hwc).mono ?_)
            rintro e W ⟨hg, wd, A1, n1, cp1, l1, k1, rfl, he, hy⟩
            exact ⟨_, rfl, wd, A1, n1, cp1, l1, k1, rfl, hg, he, hy⟩
          case kC2 =>
            refine GY.call (by simp [execOp, Act.eval, go_sem]) ((rclause_any HQ6.out.pr hwc).mono ?_)
            rintro e W ⟨hg, wd, A1, n1, cp1, l1, k1, rfl, he, hy⟩
            exact ⟨_, rfl, wd, A1, n1, cp1, l1, k1, rfl, hg, he, hy⟩
          case kb1 =>
            rintro u W ⟨wd, A1, n1, cp1, l1, k1, rfl, hg, he, hy⟩
            simp [execOp, Act.eval, go_sem, csV, strV]
          case kb2 =>
            rintro u W ⟨wd, A1, n1, cp1, l1, k1, rfl, hg, he, hy⟩
            simp [execOp, Act.eval, go_sem, csV, strV]
          case kcs =>
            rintro u W ⟨wd, A1, n1, cp1, l1, k1, rfl, hg, he, hy⟩
            simp [csV, strV, Value.oneCell']
          case kh63 =>
            exact small_maxLen (by omega)
          case khbytes =>
            omega
          case kown =>
            rintro u W ⟨wd, A1, n1, cp1, l1, k1, rfl, hg, he, hy⟩
            have hsz := hg.size
            rw [World.size_drew] at hsz
            have hst := HQ6.out.st.grown hg n3
            exact ⟨x2.kept hg (by cases hv : (Value.slice A n0' cp).ownBlock with | none => exact .inl rfl | some g => exact .inr fun e => by injection e with e; have := (x2.lt g hv).1; omega), by omega, ⟨_, hst.c 1 _ rfl⟩, hst.f 1, hst.lt, nvb⟩
          case kpost =>
            exact fun _ _ _ => ⟨⟨_, rfl, rfl, .inl ⟨by rfl, fun _ _ => by rfl⟩⟩, trivial⟩
          case kst =>
            rintro u b g cap W2 ⟨x, hx⟩ hf
            simp only [putsA, List.foldl_cons, List.foldl_nil, Act.put, List.setIfInBounds_toArray, List.set_cons_zero, List.set_cons_succ]
            simp [execOp, Act.eval, go_sem, hx, hf]
          case kQ =>
            rintro u W ⟨wd, A1, n1, cp1, l1, k1, rfl, hg, he, hy⟩ b g cap W2 h1 h2 h3 h4
            simp only [putsA, List.foldl_cons, List.foldl_nil, Act.put, List.setIfInBounds_toArray, List.set_cons_zero, List.set_cons_succ]
            cases hc : clauseP rr
            · rename_i s
              have hcb := cls_bad hsg hc
              have hrs : s.length ≤ rr.length := by have h9 := clause_tl rr; rw [hc] at h9; exact List.IsSuffix.length_le h9
              have HN := Lib.hid (HQ6.out.app' (g := g) (n := acc.length + 1) (cap := cap) x2 (he s hc) hg hcb h2)
              clear h1 h2 h3 h4 hg he hy
              go_wp2
              go_roundg (gk - 1)
              case measure => omega
              case rel => exact ⟨true, acc, s, _, _, by show s.length + 0 < gk - 1; omega, HN.out⟩
            · rename_i q
              obtain ⟨c, rr2⟩ := q
              obtain ⟨hvm, hl⟩ := cls_more (acc := acc) hsg hc
              obtain ⟨hp, rfl, rfl, rfl, rfl, hrow⟩ := hy c rr2 hc
              have HN := Lib.hid (HQ6.out.app x1 x2 x3 hrow hp hg hvm hl h1 h2 h3)
              clear h1 h2 h3 h4 hg he hy hp hrow
              go_wp2
              go_roundg (gk - 1)
              case measure => omega
              case rel => exact ⟨false, _, rr2, _, _, by show rr2.length + 1 < gk - 1; omega, HN.out⟩
        · have hcc := clause_cls hwc
          have hcb := cls_bad hsg hcc
          have p2 := HQ4.out.pr.c2
          have fp := HQ4.out.pr.f 2
          have hg6 : World.grownBy _ _ (some bp) := grownBy_setCell (w := w4) ⟨bp, 2, none⟩ rfl (.bool true)
          obtain ⟨hst, hz, hgr, _⟩ := HQ4.out.moved hg6
          have HGR := Lib.hid hgr
          have HP6 := Lib.hid HQ4.out.pr.mark
          have hvp := HQ4.out.vp
          rw [if_neg (by simp), hcb] at hvp
          have HVP := Lib.hid hvp
          clear hgr hg6 hcc hcb hvp
          have c0 := hst.c 0 _ rfl
          have c1 := hst.c 1 _ rfl
          have c2 := hst.c 2 _ rfl
          have c3 := hst.c 3 _ rfl
          simp only [strV] at c0
          have z0 := hz.c 0 _ rfl
          have z1 := hz.c 1 _ rfl
          have z2 := hz.c 2 _ rfl
          have z3 := hz.c 3 _ rfl
          have f0 := hz.f 0
          have f1 := hz.f 1
          have f2 := hz.f 2
          have f3 := hz.f 3
          clear hst hz
          go_wp2
          have hBel := ((((Below.refl w.heap.size (w4.setCell ⟨bp, 2, none⟩ (.bool true))).setCell (p := ⟨w.heap.size, 0, none⟩) (Nat.le_refl _) (.string ⟨nm.toArray⟩)).setCell (p := ⟨w.heap.size, 1, none⟩) (Nat.le_refl _) (.slice A n0' cp)).setCell (p := ⟨w.heap.size, 2, none⟩) (Nat.le_refl _) (.int .i64 t.line)).setCell (p := ⟨w.heap.size, 3, none⟩) (Nat.le_refl _) (.int .i64 t.col)
          refine bodyPost_ret (v := .agg #[.string ⟨nm.toArray⟩, .slice A n0' cp, .int .i64 t.line, .int .i64 t.col]) (by simp [results, Try.results80, go_sem, z0, z1, z2, z3, nb3, nbp, nbp2, nbp3, nbp4]) rfl ?_
          refine ⟨grownBy_thenB HGR.out hBel, nm, A, n0', cp, t.line, t.col, rfl, ?_⟩
          rw [HVP.out]
          refine ⟨fun s h => ?_, fun c r' h => by cases h⟩
          cases h
          exact HP6.out.above hBel hbp
      · obtain ⟨q, r2, rfl, hv⟩ := cls_end hsg
        go_wp2_with fail
        refine (rsign_any 125 HQ3.out.pr).mono ?_
        rintro e w4 ⟨rfl, hg4, _, hy4⟩
        have hp4 := hy4 q r2 rfl rfl hsg
        have hvp := HQ3.out.vp
        rw [if_neg (by simp), hv] at hvp
        have HVP := Lib.hid hvp
        obtain ⟨hst, hz, hgr, hrow⟩ := HQ3.out.moved hg4
        have HGR := Lib.hid hgr
        have HP6 := Lib.hid hp4
        have HROW := Lib.hid (hrow rfl)
        have hdd := HQ3.out.dd rfl
        have hg4s := hg4.size
        have HDD : Hid (∀ k, D k → w1.heap.size < k ∧ k < w4.heap.size) := Lib.hid fun k hk => by have := hdd k hk; omega
        clear hy4 hv hsg hvp hgr hrow hdd hg4 hp4
        have c0 := hst.c 0 _ rfl
        have c1 := hst.c 1 _ rfl
        have c2 := hst.c 2 _ rfl
        have c3 := hst.c 3 _ rfl
        simp only [strV] at c0
        have z0 := hz.c 0 _ rfl
        have z1 := hz.c 1 _ rfl
        have z2 := hz.c 2 _ rfl
        have z3 := hz.c 3 _ rfl
        have f0 := hz.f 0
        have f1 := hz.f 1
        have f2 := hz.f 2
        have f3 := hz.f 3
        clear hst hz
        go_wp2
        have hBel := ((((Below.refl w.heap.size (w4)).setCell (p := ⟨w.heap.size, 0, none⟩) (Nat.le_refl _) (.string ⟨nm.toArray⟩)).setCell (p := ⟨w.heap.size, 1, none⟩) (Nat.le_refl _) (.slice A n0' cp)).setCell (p := ⟨w.heap.size, 2, none⟩) (Nat.le_refl _) (.int .i64 t.line)).setCell (p := ⟨w.heap.size, 3, none⟩) (Nat.le_refl _) (.int .i64 t.col)
        refine bodyPost_ret (v := .agg #[.string ⟨nm.toArray⟩, .slice A n0' cp, .int .i64 t.line, .int .i64 t.col]) (by simp [results, Try.results80, go_sem, z0, z1, z2, z3, nb3, nbp, nbp2, nbp3, nbp4]) rfl ?_
        refine ⟨grownBy_thenB HGR.out hBel, nm, A, n0', cp, t.line, t.col, rfl, ?_⟩
        rw [HVP.out]
        refine ⟨fun s h => (by cases h), fun c r' h => ?_⟩
        cases h
        simp only [List.append_nil]
        have hdd := HDD.out
        have hd0 : ∀ k, D k → k < w4.heap.size := fun k hk => (hdd k hk).2
        have hown : ∀ k, (Value.slice A n0' cp).ownBlock = some k → w1.heap.size < k ∧ k < w4.heap.size := fun k hk => by
          obtain ⟨xs, _, x2, _⟩ := HROW.out
          have := x2.lt _ hk; omega
        have hnlen : n0' = acc.length := by
          obtain ⟨xs, _, x2, _⟩ := HROW.out
          obtain ⟨A9, c9, h9⟩ := own_form x2
          injection h9
        have k1 := HROW.out.setAt ClR.up ⟨w.heap.size, 0, none⟩ (.string ⟨nm.toArray⟩) hd0 (fun h => by have := (hdd _ h).1; simp only at this; omega) (fun h => by have := (hown _ h).1; simp only at this; omega)
        have k2 := k1.setAt ClR.up ⟨w.heap.size, 1, none⟩ (.slice A n0' cp) (fun k hk => by have := hd0 k hk; simpa [World.setCell] using this) (fun h => by have := (hdd _ h).1; simp only at this; omega) (fun h => by have := (hown _ h).1; simp only at this; omega)
        have k3 := k2.setAt ClR.up ⟨w.heap.size, 2, none⟩ (.int .i64 t.line) (fun k hk => by have := hd0 k hk; simpa [World.setCell] using this) (fun h => by have := (hdd _ h).1; simp only at this; omega) (fun h => by have := (hown _ h).1; simp only at this; omega)
        have k4 := k3.setAt ClR.up ⟨w.heap.size, 3, none⟩ (.int .i64 t.col) (fun k hk => by have := hd0 k hk; simpa [World.setCell] using this) (fun h => by have := (hdd _ h).1; simp only at this; omega) (fun h => by have := (hown _ h).1; simp only at this; omega)
        refine ⟨HP6.out.above hBel hbp, by simp, by simp, by simp, by simpa using hnlen, DD D fun k => (Value.slice A n0' cp).ownBlock = some k, ?_, ?_⟩
        · exact k4.fin (D' := DD D fun k => (Value.slice A n0' cp).ownBlock = some k) (fun h hd a c => ClR.up h hd a c) (fun _ => Iff.rfl)
        · rintro k (hk | hk)
          · have := hdd k hk; simp [World.setCell]; omega
          · have := hown k hk; simp [World.setCell]; omega
    · go_wp2_with fail
      refine (rsign_any 125 HQ.out.pr).mono ?_
      rintro e w4 ⟨rfl, hg4, hn4, _⟩
      have hp4 := hn4 rfl
      have hvp := HQ.out.vp
      rw [if_pos rfl] at hvp
      have HVP := Lib.hid hvp
      obtain ⟨hst, hz, hgr, _⟩ := HQ.out.moved hg4
      have HGR := Lib.hid hgr
      have HP6 := Lib.hid hp4
      clear hn4 hvp q2 hgr hg4 hp4
      have c0 := hst.c 0 _ rfl
      have c1 := hst.c 1 _ rfl
      have c2 := hst.c 2 _ rfl
      have c3 := hst.c 3 _ rfl
      simp only [strV] at c0
      have z0 := hz.c 0 _ rfl
      have z1 := hz.c 1 _ rfl
      have z2 := hz.c 2 _ rfl
      have z3 := hz.c 3 _ rfl
      have f0 := hz.f 0
      have f1 := hz.f 1
      have f2 := hz.f 2
      have f3 := hz.f 3
      clear hst hz
      go_wp2
      have hBel := ((((Below.refl w.heap.size (w4)).setCell (p := ⟨w.heap.size, 0, none⟩) (Nat.le_refl _) (.string ⟨nm.toArray⟩)).setCell (p := ⟨w.heap.size, 1, none⟩) (Nat.le_refl _) (.slice A n0' cp)).setCell (p := ⟨w.heap.size, 2, none⟩) (Nat.le_refl _) (.int .i64 t.line)).setCell (p := ⟨w.heap.size, 3, none⟩) (Nat.le_refl _) (.int .i64 t.col)
      refine bodyPost_ret (v := .agg #[.string ⟨nm.toArray⟩, .slice A n0' cp, .int .i64 t.line, .int .i64 t.col]) (by simp [results, Try.results80, go_sem, z0, z1, z2, z3, nb3, nbp, nbp2, nbp3, nbp4]) rfl ?_
      refine ⟨grownBy_thenB HGR.out hBel, nm, A, n0', cp, t.line, t.col, rfl, ?_⟩
      rw [HVP.out]
      refine ⟨fun s h => ?_, fun c r' h => by cases h⟩
      cases h
      exact HP6.out.above hBel hbp
end Go.Proofs.Ytjnaeldaajckkaa
