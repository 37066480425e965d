/- The reference's parser: fund. -/
import Derived.Test.YtjnaeldaajckkaaSyrD
import Derived.BigQuiet
set_option linter.unusedVariables false
set_option linter.unusedSimpArgs false
namespace Go.Proofs.Ytjnaeldaajckkaa
open Go.RowKit Tok Syn

def fuR (nm : List UInt8) (ln cl : Nat) (x : Except (List T) ((List Cl × List Cb) × List T)) : Except (List T) (Bk × List T) := match x with
  | .error s => .error s
  | .ok (p, r) => .ok (⟨nm, p.1, p.2, ln, cl⟩, r)
theorem fund_fu {t : T} {r r1 : List T} {h : List UInt8 × Nat × Nat} (hw : isW t sFund = true) (hh : headP (t :: r) = .ok (h, r1)) : fundP (t :: r) = fuR h.1 h.2.1 h.2.2 (preB [] [] (bodyP r1)) := by
  rw [fundP_of hw hh, preB_nil]; rfl
/-- the reference's fund under construction; x: what it comes to -/
structure RfS (bp b0 b3 : Nat) (w : World) (tv : Value) (L : List T) (x : Except (List T) (Bk × List T)) (nm : List UInt8) (ln cl : Nat) (wr : World) (bad : Bool) (a : List Cl) (b : List Cb) (rr : List T) (v1 v2 : Value) (D : Nat → Prop) : Prop where
  pr : RP wr bp tv L rr bad
  st : StA wr b3 [strV nm, v1, v2, .int .i64 ln, .int .i64 cl]
  z : StA wr b0 [strV [], .slice none 0 0, .slice none 0 0, .int .i64 0, .int .i64 0]
  form1 : ∃ A n cp, v1 = .slice A n cp
  form2 : ∃ A n cp, v2 = .slice A n cp
  row1 : bad = false → BldR wr ClR D (b3 + 1) 81 4 v1 a
  row2 : bad = false → BldR wr CbR D (b3 + 1) 84 4 v2 b
  ne : bad = false → ∀ g, v1.ownBlock = some g → v2.ownBlock ≠ some g
  gr : w.grownBy wr (some bp)
  vp : x = if bad then .error rr else fuR nm ln cl (preB a b (bodyP rr))
  len : bad = false → a.length + b.length + rr.length ≤ 65536
  dd : bad = false → ∀ k, D k → b3 < k ∧ k < wr.heap.size
  b1 : bp < b0
  b2 : b0 < b3
  b4 : b0 = w.heap.size
section
variable {bp b0 b3 : Nat} {w : World} {tv : Value} {L : List T} {x : Except (List T) (Bk × List T)} {nm : List UInt8} {ln cl : Nat} {wr w' W0 W W2 : World} {bad : Bool} {a : List Cl} {b : List Cb} {rr rr2 : List T} {v1 v2 : Value} {D : Nat → Prop}
theorem RfS.own1 (h : RfS bp b0 b3 w tv L x nm ln cl wr false a b rr v1 v2 D) {g : Nat} (hg : v1.ownBlock = some g) : b3 < g ∧ g < wr.heap.size ∧ ¬ D g := by
  obtain ⟨xs, _, h2, h3⟩ := h.row1 rfl
  exact ⟨(h2.lt g hg).1, (h2.lt g hg).2, h3 g hg⟩
theorem RfS.own2 (h : RfS bp b0 b3 w tv L x nm ln cl wr false a b rr v1 v2 D) {g : Nat} (hg : v2.ownBlock = some g) : b3 < g ∧ g < wr.heap.size ∧ ¬ D g := by
  obtain ⟨xs, _, h2, h3⟩ := h.row2 rfl
  exact ⟨(h2.lt g hg).1, (h2.lt g hg).2, h3 g hg⟩
theorem RfS.below (h : RfS bp b0 b3 w tv L x nm ln cl wr bad a b rr v1 v2 D) (hb : Below wr.heap.size wr w') : RfS bp b0 b3 w tv L x nm ln cl w' bad a b rr v1 v2 D where
  pr := h.pr.below hb
  st := h.st.below hb
  z := h.z.below hb
  form1 := h.form1
  form2 := h.form2
  row1 e := (h.row1 e).below ClR.up hb fun k hk => (h.dd e k hk).2
  row2 e := (h.row2 e).below CbR.up hb fun k hk => (h.dd e k hk).2
  ne := h.ne
  gr := grownBy_trans h.gr (grownBy_below hb _)
  vp := h.vp
  len := h.len
  dd e k hk := ⟨(h.dd e k hk).1, Nat.lt_of_lt_of_le (h.dd e k hk).2 hb.size⟩
  b1 := h.b1
  b2 := h.b2
  b4 := h.b4
/-- the parser moved -/
theorem RfS.moved (h : RfS bp b0 b3 w tv L x nm ln cl wr bad a b rr v1 v2 D) (hg : wr.grownBy w' (some bp)) : StA w' b3 [strV nm, v1, v2, .int .i64 ln, .int .i64 cl] ∧ StA w' b0 [strV [], .slice none 0 0, .slice none 0 0, .int .i64 0, .int .i64 0] ∧ w.grownBy w' (some bp) ∧ (bad = false → BldR w' ClR D (b3 + 1) 81 4 v1 a ∧ BldR w' CbR D (b3 + 1) 84 4 v2 b) := by
  have h1 := h.b1
  have h2 := h.b2
  refine ⟨h.st.grown hg (fun e => by injection e with e; omega), h.z.grown hg (fun e => by injection e with e; omega), grownBy_trans h.gr hg, fun e => ?_⟩
  subst e
  refine ⟨(h.row1 rfl).upg ClR.up hg (fun k hk => (h.dd rfl k hk).2) (fun g e2 => ?_) (fun _ h => h) (fun _ h => .inl h), (h.row2 rfl).upg CbR.up hg (fun k hk => (h.dd rfl k hk).2) (fun g e2 => ?_) (fun _ h => h) (fun _ h => .inl h)⟩
  all_goals
    injection e2 with e2
    subst e2
  · exact ⟨fun hk => by have := (h.dd rfl _ hk).1; omega, fun hv => by have := (h.own1 hv).1; omega⟩
  · exact ⟨fun hk => by have := (h.dd rfl _ hk).1; omega, fun hv => by have := (h.own2 hv).1; omega⟩
theorem RfS.app1 {xs : List Value} {c : Cl} {A : Option Addr} {cp g cap : Nat} {o : Obj}
    (h : RfS bp b0 b3 w tv L x nm ln cl W0 false a b rr v1 v2 D) (x1 : CellsR (ClR W0 D) a xs) (x2 : W0.ownsRow (b3 + 1) 81 4 v1 a.length xs)
    (ho : W.ownsRow W0.heap.size 9 1 (.slice A c.vals.length cp) c.vals.length (c.vals.map strV)) (hp : RP W bp tv L rr2 false) (hg : W0.grownBy W (some bp))
    (hv : preB a b (bodyP rr) = preB (a ++ [c]) b (bodyP rr2)) (hl : rr2.length < rr.length)
    (h1 : W2.ownsRow (b3 + 1) 81 4 (.slice (some ⟨g, 0, none⟩) (a.length + 1) cap) (a.length + 1) (xs ++ csV (.agg #[strV c.word, .slice A c.vals.length cp, .int .i64 c.line, .int .i64 c.col])))
    (h2 : (W.alloc o).grownBy W2 v1.ownBlock) (h3 : v1.ownBlock = some g ∨ g = W.heap.size + 1) :
    RfS bp b0 b3 w tv L x nm ln cl (W2.setCell ⟨b3, 1, none⟩ (.slice (some ⟨g, 0, none⟩) (a.length + 1) cap)) false (a ++ [c]) b rr2 (.slice (some ⟨g, 0, none⟩) (a.length + 1) cap) v2 (DD D (fun k => (Value.slice A c.vals.length cp).ownBlock = some k)) := by
  have hsz := hg.size
  have hlt := h.st.lt
  have hb1 := h.b1
  have hb2 := h.b2
  have hdd := h.dd rfl
  have x3 : ∀ g, v1.ownBlock = some g → ¬ D g := fun g e => (h.own1 e).2.2
  have hB1 : Below (b3 + 1) W W2 := ((Below.refl (b3 + 1) W).alloc (by omega) o).grown h2 (by simp; omega) (fun k hk => (h.own1 hk).1)
  have hB : Below b3 W (W2.setCell ⟨b3, 1, none⟩ (.slice (some ⟨g, 0, none⟩) (a.length + 1) cap)) := (hB1.mono (Nat.le_succ b3)).setCell (p := ⟨b3, 1, none⟩) (Nat.le_refl _) _
  have hd' : ∀ k, DD D (fun k => (Value.slice A c.vals.length cp).ownBlock = some k) k → D k ∨ (W0.heap.size ≤ k ∧ k < W.heap.size) := fun k hk => hk.imp id fun e => ho.lt k e
  have nbp : ¬ D bp := fun e => by have := (hdd bp e).1; omega
  have nb3 : ¬ DD D (fun k => (Value.slice A c.vals.length cp).ownBlock = some k) b3 := fun e => by
    rcases hd' b3 e with q | q
    · have := (hdd b3 q).1; omega
    · omega
  have hrow := BldR.round (bx := b3) (fo := 1) (D' := DD D (fun k => (Value.slice A c.vals.length cp).ownBlock = some k)) (a := c) ClR.up x1 x2 x3 (fun k hk => (hdd k hk).2) hg nbp (by omega) (fun k hk => .inl hk) hd' ⟨_, rfl, .of_own ho fun g e => .inr e⟩ (by omega) nb3 (by omega) h1 h2 h3
  have hrow2 := BldR.other (bx := b3) (fo := 1) (u := (.slice (some ⟨g, 0, none⟩) (a.length + 1) cap)) (D' := DD D (fun k => (Value.slice A c.vals.length cp).ownBlock = some k)) CbR.up (h.row2 rfl) (fun k hk => (hdd k hk).2) hg nbp (by omega) (fun k hk => .inl hk) hd' nb3 (by omega) h2 (fun k e => ⟨fun q => by
    have := h.own1 e
    rcases hd' k q with q | q
    · exact this.2.2 q
    · omega, h.ne rfl k e⟩)
  exact
    { pr := hp.above hB (by omega)
      st := ((h.st.grown hg (fun e => by injection e with e; omega)).above hB1 (Nat.lt_succ_self _)).set 1 _ (by simp)
      z := (h.z.grown hg (fun e => by injection e with e; omega)).above hB hb2
      form1 := ⟨_, _, _, rfl⟩
      form2 := h.form2
      row1 := fun _ => hrow
      row2 := fun _ => hrow2
      ne := fun _ k e q => by
        simp only [Value.ownBlock, Option.some.injEq] at e
        subst e
        rcases h3 with e | e
        · exact h.ne rfl _ e q
        · have := (h.own2 q).2.1; omega
      gr := grownBy_thenB (grownBy_trans h.gr hg) (hB.mono (by have := h.b4; omega))
      vp := by have := h.vp; rw [if_neg (by simp), hv] at this; rw [if_neg (by simp)]; exact this
      len := fun _ => by have := h.len rfl; simp; omega
      dd := fun _ k hk => by
        have := hB.size
        rcases hd' k hk with q | q
        · have := hdd k q; omega
        · omega
      b1 := hb1
      b2 := hb2
      b4 := h.b4 }
theorem RfS.app1' {xs : List Value} {g n cap : Nat} {o : Obj} {s : List T}
    (h : RfS bp b0 b3 w tv L x nm ln cl W0 false a b rr v1 v2 D) (hp : RP W bp tv L s true) (hg : W0.grownBy W (some bp)) (hs : bodyP rr = .error s) (h2 : (W.alloc o).grownBy W2 v1.ownBlock) :
    RfS bp b0 b3 w tv L x nm ln cl (W2.setCell ⟨b3, 1, none⟩ (.slice (some ⟨g, 0, none⟩) n cap)) true a b s (.slice (some ⟨g, 0, none⟩) n cap) v2 D := by
  have hsz := hg.size
  have hlt := h.st.lt
  have hb1 := h.b1
  have hb2 := h.b2
  have hB1 : Below (b3 + 1) W W2 := ((Below.refl (b3 + 1) W).alloc (by omega) o).grown h2 (by simp; omega) (fun k hk => (h.own1 hk).1)
  have hB : Below b3 W (W2.setCell ⟨b3, 1, none⟩ (.slice (some ⟨g, 0, none⟩) n cap)) := (hB1.mono (Nat.le_succ b3)).setCell (p := ⟨b3, 1, none⟩) (Nat.le_refl _) _
  exact
    { pr := hp.above hB (by omega)
      st := ((h.st.grown hg (fun e => by injection e with e; omega)).above hB1 (Nat.lt_succ_self _)).set 1 _ (by simp)
      z := (h.z.grown hg (fun e => by injection e with e; omega)).above hB hb2
      form1 := ⟨_, _, _, rfl⟩
      form2 := h.form2
      row1 := fun e => by cases e
      row2 := fun e => by cases e
      ne := fun e => by cases e
      gr := grownBy_thenB (grownBy_trans h.gr hg) (hB.mono (by have := h.b4; omega))
      vp := by have := h.vp; rw [if_neg (by simp), hs] at this; rw [if_pos rfl]; exact this
      len := fun e => by cases e
      dd := fun e => by cases e
      b1 := hb1
      b2 := hb2
      b4 := h.b4 }
theorem RfS.app2 {xs : List Value} {c : Cb} {u : Value} {E : Nat → Prop} {g cap : Nat} {o : Obj}
    (h : RfS bp b0 b3 w tv L x nm ln cl W0 false a b rr v1 v2 D) (x1 : CellsR (CbR W0 D) b xs) (x2 : W0.ownsRow (b3 + 1) 84 4 v2 b.length xs)
    (hc : ClsD W E u c.cls) (hE : ∀ k, E k → W0.heap.size ≤ k ∧ k < W.heap.size) (hp : RP W bp tv L rr2 false) (hg : W0.grownBy W (some bp))
    (hv : preB a b (bodyP rr) = preB a (b ++ [c]) (bodyP rr2)) (hl : rr2.length < rr.length)
    (h1 : W2.ownsRow (b3 + 1) 84 4 (.slice (some ⟨g, 0, none⟩) (b.length + 1) cap) (b.length + 1) (xs ++ csV (.agg #[strV c.name, u, .int .i64 c.line, .int .i64 c.col])))
    (h2 : (W.alloc o).grownBy W2 v2.ownBlock) (h3 : v2.ownBlock = some g ∨ g = W.heap.size + 1) :
    RfS bp b0 b3 w tv L x nm ln cl (W2.setCell ⟨b3, 2, none⟩ (.slice (some ⟨g, 0, none⟩) (b.length + 1) cap)) false a (b ++ [c]) rr2 v1 (.slice (some ⟨g, 0, none⟩) (b.length + 1) cap) (DD D E) := by
  have hsz := hg.size
  have hlt := h.st.lt
  have hb1 := h.b1
  have hb2 := h.b2
  have hdd := h.dd rfl
  have x3 : ∀ g, v2.ownBlock = some g → ¬ D g := fun g e => (h.own2 e).2.2
  have hB1 : Below (b3 + 1) W W2 := ((Below.refl (b3 + 1) W).alloc (by omega) o).grown h2 (by simp; omega) (fun k hk => (h.own2 hk).1)
  have hB : Below b3 W (W2.setCell ⟨b3, 2, none⟩ (.slice (some ⟨g, 0, none⟩) (b.length + 1) cap)) := (hB1.mono (Nat.le_succ b3)).setCell (p := ⟨b3, 2, none⟩) (Nat.le_refl _) _
  have hd' : ∀ k, DD D E k → D k ∨ (W0.heap.size ≤ k ∧ k < W.heap.size) := fun k hk => hk.imp id fun e => hE k e
  have nbp : ¬ D bp := fun e => by have := (hdd bp e).1; omega
  have nb3 : ¬ DD D E b3 := fun e => by
    rcases hd' b3 e with q | q
    · have := (hdd b3 q).1; omega
    · omega
  have hrow := BldR.round (bx := b3) (fo := 2) (D' := DD D E) (a := c) CbR.up x1 x2 x3 (fun k hk => (hdd k hk).2) hg nbp (by omega) (fun k hk => .inl hk) hd' ⟨_, rfl, hc.up (KeepsD.refl _ _) fun k hk => .inr hk⟩ (by omega) nb3 (by omega) h1 h2 h3
  have hrow2 := BldR.other (bx := b3) (fo := 2) (u := (.slice (some ⟨g, 0, none⟩) (b.length + 1) cap)) (D' := DD D E) ClR.up (h.row1 rfl) (fun k hk => (hdd k hk).2) hg nbp (by omega) (fun k hk => .inl hk) hd' nb3 (by omega) h2 (fun k e => ⟨fun q => by
    have := h.own2 e
    rcases hd' k q with q | q
    · exact this.2.2 q
    · omega, fun e2 => h.ne rfl k e2 e⟩)
  exact
    { pr := hp.above hB (by omega)
      st := ((h.st.grown hg (fun e => by injection e with e; omega)).above hB1 (Nat.lt_succ_self _)).set 2 _ (by simp)
      z := (h.z.grown hg (fun e => by injection e with e; omega)).above hB hb2
      form1 := h.form1
      form2 := ⟨_, _, _, rfl⟩
      row1 := fun _ => hrow2
      row2 := fun _ => hrow
      ne := fun _ k e q => by
        simp only [Value.ownBlock, Option.some.injEq] at q
        subst q
        rcases h3 with q | q
        · exact h.ne rfl _ e q
        · have := (h.own1 e).2.1; omega
      gr := grownBy_thenB (grownBy_trans h.gr hg) (hB.mono (by have := h.b4; omega))
      vp := by have := h.vp; rw [if_neg (by simp), hv] at this; rw [if_neg (by simp)]; exact this
      len := fun _ => by have := h.len rfl; simp; omega
      dd := fun _ k hk => by
        have := hB.size
        rcases hd' k hk with q | q
        · have := hdd k q; omega
        · omega
      b1 := hb1
      b2 := hb2
      b4 := h.b4 }
theorem RfS.app2' {xs : List Value} {g n cap : Nat} {o : Obj} {s : List T}
    (h : RfS bp b0 b3 w tv L x nm ln cl W0 false a b rr v1 v2 D) (hp : RP W bp tv L s true) (hg : W0.grownBy W (some bp)) (hs : bodyP rr = .error s) (h2 : (W.alloc o).grownBy W2 v2.ownBlock) :
    RfS bp b0 b3 w tv L x nm ln cl (W2.setCell ⟨b3, 2, none⟩ (.slice (some ⟨g, 0, none⟩) n cap)) true a b s v1 (.slice (some ⟨g, 0, none⟩) n cap) D := by
  have hsz := hg.size
  have hlt := h.st.lt
  have hb1 := h.b1
  have hb2 := h.b2
  have hB1 : Below (b3 + 1) W W2 := ((Below.refl (b3 + 1) W).alloc (by omega) o).grown h2 (by simp; omega) (fun k hk => (h.own2 hk).1)
  have hB : Below b3 W (W2.setCell ⟨b3, 2, none⟩ (.slice (some ⟨g, 0, none⟩) n cap)) := (hB1.mono (Nat.le_succ b3)).setCell (p := ⟨b3, 2, none⟩) (Nat.le_refl _) _
  exact
    { pr := hp.above hB (by omega)
      st := ((h.st.grown hg (fun e => by injection e with e; omega)).above hB1 (Nat.lt_succ_self _)).set 2 _ (by simp)
      z := (h.z.grown hg (fun e => by injection e with e; omega)).above hB hb2
      form1 := h.form1
      form2 := ⟨_, _, _, rfl⟩
      row1 := fun e => by cases e
      row2 := fun e => by cases e
      ne := fun e => by cases e
      gr := grownBy_thenB (grownBy_trans h.gr hg) (hB.mono (by have := h.b4; omega))
      vp := by have := h.vp; rw [if_neg (by simp), hs] at this; rw [if_pos rfl]; exact this
      len := fun e => by cases e
      dd := fun e => by cases e
      b1 := hb1
      b2 := hb2
      b4 := h.b4 }
end
set_option maxRecDepth 100000 in
set_option maxHeartbeats 4000000 in
theorem rfund_any {w : World} {bp : Nat} {tv : Value} {L r : List T} (hp : RP w bp tv L r false) :
    Calls Try.prog 52 #[.pointer (some ⟨bp, 0, none⟩)] w fun e w' => w.grownBy w' (some bp) ∧
      ∃ (nm : List UInt8) (A : Option Addr) (n cp : Nat) (A2 : Option Addr) (n2 cp2 ln cl : Nat), e = .returned (.agg #[.string ⟨nm.toArray⟩, .slice A n cp, .slice A2 n2 cp2, .int .i64 ln, .int .i64 cl]) ∧
        (∀ s, fundP r = .error s → RP w' bp tv L s true) ∧ (∀ c r', fundP r = .ok (c, r') → RP w' bp tv L r' false ∧ nm = c.name ∧ ln = c.line ∧ cl = c.col ∧ n = c.cls.length ∧ n2 = c.cbs.length ∧ ∃ D : Nat → Prop, ClsD w' D (.slice A n cp) c.cls ∧ CbsD w' D (.slice A2 n2 cp2) c.cbs ∧ ∀ k, D k → w.heap.size ≤ k ∧ k < w'.heap.size) := by
  have hbp := hp.lt
  have hrl := hp.rl
  have hLl := hp.len
  have hB0 := (Below.refl w.heap.size w).alloc (Nat.le_refl _) (.cells #[.string ⟨#[]⟩, .slice none 0 0, .slice none 0 0, .int .i64 0, .int .i64 0] 75)
  have HT := Lib.hid (hp.above hB0 hbp)
  have HB0 := Lib.hid hB0
  have HZ0 := Lib.hid (StA.new w [.string ⟨#[]⟩, .slice none 0 0, .slice none 0 0, .int .i64 0, .int .i64 0] 75)
  clear hp hB0
  have hF2 := fld_pos
  go_enter Try.func52, Try.ntmps52
  go_wp2_with fail
  refine (rtok_any HT.out).mono ?_
  rintro e w1 ⟨rfl, hb1⟩
  rw [show tokT r false = hdT r from rfl]
  simp only [Tok.T.val]
  have hb01 := HB0.out.trans (hb1.mono HB0.out.size)
  have hs1 := hb1.size
  simp at hs1
  have hal := (Below.refl _ w1).alloc (Nat.le_refl _) (.cells #[.string ⟨#[]⟩, .slice none 0 0, .slice none 0 0, .int .i64 (hdT r).line, .int .i64 (hdT r).col] 75)
  have HP1 := Lib.hid ((HT.out.below hb1).below hal)
  have HZ1 := Lib.hid ((HZ0.out.below hb1).below hal)
  have HS1 := Lib.hid (StA.new w1 [.string ⟨#[]⟩, .slice none 0 0, .slice none 0 0, .int .i64 (hdT r).line, .int .i64 (hdT r).col] 75)
  have HB1 := Lib.hid (hb01.trans (hal.mono hb01.size))
  have nb3 : ¬ w1.heap.size = w.heap.size := by omega
  have nbp : ¬ w1.heap.size = bp := by omega
  have nbp2 : ¬ bp = w1.heap.size := by omega
  have nbp3 : ¬ w.heap.size = bp := by omega
  have nbp4 : ¬ bp = w.heap.size := by omega
  have n3 : some bp ≠ some w1.heap.size := fun e => by injection e with e; omega
  have n0 : some bp ≠ some w.heap.size := fun e => by injection e with e; omega
  clear hb1 hal hb01 HT HZ0 HB0
  go_wp2_with fail
  refine (ris_any 1 sFund HP1.out).mono ?_
  rintro e w2 ⟨rfl, hb2⟩
  rw [show ((tokT r false).kind == 1 && (tokT r false).text == sFund) = isW (hdT r) sFund from rfl]
  have HP2 := Lib.hid (HP1.out.below hb2)
  have HZ2 := Lib.hid (HZ1.out.below hb2)
  have HS2 := Lib.hid (HS1.out.below hb2)
  have HB2 := Lib.hid (HB1.out.trans (hb2.mono HB1.out.size))
  have hs2 := hb2.size
  simp at hs2
  clear hb2 HP1 HZ1 HS1 HB1
  cases hwf : isW (hdT r) sFund
  · have p2 := HP2.out.c2
    have fp := HP2.out.f 2
    have hst := HS2.out.far ⟨bp, 2, none⟩ (.bool true) nbp2
    have hz := HZ2.out.far ⟨bp, 2, none⟩ (.bool true) nbp4
    have HP6 := Lib.hid HP2.out.mark
    have HGR : Hid (w.grownBy (w2.setCell ⟨bp, 2, none⟩ (.bool true)) (some bp)) := Lib.hid (grownBy_trans (grownBy_below HB2.out (some bp)) (grownBy_setCell ⟨bp, 2, none⟩ rfl _))
    have HWF := Lib.hid hwf
    have c0 := hst.c 0 _ rfl
    have c1 := hst.c 1 _ rfl
    have c2 := hst.c 2 _ rfl
    have c3 := hst.c 3 _ rfl
    have c4 := hst.c 4 _ rfl
    have z0 := hz.c 0 _ rfl
    have z1 := hz.c 1 _ rfl
    have z2 := hz.c 2 _ rfl
    have z3 := hz.c 3 _ rfl
    have z4 := hz.c 4 _ rfl
    have f0 := hz.f 0
    have f1 := hz.f 1
    have f2 := hz.f 2
    have f3 := hz.f 3
    have f4 := hz.f 4
    clear hst hz
    go_wp2
    have hBel := (((((Below.refl w.heap.size (w2.setCell ⟨bp, 2, none⟩ (.bool true))).setCell (p := ⟨w.heap.size, 0, none⟩) (Nat.le_refl _) (.string ⟨#[]⟩)).setCell (p := ⟨w.heap.size, 1, none⟩) (Nat.le_refl _) (.slice none 0 0)).setCell (p := ⟨w.heap.size, 2, none⟩) (Nat.le_refl _) (.slice none 0 0)).setCell (p := ⟨w.heap.size, 3, none⟩) (Nat.le_refl _) (.int .i64 (hdT r).line)).setCell (p := ⟨w.heap.size, 4, none⟩) (Nat.le_refl _) (.int .i64 (hdT r).col)
    refine bodyPost_ret (v := .agg #[.string ⟨#[]⟩, (.slice none 0 0), (.slice none 0 0), .int .i64 (hdT r).line, .int .i64 (hdT r).col]) (by simp [results, Try.results52, go_sem, z0, z1, z2, z3, z4, nb3, nbp, nbp2, nbp3, nbp4]) rfl ?_
    refine ⟨grownBy_thenB HGR.out hBel, [], none, 0, 0, none, 0, 0, (hdT r).line, (hdT r).col, rfl, ?_⟩
    rw [fundP_no HWF.out]
    refine ⟨fun s h => ?_, fun c r' h => by cases h⟩
    cases h
    exact HP6.out.above hBel hbp
  · have hwt : wrd (hdT r) = true := by simp only [isW, Bool.and_eq_true] at hwf; exact hwf.1
    obtain ⟨t, r, rfl⟩ := wrd_cons hwt
    rw [show hdT (t :: r) = t from rfl] at *
    rw [List.length_cons] at hrl
    have HWF := Lib.hid hwf
    go_wp2_with fail
    refine (rword_any HP2.out).mono ?_
    rintro e w3 ⟨⟨wd, rfl, _⟩, hg2, _, hy2⟩
    have hp3 := hy2 t r rfl rfl hwt
    have hs3 := hg2.size
    have HP3 := Lib.hid hp3
    have HS3 := Lib.hid (HS2.out.grown hg2 n3)
    have HZ3 := Lib.hid (HZ2.out.grown hg2 n0)
    have HG3 := Lib.hid (grownBy_trans (grownBy_below HB2.out (some bp)) hg2)
    clear hg2 hy2 hp3 HP2 HZ2 HS2 HB2 hwt
    go_wp2_with fail
    refine (rword_any HP3.out).mono ?_
    rintro e w4 ⟨⟨nm, rfl, hnm⟩, hg3, hn3, hy3⟩
    have hs4 := hg3.size
    have hS4 := HS3.out.grown hg3 n3
    have c0 := hS4.c 0 _ rfl
    have f0 := hS4.f 0
    have hZ4 := HZ3.out.grown hg3 n0
    have hG4 := grownBy_trans HG3.out hg3
    have hb4 : Below w1.heap.size w4 (w4.setCell ⟨w1.heap.size, 0, none⟩ (.string ⟨nm.toArray⟩)) := (Below.refl _ w4).setCell (p := ⟨w1.heap.size, 0, none⟩) (Nat.le_refl _) _
    have HS5 : Hid (StA (w4.setCell ⟨w1.heap.size, 0, none⟩ (.string ⟨nm.toArray⟩)) w1.heap.size [strV nm, .slice none 0 0, .slice none 0 0, .int .i64 t.line, .int .i64 t.col]) := Lib.hid (hS4.set 0 (.string ⟨nm.toArray⟩) (by simp))
    have HZ5 := Lib.hid (hZ4.far ⟨w1.heap.size, 0, none⟩ (.string ⟨nm.toArray⟩) nb3)
    have HG5 := Lib.hid (grownBy_thenB hG4 (hb4.mono (by omega)))
    have HPS : Hid (∃ rr bad, RP (w4.setCell ⟨w1.heap.size, 0, none⟩ (.string ⟨nm.toArray⟩)) bp tv L rr bad ∧ rr.length ≤ r.length ∧ ((bad = true ∧ fundP (t :: r) = .error rr) ∨ (bad = false ∧ ∃ n, r = n :: rr ∧ wrd n = true ∧ nm = n.text))) := by
      refine Lib.hid ?_
      cases hw : wrd (hdT r)
      · exact ⟨r, true, (hn3 hw).above hb4 (by omega), by omega, .inl ⟨rfl, fundP_no2 HWF.out (headP_no1 hw)⟩⟩
      · obtain ⟨n, r2, rfl⟩ := wrd_cons hw
        exact ⟨r2, false, (hy3 n r2 rfl (by simp) hw).above hb4 (by omega), by simp, .inr ⟨rfl, n, rfl, hw, hnm n r2 rfl (by simp) hw⟩⟩
    clear hg3 hn3 hy3 hS4 hZ4 hG4 hnm HP3 HS3 HZ3 HG3 hb4
    obtain ⟨rr0, bad0, hp0, hrl0, hor⟩ := HPS.out
    have HP0 := Lib.hid hp0
    have HOR := Lib.hid hor
    clear hp0 hor HPS hwf
    go_wp2_with fail
    refine (rsign_any 123 HP0.out).mono ?_
    rintro e w5 ⟨rfl, hg5, hn5, hy5⟩
    have HS6 := Lib.hid (HS5.out.grown hg5 n3)
    have HZ6 := Lib.hid (HZ5.out.grown hg5 n0)
    have HG6 := Lib.hid (grownBy_trans HG5.out hg5)
    have HPS : Hid (∃ rr bad, RP w5 bp tv L rr bad ∧ rr.length ≤ r.length ∧ fundP (t :: r) = if bad then .error rr else fuR nm t.line t.col (preB [] [] (bodyP rr))) := by
      refine Lib.hid ?_
      rcases HOR.out with ⟨rfl, hb⟩ | ⟨rfl, n, rfl, hw, hnm⟩
      · exact ⟨rr0, true, hn5 rfl, hrl0, by rw [if_pos rfl]; exact hb⟩
      · cases hs : sgn (hdT rr0) 123
        · exact ⟨rr0, true, hn5 hs, hrl0, by rw [if_pos rfl]; exact fundP_no2 HWF.out (headP_no2 hw hs)⟩
        · cases rr0 with
          | nil => rw [sgn_no] at hs; cases hs
          | cons b r3 =>
            have hs' : sgn b 123 = true := hs
            refine ⟨r3, false, hy5 b r3 rfl rfl hs, by simp; omega, ?_⟩
            rw [if_neg (by simp), fund_fu HWF.out (headP_yes (t := t) hw hs'), hnm]
    clear hg5 hn5 hy5 HP0 HOR HS5 HZ5 HG5 c0 f0
    go_wp2
    go_loopg [] (r.length + 2) (fun n wr => ∃ bad a b rr v1 v2 D, rr.length + (bif bad then 0 else 1) < n ∧ RfS bp w.heap.size w1.heap.size w tv L (fundP (t :: r)) nm t.line t.col wr bad a b rr v1 v2 D)
    case atStart =>
      obtain ⟨rr, bad, hp, hl, hx⟩ := HPS.out
      refine ⟨bad, [], [], rr, .slice none 0 0, .slice none 0 0, fun _ => False, by cases bad <;> simp <;> omega, ?_⟩
      exact
        { pr := hp
          st := HS6.out
          z := HZ6.out
          form1 := ⟨_, _, _, rfl⟩
          form2 := ⟨_, _, _, rfl⟩
          row1 := fun _ => BldR.nil _ _ _ _ _ _
          row2 := fun _ => BldR.nil _ _ _ _ _ _
          ne := fun _ g e => by cases e
          gr := HG6.out
          vp := hx
          len := fun _ => by simp; omega
          dd := fun _ k h => h.elim
          b1 := hbp
          b2 := by omega
          b4 := rfl }
    case round =>
      obtain ⟨bad, a, b, rr, v1, v2, D, hn, HQ⟩ := hrel
      have HQ := Lib.hid HQ
      clear HS6 HZ6 HG6 HPS
      obtain ⟨A, n0', cp, rfl⟩ := HQ.out.form1
      obtain ⟨A2, n2', cp2, rfl⟩ := HQ.out.form2
      have hlt3 := HQ.out.st.lt
      have hb2 := HQ.out.b2
      have q2 := HQ.out.pr.c2
      have hrr := HQ.out.pr.rl
      cases bad
      · have hn : rr.length + 1 < gk := hn
        go_wp2_with fail
        refine (ris_any 5 [125] HQ.out.pr).mono ?_
        rintro e w3 ⟨rfl, hb3⟩
        have HQ3 := Lib.hid (HQ.out.below hb3)
        clear hb3 HQ q2
        rw [show ((tokT rr false).kind == 5 && (tokT rr false).text == [125]) = sgn (hdT rr) 125 from rfl]
        cases hsg : sgn (hdT rr) 125
        · go_wp2_with fail
          refine (ris_any 1 sClass HQ3.out.pr).mono ?_
          rintro e w4 ⟨rfl, hb4⟩
          have HQ4 := Lib.hid (HQ3.out.below hb4)
          clear hb4 HQ3
          rw [show ((tokT rr false).kind == 1 && (tokT rr false).text == sClass) = isW (hdT rr) sClass from rfl]
          have HQ6 := Lib.hid (HQ4.out.below (Below.refl _ _).drew)
          have hlen := HQ6.out.len rfl
          have hlt4 := HQ6.out.st.lt
          rw [World.size_drew] at hlt4
          have hrp : a.length + b.length + 1 ≤ 65537 := by omega
          cases hwc : isW (hdT rr) sClass
          · obtain ⟨xs, x1, x2, x3⟩ := HQ6.out.row1 rfl
            have nvb : (Value.slice A n0' cp).ownBlock ≠ some w1.heap.size := fun e => by have := (x2.lt _ e).1; omega
            obtain ⟨i0, hi, hz0, hz1, hz2⟩ := info_parts Try.info81
            go_wp2_with fail
            refine wp_region_lca (P := Try.prog) [(0, 41, .pointer (some ⟨w1.heap.size, 1, none⟩)), (2, 43, .pointer (some ⟨bp, 0, none⟩))] [(6, 47, .pointer (some ⟨w1.heap.size, 1, none⟩))] (fun _ => []) [] 1 3 4 5 7 42 44 45 46 (.slice A n0' cp) _ _ _ (fun _ => True) (fun u W => ∃ (wd : List UInt8) (A1 : Option Addr) (n1 cp1 l1 k1 : Nat), u = .agg #[.string ⟨wd.toArray⟩, .slice A1 n1 cp1, .int .i64 l1, .int .i64 k1] ∧ w4.drew.grownBy W (some bp) ∧ (∀ s, clauseP rr = .error s → RP W bp tv L s true) ∧ (∀ c r', clauseP rr = .ok (c, r') → RP W bp tv L r' false ∧ wd = c.word ∧ l1 = c.line ∧ k1 = c.col ∧ n1 = c.vals.length ∧ W.ownsRow w4.drew.heap.size 9 1 (.slice A1 n1 cp1) c.vals.length (c.vals.map strV))) csV (w1.heap.size + 1) 81 4 56 a.length xs i0 (.agg #[.string ByteArray.empty, .slice none 0 0, .int .i64 0, .int .i64 0]) (w1.heap.size) 1 _ _ 72 (by kernel_rfl) (by kernel_rfl) (by rfl) (by rfl) (by rfl) (by rfl) (by rfl) ⟨rfl, rfl, rfl, rfl, rfl⟩ ⟨rfl, rfl, rfl, rfl, rfl⟩ (fun _ => rfl) (by intros; simp only [putsA, List.foldl_cons, List.foldl_nil, Act.put, List.setIfInBounds_toArray, List.set_cons_zero, List.set_cons_succ] <;> rfl) (by intros; simp only [putsA, List.foldl_cons, List.foldl_nil, Act.put, List.setIfInBounds_toArray, List.set_cons_zero, List.set_cons_succ] <;> rfl) (by intros; simp only [putsA, List.foldl_cons, List.foldl_nil, Act.put, List.setIfInBounds_toArray, List.set_cons_zero, List.set_cons_succ] <;> rfl) (by intros; simp only [putsA, List.foldl_cons, List.foldl_nil, Act.put, List.setIfInBounds_toArray, List.set_cons_zero, List.set_cons_succ] <;> rfl) (by intros; simp only [putsA, List.foldl_cons, List.foldl_nil, Act.put, List.setIfInBounds_toArray, List.set_cons_zero, List.set_cons_succ] <;> rfl) ?khS ?khSR ?khSA ?khSG ?khSE ?kpre ?km1 ?km2 ?kL0 ?kL2 ?kL3 ?kC1 ?kC2 ?kb1 ?kb2 ?kcs rfl (by intros; rfl) (by intros; rfl) (by kernel_rfl) hi hz0 hz1 hz2 rfl (by decide) ?kh63 ?khbytes ?kown ?kpost ?kst ?kQ
            case khS =>
              exact trivial
            case khSR =>
              exact fun _ _ _ => trivial
            case khSA =>
              exact fun _ _ _ => trivial
            case khSG =>
              exact fun _ _ _ _ => trivial
            case khSE =>
              exact fun _ _ _ => trivial
            case kpre =>
              refine ⟨⟨_, rfl, rfl, .inl ⟨by rfl, fun _ _ => by rfl⟩⟩, ?_⟩
              simp only [Act.put, List.setIfInBounds_toArray, List.set_cons_zero, List.set_cons_succ]
              refine ⟨⟨_, rfl, rfl, .inl ⟨by rfl, fun _ _ => by rfl⟩⟩, ?_⟩
              simp only [Act.put, List.setIfInBounds_toArray, List.set_cons_zero, List.set_cons_succ]
              exact trivial
            case km1 =>
              exact fun _ _ _ => trivial
            case km2 =>
              exact fun _ _ _ => trivial
            case kL0 =>
              have h1 := (HQ6.out.st).c 1 _ rfl
              simp [execOp, Act.eval, go_sem, h1]
            case kL2 =>
              rintro u W ⟨wd, A1, n1, cp1, l1, k1, rfl, hg, he, hy⟩
              have h1 := (HQ6.out.st.grown hg n3).c 1 _ rfl
              simp [execOp, Act.eval, go_sem, h1]
            case kL3 =>
              rintro u b W o ⟨wd, A1, n1, cp1, l1, k1, rfl, hg, he, hy⟩
              have h1 := cell_alloc ((HQ6.out.st.grown hg n3).c 1 _ rfl) o
              simp [execOp, Act.eval, go_sem, h1]
            case kC1 =>
              refine GY.call (by simp [execOp, Act.eval, go_sem]) ((rclause_any HQ6.out.pr hwc).mono ?_)
              rintro e W ⟨hg, wd, A1, n1, cp1, l1, k1, rfl, he, hy⟩
              exact ⟨_, rfl, wd, A1, n1, cp1, l1, k1, rfl, hg, he, hy⟩
            case kC2 =>
              refine GY.call (by simp [execOp, Act.eval, go_sem]) ((rclause_any HQ6.out.pr hwc).mono ?_)
              rintro e W ⟨hg, wd, A1, n1, cp1, l1, k1, rfl, he, hy⟩
              exact ⟨_, rfl, wd, A1, n1, cp1, l1, k1, rfl, hg, he, hy⟩
            case kb1 =>
              rintro u W ⟨wd, A1, n1, cp1, l1, k1, rfl, hg, he, hy⟩
              simp [execOp, Act.eval, go_sem, csV, strV]
            case kb2 =>
              rintro u W ⟨wd, A1, n1, cp1, l1, k1, rfl, hg, he, hy⟩
              simp [execOp, Act.eval, go_sem, csV, strV]
            case kcs =>
              rintro u W ⟨wd, A1, n1, cp1, l1, k1, rfl, hg, he, hy⟩
              simp [csV, strV, Value.oneCell']
            case kh63 =>
              exact small_maxLen (by omega)
            case khbytes =>
              omega
            case kown =>
              rintro u W ⟨wd, A1, n1, cp1, l1, k1, rfl, hg, he, hy⟩
              have hsz := hg.size
              rw [World.size_drew] at hsz
              have hst := HQ6.out.st.grown hg n3
              exact ⟨x2.kept hg (by cases hv : (Value.slice A n0' cp).ownBlock with | none => exact .inl rfl | some g => exact .inr fun e => by injection e with e; have := (x2.lt g hv).1; omega), by omega, ⟨_, hst.c 1 _ rfl⟩, hst.f 1, hst.lt, nvb⟩
            case kpost =>
              exact fun _ _ _ => ⟨⟨_, rfl, rfl, .inl ⟨by rfl, fun _ _ => by rfl⟩⟩, trivial⟩
            case kst =>
              rintro u b g cap W2 ⟨x, hx⟩ hf
              simp only [putsA, List.foldl_cons, List.foldl_nil, Act.put, List.setIfInBounds_toArray, List.set_cons_zero, List.set_cons_succ]
              simp [execOp, Act.eval, go_sem, hx, hf]
            case kQ =>
              rintro u W ⟨wd, A1, n1, cp1, l1, k1, rfl, hg, he, hy⟩ bq g cap W2 h1 h2 h3 h4
              simp only [putsA, List.foldl_cons, List.foldl_nil, Act.put, List.setIfInBounds_toArray, List.set_cons_zero, List.set_cons_succ]
              cases hc : clauseP rr
              · rename_i s
                have hcb := body_bad1 hsg hwc hc
                have hrs : s.length ≤ rr.length := by have h9 := clause_tl rr; rw [hc] at h9; exact List.IsSuffix.length_le h9
                have HN := Lib.hid (HQ6.out.app1' (xs := xs) (g := g) (n := a.length + 1) (cap := cap) (he s hc) hg hcb h2)
                clear h1 h2 h3 h4 hg he hy
                go_wp2
                go_roundg (gk - 1)
                case measure => omega
                case rel => exact ⟨true, a, b, s, _, _, _, by show s.length + 0 < gk - 1; omega, HN.out⟩
              · rename_i q
                obtain ⟨c, rr2⟩ := q
                obtain ⟨hvm, hl⟩ := body_more1 (a := a) (b := b) hsg hwc hc
                obtain ⟨hp, rfl, rfl, rfl, rfl, hrow⟩ := hy c rr2 hc
                have HN := Lib.hid (HQ6.out.app1 x1 x2 hrow hp hg hvm hl h1 h2 h3)
                clear h1 h2 h3 h4 hg he hy hp hrow
                go_wp2
                go_roundg (gk - 1)
                case measure => omega
                case rel => exact ⟨false, _, _, rr2, _, _, _, by show rr2.length + 1 < gk - 1; omega, HN.out⟩
          · obtain ⟨xs, x1, x2, x3⟩ := HQ6.out.row2 rfl
            have nvb : (Value.slice A2 n2' cp2).ownBlock ≠ some w1.heap.size := fun e => by have := (x2.lt _ e).1; omega
            obtain ⟨i0, hi, hz0, hz1, hz2⟩ := info_parts Try.info84
            have hwk : wrd (hdT rr) = true := by simp only [isW, Bool.and_eq_true] at hwc; exact hwc.1
            obtain ⟨tq, rq, hrq⟩ := wrd_cons hwk
            have HRQ := Lib.hid hrq
            have HQC := HQ6.out.pr
            rw [hrq] at HQC
            have hwq : wrd tq = true := by rw [hrq] at hwk; exact hwk
            clear hrq
            go_wp2_with fail
            refine wp_region_lca (P := Try.prog) [(0, 34, .pointer (some ⟨w1.heap.size, 2, none⟩)), (2, 36, .pointer (some ⟨bp, 0, none⟩))] [(6, 40, .pointer (some ⟨w1.heap.size, 2, none⟩))] (fun _ => []) [] 1 3 4 5 7 35 37 38 39 (.slice A2 n2' cp2) _ _ _ (fun _ => True) (fun u W => ∃ (wd : List UInt8) (A1 : Option Addr) (n1 cp1 l1 k1 : Nat), u = .agg #[.string ⟨wd.toArray⟩, .slice A1 n1 cp1, .int .i64 l1, .int .i64 k1] ∧ w4.drew.grownBy W (some bp) ∧ (∀ s, classP rr = .error s → RP W bp tv L s true) ∧ (∀ c r', classP rr = .ok (c, r') → RP W bp tv L r' false ∧ wd = c.name ∧ l1 = c.line ∧ k1 = c.col ∧ n1 = c.cls.length ∧ ∃ E : Nat → Prop, ClsD W E (.slice A1 n1 cp1) c.cls ∧ ∀ k, E k → w4.drew.heap.size ≤ k ∧ k < W.heap.size)) csV (w1.heap.size + 1) 84 4 56 b.length xs i0 (.agg #[.string ByteArray.empty, .slice none 0 0, .int .i64 0, .int .i64 0]) (w1.heap.size) 2 _ _ 73 (by kernel_rfl) (by kernel_rfl) (by rfl) (by rfl) (by rfl) (by rfl) (by rfl) ⟨rfl, rfl, rfl, rfl, rfl⟩ ⟨rfl, rfl, rfl, rfl, rfl⟩ (fun _ => rfl) (by intros; simp only [putsA, List.foldl_cons, List.foldl_nil, Act.put, List.setIfInBounds_toArray, List.set_cons_zero, List.set_cons_succ] <;> rfl) (by intros; simp only [putsA, List.foldl_cons, List.foldl_nil, Act.put, List.setIfInBounds_toArray, List.set_cons_zero, List.set_cons_succ] <;> rfl) (by intros; simp only [putsA, List.foldl_cons, List.foldl_nil, Act.put, List.setIfInBounds_toArray, List.set_cons_zero, List.set_cons_succ] <;> rfl) (by intros; simp only [putsA, List.foldl_cons, List.foldl_nil, Act.put, List.setIfInBounds_toArray, List.set_cons_zero, List.set_cons_succ] <;> rfl) (by intros; simp only [putsA, List.foldl_cons, List.foldl_nil, Act.put, List.setIfInBounds_toArray, List.set_cons_zero, List.set_cons_succ] <;> rfl) ?khS ?khSR ?khSA ?khSG ?khSE ?kpre ?km1 ?km2 ?kL0 ?kL2 ?kL3 ?kC1 ?kC2 ?kb1 ?kb2 ?kcs rfl (by intros; rfl) (by intros; rfl) (by kernel_rfl) hi hz0 hz1 hz2 rfl (by decide) ?kh63 ?khbytes ?kown ?kpost ?kst ?kQ
            case khS =>
              exact trivial
            case khSR =>
              exact fun _ _ _ => trivial
            case khSA =>
              exact fun _ _ _ => trivial
            case khSG =>
              exact fun _ _ _ _ => trivial
            case khSE =>
              exact fun _ _ _ => trivial
            case kpre =>
              refine ⟨⟨_, rfl, rfl, .inl ⟨by rfl, fun _ _ => by rfl⟩⟩, ?_⟩
              simp only [Act.put, List.setIfInBounds_toArray, List.set_cons_zero, List.set_cons_succ]
              refine ⟨⟨_, rfl, rfl, .inl ⟨by rfl, fun _ _ => by rfl⟩⟩, ?_⟩
              simp only [Act.put, List.setIfInBounds_toArray, List.set_cons_zero, List.set_cons_succ]
              exact trivial
            case km1 =>
              exact fun _ _ _ => trivial
            case km2 =>
              exact fun _ _ _ => trivial
            case kL0 =>
              have h1 := (HQ6.out.st).c 2 _ rfl
              simp [execOp, Act.eval, go_sem, h1]
            case kL2 =>
              rintro u W ⟨wd, A1, n1, cp1, l1, k1, rfl, hg, he, hy⟩
              have h1 := (HQ6.out.st.grown hg n3).c 2 _ rfl
              simp [execOp, Act.eval, go_sem, h1]
            case kL3 =>
              rintro u b W o ⟨wd, A1, n1, cp1, l1, k1, rfl, hg, he, hy⟩
              have h1 := cell_alloc ((HQ6.out.st.grown hg n3).c 2 _ rfl) o
              simp [execOp, Act.eval, go_sem, h1]
            case kC1 =>
              refine GY.call (by simp [execOp, Act.eval, go_sem]) ((rclass_any HQC hwq).mono ?_)
              rintro e W ⟨hg, wd, A1, n1, cp1, l1, k1, rfl, he, hy⟩
              rw [← HRQ.out] at he hy
              exact ⟨_, rfl, wd, A1, n1, cp1, l1, k1, rfl, hg, he, hy⟩
            case kC2 =>
              refine GY.call (by simp [execOp, Act.eval, go_sem]) ((rclass_any HQC hwq).mono ?_)
              rintro e W ⟨hg, wd, A1, n1, cp1, l1, k1, rfl, he, hy⟩
              rw [← HRQ.out] at he hy
              exact ⟨_, rfl, wd, A1, n1, cp1, l1, k1, rfl, hg, he, hy⟩
            case kb1 =>
              rintro u W ⟨wd, A1, n1, cp1, l1, k1, rfl, hg, he, hy⟩
              simp [execOp, Act.eval, go_sem, csV, strV]
            case kb2 =>
              rintro u W ⟨wd, A1, n1, cp1, l1, k1, rfl, hg, he, hy⟩
              simp [execOp, Act.eval, go_sem, csV, strV]
            case kcs =>
              rintro u W ⟨wd, A1, n1, cp1, l1, k1, rfl, hg, he, hy⟩
              simp [csV, strV, Value.oneCell']
            case kh63 =>
              exact small_maxLen (by omega)
            case khbytes =>
              omega
            case kown =>
              rintro u W ⟨wd, A1, n1, cp1, l1, k1, rfl, hg, he, hy⟩
              have hsz := hg.size
              rw [World.size_drew] at hsz
              have hst := HQ6.out.st.grown hg n3
              exact ⟨x2.kept hg (by cases hv : (Value.slice A2 n2' cp2).ownBlock with | none => exact .inl rfl | some g => exact .inr fun e => by injection e with e; have := (x2.lt g hv).1; omega), by omega, ⟨_, hst.c 2 _ rfl⟩, hst.f 2, hst.lt, nvb⟩
            case kpost =>
              exact fun _ _ _ => ⟨⟨_, rfl, rfl, .inl ⟨by rfl, fun _ _ => by rfl⟩⟩, trivial⟩
            case kst =>
              rintro u b g cap W2 ⟨x, hx⟩ hf
              simp only [putsA, List.foldl_cons, List.foldl_nil, Act.put, List.setIfInBounds_toArray, List.set_cons_zero, List.set_cons_succ]
              simp [execOp, Act.eval, go_sem, hx, hf]
            case kQ =>
              rintro u W ⟨wd, A1, n1, cp1, l1, k1, rfl, hg, he, hy⟩ bq g cap W2 h1 h2 h3 h4
              simp only [putsA, List.foldl_cons, List.foldl_nil, Act.put, List.setIfInBounds_toArray, List.set_cons_zero, List.set_cons_succ]
              cases hc : classP rr
              · rename_i s
                have hcb := body_bad2 hsg hwc hc
                have hrs : s.length ≤ rr.length := by have h9 := class_tl rr; rw [hc] at h9; exact List.IsSuffix.length_le h9
                have HN := Lib.hid (HQ6.out.app2' (xs := xs) (g := g) (n := b.length + 1) (cap := cap) (he s hc) hg hcb h2)
                clear h1 h2 h3 h4 hg he hy
                go_wp2
                go_roundg (gk - 1)
                case measure => omega
                case rel => exact ⟨true, a, b, s, _, _, _, by show s.length + 0 < gk - 1; omega, HN.out⟩
              · rename_i q
                obtain ⟨c, rr2⟩ := q
                obtain ⟨hvm, hl⟩ := body_more2 (a := a) (b := b) hsg hwc hc
                obtain ⟨hp, rfl, rfl, rfl, rfl, E, hcd, hE⟩ := hy c rr2 hc
                have HN := Lib.hid (HQ6.out.app2 x1 x2 hcd hE hp hg hvm hl h1 h2 h3)
                clear h1 h2 h3 h4 hg he hy hp hcd hE
                go_wp2
                go_roundg (gk - 1)
                case measure => omega
                case rel => exact ⟨false, _, _, rr2, _, _, _, by show rr2.length + 1 < gk - 1; omega, HN.out⟩
        · obtain ⟨q, r2, rfl, hv⟩ := body_end hsg
          go_wp2_with fail
          refine (rsign_any 125 HQ3.out.pr).mono ?_
          rintro e w4 ⟨rfl, hg4, _, hy4⟩
          have hp4 := hy4 q r2 rfl rfl hsg
          have hvp := HQ3.out.vp
          rw [if_neg (by simp), hv] at hvp
          have HVP := Lib.hid hvp
          obtain ⟨hst, hz, hgr, hrow⟩ := HQ3.out.moved hg4
          have HGR := Lib.hid hgr
          have HP6 := Lib.hid hp4
          have HROW := Lib.hid (hrow rfl)
          have hdd := HQ3.out.dd rfl
          have hg4s := hg4.size
          have HDD : Hid (∀ k, D k → w1.heap.size < k ∧ k < w4.heap.size) := Lib.hid fun k hk => by have := hdd k hk; omega
          clear hy4 hv hsg hvp hgr hrow hdd hg4 hp4
          have c0 := hst.c 0 _ rfl
          have c1 := hst.c 1 _ rfl
          have c2 := hst.c 2 _ rfl
          have c3 := hst.c 3 _ rfl
          have c4 := hst.c 4 _ rfl
          simp only [strV] at c0
          have z0 := hz.c 0 _ rfl
          have z1 := hz.c 1 _ rfl
          have z2 := hz.c 2 _ rfl
          have z3 := hz.c 3 _ rfl
          have z4 := hz.c 4 _ rfl
          have f0 := hz.f 0
          have f1 := hz.f 1
          have f2 := hz.f 2
          have f3 := hz.f 3
          have f4 := hz.f 4
          clear hst hz
          go_wp2
          have hBel := (((((Below.refl w.heap.size (w4)).setCell (p := ⟨w.heap.size, 0, none⟩) (Nat.le_refl _) (.string ⟨nm.toArray⟩)).setCell (p := ⟨w.heap.size, 1, none⟩) (Nat.le_refl _) (.slice A n0' cp)).setCell (p := ⟨w.heap.size, 2, none⟩) (Nat.le_refl _) (.slice A2 n2' cp2)).setCell (p := ⟨w.heap.size, 3, none⟩) (Nat.le_refl _) (.int .i64 t.line)).setCell (p := ⟨w.heap.size, 4, none⟩) (Nat.le_refl _) (.int .i64 t.col)
          refine bodyPost_ret (v := .agg #[.string ⟨nm.toArray⟩, (.slice A n0' cp), (.slice A2 n2' cp2), .int .i64 t.line, .int .i64 t.col]) (by simp [results, Try.results52, go_sem, z0, z1, z2, z3, z4, nb3, nbp, nbp2, nbp3, nbp4]) rfl ?_
          refine ⟨grownBy_thenB HGR.out hBel, nm, A, n0', cp, A2, n2', cp2, t.line, t.col, rfl, ?_⟩
          rw [HVP.out]
          refine ⟨fun s h => (by cases h), fun c r' h => ?_⟩
          cases h
          simp only [List.append_nil]
          have hdd := HDD.out
          have hd0 : ∀ k, D k → k < w4.heap.size := fun k hk => (hdd k hk).2
          have hown : ∀ k, (Value.slice A n0' cp).ownBlock = some k → w1.heap.size < k ∧ k < w4.heap.size := fun k hk => by
            obtain ⟨xs, _, x2, _⟩ := HROW.out.1
            have := x2.lt _ hk; omega
          have hown2 : ∀ k, (Value.slice A2 n2' cp2).ownBlock = some k → w1.heap.size < k ∧ k < w4.heap.size := fun k hk => by
            obtain ⟨xs, _, x2, _⟩ := HROW.out.2
            have := x2.lt _ hk; omega
          have hnlen : n0' = a.length := by
            obtain ⟨xs, _, x2, _⟩ := HROW.out.1
            obtain ⟨A9, c9, h9⟩ := own_form x2
            injection h9
          have hnlen2 : n2' = b.length := by
            obtain ⟨xs, _, x2, _⟩ := HROW.out.2
            obtain ⟨A9, c9, h9⟩ := own_form x2
            injection h9
          have hg5 : World.grownBy _ _ (some w.heap.size) := grownBy_trans (grownBy_trans (grownBy_trans (grownBy_trans (grownBy_setCell (w := w4) ⟨w.heap.size, 0, none⟩ rfl (.string ⟨nm.toArray⟩)) (grownBy_setCell ⟨w.heap.size, 1, none⟩ rfl (.slice A n0' cp))) (grownBy_setCell ⟨w.heap.size, 2, none⟩ rfl (.slice A2 n2' cp2))) (grownBy_setCell ⟨w.heap.size, 3, none⟩ rfl (.int .i64 t.line))) (grownBy_setCell ⟨w.heap.size, 4, none⟩ rfl (.int .i64 t.col))
          have k1 := HROW.out.1.upg ClR.up hg5 hd0 (fun g e => by
            injection e with e; subst e
            exact ⟨fun hk => by have := (hdd _ hk).1; omega, fun hv => by have := (hown _ hv).1; omega⟩) (fun _ h => h) (fun _ h => .inl h)
          have k2 := HROW.out.2.upg CbR.up hg5 hd0 (fun g e => by
            injection e with e; subst e
            exact ⟨fun hk => by have := (hdd _ hk).1; omega, fun hv => by have := (hown2 _ hv).1; omega⟩) (fun _ h => h) (fun _ h => .inl h)
          refine ⟨HP6.out.above hBel hbp, by simp, by simp, by simp, by simpa using hnlen, by simpa using hnlen2, fun k => (D k ∨ (Value.slice A n0' cp).ownBlock = some k) ∨ (Value.slice A2 n2' cp2).ownBlock = some k, ?_, ?_, ?_⟩
          · exact ClsD.up (k1.fin (D' := fun k => D k ∨ (Value.slice A n0' cp).ownBlock = some k) (fun h hd a c => ClR.up h hd a c) (fun _ => Iff.rfl)) (KeepsD.refl _ _) (fun _ h => .inl h)
          · exact CbsD.up (k2.fin (D' := fun k => D k ∨ (Value.slice A2 n2' cp2).ownBlock = some k) (fun h hd a c => CbR.up h hd a c) (fun _ => Iff.rfl)) (KeepsD.refl _ _) (fun _ h => h.elim (fun h => .inl (.inl h)) .inr)
          · rintro k ((hk | hk) | hk)
            · have := hdd k hk; simp [World.setCell]; omega
            · have := hown k hk; simp [World.setCell]; omega
            · have := hown2 k hk; simp [World.setCell]; omega
      · go_wp2_with fail
        refine (rsign_any 125 HQ.out.pr).mono ?_
        rintro e w4 ⟨rfl, hg4, hn4, _⟩
        have hp4 := hn4 rfl
        have hvp := HQ.out.vp
        rw [if_pos rfl] at hvp
        have HVP := Lib.hid hvp
        obtain ⟨hst, hz, hgr, _⟩ := HQ.out.moved hg4
        have HGR := Lib.hid hgr
        have HP6 := Lib.hid hp4
        clear hn4 hvp q2 hgr hg4 hp4
        have c0 := hst.c 0 _ rfl
        have c1 := hst.c 1 _ rfl
        have c2 := hst.c 2 _ rfl
        have c3 := hst.c 3 _ rfl
        have c4 := hst.c 4 _ rfl
        simp only [strV] at c0
        have z0 := hz.c 0 _ rfl
        have z1 := hz.c 1 _ rfl
        have z2 := hz.c 2 _ rfl
        have z3 := hz.c 3 _ rfl
        have z4 := hz.c 4 _ rfl
        have f0 := hz.f 0
        have f1 := hz.f 1
        have f2 := hz.f 2
        have f3 := hz.f 3
        have f4 := hz.f 4
        clear hst hz
        go_wp2
        have hBel := (((((Below.refl w.heap.size (w4)).setCell (p := ⟨w.heap.size, 0, none⟩) (Nat.le_refl _) (.string ⟨nm.toArray⟩)).setCell (p := ⟨w.heap.size, 1, none⟩) (Nat.le_refl _) (.slice A n0' cp)).setCell (p := ⟨w.heap.size, 2, none⟩) (Nat.le_refl _) (.slice A2 n2' cp2)).setCell (p := ⟨w.heap.size, 3, none⟩) (Nat.le_refl _) (.int .i64 t.line)).setCell (p := ⟨w.heap.size, 4, none⟩) (Nat.le_refl _) (.int .i64 t.col)
        refine bodyPost_ret (v := .agg #[.string ⟨nm.toArray⟩, (.slice A n0' cp), (.slice A2 n2' cp2), .int .i64 t.line, .int .i64 t.col]) (by simp [results, Try.results52, go_sem, z0, z1, z2, z3, z4, nb3, nbp, nbp2, nbp3, nbp4]) rfl ?_
        refine ⟨grownBy_thenB HGR.out hBel, nm, A, n0', cp, A2, n2', cp2, t.line, t.col, rfl, ?_⟩
        rw [HVP.out]
        refine ⟨fun s h => ?_, fun c r' h => by cases h⟩
        cases h
        exact HP6.out.above hBel hbp
end Go.Proofs.Ytjnaeldaajckkaa
