/- The program's parser: fund. -/
import Derived.Test.YtjnaeldaajckkaaSynG
import Derived.BigQuiet
set_option linter.unusedVariables false
set_option linter.unusedSimpArgs false
namespace Go.Proofs.Ytjnaeldaajckkaa
open Go.RowKit Tok Syn

theorem Try.info84 : (Try.prog.info? 84).map (fun i => (i.zero, i.size, i.bytes)) = some (some (.agg #[.string ByteArray.empty, .slice none 0 0, .int .i64 0, .int .i64 0]), 4, 56) := by kernel_rfl
def preB (a : List Cl) (b : List Cb) (x : Except (List T) ((List Cl × List Cb) × List T)) : Except (List T) ((List Cl × List Cb) × List T) := match x with
  | .error s => .error s
  | .ok (v, r) => .ok ((a ++ v.1, b ++ v.2), r)
theorem preB_nil (x : Except (List T) ((List Cl × List Cb) × List T)) : preB [] [] x = x := by cases x <;> rfl
theorem body_end {r : List T} (h : sgn (hdT r) 125 = true) : ∃ t r', r = t :: r' ∧ bodyP r = .ok (([], []), r') := by
  cases r with
  | nil => rw [sgn_no] at h; cases h
  | cons t r => exact ⟨t, r, rfl, by rw [show hdT (t :: r) = t from rfl] at h; simp [bodyP_cons, h]⟩
theorem body_bad1 {r s : List T} (h : sgn (hdT r) 125 = false) (hw : isW (hdT r) sClass = false) (h2 : clauseP r = .error s) : bodyP r = .error s := by
  cases r with
  | nil => cases h2; rfl
  | cons t r => rw [show hdT (t :: r) = t from rfl] at h hw; rw [bodyP_cons, h, hw, h2]; rfl
theorem body_bad2 {r s : List T} (h : sgn (hdT r) 125 = false) (hw : isW (hdT r) sClass = true) (h2 : classP r = .error s) : bodyP r = .error s := by
  cases r with
  | nil => cases h2; rfl
  | cons t r => rw [show hdT (t :: r) = t from rfl] at h hw; rw [bodyP_cons, h, hw, h2]; rfl
theorem body_more1 {a : List Cl} {b : List Cb} {r r2 : List T} {c : Cl} (h : sgn (hdT r) 125 = false) (hw : isW (hdT r) sClass = false) (h2 : clauseP r = .ok (c, r2)) : preB a b (bodyP r) = preB (a ++ [c]) b (bodyP r2) ∧ r2.length < r.length := by
  have ht := clause_tl r
  rw [h2] at ht
  refine ⟨?_, ht.2⟩
  cases r with
  | nil => cases h2
  | cons t r =>
    rw [show hdT (t :: r) = t from rfl] at h hw
    rw [bodyP_cons, h, hw, h2]
    simp only [Bool.false_eq_true, if_false]
    cases bodyP r2 with
    | error s => rfl
    | ok p => simp [preB]
theorem body_more2 {a : List Cl} {b : List Cb} {r r2 : List T} {c : Cb} (h : sgn (hdT r) 125 = false) (hw : isW (hdT r) sClass = true) (h2 : classP r = .ok (c, r2)) : preB a b (bodyP r) = preB a (b ++ [c]) (bodyP r2) ∧ r2.length < r.length := by
  have ht := class_tl r
  rw [h2] at ht
  refine ⟨?_, ht.2⟩
  cases r with
  | nil => cases h2
  | cons t r =>
    rw [show hdT (t :: r) = t from rfl] at h hw
    rw [bodyP_cons, h, hw, h2]
    simp only [Bool.false_eq_true, if_false, if_true]
    cases bodyP r2 with
    | error s => rfl
    | ok p => simp [preB]
theorem fundP_no {r : List T} (h : isW (hdT r) sFund = false) : fundP r = .error r := by
  cases r with
  | nil => rfl
  | cons t r => rw [show hdT (t :: r) = t from rfl] at h; rw [fundP_cons, h]; rfl
theorem fundP_no2 {t : T} {r s : List T} (h : isW t sFund = true) (hh : headP (t :: r) = .error s) : fundP (t :: r) = .error s := by rw [fundP_cons, h, hh]; rfl
theorem fundP_of {t : T} {r r1 : List T} {h : List UInt8 × Nat × Nat} (hw : isW t sFund = true) (hh : headP (t :: r) = .ok (h, r1)) : fundP (t :: r) = match bodyP r1 with
    | .error s => .error s
    | .ok (p, r') => .ok (⟨h.1, p.1, p.2, h.2.1, h.2.2⟩, r') := by rw [fundP_cons, hw, hh]; rfl
/-- the row that a round leaves alone -/
theorem BldR.other {α : Type} {W0 W W2 : World} {R : World → (Nat → Prop) → α → List Value → Prop} {D D' : Nat → Prop} {B bp bx fo : Nat} {T : TypeId} {size : Nat} {v u : Value} {l : List α} {o : Obj} {r : Option Nat}
    (hR : ∀ {w w' : World} {D D' : Nat → Prop}, KeepsD D w w' → (∀ k, D k → D' k) → ∀ a c, R w D a c → R w' D' a c) (h : BldR W0 R D B T size v l) (hD : ∀ k, D k → k < W0.heap.size) (hg : W0.grownBy W (some bp)) (hbp : ¬ D bp) (hbB : bp < B)
    (hDD : ∀ k, D k → D' k) (hnew : ∀ k, D' k → D k ∨ (W0.heap.size ≤ k ∧ k < W.heap.size)) (hx : ¬ D' bx) (hxB : bx < B) (hg2 : (W.alloc o).grownBy W2 r) (hr : ∀ g, r = some g → ¬ D' g ∧ v.ownBlock ≠ some g) :
    BldR (W2.setCell ⟨bx, fo, none⟩ u) R D' B T size v l := by
  have lo : ∀ g, v.ownBlock = some g → B ≤ g := fun g e => by obtain ⟨xs, _, h2, _⟩ := h; exact (h2.lt g e).1
  have hs := hg.size
  have hD' : ∀ k, D' k → k < W.heap.size := fun k hk => by
    rcases hnew k hk with q | q
    · have := hD k q; omega
    · exact q.2
  have k1 := h.upg hR hg hD (fun g e => by injection e with e; subst e; exact ⟨hbp, fun e => by have := lo _ e; omega⟩) hDD (fun k hk => (hnew k hk).imp id fun q => q.1)
  have k2 := k1.below hR ((Below.refl W.heap.size W).alloc (Nat.le_refl _) o) hD'
  have k3 := k2.upg hR hg2 (fun k hk => by have := hD' k hk; simp; omega) hr (fun _ h => h) (fun _ h => .inl h)
  have hs2 := hg2.size
  exact k3.upg hR (grownBy_setCell ⟨bx, fo, none⟩ rfl u) (fun k hk => by have := hD' k hk; simp at hs2; omega) (fun g e => by
    injection e with e
    have e : bx = g := e
    subst e
    exact ⟨hx, fun e => by have := lo _ e; omega⟩) (fun _ h => h) (fun _ h => .inl h)
/-- a fund under construction -/
structure FuS (bp b0 b3 : Nat) (w : World) (nm : List UInt8) (ln cl : Nat) (r : List T) (wr : World) (a : List Cl) (b : List Cb) (rr : List T) (v1 v2 : Value) (D : Nat → Prop) : Prop where
  pr : Pr wr bp rr
  st : StA wr b3 [strV nm, v1, v2, .int .i64 ln, .int .i64 cl]
  z : StA wr b0 [strV [], .slice none 0 0, .slice none 0 0, .int .i64 0, .int .i64 0]
  row1 : BldR wr ClR D (b3 + 1) 81 4 v1 a
  row2 : BldR wr CbR D (b3 + 1) 84 4 v2 b
  ne : ∀ g, v1.ownBlock = some g → v2.ownBlock ≠ some g
  gr : w.grownBy wr (some bp)
  vp : preB a b (bodyP rr) = bodyP r
  len : a.length + b.length + rr.length ≤ 65536
  dd : ∀ k, D k → b3 < k ∧ k < wr.heap.size
  b1 : bp < b0
  b2 : b0 < b3
  b4 : b0 = w.heap.size
section
variable {bp b0 b3 : Nat} {w : World} {nm : List UInt8} {ln cl : Nat} {r : List T} {wr w' W0 W W2 : World} {a : List Cl} {b : List Cb} {rr rr2 : List T} {v1 v2 : Value} {D : Nat → Prop}
theorem FuS.own1 (h : FuS bp b0 b3 w nm ln cl r wr a b rr v1 v2 D) {g : Nat} (hg : v1.ownBlock = some g) : b3 < g ∧ g < wr.heap.size ∧ ¬ D g := by
  obtain ⟨xs, _, h2, h3⟩ := h.row1
  exact ⟨(h2.lt g hg).1, (h2.lt g hg).2, h3 g hg⟩
theorem FuS.own2 (h : FuS bp b0 b3 w nm ln cl r wr a b rr v1 v2 D) {g : Nat} (hg : v2.ownBlock = some g) : b3 < g ∧ g < wr.heap.size ∧ ¬ D g := by
  obtain ⟨xs, _, h2, h3⟩ := h.row2
  exact ⟨(h2.lt g hg).1, (h2.lt g hg).2, h3 g hg⟩
theorem FuS.below (h : FuS bp b0 b3 w nm ln cl r wr a b rr v1 v2 D) (hb : Below wr.heap.size wr w') : FuS bp b0 b3 w nm ln cl r w' a b rr v1 v2 D where
  pr := h.pr.below hb
  st := h.st.below hb
  z := h.z.below hb
  row1 := h.row1.below ClR.up hb fun k hk => (h.dd k hk).2
  row2 := h.row2.below CbR.up hb fun k hk => (h.dd k hk).2
  ne := h.ne
  gr := grownBy_trans h.gr (grownBy_below hb _)
  vp := h.vp
  len := h.len
  dd k hk := ⟨(h.dd k hk).1, Nat.lt_of_lt_of_le (h.dd k hk).2 hb.size⟩
  b1 := h.b1
  b2 := h.b2
  b4 := h.b4
/-- the finished blocks and those of one item more -/
def DD (D E : Nat → Prop) (k : Nat) : Prop := D k ∨ E k
/-- a clause more -/
theorem FuS.app1 {xs : List Value} {c : Cl} {A : Option Addr} {cp g cap : Nat} {o : Obj}
    (h : FuS bp b0 b3 w nm ln cl r W0 a b rr v1 v2 D) (x1 : CellsR (ClR W0 D) a xs) (x2 : W0.ownsRow (b3 + 1) 81 4 v1 a.length xs)
    (ho : W.ownsRow W0.heap.size 9 1 (.slice A c.vals.length cp) c.vals.length (c.vals.map strV)) (hp : Pr W bp rr2) (hg : W0.grownBy W (some bp))
    (hv : preB a b (bodyP rr) = preB (a ++ [c]) b (bodyP rr2)) (hl : rr2.length < rr.length)
    (h1 : W2.ownsRow (b3 + 1) 81 4 (.slice (some ⟨g, 0, none⟩) (a.length + 1) cap) (a.length + 1) (xs ++ csV (.agg #[strV c.word, .slice A c.vals.length cp, .int .i64 c.line, .int .i64 c.col])))
    (h2 : (W.alloc o).grownBy W2 v1.ownBlock) (h3 : v1.ownBlock = some g ∨ g = W.heap.size + 1) :
    FuS bp b0 b3 w nm ln cl r (W2.setCell ⟨b3, 1, none⟩ (.slice (some ⟨g, 0, none⟩) (a.length + 1) cap)) (a ++ [c]) b rr2 (.slice (some ⟨g, 0, none⟩) (a.length + 1) cap) v2 (DD D fun k => (Value.slice A c.vals.length cp).ownBlock = some k) := by
  have hsz := hg.size
  have hlt := h.st.lt
  have hb1 := h.b1
  have hb2 := h.b2
  have x3 : ∀ g, v1.ownBlock = some g → ¬ D g := fun g e => (h.own1 e).2.2
  have hB1 : Below (b3 + 1) W W2 := ((Below.refl (b3 + 1) W).alloc (by omega) o).grown h2 (by simp; omega) (fun k hk => (h.own1 hk).1)
  have hB : Below b3 W (W2.setCell ⟨b3, 1, none⟩ (.slice (some ⟨g, 0, none⟩) (a.length + 1) cap)) := (hB1.mono (Nat.le_succ b3)).setCell (p := ⟨b3, 1, none⟩) (Nat.le_refl _) _
  have hd' : ∀ k, DD D (fun k => (Value.slice A c.vals.length cp).ownBlock = some k) k → D k ∨ (W0.heap.size ≤ k ∧ k < W.heap.size) := fun k hk => hk.imp id fun e => ho.lt k e
  have nbp : ¬ D bp := fun e => by have := (h.dd bp e).1; omega
  have nb3 : ¬ DD D (fun k => (Value.slice A c.vals.length cp).ownBlock = some k) b3 := fun e => by
    rcases hd' b3 e with q | q
    · have := (h.dd b3 q).1; omega
    · omega
  have hrow := BldR.round (bx := b3) (fo := 1) (D' := DD D fun k => (Value.slice A c.vals.length cp).ownBlock = some k) (a := c) ClR.up x1 x2 x3 (fun k hk => (h.dd k hk).2) hg nbp (by omega) (fun k hk => .inl hk) hd' ⟨_, rfl, .of_own ho fun g e => .inr e⟩ (by omega) nb3 (by omega) h1 h2 h3
  have hrow2 := BldR.other (bx := b3) (fo := 1) (u := .slice (some ⟨g, 0, none⟩) (a.length + 1) cap) (D' := DD D fun k => (Value.slice A c.vals.length cp).ownBlock = some k) CbR.up h.row2 (fun k hk => (h.dd k hk).2) hg nbp (by omega) (fun k hk => .inl hk) hd' nb3 (by omega) h2 (fun k e => ⟨fun q => by
    have := h.own1 e
    rcases hd' k q with q | q
    · exact this.2.2 q
    · omega, h.ne k e⟩)
  exact
    { pr := hp.above hB (by omega)
      st := ((h.st.grown hg (fun e => by injection e with e; omega)).above hB1 (Nat.lt_succ_self _)).set 1 _ (by simp)
      z := (h.z.grown hg (fun e => by injection e with e; omega)).above hB hb2
      row1 := hrow
      row2 := hrow2
      ne := fun k e q => by
        simp only [Value.ownBlock, Option.some.injEq] at e
        subst e
        rcases h3 with e | e
        · exact h.ne _ e q
        · have := (h.own2 q).2.1; omega
      gr := grownBy_thenB (grownBy_trans h.gr hg) (hB.mono (by have := h.b4; omega))
      vp := hv.symm.trans h.vp
      len := by have := h.len; simp; omega
      dd := fun k hk => by
        have := hB.size
        rcases hd' k hk with q | q
        · have := h.dd k q; omega
        · omega
      b1 := hb1
      b2 := hb2
      b4 := h.b4 }
/-- a class more -/
theorem FuS.app2 {xs : List Value} {c : Cb} {u : Value} {E : Nat → Prop} {g cap : Nat} {o : Obj}
    (h : FuS bp b0 b3 w nm ln cl r W0 a b rr v1 v2 D) (x1 : CellsR (CbR W0 D) b xs) (x2 : W0.ownsRow (b3 + 1) 84 4 v2 b.length xs)
    (hc : ClsD W E u c.cls) (hE : ∀ k, E k → W0.heap.size ≤ k ∧ k < W.heap.size) (hp : Pr W bp rr2) (hg : W0.grownBy W (some bp))
    (hv : preB a b (bodyP rr) = preB a (b ++ [c]) (bodyP rr2)) (hl : rr2.length < rr.length)
    (h1 : W2.ownsRow (b3 + 1) 84 4 (.slice (some ⟨g, 0, none⟩) (b.length + 1) cap) (b.length + 1) (xs ++ csV (.agg #[strV c.name, u, .int .i64 c.line, .int .i64 c.col])))
    (h2 : (W.alloc o).grownBy W2 v2.ownBlock) (h3 : v2.ownBlock = some g ∨ g = W.heap.size + 1) :
    FuS bp b0 b3 w nm ln cl r (W2.setCell ⟨b3, 2, none⟩ (.slice (some ⟨g, 0, none⟩) (b.length + 1) cap)) a (b ++ [c]) rr2 v1 (.slice (some ⟨g, 0, none⟩) (b.length + 1) cap) (DD D E) := by
  have hsz := hg.size
  have hlt := h.st.lt
  have hb1 := h.b1
  have hb2 := h.b2
  have x3 : ∀ g, v2.ownBlock = some g → ¬ D g := fun g e => (h.own2 e).2.2
  have hB1 : Below (b3 + 1) W W2 := ((Below.refl (b3 + 1) W).alloc (by omega) o).grown h2 (by simp; omega) (fun k hk => (h.own2 hk).1)
  have hB : Below b3 W (W2.setCell ⟨b3, 2, none⟩ (.slice (some ⟨g, 0, none⟩) (b.length + 1) cap)) := (hB1.mono (Nat.le_succ b3)).setCell (p := ⟨b3, 2, none⟩) (Nat.le_refl _) _
  have hd' : ∀ k, DD D E k → D k ∨ (W0.heap.size ≤ k ∧ k < W.heap.size) := fun k hk => hk.imp id fun e => hE k e
  have nbp : ¬ D bp := fun e => by have := (h.dd bp e).1; omega
  have nb3 : ¬ DD D E b3 := fun e => by
    rcases hd' b3 e with q | q
    · have := (h.dd b3 q).1; omega
    · omega
  have hrow := BldR.round (bx := b3) (fo := 2) (D' := DD D E) (a := c) CbR.up x1 x2 x3 (fun k hk => (h.dd k hk).2) hg nbp (by omega) (fun k hk => .inl hk) hd' ⟨_, rfl, hc.up (KeepsD.refl _ _) fun k hk => .inr hk⟩ (by omega) nb3 (by omega) h1 h2 h3
  have hrow1 := BldR.other (bx := b3) (fo := 2) (u := .slice (some ⟨g, 0, none⟩) (b.length + 1) cap) (D' := DD D E) ClR.up h.row1 (fun k hk => (h.dd k hk).2) hg nbp (by omega) (fun k hk => .inl hk) hd' nb3 (by omega) h2 (fun k e => ⟨fun q => by
    have := h.own2 e
    rcases hd' k q with q | q
    · exact this.2.2 q
    · omega, fun e2 => h.ne k e2 e⟩)
  exact
    { pr := hp.above hB (by omega)
      st := ((h.st.grown hg (fun e => by injection e with e; omega)).above hB1 (Nat.lt_succ_self _)).set 2 _ (by simp)
      z := (h.z.grown hg (fun e => by injection e with e; omega)).above hB hb2
      row1 := hrow1
      row2 := hrow
      ne := fun k e q => by
        simp only [Value.ownBlock, Option.some.injEq] at q
        subst q
        rcases h3 with q | q
        · exact h.ne _ e q
        · have := (h.own1 e).2.1; omega
      gr := grownBy_thenB (grownBy_trans h.gr hg) (hB.mono (by have := h.b4; omega))
      vp := hv.symm.trans h.vp
      len := by have := h.len; simp; omega
      dd := fun k hk => by
        have := hB.size
        rcases hd' k hk with q | q
        · have := h.dd k q; omega
        · omega
      b1 := hb1
      b2 := hb2
      b4 := h.b4 }
end
theorem clsD_form {w : World} {D : Nat → Prop} {v : Value} {l : List Cl} (h : ClsD w D v l) : ∃ A c, v = .slice A l.length c := by
  obtain ⟨xs, _, ⟨_, _, h | ⟨g, off, cap, h, _⟩⟩, _⟩ := h
  · exact ⟨none, 0, by rw [h.1, h.2]⟩
  · exact ⟨_, _, h⟩
theorem wrd_cons {r : List T} (h : wrd (hdT r) = true) : ∃ t r', r = t :: r' := by
  cases r with
  | nil => rw [wrd_no] at h; cases h
  | cons t r => exact ⟨t, r, rfl⟩
set_option maxRecDepth 100000 in
set_option maxHeartbeats 4000000 in
theorem fund_any {bp : Nat} {r : List T} {w : World} (hp : Pr w bp r) :
    Calls Try.prog 51 #[.pointer (some ⟨bp, 0, none⟩)] w fun e w' =>
      OutP (fundP r) bp w e w' fun c e w' => ∃ v1 v2 D, e = .returned (.agg #[strV c.name, v1, v2, .int .i64 c.line, .int .i64 c.col]) ∧ ClsD w' D v1 c.cls ∧ CbsD w' D v2 c.cbs ∧ ∀ k, D k → w.heap.size ≤ k ∧ k < w'.heap.size := by
  have hbp := hp.lt
  have hB0 := ((Below.refl w.heap.size w).alloc (Nat.le_refl _) (.cells #[.string ⟨#[]⟩, .slice none 0 0, .slice none 0 0, .int .i64 0, .int .i64 0] 75)).alloc (by simp) (.cells #[.string ⟨#[]⟩, .slice none 0 0, .slice none 0 0, .int .i64 0, .int .i64 0] 75)
  have HT := Lib.hid (hp.above hB0 hbp)
  have HB0 := Lib.hid hB0
  have HZ0 := Lib.hid (((StA.new w [.string ⟨#[]⟩, .slice none 0 0, .slice none 0 0, .int .i64 0, .int .i64 0] 75)).below ((Below.refl _ _).alloc (Nat.le_refl _) (.cells #[.string ⟨#[]⟩, .slice none 0 0, .slice none 0 0, .int .i64 0, .int .i64 0] 75)))
  have hN := StA.new (w.alloc (.cells #[.string ⟨#[]⟩, .slice none 0 0, .slice none 0 0, .int .i64 0, .int .i64 0] 75)) [.string ⟨#[]⟩, .slice none 0 0, .slice none 0 0, .int .i64 0, .int .i64 0] 75
  rw [World.size_alloc] at hN
  have HN := Lib.hid hN
  clear hp hB0 hN
  go_enter Try.func51, Try.ntmps51
  go_wp2_with fail
  refine (word_pr HT.out).mono ?_
  rintro e w0 ⟨rfl, hb0⟩
  have HP0 := Lib.hid (HT.out.below hb0)
  have HB1 := Lib.hid (HB0.out.trans (hb0.mono HB0.out.size))
  have HZ1 := Lib.hid (HZ0.out.below hb0)
  have HN1 := Lib.hid (HN.out.below hb0)
  have hs0 := hb0.size
  simp at hs0
  clear hb0 HZ0 HN HT HB0
  have hcn : ((hdT r).text == [102, 117, 110, 100]) = ((hdT r).text == sFund) := rfl
  cases hn : wrd (hdT r)
  · go_wp2_with fail
    refine (take_no HP0.out).mono ?_
    rintro e w3 ⟨rfl, hb3⟩
    go_wp2
    exact ⟨rfl, grownBy_trans (grownBy_below HB1.out _) (grownBy_below hb3 _), by rw [fundP_no (by rw [isW, hn]; rfl)]⟩
  · cases hm : ((hdT r).text == sFund)
    · rw [hm] at hcn
      go_wp2_with fail
      refine (take_no HP0.out).mono ?_
      rintro e w3 ⟨rfl, hb3⟩
      go_wp2
      exact ⟨rfl, grownBy_trans (grownBy_below HB1.out _) (grownBy_below hb3 _), by rw [fundP_no (by rw [isW, hn, hm]; rfl)]⟩
    · rw [hm] at hcn
      obtain ⟨t, r, rfl⟩ := wrd_cons hn
      rw [show hdT (t :: r) = t from rfl] at hn hm hcn ⊢
      have HW : Hid (isW t sFund = true) := Lib.hid (by rw [isW, hn, hm]; rfl)
      cases hh : headP (t :: r)
      · rename_i s
        have HH := Lib.hid hh
        clear hh
        go_wp2_with fail
        refine (head_any HP0.out).mono ?_
        intro e w1 ho
        obtain ⟨rfl, hg1⟩ := ho.no HH.out
        go_wp2
        exact ⟨rfl, grownBy_trans (grownBy_below HB1.out _) hg1, by rw [fundP_no2 HW.out HH.out]⟩
      · rename_i q
        obtain ⟨⟨nm, ln, cl⟩, r1⟩ := q
        have HH := Lib.hid hh
        have HLr : Hid (r1.length ≤ 65536) := Lib.hid (by have h1 := head_tl (t :: r); rw [hh] at h1; have := h1.2; have := HP0.out.size; omega)
        clear hh
        go_wp2_with fail
        refine (head_any HP0.out).mono ?_
        intro e w1 ho
        obtain ⟨rfl, hp1, hg1⟩ := ho.yes HH.out
        have hs1 := hg1.size
        have HP1 := Lib.hid hp1
        have HG1 := Lib.hid hg1
        have n3 : some bp ≠ some (w.heap.size + 1) := fun e => by injection e with e; omega
        have n0 : some bp ≠ some w.heap.size := fun e => by injection e with e; omega
        have hS := HN1.out.grown hg1 n3
        have HS := Lib.hid hS
        have HZ := Lib.hid (HZ1.out.grown hg1 n0)
        have c0 := hS.c 0 _ rfl
        have c2 := hS.c 3 _ rfl
        have c3 := hS.c 4 _ rfl
        have f0 := hS.f 0
        have f2 := hS.f 3
        have f3 := hS.f 4
        clear hp1 hg1 ho hS
        simp only [strV]
        have hn1 := hn
        clear hn hm hcn
        go_wp2
        go_loopg [] (r1.length + 1) (fun n wr => ∃ a b rr v1 v2 D, rr.length < n ∧ FuS bp w.heap.size (w.heap.size + 1) w nm ln cl r1 wr a b rr v1 v2 D)
        case atStart =>
          have hBel := ((((Below.refl (w.heap.size + 1) w1).setCell (p := ⟨w.heap.size + 1, 0, none⟩) (Nat.le_refl _) (.string ⟨nm.toArray⟩)).setCell (p := ⟨w.heap.size + 1, 3, none⟩) (Nat.le_refl _) (.int .i64 ln))).setCell (p := ⟨w.heap.size + 1, 4, none⟩) (Nat.le_refl _) (.int .i64 cl)
          have nb : w.heap.size + 1 ≠ w.heap.size := by omega
          refine ⟨[], [], r1, .slice none 0 0, .slice none 0 0, fun _ => False, by omega, ?_⟩
          exact
            { pr := HP1.out.above hBel (by omega)
              st := ((HS.out.set 0 (.string ⟨nm.toArray⟩) (by simp)).set 3 (.int .i64 ln) (by simp)).set 4 (.int .i64 cl) (by simp)
              z := ((HZ.out.far _ _ nb).far _ _ nb).far _ _ nb
              row1 := BldR.nil _ _ _ _ _ _
              row2 := BldR.nil _ _ _ _ _ _
              ne := fun g e => by cases e
              gr := grownBy_thenB (grownBy_trans (grownBy_below HB1.out (some bp)) HG1.out) (hBel.mono (Nat.le_succ _))
              vp := preB_nil _
              len := by have := HLr.out; simp; omega
              dd := fun k h => h.elim
              b1 := hbp
              b2 := by omega
              b4 := rfl }
        case round =>
          obtain ⟨a, b, rr, v1, v2, D, hn, HQ⟩ := hrel
          have HQ := Lib.hid HQ
          clear HP1 HG1 HS HZ HN1 HZ1 HP0 HB1 c0 c2 c3 f0 f2 f3
          go_wp2_with fail
          refine (sign_pr 125 HQ.out.pr).mono ?_
          rintro e w3 ⟨rfl, hb3⟩
          have HQ3 := Lib.hid (HQ.out.below hb3)
          clear hb3 HQ
          cases hsg : sgn (hdT rr) 125
          · go_wp2_with fail
            refine (word_pr HQ3.out.pr).mono ?_
            rintro e w4 ⟨rfl, hb4⟩
            have HQ4 := Lib.hid (HQ3.out.below hb4)
            clear hb4 HQ3
            have HQ6 := Lib.hid (HQ4.out.below (Below.refl _ _).drew)
            have hlen := HQ6.out.len
            have hlt3 := HQ6.out.st.lt
            rw [World.size_drew] at hlt3
            have hcc : ((hdT rr).text == [99, 108, 97, 115, 115]) = ((hdT rr).text == sClass) := rfl
            cases hw : wrd (hdT rr)
            · have hwB : isW (hdT rr) sClass = false := by rw [isW, hw]; rfl
              clear hcc
              obtain ⟨xs, x1, x2, x3⟩ := HQ6.out.row1
              have nvb : v1.ownBlock ≠ some (w.heap.size + 1) := fun e => by have := (x2.lt _ e).1; omega
              cases hc : clauseP rr
              · rename_i s
                go_wp2_with fail
                refine wp_region_lcp (P := Try.prog) [(0, 48, .pointer (some ⟨w.heap.size + 1, 1, none⟩)), (2, 50, .pointer (some ⟨bp, 0, none⟩))] [] 1 3 4 5 6 7 49 v1 _ (fun _ => True) (fun c w' => c = faultC (hdT s) ∧ w.grownBy w' (some bp)) (by kernel_rfl) (by kernel_rfl) (by rfl) (by rfl) rfl rfl rfl (by simp only [putsA, List.foldl_cons, List.foldl_nil, Act.put, List.setIfInBounds_toArray, List.set_cons_zero, List.set_cons_succ]; rfl) ?_ ?_ ?_ ?_ ?_ ?_
                · exact trivial
                · skip
                  refine ⟨⟨_, rfl, rfl, .inl ⟨by rfl, fun _ _ => by rfl⟩⟩, ?_⟩
                  simp only [Act.put, List.setIfInBounds_toArray, List.set_cons_zero, List.set_cons_succ]
                  refine ⟨⟨_, rfl, rfl, .inl ⟨by rfl, fun _ _ => by rfl⟩⟩, ?_⟩
                  simp only [Act.put, List.setIfInBounds_toArray, List.set_cons_zero, List.set_cons_succ]
                  exact trivial
                · have h1 := HQ6.out.st.c 1 _ rfl
                  simp [execOp, Act.eval, go_sem, h1]
                · refine ⟨_, _, by simp [execOp, Act.eval, go_sem], (clause_any HQ6.out.pr).mono (fun e w' h => ?_)⟩
                  obtain ⟨q1, q2⟩ := h.no hc
                  exact ⟨_, q1, rfl, grownBy_trans HQ6.out.gr q2⟩
                · refine ⟨_, _, by simp [execOp, Act.eval, go_sem], (clause_any HQ6.out.pr).mono (fun e w' h => ?_)⟩
                  obtain ⟨q1, q2⟩ := h.no hc
                  exact ⟨_, q1, rfl, grownBy_trans HQ6.out.gr q2⟩
                · rintro c a' w' hd ⟨rfl, hg⟩
                  refine ⟨hd, hg, ?_⟩
                  rw [fundP_of HW.out HH.out, ← HQ6.out.vp, body_bad1 hsg hwB hc]
                  rfl
              · rename_i q
                obtain ⟨c, rr2⟩ := q
                obtain ⟨hvm, hl⟩ := body_more1 (a := a) (b := b) hsg hwB hc
                obtain ⟨i0, hi, hz0, hz1, hz2⟩ := info_parts Try.info81
                go_wp2_with fail
                refine wp_region_lca (P := Try.prog) [(0, 48, .pointer (some ⟨w.heap.size + 1, 1, none⟩)), (2, 50, .pointer (some ⟨bp, 0, none⟩))] [(6, 54, .pointer (some ⟨w.heap.size + 1, 1, none⟩))] (fun _ => []) [] 1 3 4 5 7 49 51 52 53 v1 _ _ _ (fun _ => True) (fun u W => ∃ A cp, u = .agg #[strV c.word, .slice A c.vals.length cp, .int .i64 c.line, .int .i64 c.col] ∧ W.ownsRow w4.drew.heap.size 9 1 (.slice A c.vals.length cp) c.vals.length (c.vals.map strV) ∧ Pr W bp rr2 ∧ w4.drew.grownBy W (some bp)) csV (w.heap.size + 1 + 1) 81 4 56 a.length xs i0 (.agg #[.string ByteArray.empty, .slice none 0 0, .int .i64 0, .int .i64 0]) (w.heap.size + 1) 1 _ _ 72 (by kernel_rfl) (by kernel_rfl) (by rfl) (by rfl) (by rfl) (by rfl) (by rfl) ⟨rfl, rfl, rfl, rfl, rfl⟩ ⟨rfl, rfl, rfl, rfl, rfl⟩ (fun _ => rfl) (by intros; simp only [putsA, List.foldl_cons, List.foldl_nil, Act.put, List.setIfInBounds_toArray, List.set_cons_zero, List.set_cons_succ] <;> rfl) (by intros; simp only [putsA, List.foldl_cons, List.foldl_nil, Act.put, List.setIfInBounds_toArray, List.set_cons_zero, List.set_cons_succ] <;> rfl) (by intros; simp only [putsA, List.foldl_cons, List.foldl_nil, Act.put, List.setIfInBounds_toArray, List.set_cons_zero, List.set_cons_succ] <;> rfl) (by intros; simp only [putsA, List.foldl_cons, List.foldl_nil, Act.put, List.setIfInBounds_toArray, List.set_cons_zero, List.set_cons_succ] <;> rfl) (by intros; simp only [putsA, List.foldl_cons, List.foldl_nil, Act.put, List.setIfInBounds_toArray, List.set_cons_zero, List.set_cons_succ] <;> rfl) ?khS ?khSR ?khSA ?khSG ?khSE ?kpre ?km1 ?km2 ?kL0 ?kL2 ?kL3 ?kC1 ?kC2 ?kb1 ?kb2 ?kcs rfl (by intros; rfl) (by intros; rfl) (by kernel_rfl) hi hz0 hz1 hz2 rfl (by decide) ?kh63 ?khbytes ?kown ?kpost ?kst ?kQ
                case khS =>
                  exact trivial
                case khSR =>
                  exact fun _ _ _ => trivial
                case khSA =>
                  exact fun _ _ _ => trivial
                case khSG =>
                  exact fun _ _ _ _ => trivial
                case khSE =>
                  exact fun _ _ _ => trivial
                case kpre =>
                  refine ⟨⟨_, rfl, rfl, .inl ⟨by rfl, fun _ _ => by rfl⟩⟩, ?_⟩
                  simp only [Act.put, List.setIfInBounds_toArray, List.set_cons_zero, List.set_cons_succ]
                  refine ⟨⟨_, rfl, rfl, .inl ⟨by rfl, fun _ _ => by rfl⟩⟩, ?_⟩
                  simp only [Act.put, List.setIfInBounds_toArray, List.set_cons_zero, List.set_cons_succ]
                  exact trivial
                case km1 =>
                  exact fun _ _ _ => trivial
                case km2 =>
                  exact fun _ _ _ => trivial
                case kL0 =>
                  have h1 := (HQ6.out.st).c 1 _ rfl
                  simp [execOp, Act.eval, go_sem, h1]
                case kL2 =>
                  rintro u W ⟨A, cp, rfl, hrow, hp, hg⟩
                  have h1 := (HQ6.out.st.grown hg n3).c 1 _ rfl
                  simp [execOp, Act.eval, go_sem, h1]
                case kL3 =>
                  rintro u b W o ⟨A, cp, rfl, hrow, hp, hg⟩
                  have h1 := cell_alloc ((HQ6.out.st.grown hg n3).c 1 _ rfl) o
                  simp [execOp, Act.eval, go_sem, h1]
                case kC1 =>
                  refine GY.call (by simp [execOp, Act.eval, go_sem]) ((clause_any HQ6.out.pr).mono ?_)
                  intro e W h
                  obtain ⟨⟨vc, rfl, hrow⟩, hp, hg⟩ := h.yes hc
                  obtain ⟨A, cp, rfl⟩ := own_form hrow
                  exact ⟨_, rfl, A, cp, rfl, hrow, hp, hg⟩
                case kC2 =>
                  refine GY.call (by simp [execOp, Act.eval, go_sem]) ((clause_any HQ6.out.pr).mono ?_)
                  intro e W h
                  obtain ⟨⟨vc, rfl, hrow⟩, hp, hg⟩ := h.yes hc
                  obtain ⟨A, cp, rfl⟩ := own_form hrow
                  exact ⟨_, rfl, A, cp, rfl, hrow, hp, hg⟩
                case kb1 =>
                  rintro u W ⟨A, cp, rfl, hrow, hp, hg⟩
                  simp [execOp, Act.eval, go_sem, csV, strV]
                case kb2 =>
                  rintro u W ⟨A, cp, rfl, hrow, hp, hg⟩
                  simp [execOp, Act.eval, go_sem, csV, strV]
                case kcs =>
                  rintro u W ⟨A, cp, rfl, hrow, hp, hg⟩
                  simp [csV, strV, Value.oneCell']
                case kh63 =>
                  exact small_maxLen (by omega)
                case khbytes =>
                  omega
                case kown =>
                  rintro u W ⟨A, cp, rfl, hrow, hp, hg⟩
                  have hsz := hg.size
                  rw [World.size_drew] at hsz
                  have hst := HQ6.out.st.grown hg n3
                  exact ⟨x2.kept hg (by cases hv : v1.ownBlock with | none => exact .inl rfl | some g => exact .inr fun e => by injection e with e; have := (x2.lt g hv).1; omega), by omega, ⟨_, hst.c 1 _ rfl⟩, hst.f 1, hst.lt, nvb⟩
                case kpost =>
                  exact fun _ _ _ => ⟨⟨_, rfl, rfl, .inl ⟨by rfl, fun _ _ => by rfl⟩⟩, trivial⟩
                case kst =>
                  rintro u b g cap W2 ⟨x, hx⟩ hf
                  simp only [putsA, List.foldl_cons, List.foldl_nil, Act.put, List.setIfInBounds_toArray, List.set_cons_zero, List.set_cons_succ]
                  simp [execOp, Act.eval, go_sem, hx, hf]
                case kQ =>
                  rintro u W ⟨A, cp, rfl, hrow, hp, hg⟩ b g cap W2 h1 h2 h3 h4
                  simp only [putsA, List.foldl_cons, List.foldl_nil, Act.put, List.setIfInBounds_toArray, List.set_cons_zero, List.set_cons_succ]
                  have HN := Lib.hid (HQ6.out.app1 x1 x2 hrow hp hg hvm hl h1 h2 h3)
                  clear h1 h2 h3 h4 hg hp hrow
                  go_wp2
                  go_roundg (gk - 1)
                  case rel => exact ⟨_, _, rr2, _, _, _, by omega, HN.out⟩
                  case measure => omega
            · cases hm : ((hdT rr).text == sClass)
              · have hwB : isW (hdT rr) sClass = false := by rw [isW, hw, hm]; rfl
                rw [hm] at hcc
                obtain ⟨xs, x1, x2, x3⟩ := HQ6.out.row1
                have nvb : v1.ownBlock ≠ some (w.heap.size + 1) := fun e => by have := (x2.lt _ e).1; omega
                cases hc : clauseP rr
                · rename_i s
                  go_wp2_with fail
                  refine wp_region_lcp (P := Try.prog) [(0, 48, .pointer (some ⟨w.heap.size + 1, 1, none⟩)), (2, 50, .pointer (some ⟨bp, 0, none⟩))] [] 1 3 4 5 6 7 49 v1 _ (fun _ => True) (fun c w' => c = faultC (hdT s) ∧ w.grownBy w' (some bp)) (by kernel_rfl) (by kernel_rfl) (by rfl) (by rfl) rfl rfl rfl (by simp only [putsA, List.foldl_cons, List.foldl_nil, Act.put, List.setIfInBounds_toArray, List.set_cons_zero, List.set_cons_succ]; rfl) ?_ ?_ ?_ ?_ ?_ ?_
                  · exact trivial
                  · skip
                    refine ⟨⟨_, rfl, rfl, .inl ⟨by rfl, fun _ _ => by rfl⟩⟩, ?_⟩
                    simp only [Act.put, List.setIfInBounds_toArray, List.set_cons_zero, List.set_cons_succ]
                    refine ⟨⟨_, rfl, rfl, .inl ⟨by rfl, fun _ _ => by rfl⟩⟩, ?_⟩
                    simp only [Act.put, List.setIfInBounds_toArray, List.set_cons_zero, List.set_cons_succ]
                    exact trivial
                  · have h1 := HQ6.out.st.c 1 _ rfl
                    simp [execOp, Act.eval, go_sem, h1]
                  · refine ⟨_, _, by simp [execOp, Act.eval, go_sem], (clause_any HQ6.out.pr).mono (fun e w' h => ?_)⟩
                    obtain ⟨q1, q2⟩ := h.no hc
                    exact ⟨_, q1, rfl, grownBy_trans HQ6.out.gr q2⟩
                  · refine ⟨_, _, by simp [execOp, Act.eval, go_sem], (clause_any HQ6.out.pr).mono (fun e w' h => ?_)⟩
                    obtain ⟨q1, q2⟩ := h.no hc
                    exact ⟨_, q1, rfl, grownBy_trans HQ6.out.gr q2⟩
                  · rintro c a' w' hd ⟨rfl, hg⟩
                    refine ⟨hd, hg, ?_⟩
                    rw [fundP_of HW.out HH.out, ← HQ6.out.vp, body_bad1 hsg hwB hc]
                    rfl
                · rename_i q
                  obtain ⟨c, rr2⟩ := q
                  obtain ⟨hvm, hl⟩ := body_more1 (a := a) (b := b) hsg hwB hc
                  obtain ⟨i0, hi, hz0, hz1, hz2⟩ := info_parts Try.info81
                  go_wp2_with fail
                  refine wp_region_lca (P := Try.prog) [(0, 48, .pointer (some ⟨w.heap.size + 1, 1, none⟩)), (2, 50, .pointer (some ⟨bp, 0, none⟩))] [(6, 54, .pointer (some ⟨w.heap.size + 1, 1, none⟩))] (fun _ => []) [] 1 3 4 5 7 49 51 52 53 v1 _ _ _ (fun _ => True) (fun u W => ∃ A cp, u = .agg #[strV c.word, .slice A c.vals.length cp, .int .i64 c.line, .int .i64 c.col] ∧ W.ownsRow w4.drew.heap.size 9 1 (.slice A c.vals.length cp) c.vals.length (c.vals.map strV) ∧ Pr W bp rr2 ∧ w4.drew.grownBy W (some bp)) csV (w.heap.size + 1 + 1) 81 4 56 a.length xs i0 (.agg #[.string ByteArray.empty, .slice none 0 0, .int .i64 0, .int .i64 0]) (w.heap.size + 1) 1 _ _ 72 (by kernel_rfl) (by kernel_rfl) (by rfl) (by rfl) (by rfl) (by rfl) (by rfl) ⟨rfl, rfl, rfl, rfl, rfl⟩ ⟨rfl, rfl, rfl, rfl, rfl⟩ (fun _ => rfl) (by intros; simp only [putsA, List.foldl_cons, List.foldl_nil, Act.put, List.setIfInBounds_toArray, List.set_cons_zero, List.set_cons_succ] <;> rfl) (by intros; simp only [putsA, List.foldl_cons, List.foldl_nil, Act.put, List.setIfInBounds_toArray, List.set_cons_zero, List.set_cons_succ] <;> rfl) (by intros; simp only [putsA, List.foldl_cons, List.foldl_nil, Act.put, List.setIfInBounds_toArray, List.set_cons_zero, List.set_cons_succ] <;> rfl) (by intros; simp only [putsA, List.foldl_cons, List.foldl_nil, Act.put, List.setIfInBounds_toArray, List.set_cons_zero, List.set_cons_succ] <;> rfl) (by intros; simp only [putsA, List.foldl_cons, List.foldl_nil, Act.put, List.setIfInBounds_toArray, List.set_cons_zero, List.set_cons_succ] <;> rfl) ?khS ?khSR ?khSA ?khSG ?khSE ?kpre ?km1 ?km2 ?kL0 ?kL2 ?kL3 ?kC1 ?kC2 ?kb1 ?kb2 ?kcs rfl (by intros; rfl) (by intros; rfl) (by kernel_rfl) hi hz0 hz1 hz2 rfl (by decide) ?kh63 ?khbytes ?kown ?kpost ?kst ?kQ
                  case khS =>
                    exact trivial
                  case khSR =>
                    exact fun _ _ _ => trivial
                  case khSA =>
                    exact fun _ _ _ => trivial
                  case khSG =>
                    exact fun _ _ _ _ => trivial
                  case khSE =>
                    exact fun _ _ _ => trivial
                  case kpre =>
                    refine ⟨⟨_, rfl, rfl, .inl ⟨by rfl, fun _ _ => by rfl⟩⟩, ?_⟩
                    simp only [Act.put, List.setIfInBounds_toArray, List.set_cons_zero, List.set_cons_succ]
                    refine ⟨⟨_, rfl, rfl, .inl ⟨by rfl, fun _ _ => by rfl⟩⟩, ?_⟩
                    simp only [Act.put, List.setIfInBounds_toArray, List.set_cons_zero, List.set_cons_succ]
                    exact trivial
                  case km1 =>
                    exact fun _ _ _ => trivial
                  case km2 =>
                    exact fun _ _ _ => trivial
                  case kL0 =>
                    have h1 := (HQ6.out.st).c 1 _ rfl
                    simp [execOp, Act.eval, go_sem, h1]
                  case kL2 =>
                    rintro u W ⟨A, cp, rfl, hrow, hp, hg⟩
                    have h1 := (HQ6.out.st.grown hg n3).c 1 _ rfl
                    simp [execOp, Act.eval, go_sem, h1]
                  case kL3 =>
                    rintro u b W o ⟨A, cp, rfl, hrow, hp, hg⟩
                    have h1 := cell_alloc ((HQ6.out.st.grown hg n3).c 1 _ rfl) o
                    simp [execOp, Act.eval, go_sem, h1]
                  case kC1 =>
                    refine GY.call (by simp [execOp, Act.eval, go_sem]) ((clause_any HQ6.out.pr).mono ?_)
                    intro e W h
                    obtain ⟨⟨vc, rfl, hrow⟩, hp, hg⟩ := h.yes hc
                    obtain ⟨A, cp, rfl⟩ := own_form hrow
                    exact ⟨_, rfl, A, cp, rfl, hrow, hp, hg⟩
                  case kC2 =>
                    refine GY.call (by simp [execOp, Act.eval, go_sem]) ((clause_any HQ6.out.pr).mono ?_)
                    intro e W h
                    obtain ⟨⟨vc, rfl, hrow⟩, hp, hg⟩ := h.yes hc
                    obtain ⟨A, cp, rfl⟩ := own_form hrow
                    exact ⟨_, rfl, A, cp, rfl, hrow, hp, hg⟩
                  case kb1 =>
                    rintro u W ⟨A, cp, rfl, hrow, hp, hg⟩
                    simp [execOp, Act.eval, go_sem, csV, strV]
                  case kb2 =>
                    rintro u W ⟨A, cp, rfl, hrow, hp, hg⟩
                    simp [execOp, Act.eval, go_sem, csV, strV]
                  case kcs =>
                    rintro u W ⟨A, cp, rfl, hrow, hp, hg⟩
                    simp [csV, strV, Value.oneCell']
                  case kh63 =>
                    exact small_maxLen (by omega)
                  case khbytes =>
                    omega
                  case kown =>
                    rintro u W ⟨A, cp, rfl, hrow, hp, hg⟩
                    have hsz := hg.size
                    rw [World.size_drew] at hsz
                    have hst := HQ6.out.st.grown hg n3
                    exact ⟨x2.kept hg (by cases hv : v1.ownBlock with | none => exact .inl rfl | some g => exact .inr fun e => by injection e with e; have := (x2.lt g hv).1; omega), by omega, ⟨_, hst.c 1 _ rfl⟩, hst.f 1, hst.lt, nvb⟩
                  case kpost =>
                    exact fun _ _ _ => ⟨⟨_, rfl, rfl, .inl ⟨by rfl, fun _ _ => by rfl⟩⟩, trivial⟩
                  case kst =>
                    rintro u b g cap W2 ⟨x, hx⟩ hf
                    simp only [putsA, List.foldl_cons, List.foldl_nil, Act.put, List.setIfInBounds_toArray, List.set_cons_zero, List.set_cons_succ]
                    simp [execOp, Act.eval, go_sem, hx, hf]
                  case kQ =>
                    rintro u W ⟨A, cp, rfl, hrow, hp, hg⟩ b g cap W2 h1 h2 h3 h4
                    simp only [putsA, List.foldl_cons, List.foldl_nil, Act.put, List.setIfInBounds_toArray, List.set_cons_zero, List.set_cons_succ]
                    have HN := Lib.hid (HQ6.out.app1 x1 x2 hrow hp hg hvm hl h1 h2 h3)
                    clear h1 h2 h3 h4 hg hp hrow
                    go_wp2
                    go_roundg (gk - 1)
                    case rel => exact ⟨_, _, rr2, _, _, _, by omega, HN.out⟩
                    case measure => omega
              · have hwB : isW (hdT rr) sClass = true := by rw [isW, hw, hm]; rfl
                rw [hm] at hcc
                have hcC := hcc
                clear hcc
                obtain ⟨xs, x1, x2, x3⟩ := HQ6.out.row2
                have nvb : v2.ownBlock ≠ some (w.heap.size + 1) := fun e => by have := (x2.lt _ e).1; omega
                obtain ⟨tc, rc, hrr⟩ := wrd_cons hw
                have HQ6C := HQ6.out.pr
                rw [hrr] at HQ6C
                have HRR := Lib.hid hrr
                clear hrr
                cases hc : classP rr
                · rename_i s
                  have hcc := hc
                  rw [HRR.out] at hcc
                  go_wp2_with fail
                  refine wp_region_lcp (P := Try.prog) [(0, 41, .pointer (some ⟨w.heap.size + 1, 2, none⟩)), (2, 43, .pointer (some ⟨bp, 0, none⟩))] [] 1 3 4 5 6 7 42 v2 _ (fun _ => True) (fun c w' => c = faultC (hdT s) ∧ w.grownBy w' (some bp)) (by kernel_rfl) (by kernel_rfl) (by rfl) (by rfl) rfl rfl rfl (by simp only [putsA, List.foldl_cons, List.foldl_nil, Act.put, List.setIfInBounds_toArray, List.set_cons_zero, List.set_cons_succ]; rfl) ?_ ?_ ?_ ?_ ?_ ?_
                  · exact trivial
                  · skip
                    refine ⟨⟨_, rfl, rfl, .inl ⟨by rfl, fun _ _ => by rfl⟩⟩, ?_⟩
                    simp only [Act.put, List.setIfInBounds_toArray, List.set_cons_zero, List.set_cons_succ]
                    refine ⟨⟨_, rfl, rfl, .inl ⟨by rfl, fun _ _ => by rfl⟩⟩, ?_⟩
                    simp only [Act.put, List.setIfInBounds_toArray, List.set_cons_zero, List.set_cons_succ]
                    exact trivial
                  · have h1 := HQ6.out.st.c 2 _ rfl
                    simp [execOp, Act.eval, go_sem, h1]
                  · refine ⟨_, _, by simp [execOp, Act.eval, go_sem], (class_any HQ6C).mono (fun e w' h => ?_)⟩
                    obtain ⟨q1, q2⟩ := h.no hcc
                    exact ⟨_, q1, rfl, grownBy_trans HQ6.out.gr q2⟩
                  · refine ⟨_, _, by simp [execOp, Act.eval, go_sem], (class_any HQ6C).mono (fun e w' h => ?_)⟩
                    obtain ⟨q1, q2⟩ := h.no hcc
                    exact ⟨_, q1, rfl, grownBy_trans HQ6.out.gr q2⟩
                  · rintro c a' w' hd ⟨rfl, hg⟩
                    refine ⟨hd, hg, ?_⟩
                    rw [fundP_of HW.out HH.out, ← HQ6.out.vp, body_bad2 hsg hwB hc]
                    rfl
                · rename_i q
                  obtain ⟨c, rr2⟩ := q
                  have hcc := hc
                  rw [HRR.out] at hcc
                  obtain ⟨hvm, hl⟩ := body_more2 (a := a) (b := b) hsg hwB hc
                  obtain ⟨i0, hi, hz0, hz1, hz2⟩ := info_parts Try.info84
                  have hlr := hl
                  clear hlr
                  go_wp2_with fail
                  refine wp_region_lca (P := Try.prog) [(0, 41, .pointer (some ⟨w.heap.size + 1, 2, none⟩)), (2, 43, .pointer (some ⟨bp, 0, none⟩))] [(6, 47, .pointer (some ⟨w.heap.size + 1, 2, none⟩))] (fun _ => []) [] 1 3 4 5 7 42 44 45 46 v2 _ _ _ (fun _ => True) (fun u W => ∃ A cp, u = .agg #[strV c.name, .slice A c.cls.length cp, .int .i64 c.line, .int .i64 c.col] ∧ (∃ E : Nat → Prop, ClsD W E (.slice A c.cls.length cp) c.cls ∧ ∀ k, E k → w4.drew.heap.size ≤ k ∧ k < W.heap.size) ∧ Pr W bp rr2 ∧ w4.drew.grownBy W (some bp)) csV (w.heap.size + 1 + 1) 84 4 56 b.length xs i0 (.agg #[.string ByteArray.empty, .slice none 0 0, .int .i64 0, .int .i64 0]) (w.heap.size + 1) 2 _ _ 73 (by kernel_rfl) (by kernel_rfl) (by rfl) (by rfl) (by rfl) (by rfl) (by rfl) ⟨rfl, rfl, rfl, rfl, rfl⟩ ⟨rfl, rfl, rfl, rfl, rfl⟩ (fun _ => rfl) (by intros; simp only [putsA, List.foldl_cons, List.foldl_nil, Act.put, List.setIfInBounds_toArray, List.set_cons_zero, List.set_cons_succ] <;> rfl) (by intros; simp only [putsA, List.foldl_cons, List.foldl_nil, Act.put, List.setIfInBounds_toArray, List.set_cons_zero, List.set_cons_succ] <;> rfl) (by intros; simp only [putsA, List.foldl_cons, List.foldl_nil, Act.put, List.setIfInBounds_toArray, List.set_cons_zero, List.set_cons_succ] <;> rfl) (by intros; simp only [putsA, List.foldl_cons, List.foldl_nil, Act.put, List.setIfInBounds_toArray, List.set_cons_zero, List.set_cons_succ] <;> rfl) (by intros; simp only [putsA, List.foldl_cons, List.foldl_nil, Act.put, List.setIfInBounds_toArray, List.set_cons_zero, List.set_cons_succ] <;> rfl) ?khS ?khSR ?khSA ?khSG ?khSE ?kpre ?km1 ?km2 ?kL0 ?kL2 ?kL3 ?kC1 ?kC2 ?kb1 ?kb2 ?kcs rfl (by intros; rfl) (by intros; rfl) (by kernel_rfl) hi hz0 hz1 hz2 rfl (by decide) ?kh63 ?khbytes ?kown ?kpost ?kst ?kQ
                  case khS =>
                    exact trivial
                  case khSR =>
                    exact fun _ _ _ => trivial
                  case khSA =>
                    exact fun _ _ _ => trivial
                  case khSG =>
                    exact fun _ _ _ _ => trivial
                  case khSE =>
                    exact fun _ _ _ => trivial
                  case kpre =>
                    refine ⟨⟨_, rfl, rfl, .inl ⟨by rfl, fun _ _ => by rfl⟩⟩, ?_⟩
                    simp only [Act.put, List.setIfInBounds_toArray, List.set_cons_zero, List.set_cons_succ]
                    refine ⟨⟨_, rfl, rfl, .inl ⟨by rfl, fun _ _ => by rfl⟩⟩, ?_⟩
                    simp only [Act.put, List.setIfInBounds_toArray, List.set_cons_zero, List.set_cons_succ]
                    exact trivial
                  case km1 =>
                    exact fun _ _ _ => trivial
                  case km2 =>
                    exact fun _ _ _ => trivial
                  case kL0 =>
                    have h1 := (HQ6.out.st).c 2 _ rfl
                    simp [execOp, Act.eval, go_sem, h1]
                  case kL2 =>
                    rintro u W ⟨A, cp, rfl, hrow, hp, hg⟩
                    have h1 := (HQ6.out.st.grown hg n3).c 2 _ rfl
                    simp [execOp, Act.eval, go_sem, h1]
                  case kL3 =>
                    rintro u b W o ⟨A, cp, rfl, hrow, hp, hg⟩
                    have h1 := cell_alloc ((HQ6.out.st.grown hg n3).c 2 _ rfl) o
                    simp [execOp, Act.eval, go_sem, h1]
                  case kC1 =>
                    refine GY.call (by simp [execOp, Act.eval, go_sem]) ((class_any HQ6C).mono ?_)
                    intro e W h
                    obtain ⟨⟨vc, E, rfl, hcd, hE⟩, hp, hg⟩ := h.yes hcc
                    obtain ⟨A, cp, rfl⟩ := clsD_form hcd
                    exact ⟨_, rfl, A, cp, rfl, ⟨E, hcd, hE⟩, hp, hg⟩
                  case kC2 =>
                    refine GY.call (by simp [execOp, Act.eval, go_sem]) ((class_any HQ6C).mono ?_)
                    intro e W h
                    obtain ⟨⟨vc, E, rfl, hcd, hE⟩, hp, hg⟩ := h.yes hcc
                    obtain ⟨A, cp, rfl⟩ := clsD_form hcd
                    exact ⟨_, rfl, A, cp, rfl, ⟨E, hcd, hE⟩, hp, hg⟩
                  case kb1 =>
                    rintro u W ⟨A, cp, rfl, hrow, hp, hg⟩
                    simp [execOp, Act.eval, go_sem, csV, strV]
                  case kb2 =>
                    rintro u W ⟨A, cp, rfl, hrow, hp, hg⟩
                    simp [execOp, Act.eval, go_sem, csV, strV]
                  case kcs =>
                    rintro u W ⟨A, cp, rfl, hrow, hp, hg⟩
                    simp [csV, strV, Value.oneCell']
                  case kh63 =>
                    exact small_maxLen (by omega)
                  case khbytes =>
                    omega
                  case kown =>
                    rintro u W ⟨A, cp, rfl, hrow, hp, hg⟩
                    have hsz := hg.size
                    rw [World.size_drew] at hsz
                    have hst := HQ6.out.st.grown hg n3
                    exact ⟨x2.kept hg (by cases hv : v2.ownBlock with | none => exact .inl rfl | some g => exact .inr fun e => by injection e with e; have := (x2.lt g hv).1; omega), by omega, ⟨_, hst.c 2 _ rfl⟩, hst.f 2, hst.lt, nvb⟩
                  case kpost =>
                    exact fun _ _ _ => ⟨⟨_, rfl, rfl, .inl ⟨by rfl, fun _ _ => by rfl⟩⟩, trivial⟩
                  case kst =>
                    rintro u b g cap W2 ⟨x, hx⟩ hf
                    simp only [putsA, List.foldl_cons, List.foldl_nil, Act.put, List.setIfInBounds_toArray, List.set_cons_zero, List.set_cons_succ]
                    simp [execOp, Act.eval, go_sem, hx, hf]
                  case kQ =>
                    rintro u W ⟨A, cp, rfl, hrow, hp, hg⟩ b g cap W2 h1 h2 h3 h4
                    simp only [putsA, List.foldl_cons, List.foldl_nil, Act.put, List.setIfInBounds_toArray, List.set_cons_zero, List.set_cons_succ]
                    obtain ⟨E, hcd, hE⟩ := hrow
                    have HN := Lib.hid (HQ6.out.app2 x1 x2 hcd hE hp hg hvm hl h1 h2 h3)
                    clear h1 h2 h3 h4 hg hp hcd hE
                    go_wp2
                    go_roundg (gk - 1)
                    case rel => exact ⟨_, _, rr2, _, _, _, by omega, HN.out⟩
                    case measure => omega
          · obtain ⟨q, r2, rfl, hv⟩ := body_end hsg
            obtain ⟨at_, ha, p1, pf, hpp⟩ := HQ3.out.pr.step
            have HPP := Lib.hid hpp
            obtain ⟨xs, x1, x2, x3⟩ := HQ3.out.row1
            obtain ⟨A, cp, rfl⟩ := own_form x2
            obtain ⟨ys, y1, y2, y3⟩ := HQ3.out.row2
            obtain ⟨A2, cp2, rfl⟩ := own_form y2
            have c0 := HQ3.out.st.c 0 _ rfl
            have c1 := HQ3.out.st.c 1 _ rfl
            have c2 := HQ3.out.st.c 2 _ rfl
            have c3 := HQ3.out.st.c 3 _ rfl
            have c4 := HQ3.out.st.c 4 _ rfl
            simp only [strV] at c0
            have z0 := HQ3.out.z.c 0 _ rfl
            have z1 := HQ3.out.z.c 1 _ rfl
            have z2 := HQ3.out.z.c 2 _ rfl
            have z3 := HQ3.out.z.c 3 _ rfl
            have z4 := HQ3.out.z.c 4 _ rfl
            have f0 := HQ3.out.z.f 0
            have f1 := HQ3.out.z.f 1
            have f2 := HQ3.out.z.f 2
            have f3 := HQ3.out.z.f 3
            have f4 := HQ3.out.z.f 4
            have n1 : ¬ w.heap.size + 1 = bp := by omega
            have n2 : ¬ w.heap.size = bp := by omega
            have nb3 : ¬ w.heap.size + 1 = w.heap.size := by omega
            have hlen := HQ3.out.len
            have hlt3 := HQ3.out.st.lt
            have HV := Lib.hid hv
            have HSG := Lib.hid hsg
            clear hpp hv hsg x1 x2 x3 y1 y2 y3
            go_wp2_with fail
            have hg0 : w3.grownBy _ (some bp) := grownBy_setCell (w := w3) ⟨bp, 1, none⟩ rfl (.int .i64 ((at_ : Int) + 1))
            have hBel := (((((Below.refl w.heap.size (w3.setCell ⟨bp, 1, none⟩ (.int .i64 ((at_ : Int) + 1)))).setCell (p := ⟨w.heap.size, 0, none⟩) (Nat.le_refl _) (.string ⟨nm.toArray⟩)).setCell (p := ⟨w.heap.size, 1, none⟩) (Nat.le_refl _) (.slice A a.length cp)).setCell (p := ⟨w.heap.size, 2, none⟩) (Nat.le_refl _) (.slice A2 b.length cp2)).setCell (p := ⟨w.heap.size, 3, none⟩) (Nat.le_refl _) (.int .i64 ln)).setCell (p := ⟨w.heap.size, 4, none⟩) (Nat.le_refl _) (.int .i64 cl)
            have hg4 : World.grownBy _ _ (some w.heap.size) := grownBy_trans (grownBy_trans (grownBy_trans (grownBy_trans (grownBy_setCell (w := w3.setCell ⟨bp, 1, none⟩ (.int .i64 ((at_ : Int) + 1))) ⟨w.heap.size, 0, none⟩ rfl (.string ⟨nm.toArray⟩)) (grownBy_setCell ⟨w.heap.size, 1, none⟩ rfl (.slice A a.length cp))) (grownBy_setCell ⟨w.heap.size, 2, none⟩ rfl (.slice A2 b.length cp2))) (grownBy_setCell ⟨w.heap.size, 3, none⟩ rfl (.int .i64 ln))) (grownBy_setCell ⟨w.heap.size, 4, none⟩ rfl (.int .i64 cl))
            have hsz := hg4.size
            have hsz0 := hg0.size
            have hdd := HQ3.out.dd
            have hrow1 := (HQ3.out.row1.upg ClR.up hg0 (fun k hk => (hdd k hk).2) (fun g e => by
              injection e with e; subst e
              exact ⟨fun hk => by have := (hdd _ hk).1; omega, fun hv => by have := (HQ3.out.own1 hv).1; omega⟩) (fun _ h => h) (fun _ h => .inl h)).upg ClR.up hg4 (fun k hk => by have := (hdd k hk).2; omega) (fun g e => by
              injection e with e; subst e
              exact ⟨fun hk => by have := (hdd _ hk).1; omega, fun hv => by have := (HQ3.out.own1 hv).1; omega⟩) (fun _ h => h) (fun _ h => .inl h)
            have hrow2 := (HQ3.out.row2.upg CbR.up hg0 (fun k hk => (hdd k hk).2) (fun g e => by
              injection e with e; subst e
              exact ⟨fun hk => by have := (hdd _ hk).1; omega, fun hv => by have := (HQ3.out.own2 hv).1; omega⟩) (fun _ h => h) (fun _ h => .inl h)).upg CbR.up hg4 (fun k hk => by have := (hdd k hk).2; omega) (fun g e => by
              injection e with e; subst e
              exact ⟨fun hk => by have := (hdd _ hk).1; omega, fun hv => by have := (HQ3.out.own2 hv).1; omega⟩) (fun _ h => h) (fun _ h => .inl h)
            have ho1 := fun k => HQ3.out.own1 (g := k)
            have ho2 := fun k => HQ3.out.own2 (g := k)
            refine bodyPost_ret (v := .agg #[.string ⟨nm.toArray⟩, .slice A a.length cp, .slice A2 b.length cp2, .int .i64 ln, .int .i64 cl]) (by simp [results, Try.results51, go_sem, z0, z1, z2, z3, z4, n1, n2, nb3]) rfl ?_
            refine ⟨grownBy_thenB (grownBy_trans HQ3.out.gr hg0) hBel, ?_⟩
            rw [fundP_of HW.out HH.out, ← HQ3.out.vp, HV.out]
            refine ⟨⟨_, _, fun k => (D k ∨ (Value.slice A a.length cp).ownBlock = some k) ∨ (Value.slice A2 b.length cp2).ownBlock = some k, rfl, ?_, ?_, ?_⟩, HPP.out.above hBel HQ3.out.b1⟩
            · simp only [preB, List.append_nil]
              exact ClsD.up (hrow1.fin (D' := fun k => D k ∨ (Value.slice A a.length cp).ownBlock = some k) (fun h hd a c => ClR.up h hd a c) (fun _ => Iff.rfl)) (KeepsD.refl _ _) (fun _ h => .inl h)
            · simp only [preB, List.append_nil]
              exact CbsD.up (hrow2.fin (D' := fun k => D k ∨ (Value.slice A2 b.length cp2).ownBlock = some k) (fun h hd a c => CbR.up h hd a c) (fun _ => Iff.rfl)) (KeepsD.refl _ _) (fun _ h => h.elim (fun h => .inl (.inl h)) .inr)
            · rintro k ((hk | hk) | hk)
              · have := hdd k hk; omega
              · have := ho1 k hk; omega
              · have := ho2 k hk; omega
end Go.Proofs.Ytjnaeldaajckkaa
