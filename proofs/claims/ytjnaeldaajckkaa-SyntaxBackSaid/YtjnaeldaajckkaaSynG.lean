/- The program's parser: class. -/
import Derived.Test.YtjnaeldaajckkaaSyS
import Derived.BigQuiet
set_option linter.unusedVariables false
set_option linter.unusedSimpArgs false
namespace Go.Proofs.Ytjnaeldaajckkaa
open Go.RowKit Tok Syn

/-- a struct's cells -/
def csV : Value → List Value
  | .agg a => a.toList
  | x => [x]
theorem Try.info81 : (Try.prog.info? 81).map (fun i => (i.zero, i.size, i.bytes)) = some (some (.agg #[.string ByteArray.empty, .slice none 0 0, .int .i64 0, .int .i64 0]), 4, 56) := by kernel_rfl
def preC (acc : List Cl) (x : Except (List T) (List Cl × List T)) : Except (List T) (List Cl × List T) := match x with
  | .error s => .error s
  | .ok (v, r) => .ok (acc ++ v, r)
theorem preC_nil (x : Except (List T) (List Cl × List T)) : preC [] x = x := by cases x <;> rfl
theorem cls_end {r : List T} (h : sgn (hdT r) 125 = true) : ∃ t r', r = t :: r' ∧ clsP r = .ok ([], r') := by
  cases r with
  | nil => rw [sgn_no] at h; cases h
  | cons t r => exact ⟨t, r, rfl, by rw [show hdT (t :: r) = t from rfl] at h; simp [clsP_cons, h]⟩
theorem cls_bad {r s : List T} (h : sgn (hdT r) 125 = false) (h2 : clauseP r = .error s) : clsP r = .error s := by
  cases r with
  | nil => cases h2; rfl
  | cons t r => rw [show hdT (t :: r) = t from rfl] at h; rw [clsP_cons, h, h2]; rfl
theorem cls_more {acc : List Cl} {r r2 : List T} {c : Cl} (h : sgn (hdT r) 125 = false) (h2 : clauseP r = .ok (c, r2)) : preC acc (clsP r) = preC (acc ++ [c]) (clsP r2) ∧ r2.length < r.length := by
  have ht := clause_tl r
  rw [h2] at ht
  refine ⟨?_, ht.2⟩
  cases r with
  | nil => cases h2
  | cons t r =>
    rw [show hdT (t :: r) = t from rfl] at h
    rw [clsP_cons, h, h2]
    simp only [Bool.false_eq_true, if_false]
    cases clsP r2 with
    | error s => rfl
    | ok p => simp [preC]
/-- a class under construction -/
structure CbS (bp b0 b3 : Nat) (w : World) (nm : List UInt8) (ln cl : Nat) (r : List T) (wr : World) (acc : List Cl) (rr : List T) (v : Value) (D : Nat → Prop) : Prop where
  pr : Pr wr bp rr
  st : StA wr b3 [strV nm, v, .int .i64 ln, .int .i64 cl]
  z : StA wr b0 [strV [], .slice none 0 0, .int .i64 0, .int .i64 0]
  row : BldR wr ClR D (b3 + 1) 81 4 v acc
  gr : w.grownBy wr (some bp)
  vp : preC acc (clsP rr) = clsP r
  len : acc.length + rr.length ≤ 65536
  dd : ∀ k, D k → b3 < k ∧ k < wr.heap.size
  b1 : bp < b0
  b2 : b0 < b3
  b4 : b0 = w.heap.size
theorem BldR.below {α : Type} {w w' : World} {R : World → (Nat → Prop) → α → List Value → Prop} {D : Nat → Prop} {B : Nat} {T : TypeId} {size : Nat} {v : Value} {l : List α}
    (hR : ∀ {w w' : World} {D D' : Nat → Prop}, KeepsD D w w' → (∀ k, D k → D' k) → ∀ a c, R w D a c → R w' D' a c) (h : BldR w R D B T size v l) (hb : Below w.heap.size w w') (hD : ∀ k, D k → k < w.heap.size) : BldR w' R D B T size v l :=
  h.upg hR (grownBy_below hb none) hD (fun g e => by cases e) (fun _ h => h) (fun _ h => .inl h)
theorem CbS.below {bp b0 b3 : Nat} {w : World} {nm : List UInt8} {ln cl : Nat} {r : List T} {wr w' : World} {acc : List Cl} {rr : List T} {v : Value} {D : Nat → Prop} (h : CbS bp b0 b3 w nm ln cl r wr acc rr v D) (hb : Below wr.heap.size wr w') : CbS bp b0 b3 w nm ln cl r w' acc rr v D where
  pr := h.pr.below hb
  st := h.st.below hb
  z := h.z.below hb
  row := h.row.below ClR.up hb fun k hk => (h.dd k hk).2
  gr := grownBy_trans h.gr (grownBy_below hb _)
  vp := h.vp
  len := h.len
  dd k hk := ⟨(h.dd k hk).1, Nat.lt_of_lt_of_le (h.dd k hk).2 hb.size⟩
  b1 := h.b1
  b2 := h.b2
  b4 := h.b4
/-- a clause more -/
theorem CbS.app {bp b0 b3 : Nat} {w : World} {nm : List UInt8} {ln cl : Nat} {r : List T} {W0 W W2 : World} {acc : List Cl} {rr rr2 : List T} {v : Value} {D : Nat → Prop} {xs : List Value} {c : Cl} {A : Option Addr} {cp g cap : Nat} {o : Obj}
    (h : CbS bp b0 b3 w nm ln cl r W0 acc rr v D) (x1 : CellsR (ClR W0 D) acc xs) (x2 : W0.ownsRow (b3 + 1) 81 4 v acc.length xs) (x3 : ∀ g, v.ownBlock = some g → ¬ D g)
    (ho : W.ownsRow W0.heap.size 9 1 (.slice A c.vals.length cp) c.vals.length (c.vals.map strV)) (hp : Pr W bp rr2) (hg : W0.grownBy W (some bp))
    (hv : preC acc (clsP rr) = preC (acc ++ [c]) (clsP rr2)) (hl : rr2.length < rr.length)
    (h1 : W2.ownsRow (b3 + 1) 81 4 (.slice (some ⟨g, 0, none⟩) (acc.length + 1) cap) (acc.length + 1) (xs ++ csV (.agg #[strV c.word, .slice A c.vals.length cp, .int .i64 c.line, .int .i64 c.col])))
    (h2 : (W.alloc o).grownBy W2 v.ownBlock) (h3 : v.ownBlock = some g ∨ g = W.heap.size + 1) :
    CbS bp b0 b3 w nm ln cl r (W2.setCell ⟨b3, 1, none⟩ (.slice (some ⟨g, 0, none⟩) (acc.length + 1) cap)) (acc ++ [c]) rr2 (.slice (some ⟨g, 0, none⟩) (acc.length + 1) cap) (fun k => D k ∨ (Value.slice A c.vals.length cp).ownBlock = some k) := by
  have hsz := hg.size
  have hlt := h.st.lt
  have hb1 := h.b1
  have hb2 := h.b2
  have hoW : W.ownsRow (b3 + 1) 81 4 v acc.length xs := x2.kept hg (by
    cases hv : v.ownBlock with
    | none => exact .inl rfl
    | some g => exact .inr fun e => by injection e with e; have := (x2.lt g hv).1; omega)
  have hB1 : Below (b3 + 1) W W2 := ((Below.refl (b3 + 1) W).alloc (by omega) o).grown h2 (by simp; omega) (fun k hk => (hoW.lt k hk).1)
  have hB : Below b3 W (W2.setCell ⟨b3, 1, none⟩ (.slice (some ⟨g, 0, none⟩) (acc.length + 1) cap)) := (hB1.mono (Nat.le_succ b3)).setCell (p := ⟨b3, 1, none⟩) (Nat.le_refl _) _
  have hd' : ∀ k, (D k ∨ (Value.slice A c.vals.length cp).ownBlock = some k) → D k ∨ (W0.heap.size ≤ k ∧ k < W.heap.size) := fun k hk => hk.imp id fun e => ho.lt k e
  have hrow := BldR.round (bx := b3) (fo := 1) (D' := fun k => D k ∨ (Value.slice A c.vals.length cp).ownBlock = some k) (a := c) ClR.up x1 x2 x3 (fun k hk => (h.dd k hk).2) hg (fun e => by have := (h.dd bp e).1; omega) (by omega) (fun k hk => .inl hk) hd' ⟨_, rfl, .of_own ho fun g e => .inr e⟩ (by omega) (fun e => by
    rcases hd' b3 e with q | q
    · have := (h.dd b3 q).1; omega
    · omega) (by omega) h1 h2 h3
  exact
    { pr := hp.above hB (by omega)
      st := ((h.st.grown hg (fun e => by injection e with e; omega)).above hB1 (Nat.lt_succ_self _)).set 1 _ (by simp)
      z := (h.z.grown hg (fun e => by injection e with e; omega)).above hB hb2
      row := hrow
      gr := grownBy_thenB (grownBy_trans h.gr hg) (hB.mono (by have := h.b4; omega))
      vp := hv.symm.trans h.vp
      len := by have := h.len; simp; omega
      dd := fun k hk => by
        have := hB.size
        rcases hd' k hk with q | q
        · have := h.dd k q; omega
        · omega
      b1 := hb1
      b2 := hb2
      b4 := h.b4 }
theorem classP_no {l s : List T} (h : headP l = .error s) : classP l = .error s := by unfold classP; rw [h]
theorem classP_of {l r : List T} {h : List UInt8 × Nat × Nat} (hh : headP l = .ok (h, r)) : classP l = match clsP r with
    | .error s => .error s
    | .ok (cs, r') => .ok (⟨h.1, cs, h.2.1, h.2.2⟩, r') := by unfold classP; rw [hh]; rfl
theorem OutP.no {α : Type} {x : Except (List T) (α × List T)} {bp : Nat} {w w' : World} {e : Ending} {R : α → Ending → World → Prop} {s : List T} (h : OutP x bp w e w' R) (hx : x = .error s) : e = .panicked (faultC (hdT s)) ∧ w.grownBy w' (some bp) := by
  subst hx; exact ⟨h.2, h.1⟩
theorem OutP.yes {α : Type} {x : Except (List T) (α × List T)} {bp : Nat} {w w' : World} {e : Ending} {R : α → Ending → World → Prop} {a : α} {r : List T} (h : OutP x bp w e w' R) (hx : x = .ok (a, r)) : R a e w' ∧ Pr w' bp r ∧ w.grownBy w' (some bp) := by
  subst hx; exact ⟨h.2.1, h.2.2, h.1⟩
set_option maxRecDepth 100000 in
set_option maxHeartbeats 4000000 in
theorem class_any {bp : Nat} {t : T} {r : List T} {w : World} (hp : Pr w bp (t :: r)) :
    Calls Try.prog 74 #[.pointer (some ⟨bp, 0, none⟩)] w fun e w' =>
      OutP (classP (t :: r)) bp w e w' fun c e w' => ∃ v D, e = .returned (.agg #[strV c.name, v, .int .i64 c.line, .int .i64 c.col]) ∧ ClsD w' D v c.cls ∧ ∀ k, D k → w.heap.size ≤ k ∧ k < w'.heap.size := by
  have hbp := hp.lt
  have hB0 := ((Below.refl w.heap.size w).alloc (Nat.le_refl _) (.cells #[.string ⟨#[]⟩, .slice none 0 0, .int .i64 0, .int .i64 0] 84)).alloc (by simp) (.cells #[.string ⟨#[]⟩, .slice none 0 0, .int .i64 0, .int .i64 0] 84)
  have HT := Lib.hid (hp.above hB0 hbp)
  have HB0 := Lib.hid hB0
  have HZ0 := Lib.hid (((StA.new w [.string ⟨#[]⟩, .slice none 0 0, .int .i64 0, .int .i64 0] 84)).below ((Below.refl _ _).alloc (Nat.le_refl _) (.cells #[.string ⟨#[]⟩, .slice none 0 0, .int .i64 0, .int .i64 0] 84)))
  have hN := StA.new (w.alloc (.cells #[.string ⟨#[]⟩, .slice none 0 0, .int .i64 0, .int .i64 0] 84)) [.string ⟨#[]⟩, .slice none 0 0, .int .i64 0, .int .i64 0] 84
  rw [World.size_alloc] at hN
  have HN := Lib.hid hN
  clear hp hB0 hN
  cases hh : headP (t :: r)
  · rename_i s
    have HH := Lib.hid hh
    clear hh
    go_enter Try.func74, Try.ntmps74
    go_wp2_with fail
    refine (head_any HT.out).mono ?_
    intro e w1 ho
    obtain ⟨rfl, hg1⟩ := ho.no HH.out
    go_wp2
    exact ⟨rfl, grownBy_trans (grownBy_below HB0.out _) hg1, by rw [classP_no HH.out]⟩
  · rename_i q
    obtain ⟨⟨nm, ln, cl⟩, r1⟩ := q
    have HH := Lib.hid hh
    have HLr : Hid (r1.length ≤ 65536) := Lib.hid (by have h1 := head_tl (t :: r); rw [hh] at h1; have := h1.2; have := HT.out.size; omega)
    clear hh
    go_enter Try.func74, Try.ntmps74
    go_wp2_with fail
    refine (head_any HT.out).mono ?_
    intro e w1 ho
    obtain ⟨rfl, hp1, hg1⟩ := ho.yes HH.out
    have hs1 := hg1.size
    simp only [World.size_alloc] at hs1
    have HP1 := Lib.hid hp1
    have HG1 := Lib.hid hg1
    have n3 : some bp ≠ some (w.heap.size + 1) := fun e => by injection e with e; omega
    have n0 : some bp ≠ some w.heap.size := fun e => by injection e with e; omega
    have hS := HN.out.grown hg1 n3
    have HS := Lib.hid hS
    have HZ := Lib.hid (HZ0.out.grown hg1 n0)
    have c0 := hS.c 0 _ rfl
    have c2 := hS.c 2 _ rfl
    have c3 := hS.c 3 _ rfl
    have f0 := hS.f 0
    have f2 := hS.f 2
    have f3 := hS.f 3
    clear hp1 hg1 ho hS
    simp only [strV]
    go_wp2
    go_loopg [] (r1.length + 1) (fun n wr => ∃ acc rr v D, rr.length < n ∧ CbS bp w.heap.size (w.heap.size + 1) w nm ln cl r1 wr acc rr v D)
    case atStart =>
      have hBel := ((((Below.refl (w.heap.size + 1) w1).setCell (p := ⟨w.heap.size + 1, 0, none⟩) (Nat.le_refl _) (.string ⟨nm.toArray⟩)).setCell (p := ⟨w.heap.size + 1, 2, none⟩) (Nat.le_refl _) (.int .i64 ln))).setCell (p := ⟨w.heap.size + 1, 3, none⟩) (Nat.le_refl _) (.int .i64 cl)
      have nb : w.heap.size + 1 ≠ w.heap.size := by omega
      refine ⟨[], r1, .slice none 0 0, fun _ => False, by omega, ?_⟩
      exact
        { pr := HP1.out.above hBel (by omega)
          st := ((HS.out.set 0 (.string ⟨nm.toArray⟩) (by simp)).set 2 (.int .i64 ln) (by simp)).set 3 (.int .i64 cl) (by simp)
          z := ((HZ.out.far _ _ nb).far _ _ nb).far _ _ nb
          row := BldR.nil _ _ _ _ _ _
          gr := grownBy_thenB (grownBy_trans (grownBy_below HB0.out (some bp)) HG1.out) (hBel.mono (Nat.le_succ _))
          vp := preC_nil _
          len := by have := HLr.out; simp; omega
          dd := fun k h => h.elim
          b1 := hbp
          b2 := by omega
          b4 := rfl }
    case round =>
      obtain ⟨acc, rr, v, D, hn, HQ⟩ := hrel
      have HQ := Lib.hid HQ
      clear HP1 HG1 HS HZ HN HZ0 HT c0 c2 c3 f0 f2 f3
      go_wp2_with fail
      refine (sign_pr 125 HQ.out.pr).mono ?_
      rintro e w3 ⟨rfl, hb3⟩
      have HQ3 := Lib.hid (HQ.out.below hb3)
      clear hb3 HQ
      cases hsg : sgn (hdT rr) 125
      · have HQ6 := Lib.hid (HQ3.out.below (Below.refl _ _).drew)
        have hlen := HQ6.out.len
        have hlt3 := HQ6.out.st.lt
        rw [World.size_drew] at hlt3
        obtain ⟨xs, x1, x2, x3⟩ := HQ6.out.row
        have nvb : v.ownBlock ≠ some (w.heap.size + 1) := fun e => by have := (x2.lt _ e).1; omega
        cases hc : clauseP rr
        · rename_i s
          go_wp2_with fail
          refine wp_region_lcp (P := Try.prog) [(0, 14, .pointer (some ⟨w.heap.size + 1, 1, none⟩)), (2, 16, .pointer (some ⟨bp, 0, none⟩))] [] 1 3 4 5 6 7 15 v _ (fun _ => True) (fun c w' => c = faultC (hdT s) ∧ w.grownBy w' (some bp)) (by kernel_rfl) (by kernel_rfl) (by rfl) (by rfl) rfl rfl rfl (by simp only [putsA, List.foldl_cons, List.foldl_nil, Act.put, List.setIfInBounds_toArray, List.set_cons_zero, List.set_cons_succ]; rfl) ?_ ?_ ?_ ?_ ?_ ?_
          · exact trivial
          · skip
            refine ⟨⟨_, rfl, rfl, .inl ⟨by rfl, fun _ _ => by rfl⟩⟩, ?_⟩
            simp only [Act.put, List.setIfInBounds_toArray, List.set_cons_zero, List.set_cons_succ]
            refine ⟨⟨_, rfl, rfl, .inl ⟨by rfl, fun _ _ => by rfl⟩⟩, ?_⟩
            simp only [Act.put, List.setIfInBounds_toArray, List.set_cons_zero, List.set_cons_succ]
            exact trivial
          · have h1 := HQ6.out.st.c 1 _ rfl
            simp [execOp, Act.eval, go_sem, h1]
          · refine ⟨_, _, by simp [execOp, Act.eval, go_sem], (clause_any HQ6.out.pr).mono (fun e w' h => ?_)⟩
            obtain ⟨q1, q2⟩ := h.no hc
            exact ⟨_, q1, rfl, grownBy_trans HQ6.out.gr q2⟩
          · refine ⟨_, _, by simp [execOp, Act.eval, go_sem], (clause_any HQ6.out.pr).mono (fun e w' h => ?_)⟩
            obtain ⟨q1, q2⟩ := h.no hc
            exact ⟨_, q1, rfl, grownBy_trans HQ6.out.gr q2⟩
          · rintro c a' w' hd ⟨rfl, hg⟩
            refine ⟨hd, hg, ?_⟩
            rw [classP_of HH.out, ← HQ3.out.vp, cls_bad hsg hc]
            rfl
        · rename_i q
          obtain ⟨c, rr2⟩ := q
          obtain ⟨hvm, hl⟩ := cls_more (acc := acc) hsg hc
          obtain ⟨i0, hi, hz0, hz1, hz2⟩ := info_parts Try.info81
          go_wp2_with fail
          refine wp_region_lca (P := Try.prog) [(0, 14, .pointer (some ⟨w.heap.size + 1, 1, none⟩)), (2, 16, .pointer (some ⟨bp, 0, none⟩))] [(6, 20, .pointer (some ⟨w.heap.size + 1, 1, none⟩))] (fun _ => []) [] 1 3 4 5 7 15 17 18 19 v _ _ _ (fun _ => True) (fun u W => ∃ A cp, u = .agg #[strV c.word, .slice A c.vals.length cp, .int .i64 c.line, .int .i64 c.col] ∧ W.ownsRow w3.drew.heap.size 9 1 (.slice A c.vals.length cp) c.vals.length (c.vals.map strV) ∧ Pr W bp rr2 ∧ w3.drew.grownBy W (some bp)) csV (w.heap.size + 1 + 1) 81 4 56 acc.length xs i0 (.agg #[.string ByteArray.empty, .slice none 0 0, .int .i64 0, .int .i64 0]) (w.heap.size + 1) 1 _ _ 72 (by kernel_rfl) (by kernel_rfl) (by rfl) (by rfl) (by rfl) (by rfl) (by rfl) ⟨rfl, rfl, rfl, rfl, rfl⟩ ⟨rfl, rfl, rfl, rfl, rfl⟩ (fun _ => rfl) (by intros; simp only [putsA, List.foldl_cons, List.foldl_nil, Act.put, List.setIfInBounds_toArray, List.set_cons_zero, List.set_cons_succ] <;> rfl) (by intros; simp only [putsA, List.foldl_cons, List.foldl_nil, Act.put, List.setIfInBounds_toArray, List.set_cons_zero, List.set_cons_succ] <;> rfl) (by intros; simp only [putsA, List.foldl_cons, List.foldl_nil, Act.put, List.setIfInBounds_toArray, List.set_cons_zero, List.set_cons_succ] <;> rfl) (by intros; simp only [putsA, List.foldl_cons, List.foldl_nil, Act.put, List.setIfInBounds_toArray, List.set_cons_zero, List.set_cons_succ] <;> rfl) (by intros; simp only [putsA, List.foldl_cons, List.foldl_nil, Act.put, List.setIfInBounds_toArray, List.set_cons_zero, List.set_cons_succ] <;> rfl) ?khS ?khSR ?khSA ?khSG ?khSE ?kpre ?km1 ?km2 ?kL0 ?kL2 ?kL3 ?kC1 ?kC2 ?kb1 ?kb2 ?kcs rfl (by intros; rfl) (by intros; rfl) (by kernel_rfl) hi hz0 hz1 hz2 rfl (by decide) ?kh63 ?khbytes ?kown ?kpost ?kst ?kQ
          case khS =>
            exact trivial
          case khSR =>
            exact fun _ _ _ => trivial
          case khSA =>
            exact fun _ _ _ => trivial
          case khSG =>
            exact fun _ _ _ _ => trivial
          case khSE =>
            exact fun _ _ _ => trivial
          case kpre =>
            refine ⟨⟨_, rfl, rfl, .inl ⟨by rfl, fun _ _ => by rfl⟩⟩, ?_⟩
            simp only [Act.put, List.setIfInBounds_toArray, List.set_cons_zero, List.set_cons_succ]
            refine ⟨⟨_, rfl, rfl, .inl ⟨by rfl, fun _ _ => by rfl⟩⟩, ?_⟩
            simp only [Act.put, List.setIfInBounds_toArray, List.set_cons_zero, List.set_cons_succ]
            exact trivial
          case km1 =>
            exact fun _ _ _ => trivial
          case km2 =>
            exact fun _ _ _ => trivial
          case kL0 =>
            have h1 := (HQ6.out.st).c 1 _ rfl
            simp [execOp, Act.eval, go_sem, h1]
          case kL2 =>
            rintro u W ⟨A, cp, rfl, hrow, hp, hg⟩
            have h1 := (HQ6.out.st.grown hg n3).c 1 _ rfl
            simp [execOp, Act.eval, go_sem, h1]
          case kL3 =>
            rintro u b W o ⟨A, cp, rfl, hrow, hp, hg⟩
            have h1 := cell_alloc ((HQ6.out.st.grown hg n3).c 1 _ rfl) o
            simp [execOp, Act.eval, go_sem, h1]
          case kC1 =>
            refine GY.call (by simp [execOp, Act.eval, go_sem]) ((clause_any HQ6.out.pr).mono ?_)
            intro e W h
            obtain ⟨⟨vc, rfl, hrow⟩, hp, hg⟩ := h.yes hc
            obtain ⟨A, cp, rfl⟩ := own_form hrow
            exact ⟨_, rfl, A, cp, rfl, hrow, hp, hg⟩
          case kC2 =>
            refine GY.call (by simp [execOp, Act.eval, go_sem]) ((clause_any HQ6.out.pr).mono ?_)
            intro e W h
            obtain ⟨⟨vc, rfl, hrow⟩, hp, hg⟩ := h.yes hc
            obtain ⟨A, cp, rfl⟩ := own_form hrow
            exact ⟨_, rfl, A, cp, rfl, hrow, hp, hg⟩
          case kb1 =>
            rintro u W ⟨A, cp, rfl, hrow, hp, hg⟩
            simp [execOp, Act.eval, go_sem, csV, strV]
          case kb2 =>
            rintro u W ⟨A, cp, rfl, hrow, hp, hg⟩
            simp [execOp, Act.eval, go_sem, csV, strV]
          case kcs =>
            rintro u W ⟨A, cp, rfl, hrow, hp, hg⟩
            simp [csV, strV, Value.oneCell']
          case kh63 =>
            exact small_maxLen (by omega)
          case khbytes =>
            omega
          case kown =>
            rintro u W ⟨A, cp, rfl, hrow, hp, hg⟩
            have hsz := hg.size
            rw [World.size_drew] at hsz
            have hst := HQ6.out.st.grown hg n3
            exact ⟨x2.kept hg (by cases hv : v.ownBlock with | none => exact .inl rfl | some g => exact .inr fun e => by injection e with e; have := (x2.lt g hv).1; omega), by omega, ⟨_, hst.c 1 _ rfl⟩, hst.f 1, hst.lt, nvb⟩
          case kpost =>
            exact fun _ _ _ => ⟨⟨_, rfl, rfl, .inl ⟨by rfl, fun _ _ => by rfl⟩⟩, trivial⟩
          case kst =>
            rintro u b g cap W2 ⟨x, hx⟩ hf
            simp only [putsA, List.foldl_cons, List.foldl_nil, Act.put, List.setIfInBounds_toArray, List.set_cons_zero, List.set_cons_succ]
            simp [execOp, Act.eval, go_sem, hx, hf]
          case kQ =>
            rintro u W ⟨A, cp, rfl, hrow, hp, hg⟩ b g cap W2 h1 h2 h3 h4
            simp only [putsA, List.foldl_cons, List.foldl_nil, Act.put, List.setIfInBounds_toArray, List.set_cons_zero, List.set_cons_succ]
            have HN := Lib.hid (HQ6.out.app x1 x2 x3 hrow hp hg hvm hl h1 h2 h3)
            clear h1 h2 h3 h4 hg hp hrow
            go_wp2
            go_roundg (gk - 1)
            case rel => exact ⟨_, rr2, _, _, by omega, HN.out⟩
            case measure => omega
      · obtain ⟨q, r2, rfl, hv⟩ := cls_end hsg
        obtain ⟨at_, ha, p1, pf, hpp⟩ := HQ3.out.pr.step
        have HPP := Lib.hid hpp
        obtain ⟨xs, x1, x2, x3⟩ := HQ3.out.row
        obtain ⟨A, cp, rfl⟩ := own_form x2
        have c0 := HQ3.out.st.c 0 _ rfl
        have c1 := HQ3.out.st.c 1 _ rfl
        have c2 := HQ3.out.st.c 2 _ rfl
        have c3 := HQ3.out.st.c 3 _ rfl
        simp only [strV] at c0
        have z0 := HQ3.out.z.c 0 _ rfl
        have z1 := HQ3.out.z.c 1 _ rfl
        have z2 := HQ3.out.z.c 2 _ rfl
        have z3 := HQ3.out.z.c 3 _ rfl
        have f0 := HQ3.out.z.f 0
        have f1 := HQ3.out.z.f 1
        have f2 := HQ3.out.z.f 2
        have f3 := HQ3.out.z.f 3
        have n1 : ¬ w.heap.size + 1 = bp := by omega
        have n2 : ¬ w.heap.size = bp := by omega
        have nb3 : ¬ w.heap.size + 1 = w.heap.size := by omega
        have hlen := HQ3.out.len
        have hlt3 := HQ3.out.st.lt
        have HV := Lib.hid hv
        have HSG := Lib.hid hsg
        clear hpp hv hsg x1 x2 x3
        go_wp2_with fail
        have hg0 : w3.grownBy _ (some bp) := grownBy_setCell (w := w3) ⟨bp, 1, none⟩ rfl (.int .i64 ((at_ : Int) + 1))
        have hBel := ((((Below.refl w.heap.size (w3.setCell ⟨bp, 1, none⟩ (.int .i64 ((at_ : Int) + 1)))).setCell (p := ⟨w.heap.size, 0, none⟩) (Nat.le_refl _) (.string ⟨nm.toArray⟩)).setCell (p := ⟨w.heap.size, 1, none⟩) (Nat.le_refl _) (.slice A acc.length cp)).setCell (p := ⟨w.heap.size, 2, none⟩) (Nat.le_refl _) (.int .i64 ln)).setCell (p := ⟨w.heap.size, 3, none⟩) (Nat.le_refl _) (.int .i64 cl)
        have hg4 : World.grownBy _ _ (some w.heap.size) := grownBy_trans (grownBy_trans (grownBy_trans (grownBy_setCell (w := w3.setCell ⟨bp, 1, none⟩ (.int .i64 ((at_ : Int) + 1))) ⟨w.heap.size, 0, none⟩ rfl (.string ⟨nm.toArray⟩)) (grownBy_setCell ⟨w.heap.size, 1, none⟩ rfl (.slice A acc.length cp))) (grownBy_setCell ⟨w.heap.size, 2, none⟩ rfl (.int .i64 ln))) (grownBy_setCell ⟨w.heap.size, 3, none⟩ rfl (.int .i64 cl))
        have hsz := hg4.size
        have hsz0 := hg0.size
        have hdd := HQ3.out.dd
        have hrow := (HQ3.out.row.upg ClR.up hg0 (fun k hk => (hdd k hk).2) (fun g e => by
          injection e with e; subst e
          refine ⟨fun hk => ?_, fun hv => ?_⟩
          · have := (hdd _ hk).1; omega
          · obtain ⟨xs, _, x2, _⟩ := HQ3.out.row
            have := (x2.lt _ hv).1; omega) (fun _ h => h) (fun _ h => .inl h)).upg ClR.up hg4 (fun k hk => by have := (hdd k hk).2; omega) (fun g e => by
          injection e with e; subst e
          refine ⟨fun hk => ?_, fun hv => ?_⟩
          · have := (hdd _ hk).1; omega
          · obtain ⟨xs, _, x2, _⟩ := HQ3.out.row
            have := (x2.lt _ hv).1; omega) (fun _ h => h) (fun _ h => .inl h)
        have hown : ∀ k, (Value.slice A acc.length cp).ownBlock = some k → w.heap.size + 1 < k ∧ k < w3.heap.size := fun k hk => by
          obtain ⟨xs, _, x2, _⟩ := HQ3.out.row
          have := x2.lt _ hk; omega
        refine bodyPost_ret (v := .agg #[.string ⟨nm.toArray⟩, .slice A acc.length cp, .int .i64 ln, .int .i64 cl]) (by simp [results, Try.results74, go_sem, z0, z1, z2, z3, n1, n2, nb3]) rfl ?_
        refine ⟨grownBy_thenB (grownBy_trans HQ3.out.gr hg0) hBel, ?_⟩
        rw [classP_of HH.out, ← HQ3.out.vp, HV.out]
        refine ⟨⟨_, fun k => D k ∨ (Value.slice A acc.length cp).ownBlock = some k, rfl, ?_, ?_⟩, HPP.out.above hBel HQ3.out.b1⟩
        · simp only [preC, List.append_nil]
          exact hrow.fin (D' := fun k => D k ∨ (Value.slice A acc.length cp).ownBlock = some k) (fun h hd a c => ClR.up h hd a c) (fun _ => Iff.rfl)
        · rintro k (hk | hk)
          · have := hdd k hk; omega
          · have := hown k hk; omega
end Go.Proofs.Ytjnaeldaajckkaa
