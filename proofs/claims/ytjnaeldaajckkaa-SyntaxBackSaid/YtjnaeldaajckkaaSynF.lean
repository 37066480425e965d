/- The program's parser: clause. -/
import Derived.Test.YtjnaeldaajckkaaSynE
import Derived.Test.YtjnaeldaajckkaaSyX
import Derived.BigQuiet
set_option linter.unusedVariables false
set_option linter.unusedSimpArgs false
namespace Go.Proofs.Ytjnaeldaajckkaa
open Go.RowKit Tok Syn

theorem clauseP_no {r : List T} (h : (wrd (hdT r) && (hdT r).text != sClass) = false) : clauseP r = .error r := by
  cases r with
  | nil => rfl
  | cons t r => rw [show hdT (t :: r) = t from rfl] at h; rw [clauseP_cons, h]; rfl
/-- values that were taken already, put ahead of those to come -/
def preV (acc : List (List UInt8)) (x : Except (List T) (List (List UInt8) × List T)) : Except (List T) (List (List UInt8) × List T) := match x with
  | .error s => .error s
  | .ok (v, r) => .ok (acc ++ v, r)
theorem preV_nil (x : Except (List T) (List (List UInt8) × List T)) : preV [] x = x := by cases x <;> rfl
theorem vals_end {r : List T} (h : sgn (hdT r) 59 = true) : ∃ t r', r = t :: r' ∧ valsP r = .ok ([], r') := by
  cases r with
  | nil => rw [sgn_no] at h; cases h
  | cons t r => exact ⟨t, r, rfl, by rw [show hdT (t :: r) = t from rfl] at h; simp [valsP, h]⟩
theorem vals_bad {r : List T} (h : sgn (hdT r) 59 = false) (h2 : valOk (hdT r) = false) : valsP r = .error r := by
  cases r with
  | nil => rfl
  | cons t r => rw [show hdT (t :: r) = t from rfl] at h h2; simp [valsP, h, h2]
theorem vals_more {acc : List (List UInt8)} {r : List T} (h : sgn (hdT r) 59 = false) (h2 : valOk (hdT r) = true) : ∃ t r', r = t :: r' ∧ preV acc (valsP r) = preV (acc ++ [t.text]) (valsP r') := by
  cases r with
  | nil => cases h2
  | cons t r =>
    rw [show hdT (t :: r) = t from rfl] at h h2
    refine ⟨t, r, rfl, ?_⟩
    simp only [valsP, h, h2, Bool.false_eq_true, if_false, if_true]
    cases valsP r with
    | error s => rfl
    | ok p => simp [preV]
theorem set_far {W : World} {p : Addr} {b o : Nat} {u : Value} (h : p.block ≠ b) : (W.setCell p u).cell? ⟨b, o, none⟩ = W.cell? ⟨b, o, none⟩ := World.cell?_setCell_other _ _ _ _ (fun e => h (by rw [e]))
theorem cells_at (w : World) (l : List Value) (t : TypeId) (g : Nat) (hg : g = w.heap.size) (j : Nat) (u : Value) (h : l[j]? = some u) : (w.alloc (.cells l.toArray t)).cell? ⟨g, j, none⟩ = some u := by
  subst hg
  have hadd : (⟨w.heap.size, 0, none⟩ : Addr).add j = ⟨w.heap.size, j, none⟩ := by unfold Addr.add; split <;> simp_all
  rw [← hadd]
  exact cells_new w l t j u h
theorem own_form {w : World} {b : Nat} {e : TypeId} {size : Nat} {v : Value} {n : Nat} {xs : List Value} (h : w.ownsRow b e size v n xs) : ∃ A c, v = .slice A n c := by
  rcases h.2 with ⟨rfl, rfl⟩ | ⟨g, cap, cur, hv, _⟩
  · exact ⟨_, _, rfl⟩
  · exact ⟨_, _, hv⟩
/-- a clause under construction -/
structure ClS (bp b0 b6 : Nat) (w : World) (t : T) (r : List T) (wr : World) (acc : List (List UInt8)) (rr : List T) (v : Value) : Prop where
  pr : Pr wr bp rr
  c0 : wr.cell? ⟨b6, 0, none⟩ = some (strV t.text)
  c1 : wr.cell? ⟨b6, 1, none⟩ = some v
  c2 : wr.cell? ⟨b6, 2, none⟩ = some (.int .i64 t.line)
  c3 : wr.cell? ⟨b6, 3, none⟩ = some (.int .i64 t.col)
  cf : ∀ o, wr.frozen? ⟨b6, o, none⟩ = false
  z : ∀ j u, [strV [], .slice none 0 0, .int .i64 0, .int .i64 0][j]? = some u → wr.cell? ⟨b0, j, none⟩ = some u
  zf : ∀ o, wr.frozen? ⟨b0, o, none⟩ = false
  own : wr.ownsRow (b6 + 1) 9 1 v acc.length (acc.map strV)
  gr : w.grownBy wr (some bp)
  vp : preV acc (valsP rr) = valsP r
  len : acc.length + rr.length ≤ 65536
  b1 : bp < b0
  b2 : b0 < b6
  b3 : b6 < wr.heap.size
  b4 : b0 = w.heap.size
theorem ClS.below {bp b0 b6 : Nat} {w wr w' : World} {t : T} {r rr : List T} {acc : List (List UInt8)} {v : Value} (h : ClS bp b0 b6 w t r wr acc rr v) (hb : Below wr.heap.size wr w') : ClS bp b0 b6 w t r w' acc rr v where
  pr := h.pr.below hb
  c0 := cell_up h.c0 hb
  c1 := cell_up h.c1 hb
  c2 := cell_up h.c2 hb
  c3 := cell_up h.c3 hb
  cf o := by rw [hb.frozen (p := ⟨b6, o, none⟩) h.b3]; exact h.cf o
  z j u hu := cell_up (h.z j u hu) hb
  zf o := by rw [hb.frozen (p := ⟨b0, o, none⟩) (Nat.lt_trans h.b2 h.b3)]; exact h.zf o
  own := ownsRow_below h.own hb
  gr := grownBy_trans h.gr (grownBy_below hb _)
  vp := h.vp
  len := h.len
  b1 := h.b1
  b2 := h.b2
  b3 := Nat.lt_of_lt_of_le h.b3 hb.size
  b4 := h.b4
/-- a token was taken -/
theorem ClS.took {bp b0 b6 : Nat} {w wr w' : World} {t : T} {r rr rr' : List T} {acc : List (List UInt8)} {v : Value} (h : ClS bp b0 b6 w t r wr acc rr v) (hg : wr.grownBy w' (some bp)) (hp : Pr w' bp rr') :
    w'.cell? ⟨b6, 0, none⟩ = some (strV t.text) ∧ w'.cell? ⟨b6, 1, none⟩ = some v ∧ w'.cell? ⟨b6, 2, none⟩ = some (.int .i64 t.line) ∧ w'.cell? ⟨b6, 3, none⟩ = some (.int .i64 t.col) ∧ (∀ o, w'.frozen? ⟨b6, o, none⟩ = false) ∧
      (∀ j u, [strV [], .slice none 0 0, .int .i64 0, .int .i64 0][j]? = some u → w'.cell? ⟨b0, j, none⟩ = some u) ∧ (∀ o, w'.frozen? ⟨b0, o, none⟩ = false) ∧ w'.ownsRow (b6 + 1) 9 1 v acc.length (acc.map strV) ∧ w.grownBy w' (some bp) := by
  have n6 : some b6 ≠ some bp := fun e => by injection e with e; have := h.b1; have := h.b2; omega
  have n0 : some b0 ≠ some bp := fun e => by injection e with e; have := h.b1; omega
  refine ⟨hg.cell h.c0 n6, hg.cell h.c1 n6, hg.cell h.c2 n6, hg.cell h.c3 n6, fun o => ?_, fun j u hu => hg.cell (h.z j u hu) n0, fun o => ?_, h.own.kept hg ?_, grownBy_trans h.gr hg⟩
  · rw [hg.frozen_far ⟨b6, o, none⟩ h.b3 n6]; exact h.cf o
  · rw [hg.frozen_far ⟨b0, o, none⟩ (Nat.lt_trans h.b2 h.b3) n0]; exact h.zf o
  · cases hv : v.ownBlock with
    | none => exact .inl rfl
    | some g => exact .inr fun e => by injection e with e; have := (h.own.lt g hv).1; have := h.b1; have := h.b2; omega
/-- one value more -/
theorem ClS.app {bp b0 b6 : Nat} {w W0 W W2 : World} {t : T} {r rr rr2 : List T} {acc : List (List UInt8)} {v : Value} {o : Obj} {x : List UInt8} {g cap : Nat} (h : ClS bp b0 b6 w t r W0 acc rr v) (hg : W0.grownBy W (some bp)) (hp : Pr W bp rr2)
    (h1 : W2.ownsRow (b6 + 1) 9 1 (.slice (some ⟨g, 0, none⟩) (acc.length + 1) cap) (acc.length + 1) (acc.map strV ++ [.string ⟨x.toArray⟩])) (h2 : (W.alloc o).grownBy W2 v.ownBlock)
    (hv : preV (acc ++ [x]) (valsP rr2) = preV acc (valsP rr)) (hl : rr.length = rr2.length + 1) :
    ClS bp b0 b6 w t r (W2.setCell ⟨b6, 1, none⟩ (.slice (some ⟨g, 0, none⟩) (acc.length + 1) cap)) (acc ++ [x]) rr2 (.slice (some ⟨g, 0, none⟩) (acc.length + 1) cap) := by
  obtain ⟨q0, q1, q2, q3, qf, qz, qzf, qo, qg⟩ := h.took hg hp
  have hsz := hg.size
  have hb6 := h.b3
  have hb5 := h.b2
  have hb4 := h.b1
  have hB1 : Below (b6 + 1) W W2 := ((Below.refl (b6 + 1) W).alloc (by omega) o).grown h2 (by simp; omega) (fun k hk => (qo.lt k hk).1)
  have hB : Below b6 W (W2.setCell ⟨b6, 1, none⟩ (.slice (some ⟨g, 0, none⟩) (acc.length + 1) cap)) := (hB1.mono (Nat.le_succ b6)).setCell (p := ⟨b6, 1, none⟩) (Nat.le_refl _) _
  have far : ∀ j, j ≠ 1 → (W2.setCell ⟨b6, 1, none⟩ (.slice (some ⟨g, 0, none⟩) (acc.length + 1) cap)).cell? ⟨b6, j, none⟩ = W.cell? ⟨b6, j, none⟩ := fun j hj => by
    rw [World.cell?_setCell_other _ _ _ _ (fun e => hj (by injection e with _ e _; exact e.symm))]
    exact hB1.cell (p := ⟨b6, j, none⟩) (by show b6 < b6 + 1; omega)
  have q1' : W2.cell? ⟨b6, 1, none⟩ = some v := by rw [hB1.cell (p := ⟨b6, 1, none⟩) (by show b6 < b6 + 1; omega)]; exact q1
  exact
    { pr := hp.above hB (by omega)
      c0 := (far 0 (by omega)).trans q0
      c1 := World.cell?_setCell_same _ _ _ q1'
      c2 := (far 2 (by omega)).trans q2
      c3 := (far 3 (by omega)).trans q3
      cf := fun o => by
        have := hB1.frozen (p := ⟨b6, o, none⟩) (by show b6 < b6 + 1; omega)
        simp only [World.frozen?_setCell]
        rw [this]; exact qf o
      z := fun j u hu => by rw [hB.cell (p := ⟨b0, j, none⟩) hb5]; exact qz j u hu
      zf := fun o => by rw [hB.frozen (p := ⟨b0, o, none⟩) hb5]; exact qzf o
      own := by
        have : (acc ++ [x]).length = acc.length + 1 := by simp
        rw [this]
        refine ownsRow_setCell_below ?_ (by show b6 < b6 + 1; omega) _
        rw [List.map_append]; exact h1
      gr := grownBy_thenB qg (hB.mono (by have := h.b4; omega))
      vp := hv.trans h.vp
      len := by have := h.len; simp; omega
      b1 := h.b1
      b2 := h.b2
      b3 := by have := hB.size; omega
      b4 := h.b4 }
theorem Try.info9 : (Try.prog.info? 9).map (fun i => (i.zero, i.size, i.bytes)) = some (some (.string ByteArray.empty), 1, 16) := by kernel_rfl
set_option maxRecDepth 100000 in
set_option maxHeartbeats 4000000 in
theorem clause_any {bp : Nat} {r : List T} {w : World} (hp : Pr w bp r) :
    Calls Try.prog 75 #[.pointer (some ⟨bp, 0, none⟩)] w fun e w' =>
      OutP (clauseP r) bp w e w' fun c e w' => ∃ v, e = .returned (.agg #[strV c.word, v, .int .i64 c.line, .int .i64 c.col]) ∧ w'.ownsRow w.heap.size 9 1 v c.vals.length (c.vals.map strV) := by
  have hbp := hp.lt
  have hB0 := (Below.refl w.heap.size w).alloc (Nat.le_refl _) (.cells #[.string ⟨#[]⟩, .slice none 0 0, .int .i64 0, .int .i64 0] 81)
  have HT := Lib.hid (hp.above hB0 hbp)
  have HB0 := Lib.hid hB0
  clear hp hB0
  have hF2 := fld_pos
  have hF1 := fld_text
  go_enter Try.func75, Try.ntmps75
  go_wp2_with fail
  refine (word_pr HT.out).mono ?_
  rintro e w1 ⟨rfl, hb1⟩
  have hs1 := hb1.size
  simp at hs1
  have HP1 := Lib.hid (HT.out.below hb1)
  have HB1 := Lib.hid (HB0.out.trans (hb1.mono HB0.out.size))
  have HT2 := Lib.hid hb1
  clear hb1
  have hcn : ((hdT r).text == [99, 108, 97, 115, 115]) = ((hdT r).text == sClass) := rfl
  cases hn : wrd (hdT r)
  · go_wp2_with fail
    refine (take_no HP1.out).mono ?_
    rintro e w3 ⟨rfl, hb3⟩
    go_wp2
    exact ⟨rfl, grownBy_trans (grownBy_below HB1.out _) (grownBy_below hb3 _), by rw [clauseP_no (by rw [hn]; rfl)]⟩
  · cases hm : ((hdT r).text == sClass)
    rotate_left
    · rw [hm] at hcn
      go_wp2_with fail
      refine (take_no HP1.out).mono ?_
      rintro e w3 ⟨rfl, hb3⟩
      go_wp2
      exact ⟨rfl, grownBy_trans (grownBy_below HB1.out _) (grownBy_below hb3 _), by rw [clauseP_no (by rw [hn, bne, hm]; rfl)]⟩
    · rw [hm] at hcn
      cases r with
      | nil => rw [wrd_no] at hn; cases hn
      | cons t r =>
        rw [show hdT (t :: r) = t from rfl] at hn hm hcn ⊢
        go_wp2_with fail
        refine (take_yes HP1.out).mono ?_
        rintro e w2 ⟨rfl, hp2, hg2⟩
        simp only [Tok.T.val]
        have hs2 := hg2.size
        have d0 := cells_new w2 [.int .i64 t.kind, .string ⟨t.text.toArray⟩, .int .i64 t.line, .int .i64 t.col] 38 1 _ rfl
        have d1 := cells_new w2 [.int .i64 t.kind, .string ⟨t.text.toArray⟩, .int .i64 t.line, .int .i64 t.col] 38 2 _ rfl
        have d2 := cells_new w2 [.int .i64 t.kind, .string ⟨t.text.toArray⟩, .int .i64 t.line, .int .i64 t.col] 38 3 _ rfl
        have h0 := hg2.size
        go_wp2
        go_loopg [] (r.length + 1) (fun n wr => ∃ acc rr v, rr.length < n ∧ ClS bp w.heap.size (w2.heap.size + 1) w t r wr acc rr v)
        case atStart =>
          have hB2 := ((Below.refl w2.heap.size w2).alloc (Nat.le_refl _) (.cells #[.int .i64 t.kind, .string ⟨t.text.toArray⟩, .int .i64 t.line, .int .i64 t.col] 38)).alloc (by simp) (.cells #[.string ⟨t.text.toArray⟩, .slice none 0 0, .int .i64 t.line, .int .i64 t.col] 81)
          have hN := cells_at (w2.alloc (.cells #[.int .i64 t.kind, .string ⟨t.text.toArray⟩, .int .i64 t.line, .int .i64 t.col] 38)) [.string ⟨t.text.toArray⟩, .slice none 0 0, .int .i64 t.line, .int .i64 t.col] 81 (w2.heap.size + 1) (by simp)
          have hZ := cells_at w [.string ⟨#[]⟩, .slice none 0 0, .int .i64 0, .int .i64 0] 81 w.heap.size rfl
          have hg02 := grownBy_trans (grownBy_below (HT2.out) (some bp)) (grownBy_trans hg2 (grownBy_below hB2 (some bp)))
          have n0 : some w.heap.size ≠ some bp := fun e => by injection e with e; omega
          refine ⟨[], r, .slice none 0 0, by omega, ?_⟩
          exact
            { pr := hp2.below hB2
              c0 := hN 0 _ rfl
              c1 := hN 1 _ rfl
              c2 := hN 2 _ rfl
              c3 := hN 3 _ rfl
              cf := fun o => by simp
              z := fun j u hu => hg02.cell (hZ j u hu) n0
              zf := fun o => by rw [hg02.frozen_far ⟨w.heap.size, o, none⟩ (by simp) n0]; simp
              own := World.ownsRow_nil _ _ _ _
              gr := grownBy_trans (grownBy_below HB0.out (some bp)) hg02
              vp := preV_nil _
              len := by have := hp2.size; simp; omega
              b1 := hbp
              b2 := by omega
              b3 := by simp
              b4 := rfl }
        case round =>
          have hn' := hn
          clear hn
          obtain ⟨acc, rr, v, hn, HS⟩ := hrel
          have HS := Lib.hid HS
          clear d0 d1 d2 hg2 hp2 HP1 HT HB1 HB0
          go_wp2_with fail
          refine (sign_pr 59 HS.out.pr).mono ?_
          rintro e w3 ⟨rfl, hb3⟩
          have HS3 := Lib.hid (HS.out.below hb3)
          clear hb3
          cases hsg : sgn (hdT rr) 59
          · go_wp2_with fail
            refine (peek_pr HS3.out.pr).mono ?_
            rintro e w4 ⟨rfl, hb4⟩
            simp only [Tok.T.val]
            have HS4 := Lib.hid (HS3.out.below hb4)
            have hs4 := hb4.size
            have HS5 := Lib.hid (HS4.out.below ((Below.refl w4.heap.size w4).alloc (Nat.le_refl _) (.cells #[.int .i64 (hdT rr).kind, .string ⟨(hdT rr).text.toArray⟩, .int .i64 (hdT rr).line, .int .i64 (hdT rr).col] 38)))
            clear hb4
            go_wp2_with fail
            have HS6 := Lib.hid (HS5.out.below (Below.refl _ _).drew)
            by_cases k0 : (hdT rr).kind = 0
            · refine wp_region_lcp (P := Try.prog) [(0, 30, .pointer (some ⟨w2.heap.size + 1, 1, none⟩)), (2, 32, .pointer (some ⟨bp, 0, none⟩)), (3, 33, .pointer (some ⟨w4.heap.size, 0, none⟩)), (4, 34, .int .i64 (hdT rr).kind), (5, 35, .bool false), (6, 36, .bool false), (7, 37, undef), (8, 38, undef), (9, 39, undef), (10, 40, undef), (11, 41, undef), (12, 42, undef), (13, 43, undef), (14, 44, undef), (15, 45, .bool false)] [17] 1 16 18 19 20 21 31 v _ (fun W => W.cell? ⟨w4.heap.size, 0, none⟩ = some (.int .i64 (hdT rr).kind)) (fun c w' => c = faultC (hdT rr) ∧ w.grownBy w' (some bp)) (by kernel_rfl) (by kernel_rfl) (by rfl) (by rfl) rfl rfl rfl (by simp only [putsA, List.foldl_cons, List.foldl_nil, Act.put, List.setIfInBounds_toArray, List.set_cons_zero, List.set_cons_succ]; rfl) ?_ ?_ ?_ ?_ ?_ ?_
              · exact cells_at w4 _ _ _ rfl 0 _ rfl
              · skip
                refine ⟨⟨_, rfl, rfl, .inl ⟨by rfl, fun _ _ => by rfl⟩⟩, ?_⟩
                simp only [Act.put, List.setIfInBounds_toArray, List.set_cons_zero, List.set_cons_succ]
                refine ⟨⟨_, rfl, rfl, .inl ⟨by rfl, fun _ _ => by rfl⟩⟩, ?_⟩
                simp only [Act.put, List.setIfInBounds_toArray, List.set_cons_zero, List.set_cons_succ]
                refine ⟨⟨_, rfl, rfl, .inl ⟨by rfl, fun _ _ => by rfl⟩⟩, ?_⟩
                simp only [Act.put, List.setIfInBounds_toArray, List.set_cons_zero, List.set_cons_succ]
                refine ⟨⟨_, rfl, rfl, .inl ⟨by rfl, fun W hW => by simp [execOp, Act.eval, go_sem, hW]⟩⟩, ?_⟩
                simp only [Act.put, List.setIfInBounds_toArray, List.set_cons_zero, List.set_cons_succ]
                refine ⟨⟨_, rfl, rfl, .inl ⟨by rfl, fun W hW => by simp [execOp, Act.eval, go_sem, k0]⟩⟩, ?_⟩
                simp only [Act.put, List.setIfInBounds_toArray, List.set_cons_zero, List.set_cons_succ]
                refine ⟨⟨_, rfl, rfl, .inl ⟨by rfl, fun _ _ => by rfl⟩⟩, ?_⟩
                simp only [Act.put, List.setIfInBounds_toArray, List.set_cons_zero, List.set_cons_succ]
                refine ⟨⟨_, rfl, rfl, .inr ⟨by rfl, rfl⟩⟩, ?_⟩
                simp only [Act.put, List.setIfInBounds_toArray, List.set_cons_zero, List.set_cons_succ]
                refine ⟨⟨_, rfl, rfl, .inr ⟨by rfl, rfl⟩⟩, ?_⟩
                simp only [Act.put, List.setIfInBounds_toArray, List.set_cons_zero, List.set_cons_succ]
                refine ⟨⟨_, rfl, rfl, .inr ⟨by rfl, rfl⟩⟩, ?_⟩
                simp only [Act.put, List.setIfInBounds_toArray, List.set_cons_zero, List.set_cons_succ]
                refine ⟨⟨_, rfl, rfl, .inr ⟨by rfl, rfl⟩⟩, ?_⟩
                simp only [Act.put, List.setIfInBounds_toArray, List.set_cons_zero, List.set_cons_succ]
                refine ⟨⟨_, rfl, rfl, .inr ⟨by rfl, rfl⟩⟩, ?_⟩
                simp only [Act.put, List.setIfInBounds_toArray, List.set_cons_zero, List.set_cons_succ]
                refine ⟨⟨_, rfl, rfl, .inr ⟨by rfl, rfl⟩⟩, ?_⟩
                simp only [Act.put, List.setIfInBounds_toArray, List.set_cons_zero, List.set_cons_succ]
                refine ⟨⟨_, rfl, rfl, .inr ⟨by rfl, rfl⟩⟩, ?_⟩
                simp only [Act.put, List.setIfInBounds_toArray, List.set_cons_zero, List.set_cons_succ]
                refine ⟨⟨_, rfl, rfl, .inr ⟨by rfl, rfl⟩⟩, ?_⟩
                simp only [Act.put, List.setIfInBounds_toArray, List.set_cons_zero, List.set_cons_succ]
                refine ⟨⟨_, rfl, rfl, .inl ⟨by rfl, fun _ _ => by rfl⟩⟩, ?_⟩
                simp only [Act.put, List.setIfInBounds_toArray, List.set_cons_zero, List.set_cons_succ]
                exact trivial
              · have h1 := HS5.out.c1
                simp [execOp, Act.eval, go_sem, h1]
              · exact ⟨_, _, by simp [execOp, Act.eval, go_sem], (take_no HS6.out.pr).mono (fun e w' h => ⟨_, h.1, rfl, grownBy_trans HS6.out.gr (grownBy_below h.2 _)⟩)⟩
              · exact ⟨_, _, by simp [execOp, Act.eval, go_sem], (take_no HS6.out.pr).mono (fun e w' h => ⟨_, h.1, rfl, grownBy_trans HS6.out.gr (grownBy_below h.2 _)⟩)⟩
              · rintro c a' w' hd ⟨rfl, hg⟩
                refine ⟨hd, hg, ?_⟩
                rw [clauseP_cons, if_pos (by rw [hn', bne, hm]; rfl), ← HS3.out.vp, vals_bad hsg (by simp [valOk, k0])]
                rfl
            · have n4 : some w4.heap.size ≠ some bp := fun e => by injection e with e; have := HS4.out.b1; have := HS4.out.b2; have := HS4.out.b3; omega
              have nv : some w4.heap.size ≠ v.ownBlock := fun e => by have := (HS4.out.own.lt _ e.symm).2; omega
              have nvb : v.ownBlock ≠ some (w2.heap.size + 1) := fun e => by have := (HS4.out.own.lt _ e).1; omega
              have hlen := HS4.out.len
              have hb3 := HS4.out.b3
              have hb2 := HS4.out.b2
              obtain ⟨i0, hi, hz0, hz1, hz2⟩ := info_parts Try.info9
              by_cases k5 : (hdT rr).kind = 5
              · by_cases k44 : (hdT rr).text = [44]
                · skip
                  obtain ⟨tv, rr2, hrr, hvm⟩ := vals_more (acc := acc) hsg (by simp [valOk, k0, k5, k44])
                  have htv : hdT rr = tv := by rw [hrr]; rfl
                  rw [← htv] at hvm
                  have HP6 := HS6.out.pr
                  rw [hrr, ← htv] at HP6
                  have hrr := Lib.hid hrr
                  refine wp_region_lca (P := Try.prog) [(0, 30, .pointer (some ⟨w2.heap.size + 1, 1, none⟩)), (2, 32, .pointer (some ⟨bp, 0, none⟩)), (3, 33, .pointer (some ⟨w4.heap.size, 0, none⟩)), (4, 34, .int .i64 (hdT rr).kind), (5, 35, .bool true), (6, 36, .bool true), (7, 37, .pointer (some ⟨w4.heap.size, 0, none⟩)), (8, 38, .int .i64 (hdT rr).kind), (9, 39, .bool false), (10, 40, .bool false), (11, 41, .pointer (some ⟨w4.heap.size, 1, none⟩)), (12, 42, (.string ⟨(hdT rr).text.toArray⟩)), (13, 43, .bool true), (14, 44, .bool true), (15, 45, .bool true)] [(20, 50, .pointer (some ⟨w2.heap.size + 1, 1, none⟩))] (fun _ => [(17, 47, .string ⟨(hdT rr).text.toArray⟩)]) [17] 1 16 18 19 21 31 46 48 49 v _ _ _ (fun W => W.cell? ⟨w4.heap.size, 0, none⟩ = some (.int .i64 (hdT rr).kind) ∧ W.cell? ⟨w4.heap.size, 1, none⟩ = some (.string ⟨(hdT rr).text.toArray⟩)) (fun u W => u = Tok.T.val (hdT rr) ∧ Pr W bp rr2 ∧ (w4.alloc (.cells #[.int .i64 (hdT rr).kind, .string ⟨(hdT rr).text.toArray⟩, .int .i64 (hdT rr).line, .int .i64 (hdT rr).col] 38)).drew.grownBy W (some bp)) (fun _ => [.string ⟨(hdT rr).text.toArray⟩]) (w2.heap.size + 1 + 1) 9 1 16 acc.length (acc.map strV) i0 (.string ByteArray.empty) (w2.heap.size + 1) 1 _ _ 40 (by kernel_rfl) (by kernel_rfl) (by rfl) (by rfl) (by rfl) (by rfl) (by rfl) ⟨rfl, rfl, rfl, rfl, rfl⟩ ⟨rfl, rfl, rfl, rfl, rfl⟩ (fun _ => rfl) (by intros; simp only [putsA, List.foldl_cons, List.foldl_nil, Act.put, List.setIfInBounds_toArray, List.set_cons_zero, List.set_cons_succ] <;> rfl) (by intros; simp only [putsA, List.foldl_cons, List.foldl_nil, Act.put, List.setIfInBounds_toArray, List.set_cons_zero, List.set_cons_succ] <;> rfl) (by intros; simp only [putsA, List.foldl_cons, List.foldl_nil, Act.put, List.setIfInBounds_toArray, List.set_cons_zero, List.set_cons_succ] <;> rfl) (by intros; simp only [putsA, List.foldl_cons, List.foldl_nil, Act.put, List.setIfInBounds_toArray, List.set_cons_zero, List.set_cons_succ] <;> rfl) (by intros; simp only [putsA, List.foldl_cons, List.foldl_nil, Act.put, List.setIfInBounds_toArray, List.set_cons_zero, List.set_cons_succ] <;> rfl) ?khS ?khSR ?khSA ?khSG ?khSE ?kpre ?km1 ?km2 ?kL0 ?kL2 ?kL3 ?kC1 ?kC2 ?kb1 ?kb2 ?kcs rfl (by intros; rfl) (by intros; rfl) (by kernel_rfl) hi hz0 hz1 hz2 rfl (by decide) ?kh63 ?khbytes ?kown ?kpost ?kst ?kQ
                  case khS =>
                    exact ⟨cells_at w4 _ _ _ rfl 0 _ rfl, cells_at w4 _ _ _ rfl 1 _ rfl⟩
                  case khSR =>
                    rintro u W ⟨rfl, _, hg⟩
                    exact ⟨hg.cell (cells_at w4 _ _ _ rfl 0 _ rfl) n4, hg.cell (cells_at w4 _ _ _ rfl 1 _ rfl) n4⟩
                  case khSA =>
                    exact fun W o h => ⟨cell_alloc h.1 _, cell_alloc h.2 _⟩
                  case khSG =>
                    exact fun W W2 h hg => ⟨hg.cell h.1 nv, hg.cell h.2 nv⟩
                  case khSE =>
                    intro W u h
                    constructor
                    · rw [set_far (by show w2.heap.size + 1 ≠ w4.heap.size; omega)]; exact h.1
                    · rw [set_far (by show w2.heap.size + 1 ≠ w4.heap.size; omega)]; exact h.2
                  case kpre =>
                    refine ⟨⟨_, rfl, rfl, .inl ⟨by rfl, fun _ _ => by rfl⟩⟩, ?_⟩
                    simp only [Act.put, List.setIfInBounds_toArray, List.set_cons_zero, List.set_cons_succ]
                    refine ⟨⟨_, rfl, rfl, .inl ⟨by rfl, fun _ _ => by rfl⟩⟩, ?_⟩
                    simp only [Act.put, List.setIfInBounds_toArray, List.set_cons_zero, List.set_cons_succ]
                    refine ⟨⟨_, rfl, rfl, .inl ⟨by rfl, fun _ _ => by rfl⟩⟩, ?_⟩
                    simp only [Act.put, List.setIfInBounds_toArray, List.set_cons_zero, List.set_cons_succ]
                    refine ⟨⟨_, rfl, rfl, .inl ⟨by rfl, fun W hW => by simp [execOp, Act.eval, go_sem, hW.1, hW.2, k0, k5, k44]⟩⟩, ?_⟩
                    simp only [Act.put, List.setIfInBounds_toArray, List.set_cons_zero, List.set_cons_succ]
                    refine ⟨⟨_, rfl, rfl, .inl ⟨by rfl, fun W hW => by simp [execOp, Act.eval, go_sem, hW.1, hW.2, k0, k5, k44]⟩⟩, ?_⟩
                    simp only [Act.put, List.setIfInBounds_toArray, List.set_cons_zero, List.set_cons_succ]
                    refine ⟨⟨_, rfl, rfl, .inl ⟨by rfl, fun _ _ => by rfl⟩⟩, ?_⟩
                    simp only [Act.put, List.setIfInBounds_toArray, List.set_cons_zero, List.set_cons_succ]
                    refine ⟨⟨_, rfl, rfl, .inl ⟨by rfl, fun _ _ => by rfl⟩⟩, ?_⟩
                    simp only [Act.put, List.setIfInBounds_toArray, List.set_cons_zero, List.set_cons_succ]
                    refine ⟨⟨_, rfl, rfl, .inl ⟨by rfl, fun W hW => by simp [execOp, Act.eval, go_sem, hW.1, hW.2, k0, k5, k44]⟩⟩, ?_⟩
                    simp only [Act.put, List.setIfInBounds_toArray, List.set_cons_zero, List.set_cons_succ]
                    refine ⟨⟨_, rfl, rfl, .inl ⟨by rfl, fun W hW => by simp [execOp, Act.eval, go_sem, hW.1, hW.2, k0, k5, k44]⟩⟩, ?_⟩
                    simp only [Act.put, List.setIfInBounds_toArray, List.set_cons_zero, List.set_cons_succ]
                    refine ⟨⟨_, rfl, rfl, .inl ⟨by rfl, fun _ _ => by rfl⟩⟩, ?_⟩
                    simp only [Act.put, List.setIfInBounds_toArray, List.set_cons_zero, List.set_cons_succ]
                    refine ⟨⟨_, rfl, rfl, .inl ⟨by rfl, fun _ _ => by rfl⟩⟩, ?_⟩
                    simp only [Act.put, List.setIfInBounds_toArray, List.set_cons_zero, List.set_cons_succ]
                    refine ⟨⟨_, rfl, rfl, .inl ⟨by rfl, fun W hW => by simp [execOp, Act.eval, go_sem, hW.1, hW.2, k0, k5, k44]⟩⟩, ?_⟩
                    simp only [Act.put, List.setIfInBounds_toArray, List.set_cons_zero, List.set_cons_succ]
                    refine ⟨⟨_, rfl, rfl, .inl ⟨by rfl, fun W hW => by simp [execOp, Act.eval, go_sem, hW.1, hW.2, k0, k5, k44]⟩⟩, ?_⟩
                    simp only [Act.put, List.setIfInBounds_toArray, List.set_cons_zero, List.set_cons_succ]
                    refine ⟨⟨_, rfl, rfl, .inl ⟨by rfl, fun _ _ => by rfl⟩⟩, ?_⟩
                    simp only [Act.put, List.setIfInBounds_toArray, List.set_cons_zero, List.set_cons_succ]
                    refine ⟨⟨_, rfl, rfl, .inl ⟨by rfl, fun _ _ => by rfl⟩⟩, ?_⟩
                    simp only [Act.put, List.setIfInBounds_toArray, List.set_cons_zero, List.set_cons_succ]
                    exact trivial
                  case km1 =>
                    rintro u W ⟨rfl, _⟩
                    exact ⟨⟨_, rfl, rfl, .inl ⟨by rfl, fun W hW => by simp [execOp, Act.eval, go_sem, hF1, Tok.T.val]⟩⟩, trivial⟩
                  case km2 =>
                    rintro u W ⟨rfl, _⟩
                    exact ⟨⟨_, rfl, rfl, .inl ⟨by rfl, fun W hW => by simp [execOp, Act.eval, go_sem, hF1, Tok.T.val]⟩⟩, trivial⟩
                  case kL0 =>
                    have h1 := HS6.out.c1
                    simp [execOp, Act.eval, go_sem, h1]
                  case kL2 =>
                    rintro u W ⟨rfl, hp, hg⟩
                    have h1 := (HS6.out.took hg hp).2.1
                    simp [execOp, Act.eval, go_sem, h1]
                  case kL3 =>
                    rintro u b W o ⟨rfl, hp, hg⟩
                    have h1 := cell_alloc (HS6.out.took hg hp).2.1 o
                    simp [execOp, Act.eval, go_sem, h1]
                  case kC1 =>
                    refine GY.call (by simp [execOp, Act.eval, go_sem]) ((take_yes HP6).mono ?_)
                    rintro e W ⟨rfl, hp, hg⟩
                    exact ⟨_, rfl, rfl, hp, hg⟩
                  case kC2 =>
                    refine GY.call (by simp [execOp, Act.eval, go_sem]) ((take_yes HP6).mono ?_)
                    rintro e W ⟨rfl, hp, hg⟩
                    exact ⟨_, rfl, rfl, hp, hg⟩
                  case kb1 =>
                    rintro u W ⟨rfl, hp, hg⟩
                    simp [execOp, Act.eval, go_sem]
                  case kb2 =>
                    rintro u W ⟨rfl, hp, hg⟩
                    simp [execOp, Act.eval, go_sem]
                  case kcs =>
                    rintro u W _
                    simp [Value.oneCell']
                  case kh63 =>
                    exact small_maxLen (by omega)
                  case khbytes =>
                    omega
                  case kown =>
                    rintro u W ⟨rfl, hp, hg⟩
                    obtain ⟨q0, q1, q2, q3, qf, q4, q5, q6, q7⟩ := HS6.out.took hg hp
                    have hsz := hg.size
                    simp at hsz
                    exact ⟨q6, by omega, ⟨_, q1⟩, qf 1, by omega, nvb⟩
                  case kpost =>
                    exact fun _ _ _ => ⟨⟨_, rfl, rfl, .inl ⟨by rfl, fun _ _ => by rfl⟩⟩, trivial⟩
                  case kst =>
                    rintro u b g cap W2 ⟨x, hx⟩ hf
                    simp only [putsA, List.foldl_cons, List.foldl_nil, Act.put, List.setIfInBounds_toArray, List.set_cons_zero, List.set_cons_succ]
                    simp [execOp, Act.eval, go_sem, hx, hf]
                  case kQ =>
                    rintro u W ⟨rfl, hp, hg⟩ b g cap W2 h1 h2 h3 h4
                    simp only [putsA, List.foldl_cons, List.foldl_nil, Act.put, List.setIfInBounds_toArray, List.set_cons_zero, List.set_cons_succ]
                    have HN := Lib.hid (HS6.out.app hg hp h1 h2 hvm.symm (by rw [hrr.out]; rfl))
                    have hlr : rr.length = rr2.length + 1 := by rw [hrr.out]; rfl
                    clear h1 h2 h3 h4 hg hp
                    go_wp2
                    go_roundg (gk - 1)
                    case rel => exact ⟨_, rr2, _, by omega, HN.out⟩
                    case measure => omega
                · skip
                  refine wp_region_lcp (P := Try.prog) [(0, 30, .pointer (some ⟨w2.heap.size + 1, 1, none⟩)), (2, 32, .pointer (some ⟨bp, 0, none⟩)), (3, 33, .pointer (some ⟨w4.heap.size, 0, none⟩)), (4, 34, .int .i64 (hdT rr).kind), (5, 35, .bool true), (6, 36, .bool true), (7, 37, .pointer (some ⟨w4.heap.size, 0, none⟩)), (8, 38, .int .i64 (hdT rr).kind), (9, 39, .bool false), (10, 40, .bool false), (11, 41, .pointer (some ⟨w4.heap.size, 1, none⟩)), (12, 42, (.string ⟨(hdT rr).text.toArray⟩)), (13, 43, .bool false), (14, 44, .bool false), (15, 45, .bool false)] [17] 1 16 18 19 20 21 31 v _ (fun W => W.cell? ⟨w4.heap.size, 0, none⟩ = some (.int .i64 (hdT rr).kind) ∧ W.cell? ⟨w4.heap.size, 1, none⟩ = some (.string ⟨(hdT rr).text.toArray⟩)) (fun c w' => c = faultC (hdT rr) ∧ w.grownBy w' (some bp)) (by kernel_rfl) (by kernel_rfl) (by rfl) (by rfl) rfl rfl rfl (by simp only [putsA, List.foldl_cons, List.foldl_nil, Act.put, List.setIfInBounds_toArray, List.set_cons_zero, List.set_cons_succ]; rfl) ?_ ?_ ?_ ?_ ?_ ?_
                  · exact ⟨cells_at w4 _ _ _ rfl 0 _ rfl, cells_at w4 _ _ _ rfl 1 _ rfl⟩
                  · skip
                    refine ⟨⟨_, rfl, rfl, .inl ⟨by rfl, fun _ _ => by rfl⟩⟩, ?_⟩
                    simp only [Act.put, List.setIfInBounds_toArray, List.set_cons_zero, List.set_cons_succ]
                    refine ⟨⟨_, rfl, rfl, .inl ⟨by rfl, fun _ _ => by rfl⟩⟩, ?_⟩
                    simp only [Act.put, List.setIfInBounds_toArray, List.set_cons_zero, List.set_cons_succ]
                    refine ⟨⟨_, rfl, rfl, .inl ⟨by rfl, fun _ _ => by rfl⟩⟩, ?_⟩
                    simp only [Act.put, List.setIfInBounds_toArray, List.set_cons_zero, List.set_cons_succ]
                    refine ⟨⟨_, rfl, rfl, .inl ⟨by rfl, fun W hW => by simp [execOp, Act.eval, go_sem, hW.1, hW.2, k0, k5, k44]⟩⟩, ?_⟩
                    simp only [Act.put, List.setIfInBounds_toArray, List.set_cons_zero, List.set_cons_succ]
                    refine ⟨⟨_, rfl, rfl, .inl ⟨by rfl, fun W hW => by simp [execOp, Act.eval, go_sem, hW.1, hW.2, k0, k5, k44]⟩⟩, ?_⟩
                    simp only [Act.put, List.setIfInBounds_toArray, List.set_cons_zero, List.set_cons_succ]
                    refine ⟨⟨_, rfl, rfl, .inl ⟨by rfl, fun _ _ => by rfl⟩⟩, ?_⟩
                    simp only [Act.put, List.setIfInBounds_toArray, List.set_cons_zero, List.set_cons_succ]
                    refine ⟨⟨_, rfl, rfl, .inl ⟨by rfl, fun _ _ => by rfl⟩⟩, ?_⟩
                    simp only [Act.put, List.setIfInBounds_toArray, List.set_cons_zero, List.set_cons_succ]
                    refine ⟨⟨_, rfl, rfl, .inl ⟨by rfl, fun W hW => by simp [execOp, Act.eval, go_sem, hW.1, hW.2, k0, k5, k44]⟩⟩, ?_⟩
                    simp only [Act.put, List.setIfInBounds_toArray, List.set_cons_zero, List.set_cons_succ]
                    refine ⟨⟨_, rfl, rfl, .inl ⟨by rfl, fun W hW => by simp [execOp, Act.eval, go_sem, hW.1, hW.2, k0, k5, k44]⟩⟩, ?_⟩
                    simp only [Act.put, List.setIfInBounds_toArray, List.set_cons_zero, List.set_cons_succ]
                    refine ⟨⟨_, rfl, rfl, .inl ⟨by rfl, fun _ _ => by rfl⟩⟩, ?_⟩
                    simp only [Act.put, List.setIfInBounds_toArray, List.set_cons_zero, List.set_cons_succ]
                    refine ⟨⟨_, rfl, rfl, .inl ⟨by rfl, fun _ _ => by rfl⟩⟩, ?_⟩
                    simp only [Act.put, List.setIfInBounds_toArray, List.set_cons_zero, List.set_cons_succ]
                    refine ⟨⟨_, rfl, rfl, .inl ⟨by rfl, fun W hW => by simp [execOp, Act.eval, go_sem, hW.1, hW.2, k0, k5, k44]⟩⟩, ?_⟩
                    simp only [Act.put, List.setIfInBounds_toArray, List.set_cons_zero, List.set_cons_succ]
                    refine ⟨⟨_, rfl, rfl, .inl ⟨by rfl, fun W hW => by simp [execOp, Act.eval, go_sem, hW.1, hW.2, k0, k5, k44]⟩⟩, ?_⟩
                    simp only [Act.put, List.setIfInBounds_toArray, List.set_cons_zero, List.set_cons_succ]
                    refine ⟨⟨_, rfl, rfl, .inl ⟨by rfl, fun _ _ => by rfl⟩⟩, ?_⟩
                    simp only [Act.put, List.setIfInBounds_toArray, List.set_cons_zero, List.set_cons_succ]
                    refine ⟨⟨_, rfl, rfl, .inl ⟨by rfl, fun _ _ => by rfl⟩⟩, ?_⟩
                    simp only [Act.put, List.setIfInBounds_toArray, List.set_cons_zero, List.set_cons_succ]
                    exact trivial
                  · have h1 := HS5.out.c1
                    simp [execOp, Act.eval, go_sem, h1]
                  · exact ⟨_, _, by simp [execOp, Act.eval, go_sem], (take_no HS6.out.pr).mono (fun e w' h => ⟨_, h.1, rfl, grownBy_trans HS6.out.gr (grownBy_below h.2 _)⟩)⟩
                  · exact ⟨_, _, by simp [execOp, Act.eval, go_sem], (take_no HS6.out.pr).mono (fun e w' h => ⟨_, h.1, rfl, grownBy_trans HS6.out.gr (grownBy_below h.2 _)⟩)⟩
                  · rintro c a' w' hd ⟨rfl, hg⟩
                    refine ⟨hd, hg, ?_⟩
                    rw [clauseP_cons, if_pos (by rw [hn', bne, hm]; rfl), ← HS3.out.vp, vals_bad hsg (by simp [valOk, k5, k44])]
                    rfl
              · skip
                obtain ⟨tv, rr2, hrr, hvm⟩ := vals_more (acc := acc) hsg (by simp [valOk, k0, k5])
                have htv : hdT rr = tv := by rw [hrr]; rfl
                rw [← htv] at hvm
                have HP6 := HS6.out.pr
                rw [hrr, ← htv] at HP6
                have hrr := Lib.hid hrr
                refine wp_region_lca (P := Try.prog) [(0, 30, .pointer (some ⟨w2.heap.size + 1, 1, none⟩)), (2, 32, .pointer (some ⟨bp, 0, none⟩)), (3, 33, .pointer (some ⟨w4.heap.size, 0, none⟩)), (4, 34, .int .i64 (hdT rr).kind), (5, 35, .bool true), (6, 36, .bool true), (7, 37, .pointer (some ⟨w4.heap.size, 0, none⟩)), (8, 38, .int .i64 (hdT rr).kind), (9, 39, .bool true), (10, 40, .bool true), (11, 41, undef), (12, 42, undef), (13, 43, undef), (14, 44, .bool true), (15, 45, .bool true)] [(20, 50, .pointer (some ⟨w2.heap.size + 1, 1, none⟩))] (fun _ => [(17, 47, .string ⟨(hdT rr).text.toArray⟩)]) [17] 1 16 18 19 21 31 46 48 49 v _ _ _ (fun W => W.cell? ⟨w4.heap.size, 0, none⟩ = some (.int .i64 (hdT rr).kind) ∧ W.cell? ⟨w4.heap.size, 1, none⟩ = some (.string ⟨(hdT rr).text.toArray⟩)) (fun u W => u = Tok.T.val (hdT rr) ∧ Pr W bp rr2 ∧ (w4.alloc (.cells #[.int .i64 (hdT rr).kind, .string ⟨(hdT rr).text.toArray⟩, .int .i64 (hdT rr).line, .int .i64 (hdT rr).col] 38)).drew.grownBy W (some bp)) (fun _ => [.string ⟨(hdT rr).text.toArray⟩]) (w2.heap.size + 1 + 1) 9 1 16 acc.length (acc.map strV) i0 (.string ByteArray.empty) (w2.heap.size + 1) 1 _ _ 40 (by kernel_rfl) (by kernel_rfl) (by rfl) (by rfl) (by rfl) (by rfl) (by rfl) ⟨rfl, rfl, rfl, rfl, rfl⟩ ⟨rfl, rfl, rfl, rfl, rfl⟩ (fun _ => rfl) (by intros; simp only [putsA, List.foldl_cons, List.foldl_nil, Act.put, List.setIfInBounds_toArray, List.set_cons_zero, List.set_cons_succ] <;> rfl) (by intros; simp only [putsA, List.foldl_cons, List.foldl_nil, Act.put, List.setIfInBounds_toArray, List.set_cons_zero, List.set_cons_succ] <;> rfl) (by intros; simp only [putsA, List.foldl_cons, List.foldl_nil, Act.put, List.setIfInBounds_toArray, List.set_cons_zero, List.set_cons_succ] <;> rfl) (by intros; simp only [putsA, List.foldl_cons, List.foldl_nil, Act.put, List.setIfInBounds_toArray, List.set_cons_zero, List.set_cons_succ] <;> rfl) (by intros; simp only [putsA, List.foldl_cons, List.foldl_nil, Act.put, List.setIfInBounds_toArray, List.set_cons_zero, List.set_cons_succ] <;> rfl) ?khS ?khSR ?khSA ?khSG ?khSE ?kpre ?km1 ?km2 ?kL0 ?kL2 ?kL3 ?kC1 ?kC2 ?kb1 ?kb2 ?kcs rfl (by intros; rfl) (by intros; rfl) (by kernel_rfl) hi hz0 hz1 hz2 rfl (by decide) ?kh63 ?khbytes ?kown ?kpost ?kst ?kQ
                case khS =>
                  exact ⟨cells_at w4 _ _ _ rfl 0 _ rfl, cells_at w4 _ _ _ rfl 1 _ rfl⟩
                case khSR =>
                  rintro u W ⟨rfl, _, hg⟩
                  exact ⟨hg.cell (cells_at w4 _ _ _ rfl 0 _ rfl) n4, hg.cell (cells_at w4 _ _ _ rfl 1 _ rfl) n4⟩
                case khSA =>
                  exact fun W o h => ⟨cell_alloc h.1 _, cell_alloc h.2 _⟩
                case khSG =>
                  exact fun W W2 h hg => ⟨hg.cell h.1 nv, hg.cell h.2 nv⟩
                case khSE =>
                  intro W u h
                  constructor
                  · rw [set_far (by show w2.heap.size + 1 ≠ w4.heap.size; omega)]; exact h.1
                  · rw [set_far (by show w2.heap.size + 1 ≠ w4.heap.size; omega)]; exact h.2
                case kpre =>
                  refine ⟨⟨_, rfl, rfl, .inl ⟨by rfl, fun _ _ => by rfl⟩⟩, ?_⟩
                  simp only [Act.put, List.setIfInBounds_toArray, List.set_cons_zero, List.set_cons_succ]
                  refine ⟨⟨_, rfl, rfl, .inl ⟨by rfl, fun _ _ => by rfl⟩⟩, ?_⟩
                  simp only [Act.put, List.setIfInBounds_toArray, List.set_cons_zero, List.set_cons_succ]
                  refine ⟨⟨_, rfl, rfl, .inl ⟨by rfl, fun _ _ => by rfl⟩⟩, ?_⟩
                  simp only [Act.put, List.setIfInBounds_toArray, List.set_cons_zero, List.set_cons_succ]
                  refine ⟨⟨_, rfl, rfl, .inl ⟨by rfl, fun W hW => by simp [execOp, Act.eval, go_sem, hW.1, hW.2, k0, k5]⟩⟩, ?_⟩
                  simp only [Act.put, List.setIfInBounds_toArray, List.set_cons_zero, List.set_cons_succ]
                  refine ⟨⟨_, rfl, rfl, .inl ⟨by rfl, fun W hW => by simp [execOp, Act.eval, go_sem, hW.1, hW.2, k0, k5]⟩⟩, ?_⟩
                  simp only [Act.put, List.setIfInBounds_toArray, List.set_cons_zero, List.set_cons_succ]
                  refine ⟨⟨_, rfl, rfl, .inl ⟨by rfl, fun _ _ => by rfl⟩⟩, ?_⟩
                  simp only [Act.put, List.setIfInBounds_toArray, List.set_cons_zero, List.set_cons_succ]
                  refine ⟨⟨_, rfl, rfl, .inl ⟨by rfl, fun _ _ => by rfl⟩⟩, ?_⟩
                  simp only [Act.put, List.setIfInBounds_toArray, List.set_cons_zero, List.set_cons_succ]
                  refine ⟨⟨_, rfl, rfl, .inl ⟨by rfl, fun W hW => by simp [execOp, Act.eval, go_sem, hW.1, hW.2, k0, k5]⟩⟩, ?_⟩
                  simp only [Act.put, List.setIfInBounds_toArray, List.set_cons_zero, List.set_cons_succ]
                  refine ⟨⟨_, rfl, rfl, .inl ⟨by rfl, fun W hW => by simp [execOp, Act.eval, go_sem, hW.1, hW.2, k0, k5]⟩⟩, ?_⟩
                  simp only [Act.put, List.setIfInBounds_toArray, List.set_cons_zero, List.set_cons_succ]
                  refine ⟨⟨_, rfl, rfl, .inl ⟨by rfl, fun _ _ => by rfl⟩⟩, ?_⟩
                  simp only [Act.put, List.setIfInBounds_toArray, List.set_cons_zero, List.set_cons_succ]
                  refine ⟨⟨_, rfl, rfl, .inr ⟨by rfl, rfl⟩⟩, ?_⟩
                  simp only [Act.put, List.setIfInBounds_toArray, List.set_cons_zero, List.set_cons_succ]
                  refine ⟨⟨_, rfl, rfl, .inr ⟨by rfl, rfl⟩⟩, ?_⟩
                  simp only [Act.put, List.setIfInBounds_toArray, List.set_cons_zero, List.set_cons_succ]
                  refine ⟨⟨_, rfl, rfl, .inr ⟨by rfl, rfl⟩⟩, ?_⟩
                  simp only [Act.put, List.setIfInBounds_toArray, List.set_cons_zero, List.set_cons_succ]
                  refine ⟨⟨_, rfl, rfl, .inl ⟨by rfl, fun _ _ => by rfl⟩⟩, ?_⟩
                  simp only [Act.put, List.setIfInBounds_toArray, List.set_cons_zero, List.set_cons_succ]
                  refine ⟨⟨_, rfl, rfl, .inl ⟨by rfl, fun _ _ => by rfl⟩⟩, ?_⟩
                  simp only [Act.put, List.setIfInBounds_toArray, List.set_cons_zero, List.set_cons_succ]
                  exact trivial
                case km1 =>
                  rintro u W ⟨rfl, _⟩
                  exact ⟨⟨_, rfl, rfl, .inl ⟨by rfl, fun W hW => by simp [execOp, Act.eval, go_sem, hF1, Tok.T.val]⟩⟩, trivial⟩
                case km2 =>
                  rintro u W ⟨rfl, _⟩
                  exact ⟨⟨_, rfl, rfl, .inl ⟨by rfl, fun W hW => by simp [execOp, Act.eval, go_sem, hF1, Tok.T.val]⟩⟩, trivial⟩
                case kL0 =>
                  have h1 := HS6.out.c1
                  simp [execOp, Act.eval, go_sem, h1]
                case kL2 =>
                  rintro u W ⟨rfl, hp, hg⟩
                  have h1 := (HS6.out.took hg hp).2.1
                  simp [execOp, Act.eval, go_sem, h1]
                case kL3 =>
                  rintro u b W o ⟨rfl, hp, hg⟩
                  have h1 := cell_alloc (HS6.out.took hg hp).2.1 o
                  simp [execOp, Act.eval, go_sem, h1]
                case kC1 =>
                  refine GY.call (by simp [execOp, Act.eval, go_sem]) ((take_yes HP6).mono ?_)
                  rintro e W ⟨rfl, hp, hg⟩
                  exact ⟨_, rfl, rfl, hp, hg⟩
                case kC2 =>
                  refine GY.call (by simp [execOp, Act.eval, go_sem]) ((take_yes HP6).mono ?_)
                  rintro e W ⟨rfl, hp, hg⟩
                  exact ⟨_, rfl, rfl, hp, hg⟩
                case kb1 =>
                  rintro u W ⟨rfl, hp, hg⟩
                  simp [execOp, Act.eval, go_sem]
                case kb2 =>
                  rintro u W ⟨rfl, hp, hg⟩
                  simp [execOp, Act.eval, go_sem]
                case kcs =>
                  rintro u W _
                  simp [Value.oneCell']
                case kh63 =>
                  exact small_maxLen (by omega)
                case khbytes =>
                  omega
                case kown =>
                  rintro u W ⟨rfl, hp, hg⟩
                  obtain ⟨q0, q1, q2, q3, qf, q4, q5, q6, q7⟩ := HS6.out.took hg hp
                  have hsz := hg.size
                  simp at hsz
                  exact ⟨q6, by omega, ⟨_, q1⟩, qf 1, by omega, nvb⟩
                case kpost =>
                  exact fun _ _ _ => ⟨⟨_, rfl, rfl, .inl ⟨by rfl, fun _ _ => by rfl⟩⟩, trivial⟩
                case kst =>
                  rintro u b g cap W2 ⟨x, hx⟩ hf
                  simp only [putsA, List.foldl_cons, List.foldl_nil, Act.put, List.setIfInBounds_toArray, List.set_cons_zero, List.set_cons_succ]
                  simp [execOp, Act.eval, go_sem, hx, hf]
                case kQ =>
                  rintro u W ⟨rfl, hp, hg⟩ b g cap W2 h1 h2 h3 h4
                  simp only [putsA, List.foldl_cons, List.foldl_nil, Act.put, List.setIfInBounds_toArray, List.set_cons_zero, List.set_cons_succ]
                  have HN := Lib.hid (HS6.out.app hg hp h1 h2 hvm.symm (by rw [hrr.out]; rfl))
                  have hlr : rr.length = rr2.length + 1 := by rw [hrr.out]; rfl
                  clear h1 h2 h3 h4 hg hp
                  go_wp2
                  go_roundg (gk - 1)
                  case rel => exact ⟨_, rr2, _, by omega, HN.out⟩
                  case measure => omega
          · obtain ⟨q, r2, rfl, hv⟩ := vals_end hsg
            obtain ⟨at_, ha, p1, pf, hpp⟩ := HS3.out.pr.step
            have HPP := Lib.hid hpp
            obtain ⟨A, cp, rfl⟩ := own_form HS3.out.own
            have c0 := HS3.out.c0
            have c1 := HS3.out.c1
            simp only [strV] at c0
            have c2 := HS3.out.c2
            have c3 := HS3.out.c3
            have z0 := HS3.out.z 0 _ rfl
            have z1 := HS3.out.z 1 _ rfl
            have z2 := HS3.out.z 2 _ rfl
            have z3 := HS3.out.z 3 _ rfl
            have f0 := HS3.out.zf 0
            have f1 := HS3.out.zf 1
            have f2 := HS3.out.zf 2
            have f3 := HS3.out.zf 3
            have n1 : ¬ w2.heap.size + 1 = bp := by omega
            have n2 : ¬ w.heap.size = bp := by omega
            have n3 : ¬ w2.heap.size + 1 = w.heap.size := by omega
            have hlen := HS3.out.len
            have HV := Lib.hid hv
            have HSG := Lib.hid hsg
            clear hpp hv hsg
            go_wp2_with fail
            have hg3 := grownBy_trans HS3.out.gr (grownBy_setCell (w := w3) ⟨bp, 1, none⟩ rfl (.int .i64 ((at_ : Int) + 1)))
            have hBel := ((((Below.refl w.heap.size (w3.setCell ⟨bp, 1, none⟩ (.int .i64 ((at_ : Int) + 1)))).setCell (p := ⟨w.heap.size, 0, none⟩) (Nat.le_refl _) (.string ⟨t.text.toArray⟩)).setCell (p := ⟨w.heap.size, 1, none⟩) (Nat.le_refl _) (.slice A acc.length cp)).setCell (p := ⟨w.heap.size, 2, none⟩) (Nat.le_refl _) (.int .i64 t.line)).setCell (p := ⟨w.heap.size, 3, none⟩) (Nat.le_refl _) (.int .i64 t.col)
            refine bodyPost_ret (v := .agg #[.string ⟨t.text.toArray⟩, .slice A acc.length cp, .int .i64 t.line, .int .i64 t.col]) (by simp [results, Try.results75, go_sem, z0, z1, z2, z3, n1, n2, n3]) rfl ?_
            refine ⟨grownBy_thenB hg3 hBel, ?_⟩
            rw [clauseP_cons, if_pos (by rw [hn', bne, hm]; rfl), ← HS3.out.vp, HV.out]
            refine ⟨⟨_, rfl, ?_⟩, HPP.out.above hBel HS3.out.b1⟩
            simp only [preV, List.append_nil]
            exact ownsRow_base (ownsRow_setCell_below (ownsRow_setCell_below (ownsRow_setCell_below (ownsRow_setCell_below (ownsRow_setCell_below HS3.out.own (by simp; omega) _) (by simp; omega) _) (by simp; omega) _) (by simp; omega) _) (by simp; omega) _) (by omega)
end Go.Proofs.Ytjnaeldaajckkaa
