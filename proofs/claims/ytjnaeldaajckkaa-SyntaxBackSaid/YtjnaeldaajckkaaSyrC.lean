/- The reference's parser: clause. -/
import Derived.Test.YtjnaeldaajckkaaSyrB
import Derived.BigQuiet
set_option linter.unusedVariables false
set_option linter.unusedSimpArgs false
namespace Go.Proofs.Ytjnaeldaajckkaa
open Go.RowKit Tok Syn

theorem cells_new_at (w : World) (l : List Value) (t : TypeId) (g : Nat) (hg : g = w.heap.size) : ∀ j u, l[j]? = some u → (w.alloc (.cells l.toArray t)).cell? ((⟨g, 0, none⟩ : Addr).add j) = some u := by
  subst hg; exact cells_new w l t
def clR (wd : List UInt8) (ln cl : Nat) (x : Except (List T) (List (List UInt8) × List T)) : Except (List T) (Cl × List T) := match x with
  | .error s => .error s
  | .ok (v, r) => .ok (⟨wd, v, ln, cl⟩, r)
/-- the reference's clause under construction -/
structure RcS (bp b0 b3 : Nat) (w : World) (tv : Value) (L r : List T) (wd : List UInt8) (ln cl : Nat) (wr : World) (bad : Bool) (acc : List (List UInt8)) (rr : List T) (v : Value) : Prop where
  pr : RP wr bp tv L rr bad
  st : StA wr b3 [strV wd, v, .int .i64 ln, .int .i64 cl]
  z : StA wr b0 [strV [], .slice none 0 0, .int .i64 0, .int .i64 0]
  own : wr.ownsRow (b3 + 1) 9 1 v acc.length (acc.map strV)
  gr : w.grownBy wr (some bp)
  vp : clauseP r = if bad then .error rr else clR wd ln cl (preV acc (valsP rr))
  len : acc.length + rr.length ≤ 65536
  b1 : bp < b0
  b2 : b0 < b3
  b4 : b0 = w.heap.size
section
variable {bp b0 b3 : Nat} {w : World} {tv : Value} {L r : List T} {wd : List UInt8} {ln cl : Nat} {wr w' W : World} {bad : Bool} {acc : List (List UInt8)} {rr rr2 : List T} {v : Value}
theorem RcS.below (h : RcS bp b0 b3 w tv L r wd ln cl wr bad acc rr v) (hb : Below wr.heap.size wr w') : RcS bp b0 b3 w tv L r wd ln cl w' bad acc rr v where
  pr := h.pr.below hb
  st := h.st.below hb
  z := h.z.below hb
  own := ownsRow_below h.own hb
  gr := grownBy_trans h.gr (grownBy_below hb _)
  vp := h.vp
  len := h.len
  b1 := h.b1
  b2 := h.b2
  b4 := h.b4
/-- the parser moved -/
theorem RcS.moved (h : RcS bp b0 b3 w tv L r wd ln cl wr bad acc rr v) (hg : wr.grownBy w' (some bp)) : StA w' b3 [strV wd, v, .int .i64 ln, .int .i64 cl] ∧ StA w' b0 [strV [], .slice none 0 0, .int .i64 0, .int .i64 0] ∧ w'.ownsRow (b3 + 1) 9 1 v acc.length (acc.map strV) ∧ w.grownBy w' (some bp) := by
  have h1 := h.b1
  have h2 := h.b2
  refine ⟨h.st.grown hg (fun e => by injection e with e; omega), h.z.grown hg (fun e => by injection e with e; omega), h.own.kept hg ?_, grownBy_trans h.gr hg⟩
  cases hv : v.ownBlock with
  | none => exact .inl rfl
  | some g => exact .inr fun e => by injection e with e; have := (h.own.lt g hv).1; omega
end
theorem clause_start {t : T} {r : List T} (hw : wrd t = true) (hc : isW t sClass = false) : clauseP (t :: r) = clR t.text t.line t.col (preV [] (valsP r)) := by
  have h1 : (wrd t && t.text != sClass) = true := by
    simp only [isW, hw, Bool.true_and] at hc
    rw [hw, bne, hc]; rfl
  rw [clauseP_cons, if_pos h1, preV_nil]
  rfl
set_option maxRecDepth 100000 in
set_option maxHeartbeats 4000000 in
theorem rclause_any {w : World} {bp : Nat} {tv : Value} {L r : List T} (hp : RP w bp tv L r false) (hcl : isW (hdT r) sClass = false) :
    Calls Try.prog 81 #[.pointer (some ⟨bp, 0, none⟩)] w fun e w' => w.grownBy w' (some bp) ∧
      ∃ (wd : List UInt8) (A : Option Addr) (n cp ln cl : Nat), e = .returned (.agg #[.string ⟨wd.toArray⟩, .slice A n cp, .int .i64 ln, .int .i64 cl]) ∧
        (∀ s, clauseP r = .error s → RP w' bp tv L s true) ∧ (∀ c r', clauseP r = .ok (c, r') → RP w' bp tv L r' false ∧ wd = c.word ∧ ln = c.line ∧ cl = c.col ∧ n = c.vals.length ∧ w'.ownsRow w.heap.size 9 1 (.slice A n cp) c.vals.length (c.vals.map strV)) := by
  have hbp := hp.lt
  have hrl := hp.rl
  have hLl := hp.len
  have hB0 := (Below.refl w.heap.size w).alloc (Nat.le_refl _) (.cells #[.string ⟨#[]⟩, .slice none 0 0, .int .i64 0, .int .i64 0] 81)
  have HT := Lib.hid (hp.above hB0 hbp)
  have HB0 := Lib.hid hB0
  have HZ0 := Lib.hid (StA.new w [.string ⟨#[]⟩, .slice none 0 0, .int .i64 0, .int .i64 0] 81)
  clear hp hB0
  have hF2 := fld_pos
  go_enter Try.func81, Try.ntmps81
  go_wp2_with fail
  refine (rtok_any HT.out).mono ?_
  rintro e w1 ⟨rfl, hb1⟩
  rw [show tokT r false = hdT r from rfl]
  simp only [Tok.T.val]
  have hb01 := HB0.out.trans (hb1.mono HB0.out.size)
  have hs1 := hb1.size
  simp at hs1
  have hal := (Below.refl _ w1).alloc (Nat.le_refl _) (.cells #[.string ⟨#[]⟩, .slice none 0 0, .int .i64 (hdT r).line, .int .i64 (hdT r).col] 81)
  have HP1 := Lib.hid ((HT.out.below hb1).below hal)
  have HZ1 := Lib.hid ((HZ0.out.below hb1).below hal)
  have HS1 := Lib.hid (StA.new w1 [.string ⟨#[]⟩, .slice none 0 0, .int .i64 (hdT r).line, .int .i64 (hdT r).col] 81)
  have HB1 := Lib.hid (hb01.trans (hal.mono hb01.size))
  clear hb1 hal hb01 HT HZ0 HB0
  go_wp2_with fail
  refine (rword_any HP1.out).mono ?_
  rintro e w2 ⟨⟨wd, rfl, hwd⟩, hg2, hn2, hy2⟩
  have hs2 := hg2.size
  simp at hs2
  have n3 : some bp ≠ some w1.heap.size := fun e => by injection e with e; omega
  have n0 : some bp ≠ some w.heap.size := fun e => by injection e with e; omega
  have hS2 := HS1.out.grown hg2 n3
  have HZ2 := Lib.hid (HZ1.out.grown hg2 n0)
  have HG2 := Lib.hid (grownBy_trans (grownBy_below HB1.out (some bp)) hg2)
  have c0 := hS2.c 0 _ rfl
  have f0 := hS2.f 0
  have HS2 := Lib.hid hS2
  have HN2 := Lib.hid hn2
  have HY2 := Lib.hid hy2
  have HWD := Lib.hid hwd
  clear hg2 hn2 hy2 hwd hS2 HP1 HZ1 HS1 HB1
  go_wp2
  go_loopg [] (r.length + 1) (fun n wr => ∃ bad acc rr v, rr.length < n ∧ RcS bp w.heap.size w1.heap.size w tv L r wd (hdT r).line (hdT r).col wr bad acc rr v)
  case atStart =>
    have hb2 : Below w1.heap.size w2 (w2.setCell ⟨w1.heap.size, 0, none⟩ (.string ⟨wd.toArray⟩)) := (Below.refl _ w2).setCell (p := ⟨w1.heap.size, 0, none⟩) (Nat.le_refl _) _
    have nb : w1.heap.size ≠ w.heap.size := by omega
    have hst : StA (w2.setCell ⟨w1.heap.size, 0, none⟩ (.string ⟨wd.toArray⟩)) w1.heap.size [strV wd, .slice none 0 0, .int .i64 (hdT r).line, .int .i64 (hdT r).col] := HS2.out.set 0 (.string ⟨wd.toArray⟩) (by simp)
    have hgr := grownBy_thenB HG2.out (hb2.mono (by omega))
    cases hw : wrd (hdT r)
    · refine ⟨true, [], r, .slice none 0 0, by omega, ?_⟩
      exact
        { pr := (HN2.out hw).above hb2 (by omega)
          st := hst
          z := HZ2.out.far _ _ nb
          own := World.ownsRow_nil _ _ _ _
          gr := hgr
          vp := by rw [clauseP_no (by rw [hw]; rfl)]; rfl
          len := by simp; omega
          b1 := hbp
          b2 := by omega
          b4 := rfl }
    · obtain ⟨t, r1, rfl⟩ := wrd_cons hw
      have hwt : wd = t.text := HWD.out t r1 rfl (by simp) hw
      refine ⟨false, [], r1, .slice none 0 0, by rw [List.length_cons]; omega, ?_⟩
      exact
        { pr := (HY2.out t r1 rfl (by simp) hw).above hb2 (by omega)
          st := hst
          z := HZ2.out.far _ _ nb
          own := World.ownsRow_nil _ _ _ _
          gr := hgr
          vp := by rw [hwt]; exact clause_start hw hcl
          len := by rw [List.length_cons] at hrl; simp; omega
          b1 := hbp
          b2 := by omega
          b4 := rfl }
  case round =>
    obtain ⟨bad, acc, rr, v, hn, HQ⟩ := hrel
    have HQ := Lib.hid HQ
    clear c0 f0 HS2 HZ2 HN2 HY2 HWD HG2
    obtain ⟨A, cp, rfl⟩ := own_form HQ.out.own
    have hlt3 := HQ.out.st.lt
    have hlen := HQ.out.len
    have hb2 := HQ.out.b2
    have nb3 : ¬ w1.heap.size = w.heap.size := by omega
    have nbp : ¬ w1.heap.size = bp := by omega
    have nbp2 : ¬ bp = w1.heap.size := by omega
    have nbp3 : ¬ w.heap.size = bp := by omega
    have nbp4 : ¬ bp = w.heap.size := by omega
    have q2 := HQ.out.pr.c2
    have q1 := HQ.out.pr.c1
    have hrr := HQ.out.pr.rl
    cases bad
    · go_wp2_with fail
      refine (ris_any 5 [59] HQ.out.pr).mono ?_
      rintro e w3 ⟨rfl, hb3⟩
      have HQ3 := Lib.hid (HQ.out.below hb3)
      clear hb3 HQ q1 q2
      rw [show ((tokT rr false).kind == 5 && (tokT rr false).text == [59]) = sgn (hdT rr) 59 from rfl]
      cases hsg : sgn (hdT rr) 59
      · go_wp2_with fail
        refine (rtok_any HQ3.out.pr).mono ?_
        rintro e w4 ⟨rfl, hb4⟩
        rw [show tokT rr false = hdT rr from rfl]
        have hs3 := HQ3.out.st.lt
        have hs4 := hb4.size
        obtain ⟨⟨kd, tx, l0, k0⟩, ht⟩ : ∃ t, hdT rr = t := ⟨_, rfl⟩
        have HT := Lib.hid ht
        rw [ht]
        simp only [Tok.T.val]
        have d0 := cells_at w4 [.int .i64 kd, .string ⟨tx.toArray⟩, .int .i64 l0, .int .i64 k0] 38 _ rfl 0 _ rfl
        have d1 := cells_at w4 [.int .i64 kd, .string ⟨tx.toArray⟩, .int .i64 l0, .int .i64 k0] 38 _ rfl 1 _ rfl
        have HQ5 := Lib.hid ((HQ3.out.below hb4).below ((Below.refl _ w4).alloc (Nat.le_refl _) (.cells #[.int .i64 kd, .string ⟨tx.toArray⟩, .int .i64 l0, .int .i64 k0] 38)))
        have HSG := Lib.hid hsg
        have nt3 : ¬ w4.heap.size = bp := by omega
        have nt4 : ¬ bp = w4.heap.size := by omega
        have nt5 : ¬ w4.heap.size = w1.heap.size := by omega
        have nt6 : ¬ w1.heap.size = w4.heap.size := by omega
        have nt7 : ¬ w4.heap.size = w.heap.size := by omega
        have nt8 : ¬ w.heap.size = w4.heap.size := by omega
        have p2 := HQ5.out.pr.c2
        have p1 := HQ5.out.pr.c1
        have fp := HQ5.out.pr.f 2
        have fp1 := HQ5.out.pr.f 1
        clear hb4 hsg ht HQ3
        by_cases k5 : kd = 5
        · subst k5
          by_cases k44 : tx = [44]
          · subst k44
            obtain ⟨tq, r3, hrr3, hvm⟩ := vals_more (acc := acc) HSG.out (by rw [HT.out]; simp [valOk])
            have htq : tq = ⟨5, [44], l0, k0⟩ := by have := HT.out; rw [hrr3] at this; exact this
            subst htq
            have HVM := Lib.hid hvm
            have HR3 := Lib.hid hrr3
            have hlr : rr.length = r3.length + 1 := by rw [hrr3]; rfl
            have s1 := HQ5.out.st.c 1 _ rfl
            have HOWN := Lib.hid HQ5.out.own
            obtain ⟨i0, hi, hz0, hz1, hz2⟩ := info_parts Try.info9
            clear hvm hrr3
            have hst := HQ5.out.st.lt
            go_wp2_with (at_builtin; go_loud (refine wpList_append_own _ rfl _ _ 40 rfl (w1.heap.size + 1) 9 i0 _ 1 16 Try.underlying40 hi hz0 hz1 hz2 rfl (by decide) _ _ _ rfl (HOWN.out.alloc _) ⟨w4.heap.size + 1, 0, none⟩ 1 1 [.string ⟨[44].toArray⟩] rfl rfl ?_ ?_ ?_ ?_ ?_ ?_; exact cells_new_at _ [.string ⟨[44].toArray⟩] _ _ (by simp); (simp [Value.oneCell']); exact small_maxLen (by omega); omega; (first | omega | (simp; omega))))
            intro v' w6 how hgw hnil
            have hB6 : Below (w1.heap.size + 1) (w4.alloc (.cells #[.int .i64 5, .string ⟨[44].toArray⟩, .int .i64 l0, .int .i64 k0] 38)) w6 := ((Below.refl (w1.heap.size + 1) (w4.alloc (.cells #[.int .i64 5, .string ⟨[44].toArray⟩, .int .i64 l0, .int .i64 k0] 38))).alloc (by simp; omega) _).grown hgw (by simp; omega) (fun k hk => (HOWN.out.lt k hk).1)
            obtain ⟨A', cp', rfl⟩ := own_form how
            have hst6 := HQ5.out.st.above hB6 (by omega)
            have hz6 := HQ5.out.z.above hB6 (by omega)
            have hp6 := HQ5.out.pr.above hB6 (by omega)
            have s16 := hst6.c 1 _ rfl
            have f16 := hst6.f 1
            have e1 := hp6.c1
            have ef1 := hp6.f 1
            have hrl6 := hp6.rl
            rw [hlr] at e1
            have HST6 := Lib.hid hst6
            have HZ6 := Lib.hid hz6
            have HP6 := Lib.hid hp6
            have HB6 := Lib.hid hB6
            have HHOW := Lib.hid how
            obtain ⟨at_, hat⟩ : ∃ a, a = L.length - (r3.length + 1) := ⟨_, rfl⟩
            have hat2 : at_ ≤ 65536 := by omega
            rw [← hat] at e1
            have HAT := Lib.hid hat
            clear s1 d0 d1 p1 p2 fp fp1 hst6 hz6 hp6 hB6 how hgw hnil hat
            go_wp2
            go_roundg (gk - 1)
            case measure => omega
            case rel =>
              refine ⟨false, acc ++ [[44]], r3, .slice A' (acc.length + 1) cp', by omega, ?_⟩
              have hB7 : Below w1.heap.size w6 (w6.setCell ⟨w1.heap.size, 1, none⟩ (.slice A' (acc.length + 1) cp')) := (Below.refl _ _).setCell (p := ⟨w1.heap.size, 1, none⟩) (Nat.le_refl _) _
              have hp7 := HP6.out.above hB7 (by omega)
              rw [HR3.out] at hp7
              have hp8 := hp7.step
              rw [List.length_cons, ← HAT.out] at hp8
              have hgr : w.grownBy (w6.setCell ⟨w1.heap.size, 1, none⟩ (.slice A' (acc.length + 1) cp')) (some bp) := grownBy_thenB HQ5.out.gr ((HB6.out.mono (by omega)).trans (hB7.mono (by omega)))
              have hvp := HQ5.out.vp
              rw [if_neg (by simp), HVM.out] at hvp
              exact
                { pr := hp8
                  st := (HST6.out.set 1 (.slice A' (acc.length + 1) cp') (by simp)).far ⟨bp, 1, none⟩ _ (by show bp ≠ w1.heap.size; omega)
                  z := (HZ6.out.far ⟨w1.heap.size, 1, none⟩ _ (by show w1.heap.size ≠ w.heap.size; omega)).far ⟨bp, 1, none⟩ _ (by show bp ≠ w.heap.size; omega)
                  own := by
                    rw [List.map_append, List.length_append]
                    exact ownsRow_setCell_below (ownsRow_setCell_below HHOW.out (by show w1.heap.size < w1.heap.size + 1; omega) _) (by show bp < w1.heap.size + 1; omega) _
                  gr := grownBy_trans hgr (grownBy_setCell ⟨bp, 1, none⟩ rfl _)
                  vp := by rw [if_neg (by simp)]; exact hvp
                  len := by rw [List.length_append, List.length_cons, List.length_nil]; omega
                  b1 := hbp
                  b2 := by omega
                  b4 := rfl }
          · have k44b : (tx == [44]) = false := beq_false_of_ne k44
            have hg6 : World.grownBy _ _ (some bp) := grownBy_setCell (w := (w4.alloc (.cells #[.int .i64 5, .string ⟨tx.toArray⟩, .int .i64 l0, .int .i64 k0] 38))) ⟨bp, 2, none⟩ rfl (.bool true)
            obtain ⟨hst, hz, how, hgr⟩ := HQ5.out.moved hg6
            have HGR := Lib.hid hgr
            have HP6 := Lib.hid HQ5.out.pr.mark
            clear how hgr hg6
            have c0 := hst.c 0 _ rfl
            have c1 := hst.c 1 _ rfl
            have c2 := hst.c 2 _ rfl
            have c3 := hst.c 3 _ rfl
            simp only [strV] at c0
            have z0 := hz.c 0 _ rfl
            have z1 := hz.c 1 _ rfl
            have z2 := hz.c 2 _ rfl
            have z3 := hz.c 3 _ rfl
            have f0 := hz.f 0
            have f1 := hz.f 1
            have f2 := hz.f 2
            have f3 := hz.f 3
            clear hst hz
            go_wp2
            have hBel := ((((Below.refl w.heap.size ((w4.alloc (.cells #[.int .i64 5, .string ⟨tx.toArray⟩, .int .i64 l0, .int .i64 k0] 38)).setCell ⟨bp, 2, none⟩ (.bool true))).setCell (p := ⟨w.heap.size, 0, none⟩) (Nat.le_refl _) (.string ⟨wd.toArray⟩)).setCell (p := ⟨w.heap.size, 1, none⟩) (Nat.le_refl _) (.slice A acc.length cp)).setCell (p := ⟨w.heap.size, 2, none⟩) (Nat.le_refl _) (.int .i64 (hdT r).line)).setCell (p := ⟨w.heap.size, 3, none⟩) (Nat.le_refl _) (.int .i64 (hdT r).col)
            refine bodyPost_ret (v := .agg #[.string ⟨wd.toArray⟩, .slice A acc.length cp, .int .i64 (hdT r).line, .int .i64 (hdT r).col]) (by simp [results, Try.results81, go_sem, z0, z1, z2, z3, nb3, nbp, nbp2, nbp3, nbp4, nt3, nt4, nt5, nt6, nt7, nt8]) rfl ?_
            refine ⟨grownBy_thenB HGR.out hBel, wd, A, acc.length, cp, (hdT r).line, (hdT r).col, rfl, ?_⟩
            have hvp := HQ5.out.vp
            rw [if_neg (by simp), vals_bad HSG.out (by rw [HT.out]; simp [valOk, k44])] at hvp
            rw [hvp]
            refine ⟨fun s h => ?_, fun c r' h => by cases h⟩
            cases h
            exact HP6.out.above hBel hbp
        · by_cases k00 : kd = 0
          · subst k00
            have hg6 : World.grownBy _ _ (some bp) := grownBy_setCell (w := (w4.alloc (.cells #[.int .i64 0, .string ⟨tx.toArray⟩, .int .i64 l0, .int .i64 k0] 38))) ⟨bp, 2, none⟩ rfl (.bool true)
            obtain ⟨hst, hz, how, hgr⟩ := HQ5.out.moved hg6
            have HGR := Lib.hid hgr
            have HP6 := Lib.hid HQ5.out.pr.mark
            clear how hgr hg6
            have c0 := hst.c 0 _ rfl
            have c1 := hst.c 1 _ rfl
            have c2 := hst.c 2 _ rfl
            have c3 := hst.c 3 _ rfl
            simp only [strV] at c0
            have z0 := hz.c 0 _ rfl
            have z1 := hz.c 1 _ rfl
            have z2 := hz.c 2 _ rfl
            have z3 := hz.c 3 _ rfl
            have f0 := hz.f 0
            have f1 := hz.f 1
            have f2 := hz.f 2
            have f3 := hz.f 3
            clear hst hz
            go_wp2
            have hBel := ((((Below.refl w.heap.size ((w4.alloc (.cells #[.int .i64 0, .string ⟨tx.toArray⟩, .int .i64 l0, .int .i64 k0] 38)).setCell ⟨bp, 2, none⟩ (.bool true))).setCell (p := ⟨w.heap.size, 0, none⟩) (Nat.le_refl _) (.string ⟨wd.toArray⟩)).setCell (p := ⟨w.heap.size, 1, none⟩) (Nat.le_refl _) (.slice A acc.length cp)).setCell (p := ⟨w.heap.size, 2, none⟩) (Nat.le_refl _) (.int .i64 (hdT r).line)).setCell (p := ⟨w.heap.size, 3, none⟩) (Nat.le_refl _) (.int .i64 (hdT r).col)
            refine bodyPost_ret (v := .agg #[.string ⟨wd.toArray⟩, .slice A acc.length cp, .int .i64 (hdT r).line, .int .i64 (hdT r).col]) (by simp [results, Try.results81, go_sem, z0, z1, z2, z3, nb3, nbp, nbp2, nbp3, nbp4, nt3, nt4, nt5, nt6, nt7, nt8]) rfl ?_
            refine ⟨grownBy_thenB HGR.out hBel, wd, A, acc.length, cp, (hdT r).line, (hdT r).col, rfl, ?_⟩
            have hvp := HQ5.out.vp
            rw [if_neg (by simp), vals_bad HSG.out (by rw [HT.out]; simp [valOk])] at hvp
            rw [hvp]
            refine ⟨fun s h => ?_, fun c r' h => by cases h⟩
            cases h
            exact HP6.out.above hBel hbp
          · skip
            obtain ⟨tq, r3, hrr3, hvm⟩ := vals_more (acc := acc) HSG.out (by rw [HT.out]; simp [valOk, k5, k00])
            have htq : tq = ⟨kd, tx, l0, k0⟩ := by have := HT.out; rw [hrr3] at this; exact this
            subst htq
            have HVM := Lib.hid hvm
            have HR3 := Lib.hid hrr3
            have hlr : rr.length = r3.length + 1 := by rw [hrr3]; rfl
            have s1 := HQ5.out.st.c 1 _ rfl
            have HOWN := Lib.hid HQ5.out.own
            obtain ⟨i0, hi, hz0, hz1, hz2⟩ := info_parts Try.info9
            clear hvm hrr3
            have hst := HQ5.out.st.lt
            go_wp2_with (at_builtin; go_loud (refine wpList_append_own _ rfl _ _ 40 rfl (w1.heap.size + 1) 9 i0 _ 1 16 Try.underlying40 hi hz0 hz1 hz2 rfl (by decide) _ _ _ rfl (HOWN.out.alloc _) ⟨w4.heap.size + 1, 0, none⟩ 1 1 [.string ⟨tx.toArray⟩] rfl rfl ?_ ?_ ?_ ?_ ?_ ?_; exact cells_new_at _ [.string ⟨tx.toArray⟩] _ _ (by simp); (simp [Value.oneCell']); exact small_maxLen (by omega); omega; (first | omega | (simp; omega))))
            intro v' w6 how hgw hnil
            have hB6 : Below (w1.heap.size + 1) (w4.alloc (.cells #[.int .i64 kd, .string ⟨tx.toArray⟩, .int .i64 l0, .int .i64 k0] 38)) w6 := ((Below.refl (w1.heap.size + 1) (w4.alloc (.cells #[.int .i64 kd, .string ⟨tx.toArray⟩, .int .i64 l0, .int .i64 k0] 38))).alloc (by simp; omega) _).grown hgw (by simp; omega) (fun k hk => (HOWN.out.lt k hk).1)
            obtain ⟨A', cp', rfl⟩ := own_form how
            have hst6 := HQ5.out.st.above hB6 (by omega)
            have hz6 := HQ5.out.z.above hB6 (by omega)
            have hp6 := HQ5.out.pr.above hB6 (by omega)
            have s16 := hst6.c 1 _ rfl
            have f16 := hst6.f 1
            have e1 := hp6.c1
            have ef1 := hp6.f 1
            have hrl6 := hp6.rl
            rw [hlr] at e1
            have HST6 := Lib.hid hst6
            have HZ6 := Lib.hid hz6
            have HP6 := Lib.hid hp6
            have HB6 := Lib.hid hB6
            have HHOW := Lib.hid how
            obtain ⟨at_, hat⟩ : ∃ a, a = L.length - (r3.length + 1) := ⟨_, rfl⟩
            have hat2 : at_ ≤ 65536 := by omega
            rw [← hat] at e1
            have HAT := Lib.hid hat
            clear s1 d0 d1 p1 p2 fp fp1 hst6 hz6 hp6 hB6 how hgw hnil hat
            go_wp2
            go_roundg (gk - 1)
            case measure => omega
            case rel =>
              refine ⟨false, acc ++ [tx], r3, .slice A' (acc.length + 1) cp', by omega, ?_⟩
              have hB7 : Below w1.heap.size w6 (w6.setCell ⟨w1.heap.size, 1, none⟩ (.slice A' (acc.length + 1) cp')) := (Below.refl _ _).setCell (p := ⟨w1.heap.size, 1, none⟩) (Nat.le_refl _) _
              have hp7 := HP6.out.above hB7 (by omega)
              rw [HR3.out] at hp7
              have hp8 := hp7.step
              rw [List.length_cons, ← HAT.out] at hp8
              have hgr : w.grownBy (w6.setCell ⟨w1.heap.size, 1, none⟩ (.slice A' (acc.length + 1) cp')) (some bp) := grownBy_thenB HQ5.out.gr ((HB6.out.mono (by omega)).trans (hB7.mono (by omega)))
              have hvp := HQ5.out.vp
              rw [if_neg (by simp), HVM.out] at hvp
              exact
                { pr := hp8
                  st := (HST6.out.set 1 (.slice A' (acc.length + 1) cp') (by simp)).far ⟨bp, 1, none⟩ _ (by show bp ≠ w1.heap.size; omega)
                  z := (HZ6.out.far ⟨w1.heap.size, 1, none⟩ _ (by show w1.heap.size ≠ w.heap.size; omega)).far ⟨bp, 1, none⟩ _ (by show bp ≠ w.heap.size; omega)
                  own := by
                    rw [List.map_append, List.length_append]
                    exact ownsRow_setCell_below (ownsRow_setCell_below HHOW.out (by show w1.heap.size < w1.heap.size + 1; omega) _) (by show bp < w1.heap.size + 1; omega) _
                  gr := grownBy_trans hgr (grownBy_setCell ⟨bp, 1, none⟩ rfl _)
                  vp := by rw [if_neg (by simp)]; exact hvp
                  len := by rw [List.length_append, List.length_cons, List.length_nil]; omega
                  b1 := hbp
                  b2 := by omega
                  b4 := rfl }
      · obtain ⟨q, r2, rfl, hv⟩ := vals_end hsg
        go_wp2_with fail
        refine (rsign_any 59 HQ3.out.pr).mono ?_
        rintro e w4 ⟨rfl, hg4, _, hy4⟩
        have hp4 := hy4 q r2 rfl rfl hsg
        have hvp := HQ3.out.vp
        rw [if_neg (by simp), hv] at hvp
        have HVP := Lib.hid hvp
        clear hy4 hv hsg hvp
        obtain ⟨hst, hz, how, hgr⟩ := HQ3.out.moved hg4
        have HOW := Lib.hid how
        have HGR := Lib.hid hgr
        have HP4 := Lib.hid hp4
        clear how hgr hp4 hg4
        have c0 := hst.c 0 _ rfl
        have c1 := hst.c 1 _ rfl
        have c2 := hst.c 2 _ rfl
        have c3 := hst.c 3 _ rfl
        simp only [strV] at c0
        have z0 := hz.c 0 _ rfl
        have z1 := hz.c 1 _ rfl
        have z2 := hz.c 2 _ rfl
        have z3 := hz.c 3 _ rfl
        have f0 := hz.f 0
        have f1 := hz.f 1
        have f2 := hz.f 2
        have f3 := hz.f 3
        clear hst hz
        go_wp2
        have hBel := ((((Below.refl w.heap.size (w4)).setCell (p := ⟨w.heap.size, 0, none⟩) (Nat.le_refl _) (.string ⟨wd.toArray⟩)).setCell (p := ⟨w.heap.size, 1, none⟩) (Nat.le_refl _) (.slice A acc.length cp)).setCell (p := ⟨w.heap.size, 2, none⟩) (Nat.le_refl _) (.int .i64 (hdT r).line)).setCell (p := ⟨w.heap.size, 3, none⟩) (Nat.le_refl _) (.int .i64 (hdT r).col)
        refine bodyPost_ret (v := .agg #[.string ⟨wd.toArray⟩, .slice A acc.length cp, .int .i64 (hdT r).line, .int .i64 (hdT r).col]) (by simp [results, Try.results81, go_sem, z0, z1, z2, z3, nb3, nbp, nbp2, nbp3, nbp4]) rfl ?_
        refine ⟨grownBy_thenB HGR.out hBel, wd, A, acc.length, cp, (hdT r).line, (hdT r).col, rfl, ?_⟩
        rw [HVP.out]
        refine ⟨fun s h => (by cases h), fun c r' h => ?_⟩
        cases h
        simp only [List.append_nil]
        refine ⟨HP4.out.above hBel hbp, by simp, by simp, by simp, by simp, ?_⟩
        exact ownsRow_base (ownsRow_setCell_below (ownsRow_setCell_below (ownsRow_setCell_below (ownsRow_setCell_below HOW.out (by simp; omega) _) (by simp; omega) _) (by simp; omega) _) (by simp; omega) _) (by omega)
    · go_wp2_with fail
      refine (rsign_any 59 HQ.out.pr).mono ?_
      rintro e w4 ⟨rfl, hg4, hn4, _⟩
      have hp4 := hn4 rfl
      have hvp := HQ.out.vp
      rw [if_pos rfl] at hvp
      have HVP := Lib.hid hvp
      have HQ3 := HQ
      clear hn4 hvp q1 q2
      obtain ⟨hst, hz, how, hgr⟩ := HQ3.out.moved hg4
      have HOW := Lib.hid how
      have HGR := Lib.hid hgr
      have HP4 := Lib.hid hp4
      clear how hgr hp4 hg4
      have c0 := hst.c 0 _ rfl
      have c1 := hst.c 1 _ rfl
      have c2 := hst.c 2 _ rfl
      have c3 := hst.c 3 _ rfl
      simp only [strV] at c0
      have z0 := hz.c 0 _ rfl
      have z1 := hz.c 1 _ rfl
      have z2 := hz.c 2 _ rfl
      have z3 := hz.c 3 _ rfl
      have f0 := hz.f 0
      have f1 := hz.f 1
      have f2 := hz.f 2
      have f3 := hz.f 3
      clear hst hz
      go_wp2
      have hBel := ((((Below.refl w.heap.size (w4)).setCell (p := ⟨w.heap.size, 0, none⟩) (Nat.le_refl _) (.string ⟨wd.toArray⟩)).setCell (p := ⟨w.heap.size, 1, none⟩) (Nat.le_refl _) (.slice A acc.length cp)).setCell (p := ⟨w.heap.size, 2, none⟩) (Nat.le_refl _) (.int .i64 (hdT r).line)).setCell (p := ⟨w.heap.size, 3, none⟩) (Nat.le_refl _) (.int .i64 (hdT r).col)
      refine bodyPost_ret (v := .agg #[.string ⟨wd.toArray⟩, .slice A acc.length cp, .int .i64 (hdT r).line, .int .i64 (hdT r).col]) (by simp [results, Try.results81, go_sem, z0, z1, z2, z3, nb3, nbp, nbp2, nbp3, nbp4]) rfl ?_
      refine ⟨grownBy_thenB HGR.out hBel, wd, A, acc.length, cp, (hdT r).line, (hdT r).col, rfl, ?_⟩
      rw [HVP.out]
      refine ⟨fun s h => ?_, fun c r' h => by cases h⟩
      cases h
      exact HP4.out.above hBel hbp
end Go.Proofs.Ytjnaeldaajckkaa
