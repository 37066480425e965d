/- law25.RegisterKeepsUnits, walked. -/
import Derived.Test.YthhmpdjjfoplgaaScE
import Derived.Test.YthhmpdjjfoplgaaScR
import Derived.Deep.CutBlock
set_option linter.unusedVariables false
set_option linter.unusedSimpArgs false
namespace Go.Proofs.Ythhmpdjjfoplgaa
open Go.RowKit Reg

theorem Own.len_rw {w : World} {B N c : Nat} {A : Option Addr} {l : List Lot} (h : Own w B (.slice A l.length c) l) (hN : N = l.length) : Own w B (.slice A N c) l := hN ▸ h
theorem undrawn {a b c : World} {bt : Nat} (h : Drew a bt b) (hh : a.heap = c.heap) (ho : a.os = c.os) (ht : a.tape = c.tape) (hp : a.output = c.output) : Drew c bt b :=
  ⟨h.1, h.2.os.trans ho, h.2.tape.trans ht, h.2.output.trans hp, by rw [← hh]; exact h.2.size, fun k hk hr => by rw [← hh] at hk ⊢; exact h.2.block k hk hr⟩
theorem unbelow {a b c : World} (h : Below a.heap.size a b) (hh : a.heap = c.heap) (ho : a.os = c.os) (ht : a.tape = c.tape) (hp : a.output = c.output) : Below c.heap.size c b :=
  ⟨h.os.trans ho, h.tape.trans ht, h.output.trans hp, by rw [← hh]; exact h.size, fun k hk => by rw [← hh] at hk ⊢; exact h.block k hk⟩
/-- a statement that ends a block is cut as one in the middle -/
theorem wp_block_last {P : Program} {c : Code} {n : Nat} {K : Act → World → Prop} {Q' : Exit → Act → World → Prop} {a : Act} {w : World} (h : c.wp P (Exit.then K (Exit.inBlock n (Exit.then K Q'))) a w) : c.wp P (Exit.inBlock n (Exit.then K Q')) a w :=
  wp_mono h fun e a' w' q => by cases e <;> exact q
theorem not_named {z x y : ByteArray × ByteArray} {a b : Int} (h : ¬ (z.1 = x.1 ∧ z.2 = x.2) → ¬ (z.1 = y.1 ∧ z.2 = y.2) → b = a) :
    (sEq z.1 x.1 = true ∧ sEq z.2 x.2 = true) ∨ (sEq z.1 y.1 = true ∧ sEq z.2 y.2 = true) ∨ a = b := by
  by_cases h1 : z.1 = x.1 ∧ z.2 = x.2
  · exact .inl ⟨(sEq_iff _ _).2 h1.1, (sEq_iff _ _).2 h1.2⟩
  · by_cases h2 : z.1 = y.1 ∧ z.2 = y.2
    · exact .inr (.inl ⟨(sEq_iff _ _).2 h2.1, (sEq_iff _ _).2 h2.2⟩)
    · exact .inr (.inr (h h1 h2).symm)
/-- what a step leaves: the register, the register before, the two accounts -/
structure Kept (W : World) (bt R P N c : Nat) (A : Option Addr) (w1 : World) (x y : ByteArray × ByteArray) (l l' : List Lot) (A' : Option Addr) (c' : Nat) : Prop where
  r : W.cell? ⟨R, 0, none⟩ = some (.slice A' l'.length c')
  rz : W.frozen? ⟨R, 0, none⟩ = false
  own : Own W (R + 1) (.slice A' l'.length c') l'
  old : Own W (R + 1) (.slice A N c) l
  dr : Drew w1 bt W
  size : P + 3 ≤ W.heap.size
  a0 : W.cell? ⟨P, 0, none⟩ = some (.string x.1)
  a1 : W.cell? ⟨P, 1, none⟩ = some (.string x.2)
  b0 : W.cell? ⟨P + 1, 0, none⟩ = some (.string y.1)
  b1 : W.cell? ⟨P + 1, 1, none⟩ = some (.string y.2)
  e0 : W.cell? ⟨P + 2, 0, none⟩ = some (.slice A N c)
theorem Kept.conv {W W' : World} {bt R P N c : Nat} {A : Option Addr} {w1 : World} {x y : ByteArray × ByteArray} {l l' : List Lot} {A' : Option Addr} {c' : Nat} (h : Kept W bt R P N c A w1 x y l l' A' c')
    (hh : W'.heap = W.heap) (ho : W'.os = W.os) (ht : W'.tape = W.tape) (hp : W'.output = W.output) : Kept W' bt R P N c A w1 x y l l' A' c' := by
  have hc : ∀ a, W'.cell? a = W.cell? a := fun a => World.cell?_of_block (by rw [hh])
  have hf : ∀ a, W'.frozen? a = W.frozen? a := fun a => World.frozen?_of_block (by rw [hh])
  have hb : Below W.heap.size W W' := ⟨ho, ht, hp, by rw [hh]; exact Nat.le_refl _, fun k _ => by rw [hh]⟩
  exact ⟨by rw [hc]; exact h.r, by rw [hf]; exact h.rz, h.own.below hb, h.old.below hb, h.dr.below hb, by rw [hh]; exact h.size, by rw [hc]; exact h.a0, by rw [hc]; exact h.a1, by rw [hc]; exact h.b0, by rw [hc]; exact h.b1, by rw [hc]; exact h.e0⟩
/-- the register's cell is written -/
theorem Kept.mk' {W : World} {bt R P N c : Nat} {A : Option Addr} {w1 : World} {x y : ByteArray × ByteArray} {l l' : List Lot} {A' : Option Addr} {c' : Nat} {v0 : Value}
    (r : W.cell? ⟨R, 0, none⟩ = some v0) (rz : W.frozen? ⟨R, 0, none⟩ = false) (own : Own W (R + 1) (.slice A' l'.length c') l') (old : Own W (R + 1) (.slice A N c) l) (dr : Drew w1 bt W) (hbt : bt < w1.heap.size) (hR : w1.heap.size ≤ R) (hRP : R < P) (size : P + 3 ≤ W.heap.size)
    (a0 : W.cell? ⟨P, 0, none⟩ = some (.string x.1)) (a1 : W.cell? ⟨P, 1, none⟩ = some (.string x.2)) (b0 : W.cell? ⟨P + 1, 0, none⟩ = some (.string y.1)) (b1 : W.cell? ⟨P + 1, 1, none⟩ = some (.string y.2)) (e0 : W.cell? ⟨P + 2, 0, none⟩ = some (.slice A N c)) :
    Kept (W.setCell ⟨R, 0, none⟩ (.slice A' l'.length c')) bt R P N c A w1 x y l l' A' c' := by
  have ne : ∀ (v : Value) (u : List Lot), Own W (R + 1) v u → v.ownBlock ≠ some R := fun v u ho e => by have := (ho.lt _ e).1; omega
  have oc : ∀ (b o : Nat), R < b → (W.setCell ⟨R, 0, none⟩ (.slice A' l'.length c')).cell? ⟨b, o, none⟩ = W.cell? ⟨b, o, none⟩ := fun b o hb => World.cell?_setCell_other _ _ _ _ (fun e => by injection e with e1; omega)
  exact ⟨World.cell?_setCell_same _ _ _ r, by rw [World.frozen?_setCell]; exact rz, own.setCell _ _ (ne _ _ own), old.setCell _ _ (ne _ _ old), dr.setCell hbt _ _ hR, by simpa [World.setCell] using size,
    by rw [oc _ _ (by omega)]; exact a0, by rw [oc _ _ (by omega)]; exact a1, by rw [oc _ _ (by omega)]; exact b0, by rw [oc _ _ (by omega)]; exact b1, by rw [oc _ _ (by omega)]; exact e0⟩
set_option maxRecDepth 100000 in
set_option maxHeartbeats 8000000 in
theorem law_keeps (a : Option Addr) (len cap : Nat) (z : List Int) (w : World) (h : IsRow .i64 w a len cap z) :
    Calls Try.prog 11 #[.slice a len cap] w fun e w' => e = .returned (.bool true) ∧ Below w.heap.size w w' := by
  have hlen := row_len h
  unfold maxLen at hlen
  have HR := Lib.hid (new_any a len cap z w h hlen)
  clear h hlen
  go_enter Try.func11, Try.ntmps11
  go_wp2_with fail
  refine HR.out.mono ?_
  rintro e w1 ⟨rfl, ht, hb⟩
  obtain ⟨R, hRe⟩ : ∃ R, R = w1.heap.size := ⟨_, rfl⟩
  have hR : w.heap.size < R := by rw [hRe]; exact ht.lt
  have HB1 := Lib.hid hb
  obtain ⟨w0, hw0⟩ : ∃ w0, w0 = w1.alloc (.cells #[.slice none 0 0] 24) := ⟨_, rfl⟩
  have hd0 : Drew w1 w.heap.size w0 := by rw [hw0]; exact (Drew.refl ht).alloc _
  have c0 : w0.cell? ⟨R, 0, none⟩ = some (.slice none 0 0) := by rw [hw0, hRe]; go_cell
  have z0 : w0.frozen? ⟨R, 0, none⟩ = false := by rw [hw0, hRe]; simp
  have hs0 : R < w0.heap.size := by rw [hw0, hRe]; simp
  have HD0 := Lib.hid hd0
  have HRE := Lib.hid hRe
  clear hb ht hd0
  go_wp2
  rw [← hw0, ← HRE.out]
  clear hw0 hRe
  go_loopg [5, 6] 12 (fun g s i wr => ∃ (k : Nat) (l : List Lot) (A : Option Addr) (c : Nat), k ≤ 12 ∧ 12 - k ≤ g ∧ i = .int .i64 k ∧ s = .int .i64 (sumU l) ∧ KG l ∧ sumU l ≤ 1000000 * k ∧ wr.cell? ⟨R, 0, none⟩ = some (.slice A l.length c) ∧ wr.frozen? ⟨R, 0, none⟩ = false ∧ Own wr (R + 1) (.slice A l.length c) l ∧ Drew w1 w.heap.size wr ∧ R < wr.heap.size)
  case atStart => exact ⟨0, [], none, 0, by omega, by omega, rfl, rfl, KG.nil, by simp [sumU], c0, z0, Own.nil _ _, HD0.out, hs0⟩
  case round =>
    obtain ⟨k, l, A, c, hk, hm, rfl, rfl, hkg, hsl, c0, z0, ho, hd, hs⟩ := hrel
    obtain ⟨G, hG⟩ : ∃ G, G = gk := ⟨_, rfl⟩
    rw [← hG] at hm
    have HGG := Lib.hid hG
    have HKG := Lib.hid hkg
    have hlen := hkg.len
    have hsum0 := hkg.sum0
    obtain ⟨N, hN⟩ : ∃ N, N = l.length := ⟨_, rfl⟩
    have HO := Lib.hid (ho.len_rw hN)
    have HD := Lib.hid hd
    have HN := Lib.hid hN
    obtain ⟨S, hS⟩ : ∃ S, S = sumU l := ⟨_, rfl⟩
    have HSS := Lib.hid hS
    rw [← hN] at c0 hlen
    rw [← hS] at hsl hsum0 ⊢
    obtain ⟨at_, ta, tlen, tcap, hat, t0, t1, _, htl, _⟩ := hd.1
    clear hG hkg ho hd hN hS
    by_cases hgo : k < 12 ∧ at_ < tlen
    · obtain ⟨hk12, hatl⟩ := hgo
      have hkd : decide ((k : Int) < 12) = true := decide_eq_true (by omega)
      go_wp2
      go_quiet (fail)
      go_wp2_with fail
      clear t0 t1
      refine (account_any w.heap.size _ (HD.out.drewN _).1).mono ?_
      rintro e w2 ⟨x, hx, rfl, hd2⟩
      have HE2 := Lib.hid (((Drew.refl HD.out.1).drewN _).trans hd2)
      have HX := Lib.hid hx
      clear hd2 hx
      go_wp2_with fail
      refine (account_any w.heap.size _ HE2.out.1).mono ?_
      rintro e w3 ⟨y, hy, rfl, hd3⟩
      have HE3 := Lib.hid (HE2.out.trans hd3)
      have HY := Lib.hid hy
      clear hd3 hy
      go_wp2_with fail
      refine (units_any w.heap.size _ HE3.out.1).mono ?_
      rintro e w4 ⟨n, rfl, hn0, hn1, hd4⟩
      have HE4 := Lib.hid (HE3.out.trans hd4)
      have c4 := HE4.out.cell c0 (by simp; omega)
      have z4 := (HE4.out.frozen (a := ⟨R, 0, none⟩) (by simpa using hs) (by simp; omega)).trans z0
      have hs4 : R < w4.heap.size := by have := HE4.out.size; omega
      have HO4 := Lib.hid (HO.out.drawn HE4.out (by omega))
      have HD4 := Lib.hid (HD.out.trans HE4.out)
      clear hd4 c0 z0
      go_wp2_with fail
      obtain ⟨w5, hw5⟩ : ∃ w5, w5 = ((w4.alloc (.cells #[.string x.1, .string x.2] 26)).alloc (.cells #[.string y.1, .string y.2] 26)).alloc (.cells #[.slice A N c] 24) := ⟨_, rfl⟩
      rw [← hw5]
      obtain ⟨P, hP⟩ : ∃ P, P = w4.heap.size := ⟨_, rfl⟩
      have a0 : w5.cell? ⟨P, 0, none⟩ = some (.string x.1) := by rw [hw5, hP]; go_cell
      have a1 : w5.cell? ⟨P, 1, none⟩ = some (.string x.2) := by rw [hw5, hP]; go_cell
      have b0 : w5.cell? ⟨P + 1, 0, none⟩ = some (.string y.1) := by rw [hw5, hP]; go_cell
      have b1 : w5.cell? ⟨P + 1, 1, none⟩ = some (.string y.2) := by rw [hw5, hP]; go_cell
      have e0 : w5.cell? ⟨P + 2, 0, none⟩ = some (.slice A N c) := by rw [hw5, hP]; go_cell
      have hb5 : Below w4.heap.size w4 w5 := by rw [hw5]; exact (((Below.refl _ _).alloc (Nat.le_refl _) _).alloc (by simp) _).alloc (by simp; omega) _
      have y0 : w5.frozen? ⟨P + 1, 0, none⟩ = false := by rw [hw5, hP, World.frozen?_of_block (Below.heap_alloc _ _ _ (by simp))]; simp
      have y1 : w5.frozen? ⟨P + 1, 1, none⟩ = false := by rw [hw5, hP, World.frozen?_of_block (Below.heap_alloc _ _ _ (by simp))]; simp
      have hs5 : P + 3 = w5.heap.size := by rw [hw5, hP]; simp
      have c5 := cell_up c4 hb5
      have z5 := (hb5.frozen (p := ⟨R, 0, none⟩) (by simpa using hs4)).trans z4
      have HO5 := Lib.hid (HO4.out.below hb5)
      have HD5 := Lib.hid (HD4.out.below hb5)
      rw [← hP] at hs4 ⊢
      have hRP : R < P := hs4
      have HPE := Lib.hid hP
      clear hb5 hw5 hP c4 z4
      refine (next_any w.heap.size 3 w5 HD5.out.1 (by omega) (by omega)).mono ?_
      rintro e w6 ⟨d, rfl, hd0, hd1, hd6⟩
      have c6 := hd6.cell c5 (by simp; omega)
      have z6 := (hd6.frozen (a := ⟨R, 0, none⟩) (by simp; omega) (by simp; omega)).trans z5
      replace a0 := hd6.cell a0 (by simp; omega)
      replace a1 := hd6.cell a1 (by simp; omega)
      replace b0 := hd6.cell b0 (by simp; omega)
      replace b1 := hd6.cell b1 (by simp; omega)
      replace e0 := hd6.cell e0 (by simp; omega)
      replace y0 := (hd6.frozen (a := ⟨P + 1, 0, none⟩) (by simp; omega) (by simp; omega)).trans y0
      replace y1 := (hd6.frozen (a := ⟨P + 1, 1, none⟩) (by simp; omega) (by simp; omega)).trans y1
      have hs6 : P + 3 ≤ w6.heap.size := by have := hd6.size; omega
      have HO6 := Lib.hid (HO5.out.drawn hd6 (by omega))
      have HD6 := Lib.hid (HD5.out.trans hd6)
      have hs61 : R < w6.heap.size := by omega
      clear hd6 c5 z5 hs5 hs4
      go_upto_if 62 with fail
      refine wp_block_last ?_
      go_cut [5, 11, 12, 13] from 52 to 100 (fun s e t j wx => ∃ (l' : List Lot) (A' : Option Addr) (c' : Nat) (y' : ByteArray × ByteArray), s = .int .i64 (sumU l') ∧ e = .int .i64 0 ∧ StepF x y' l l' ∧ Kept wx w.heap.size R P N c A w1 x y' l l' A' c')
      case first =>
        have hRw : w1.heap.size ≤ R := by rw [HRE.out]; exact Nat.le_refl _
        have hbt1 : w.heap.size < w1.heap.size := by rw [← HRE.out]; exact hR
        have hsl12 : sumU l ≤ 12000000 := by rw [← HSS.out]; omega
        by_cases hd0' : d = 0
        · subst hd0'
          obtain ⟨w7, hw7⟩ : ∃ w7, w7 = (w6.setCell ⟨P + 1, 0, none⟩ (.string x.1)).setCell ⟨P + 1, 1, none⟩ (.string x.2) := ⟨_, rfl⟩
          have a70 : w7.cell? ⟨P, 0, none⟩ = some (.string x.1) := by rw [hw7, World.cell?_setCell_other _ _ _ _ (by simp), World.cell?_setCell_other _ _ _ _ (by simp)]; exact a0
          have a71 : w7.cell? ⟨P, 1, none⟩ = some (.string x.2) := by rw [hw7, World.cell?_setCell_other _ _ _ _ (by simp), World.cell?_setCell_other _ _ _ _ (by simp)]; exact a1
          have e70 : w7.cell? ⟨P + 2, 0, none⟩ = some (.slice A N c) := by rw [hw7, World.cell?_setCell_other _ _ _ _ (by simp), World.cell?_setCell_other _ _ _ _ (by simp)]; exact e0
          have c7 : w7.cell? ⟨R, 0, none⟩ = some (.slice A N c) := by rw [hw7, World.cell?_setCell_other _ _ _ _ (by simp <;> omega), World.cell?_setCell_other _ _ _ _ (by simp <;> omega)]; exact c6
          have b70 : w7.cell? ⟨P + 1, 0, none⟩ = some (.string x.1) := by rw [hw7, World.cell?_setCell_other _ _ _ _ (by simp)]; exact World.cell?_setCell_same _ _ _ b0
          have b71 : w7.cell? ⟨P + 1, 1, none⟩ = some (.string x.2) := by rw [hw7]; exact World.cell?_setCell_same _ _ _ (by rw [World.cell?_setCell_other _ _ _ _ (by simp)]; exact b1)
          have z7 : w7.frozen? ⟨R, 0, none⟩ = false := by rw [hw7, World.frozen?_setCell, World.frozen?_setCell]; exact z6
          have HD7 := Lib.hid (show Drew w1 w.heap.size w7 by rw [hw7]; exact (HD6.out.setCell hbt1 _ _ (by simp; omega)).setCell hbt1 _ _ (by simp; omega))
          have hneP : (Value.slice A N c).ownBlock ≠ some (P + 1) := fun e => by have h := (HO4.out.lt _ e).2; rw [← HPE.out] at h; omega
          have HO7 := Lib.hid (show Own w7 (R + 1) (.slice A N c) l by rw [hw7]; exact (HO6.out.setCell _ _ hneP).setCell _ _ hneP)
          have hs7 : P + 3 ≤ w7.heap.size := by rw [hw7]; simpa [World.setCell] using hs6
          have HI := Lib.hid (fun (s : Int) (h0 : 0 ≤ s) (h1 : s < 5) W (hh : LotsAt W (.slice A N c) l) => show Calls Try.prog 28 #[.agg #[.slice A N c], .agg #[.string x.1, .string x.2], .int .i64 s, .int .i64 n] W (IssP (putL l ⟨x.1, x.2, s, n⟩) 0 W) by
            obtain ⟨e1, e2, _⟩ := step_iss HKG.out hsl12 HX.out h0 h1 hn0 hn1
            have := issue_any (.slice A N c) l ⟨x.1, x.2, s, n⟩ W hh
            rwa [e1, e2] at this)
          have hadd : IntKind.i64.wrap (S + n) = S + n := IntWalk.i64_in _ (by omega)
          have HC7 := Lib.hid (And.intro a70 (And.intro a71 (And.intro b70 (And.intro b71 (And.intro e70 c7)))))
          have hR7 : R < w7.heap.size := by omega
          go_wp2_with fail
          rw [← hw7]
          clear hw7 a0 a1 b0 b1 e0 y0 y1 c6 z6 hs6 hs61 b70 b71 e70 hneP
          go_region_with (first
            | (go_at_call 28; refine (HI.out s hs0' hs1' _ (by exact (HO7.out.drawn HD8.out (by omega)).lots)).mono ?_; intro e w9 hi; obtain ⟨A', c', rfl, ho9, hb9⟩ := hi.form; have hb9' : Below w8.heap.size w8 w9 := unbelow hb9 rfl rfl rfl rfl; have c9 := cell_up c8 hb9'; have a90 := cell_up a80 hb9'; have a91 := cell_up a81 hb9'; have z9 : w9.frozen? ⟨R, 0, none⟩ = false := ((hb9'.frozen (p := ⟨R, 0, none⟩) (by have := HD8.out.size; simp; omega)).trans ((HD8.out.frozen (a := ⟨R, 0, none⟩) (by simp; omega) (by simp; omega)).trans z7)); have HB9 := Lib.hid hb9'; have HO9 := Lib.hid (show Own w9 (R + 1) _ _ from ho9.base (by have := HD8.out.size; simp; omega)); clear hi ho9 hb9 hb9')
            | (go_at_call 27; refine (next_any w.heap.size 5 _ (by exact HD7.out.1) (by omega) (by omega)).mono ?_; rintro e w8 ⟨s, rfl, hs0', hs1', hd8⟩; have hd8' : Drew w7 w.heap.size w8 := undrawn hd8 rfl rfl rfl rfl; have c8 := hd8'.cell c7 (by simp; omega); have a80 := hd8'.cell a70 (by simp; omega); have a81 := hd8'.cell a71 (by simp; omega); have HD8 := Lib.hid hd8'; clear hd8 hd8'))
          all_goals
            go_wp2
            go_meet
            obtain ⟨u1, u2, u3, u4, u5, u6⟩ := HC7.out
            obtain ⟨_, _, v1, v2⟩ := step_iss HKG.out hsl12 HX.out hs0' hs1' hn0 hn1
            have q0 : P + 3 ≤ w9.heap.size := Nat.le_trans hs7 (Nat.le_trans HD8.out.size HB9.out.size)
            exact ⟨_, A', c', x, by rw [v1, HSS.out], rfl, v2, (Kept.mk' c9 z9 HO9.out ((HO7.out.drawn HD8.out (by omega)).below HB9.out) ((HD7.out.trans HD8.out).below HB9.out) hbt1 hRw hRP q0 a90 a91 (cell_up (HD8.out.cell u3 (by simp; omega)) HB9.out) (cell_up (HD8.out.cell u4 (by simp; omega)) HB9.out) (cell_up (HD8.out.cell u5 (by simp; omega)) HB9.out)).conv rfl rfl rfl rfl⟩
        · by_cases hd1' : d = 1
          · subst hd1'
            obtain ⟨w7, hw7⟩ : ∃ w7, w7 = (w6.setCell ⟨P + 1, 0, none⟩ (.string x.1)).setCell ⟨P + 1, 1, none⟩ (.string x.2) := ⟨_, rfl⟩
            have a70 : w7.cell? ⟨P, 0, none⟩ = some (.string x.1) := by rw [hw7, World.cell?_setCell_other _ _ _ _ (by simp), World.cell?_setCell_other _ _ _ _ (by simp)]; exact a0
            have a71 : w7.cell? ⟨P, 1, none⟩ = some (.string x.2) := by rw [hw7, World.cell?_setCell_other _ _ _ _ (by simp), World.cell?_setCell_other _ _ _ _ (by simp)]; exact a1
            have e70 : w7.cell? ⟨P + 2, 0, none⟩ = some (.slice A N c) := by rw [hw7, World.cell?_setCell_other _ _ _ _ (by simp), World.cell?_setCell_other _ _ _ _ (by simp)]; exact e0
            have c7 : w7.cell? ⟨R, 0, none⟩ = some (.slice A N c) := by rw [hw7, World.cell?_setCell_other _ _ _ _ (by simp <;> omega), World.cell?_setCell_other _ _ _ _ (by simp <;> omega)]; exact c6
            have b70 : w7.cell? ⟨P + 1, 0, none⟩ = some (.string x.1) := by rw [hw7, World.cell?_setCell_other _ _ _ _ (by simp)]; exact World.cell?_setCell_same _ _ _ b0
            have b71 : w7.cell? ⟨P + 1, 1, none⟩ = some (.string x.2) := by rw [hw7]; exact World.cell?_setCell_same _ _ _ (by rw [World.cell?_setCell_other _ _ _ _ (by simp)]; exact b1)
            have z7 : w7.frozen? ⟨R, 0, none⟩ = false := by rw [hw7, World.frozen?_setCell, World.frozen?_setCell]; exact z6
            have HD7 := Lib.hid (show Drew w1 w.heap.size w7 by rw [hw7]; exact (HD6.out.setCell hbt1 _ _ (by simp; omega)).setCell hbt1 _ _ (by simp; omega))
            have hneP : (Value.slice A N c).ownBlock ≠ some (P + 1) := fun e => by have h := (HO4.out.lt _ e).2; rw [← HPE.out] at h; omega
            have HO7 := Lib.hid (show Own w7 (R + 1) (.slice A N c) l by rw [hw7]; exact (HO6.out.setCell _ _ hneP).setCell _ _ hneP)
            have hs7 : P + 3 ≤ w7.heap.size := by rw [hw7]; simpa [World.setCell] using hs6
            obtain ⟨re1, re2, re3, re4, re5, re6⟩ := step_red HKG.out hsl12 HX.out hn0 hn1
            obtain ⟨left, hleft⟩ : ∃ left, left = (takeR x.1 x.2 l n).1 := ⟨_, rfl⟩
            obtain ⟨td, htd⟩ : ∃ td, td = (takeR x.1 x.2 l n).2 := ⟨_, rfl⟩
            have HT := Lib.hid (fun W (hh : LotsAt W (.slice A N c) l) => show Calls Try.prog 19 #[.agg #[.slice A N c], .agg #[.string x.1, .string x.2], .int .i64 n] W (fun e w' => ∃ (A' A2 : Option Addr) (c' c2 : Nat), e = .returned (.tuple #[.agg #[.slice A' left.length c'], .slice A2 td.length c2, .int .i64 0]) ∧ Own w' W.heap.size (.slice A' left.length c') left ∧ Own w' W.heap.size (.slice A2 td.length c2) td ∧ Below W.heap.size W w') by
              have := redeem_any (.slice A N c) l x.1 x.2 n W hh
              rw [re1, re2] at this
              refine this.mono fun e w' hp => ?_
              obtain ⟨va, vb, rfl, ha, hb, hB⟩ := hp
              obtain ⟨A', c', rfl⟩ := ha.form
              obtain ⟨A2, c2, rfl⟩ := hb.form
              rw [← hleft] at ha ⊢
              rw [← htd] at hb ⊢
              exact ⟨A', A2, c', c2, rfl, ha, hb, hB⟩)
            rw [← hleft] at re3 re5 re6
            rw [← htd] at re3 re4
            have HF := Lib.hid (And.intro re3 (And.intro re4 (And.intro re5 re6)))
            have HC7 := Lib.hid (And.intro a70 (And.intro a71 (And.intro b70 (And.intro b71 e70))))
            have hnt : td.length ≤ 1000 := by rw [htd]; have := (takeR_len x.1 x.2 l n).2; have := HKG.out.len; omega
            have hR7 : R < w7.heap.size := by omega
            have hP7 : P < w7.heap.size := by omega
            have h10 : ((1 : Int) == 0) = false := rfl
            clear re1 re2 re3 re4 re5 re6 hleft htd
            go_wp2_with fail
            rw [← hw7]
            clear hw7 a0 a1 b0 b1 e0 y0 y1 c6 z6 hs6 hs61 b70 b71 e70 hneP
            refine (HT.out w7 HO7.out.lots).mono ?_
            rintro e w9 ⟨A', A2, c', c2, rfl, ho9, ho2, hb9⟩
            have c9 := cell_up c7 hb9
            have z9 := (hb9.frozen (p := ⟨R, 0, none⟩) (by simpa using hR7)).trans z7
            have HO9 := Lib.hid (ho9.base (B' := R + 1) (by omega))
            have HB9 := Lib.hid hb9
            have hne9 : (Value.slice A2 td.length c2).ownBlock ≠ some R := fun e => by have := (ho2.lt _ e).1; omega
            have HA2 := Lib.hid (own_at_any (ho2.setCell ⟨R, 0, none⟩ (.slice A' left.length c') hne9))
            have HK9 := Lib.hid (fun W' (hh : W'.heap = (w9.setCell ⟨R, 0, none⟩ (.slice A' left.length c')).heap) ho ht hp => (show Kept W' w.heap.size R P N c A w1 x x l left A' c' from (Kept.mk' c9 z9 HO9.out (HO7.out.below HB9.out) (HD7.out.below HB9.out) hbt1 hRw hRP (Nat.le_trans hs7 HB9.out.size) (cell_up HC7.out.1 HB9.out) (cell_up HC7.out.2.1 HB9.out) (cell_up HC7.out.2.2.1 HB9.out) (cell_up HC7.out.2.2.2.1 HB9.out) (cell_up HC7.out.2.2.2.2 HB9.out)).conv hh ho ht hp))
            obtain ⟨N2, hN2⟩ : ∃ N2, N2 = td.length := ⟨_, rfl⟩
            have HN2 := Lib.hid hN2
            rw [← hN2] at hnt ⊢
            clear ho9 ho2 hb9 a70 a71 c7 z7 hne9 hN2
            obtain ⟨wX, hwX⟩ : ∃ wX, wX = w9.setCell ⟨R, 0, none⟩ (.slice A' left.length c') := ⟨_, rfl⟩
            rw [← hwX] at HA2 HK9
            go_wp2_with fail
            rw [← hwX]
            clear hwX
            go_loopg [5, 13] N2 (fun g s t wr2 => ∃ j : Nat, j ≤ N2 ∧ N2 - j ≤ g ∧ t = .int .i64 j ∧ s = .int .i64 (S - sumU (td.take j)) ∧ wr2 = wX)
            case atStart => exact ⟨0, by omega, by omega, rfl, by simp [sumU], rfl⟩
            case round =>
              obtain ⟨j, hj, hjm, rfl, rfl, hwr⟩ := hrel
              subst wr
              obtain ⟨g1, g2, g3, g4⟩ := HF.out
              have hpos : ∀ z ∈ td, 0 ≤ z.units := fun z hz => by have := g2 z hz; omega
              have hst := sumU_take td j hpos
              have hS0 := HSS.out
              by_cases hlt : j < N2
              · obtain ⟨q, hq⟩ : ∃ q, td[j]? = some q := ⟨td[j]'(by rw [← HN2.out]; exact hlt), by simp [← HN2.out, hlt]⟩
                obtain ⟨g, hA2, _, _, _, y0, y1, y2, y3⟩ := HA2.out j q hq
                subst hA2
                have hq1 := g2 q (List.mem_of_getElem? hq)
                have hst2 := sumU_take td (j + 1) hpos
                have HNX := Lib.hid (take_snocL hq)
                rw [take_snocL hq] at hst2
                obtain ⟨sk, hsk⟩ : ∃ sk, sk = sumU (td.take j) := ⟨_, rfl⟩
                rw [← hsk] at hst hst2 ⊢
                have hsub : IntKind.i64.wrap (S - sk - q.units) = S - sk - q.units := IntWalk.i64_in _ (by omega)
                have HSK := Lib.hid hsk
                clear hq hpos hst hst2 hsk g1 g2 g3 g4 hS0 hq1
                go_wp2
                go_roundg (gk - 1)
                case measure => omega
                case rel => exact ⟨j + 1, by omega, by omega, by go_num, by rw [HNX.out, ← HSK.out]; go_num, rfl⟩
              · have hfin : td.take j = td := List.take_of_length_le (by have := HN2.out; omega)
                rw [hfin] at hst ⊢
                have HV := Lib.hid (show S - sumU td = sumU left by rw [hS0]; omega)
                clear hfin hpos hst g1 g2 g3 g4 hS0
                go_wp2
                go_meet
                exact ⟨_, A', c', x, by rw [HV.out], rfl, HF.out.2.2.2, HK9.out _ rfl rfl rfl rfl⟩
          · have hd2' : d = 2 := by omega
            subst hd2'
            have hne2 : ((2 : Int) == 0) = false := rfl
            have HT := Lib.hid (fun W (hh : LotsAt W (.slice A N c) l) => show Calls Try.prog 23 #[.agg #[.slice A N c], .agg #[.string x.1, .string x.2], .agg #[.string y.1, .string y.2], .int .i64 n] W (fun e w' => ∃ (A' : Option Addr) (c' : Nat) (m : Int), e = .returned (.tuple #[.agg #[.slice A' (movL l x.1 x.2 y.1 y.2 n).length c'], .int .i64 m, .int .i64 0]) ∧ Own w' W.heap.size (.slice A' (movL l x.1 x.2 y.1 y.2 n).length c') (movL l x.1 x.2 y.1 y.2 n) ∧ Below W.heap.size W w') by
              obtain ⟨e1, e2, _⟩ := step_trn HKG.out hsl12 HX.out HY.out hn0 hn1
              have := transfer_any (.slice A N c) l x.1 x.2 y.1 y.2 n W hh
              rw [e1, e2] at this
              refine this.mono fun e w' hp => ?_
              obtain ⟨va, rfl, ha, hB⟩ := hp
              obtain ⟨A', c', rfl⟩ := ha.form
              exact ⟨A', c', _, rfl, ha, hB⟩)
            go_wp2_with fail
            refine (HT.out w6 HO6.out.lots).mono ?_
            rintro e w9 ⟨A', c', m, rfl, ho9, hb9⟩
            have c9 := cell_up c6 hb9
            have z9 := (hb9.frozen (p := ⟨R, 0, none⟩) (by simpa using hs61)).trans z6
            have HO9 := Lib.hid (ho9.base (B' := R + 1) (by omega))
            have HB9 := Lib.hid hb9
            have HAB := Lib.hid (And.intro (cell_up a0 hb9) (And.intro (cell_up a1 hb9) (And.intro (cell_up b0 hb9) (And.intro (cell_up b1 hb9) (cell_up e0 hb9)))))
            clear ho9 hb9 a0 a1 b0 b1 e0 y0 y1 c6 z6
            go_wp2
            go_meet
            obtain ⟨u1, u2, u3, u4, u5⟩ := HAB.out
            obtain ⟨_, _, v1, v2⟩ := step_trn HKG.out hsl12 HX.out HY.out hn0 hn1
            have q0 : P + 3 ≤ w9.heap.size := Nat.le_trans hs6 HB9.out.size
            exact ⟨_, A', c', y, by rw [v1, HSS.out], rfl, v2, (Kept.mk' c9 z9 HO9.out (HO6.out.below HB9.out) (HD6.out.below HB9.out) hbt1 hRw hRP q0 u1 u2 u3 u4 u5).conv rfl rfl rfl rfl⟩
      case rest =>
        obtain ⟨l', A', c', y', rfl, rfl, hst, hkp⟩ := hcut
        have hkg' := hst.kg
        have hsl' := hst.le
        have hsum' := hkg'.sum0
        rw [← HSS.out] at hsl'
        have hch := hkg'.check (by omega)
        have hcl := HKG.out.check (by rw [← HSS.out]; omega)
        have HST := Lib.hid hst
        have HKP := Lib.hid hkp
        obtain ⟨N', hN'⟩ : ∃ N', N' = l'.length := ⟨_, rfl⟩
        have HN' := Lib.hid hN'
        have r0 := hkp.r
        have a0 := hkp.a0
        have a1 := hkp.a1
        have b0 := hkp.b0
        have b1 := hkp.b1
        have e0 := hkp.e0
        rw [← hN'] at r0
        have HLN := Lib.hid (show LotsAt wc (.slice A' N' c') l' by have := hkp.own.lots; rwa [← hN'] at this)
        have HLO := Lib.hid (show LotsAt wc (.slice A N c) l from hkp.old.lots)
        have TC := Lib.hid (fun W (hh : LotsAt W (.slice A' N' c') l') => show Calls Try.prog 29 #[.agg #[.slice A' N' c']] W (fun e w' => e = .returned (.int .i64 0) ∧ Below W.heap.size W w') from check_yes _ l' W hh hch)
        have TB := Lib.hid (fun (z : ByteArray × ByteArray) (hz : z ∈ accs) W (hh : LotsAt W (.slice A' N' c') l') => show Calls Try.prog 30 #[.agg #[.slice A' N' c'], .agg #[.string z.1, .string z.2]] W (fun e w' => e = .returned (.tuple #[.int .i64 (bal z l'), .int .i64 0]) ∧ Below W.heap.size W w') by
          have := balance_any A' c' l' z.1 z.2 W (by rwa [hN'] at hh)
          rw [← hN'] at this
          have e1 : balN l' z.1 z.2 = bal z l' := by unfold balN; rw [if_pos ⟨hch, accs_ok z hz⟩]; rfl
          have e2 : balE l' z.1 z.2 = 0 := by unfold balE; rw [hch, accs_ok z hz]; simp
          rwa [e1, e2] at this)
        have TBo := Lib.hid (fun (z : ByteArray × ByteArray) (hz : z ∈ accs) W (hh : LotsAt W (.slice A N c) l) => show Calls Try.prog 30 #[.agg #[.slice A N c], .agg #[.string z.1, .string z.2]] W (fun e w' => e = .returned (.tuple #[.int .i64 (bal z l), .int .i64 0]) ∧ Below W.heap.size W w') by
          have hNl := HN.out
          have := balance_any A c l z.1 z.2 W (by rwa [hNl] at hh)
          rw [← hNl] at this
          have e1 : balN l z.1 z.2 = bal z l := by unfold balN; rw [if_pos ⟨hcl, accs_ok z hz⟩]; rfl
          have e2 : balE l z.1 z.2 = 0 := by unfold balE; rw [hcl, accs_ok z hz]; simp
          rwa [e1, e2] at this)
        obtain ⟨S', hS'⟩ : ∃ S', S' = sumU l' := ⟨_, rfl⟩
        rw [← hS'] at hsl' hsum' ⊢
        have TT := Lib.hid (fun W (hh : LotsAt W (.slice A' N' c') l') => show Calls Try.prog 31 #[.agg #[.slice A' N' c']] W (fun e w' => e = .returned (.tuple #[.int .i64 S', .int .i64 0]) ∧ Below W.heap.size W w') by
          have := total_any A' c' l' W (by rwa [hN'] at hh)
          rw [← hN', totN, totE, if_pos hch, if_pos hch, ← hS'] at this
          exact this)
        have TH := Lib.hid (fun W (hh : LotsAt W (.slice A' N' c') l') => show Calls Try.prog 32 #[.agg #[.slice A' N' c']] W (fun e w' => ∃ (Ah : Option Addr) (ch : Nat) (hs : List Hol), e = .returned (.tuple #[.slice Ah hs.length ch, .int .i64 0]) ∧ OwnH w' W.heap.size (.slice Ah hs.length ch) hs ∧ IsHold l' hs ∧ Below W.heap.size W w') by
          have := holders_any (.slice A' N' c') l' W hh hch
          refine this.mono fun e w' hp => ?_
          obtain ⟨v, hs, rfl, ho, hi, hB⟩ := hp
          obtain ⟨Ah, ch, rfl⟩ := Rd.form (Rd.of_own ho)
          exact ⟨Ah, ch, hs, rfl, ho, hi, hB⟩)
        have HS' := Lib.hid hS'
        have hPs : P + 2 < wc.heap.size := by have := hkp.size; omega
        have hPs1 : P + 1 < wc.heap.size := by omega
        have hPs0 : P < wc.heap.size := by omega
        have hRs0 : R < wc.heap.size := by omega
        have HCC := Lib.hid (And.intro a0 (And.intro a1 (And.intro b0 b1)))
        clear a1 b1 hst hkp hkg' hch hcl hN' hS' a0 b0
        go_wp2_with fail
        refine (TC.out wc HLN.out).mono ?_
        rintro e w7 ⟨rfl, hb⟩
        have F7 := Lib.hid hb
        have r7 := cell_up r0 hb
        have e7 := cell_up e0 hb
        have hsz7 := hb.size
        clear hb r0 e0
        go_wp2_with fail
        refine (account_any w.heap.size w7 (HKP.out.dr.below F7.out).1).mono ?_
        rintro e w8 ⟨zz, hzz, rfl, hd8⟩
        have HZZ := Lib.hid hzz
        have D8 := Lib.hid (((HKP.out.dr.below F7.out).trans hd8))
        have r8 := hd8.cell r7 (by simp; omega)
        have e8 := hd8.cell e7 (by simp; omega)
        have a80 := hd8.cell (cell_up HCC.out.1 F7.out) (by simp; omega)
        have a81 := hd8.cell (cell_up HCC.out.2.1 F7.out) (by simp; omega)
        have b80 := hd8.cell (cell_up HCC.out.2.2.1 F7.out) (by simp; omega)
        have b81 := hd8.cell (cell_up HCC.out.2.2.2 F7.out) (by simp; omega)
        have ON8 := Lib.hid ((HKP.out.own.below F7.out).drawn hd8 (by omega))
        have OO8 := Lib.hid ((HKP.out.old.below F7.out).drawn hd8 (by omega))
        have RZ8 := Lib.hid ((hd8.frozen (a := ⟨R, 0, none⟩) (by simp; omega) (by simp; omega)).trans ((F7.out.frozen (p := ⟨R, 0, none⟩) (by simpa using hRs0)).trans HKP.out.rz))
        have hsz8 := hd8.size
        have hPs8 : P + 2 < w8.heap.size := by omega
        have hPs81 : P + 1 < w8.heap.size := by omega
        have hPs80 : P < w8.heap.size := by omega
        have hRs8 : R < w8.heap.size := by omega
        clear hd8 hzz r7 e7 hPs hPs1 hPs0 hRs0
        go_wp2_with fail
        obtain ⟨w9, hw9⟩ : ∃ w9, w9 = w8.alloc (.cells #[.string zz.1, .string zz.2] 26) := ⟨_, rfl⟩
        rw [← hw9]
        have hb9 : Below w8.heap.size w8 w9 := by rw [hw9]; exact (Below.refl _ _).alloc (Nat.le_refl _) _
        obtain ⟨Q, hQ⟩ : ∃ Q, Q = w8.heap.size := ⟨_, rfl⟩
        have z0 : w9.cell? ⟨Q, 0, none⟩ = some (.string zz.1) := by rw [hw9, hQ]; go_cell
        have z1 : w9.cell? ⟨Q, 1, none⟩ = some (.string zz.2) := by rw [hw9, hQ]; go_cell
        have r9 := cell_up r8 hb9
        have e9 := cell_up e8 hb9
        have a90 := cell_up a80 hb9
        have a91 := cell_up a81 hb9
        have b90 := cell_up b80 hb9
        have b91 := cell_up b81 hb9
        have HB9 := Lib.hid hb9
        have HLO9 := Lib.hid (show LotsAt w9 (.slice A N c) l from (OO8.out.below hb9).lots)
        have HLN9 := Lib.hid (show LotsAt w9 (.slice A' N' c') l' by have := (ON8.out.below hb9).lots; rwa [← HN'.out] at this)
        rw [← hQ]
        clear hw9 hb9 hQ r8 e8 a80 a81 b80 b81
        refine (TBo.out zz HZZ.out w9 HLO9.out).mono ?_
        rintro e w10 ⟨rfl, hb⟩
        have F10 := Lib.hid hb
        have r10 := cell_up r9 hb
        have z00 := cell_up z0 hb
        have z01 := cell_up z1 hb
        have a00 := cell_up a90 hb
        have a01 := cell_up a91 hb
        have b00 := cell_up b90 hb
        have b01 := cell_up b91 hb
        clear hb e9 r9 z0 z1 a90 a91 b90 b91
        go_wp2_with fail
        refine (TB.out zz HZZ.out w10 (HLN9.out.below F10.out)).mono ?_
        rintro e w11 ⟨rfl, hb⟩
        have F11 := Lib.hid (F10.out.trans (hb.mono F10.out.size))
        have r11 := cell_up r10 hb
        have z10 := cell_up z00 hb
        have z11 := cell_up z01 hb
        have a10 := cell_up a00 hb
        have a11 := cell_up a01 hb
        have b10 := cell_up b00 hb
        have b11 := cell_up b01 hb
        clear hb r10 z00 z01 a00 a01 b00 b01
        obtain ⟨o1, ho1⟩ : ∃ o1, o1 = bal zz l := ⟨_, rfl⟩
        obtain ⟨o2, ho2⟩ : ∃ o2, o2 = bal zz l' := ⟨_, rfl⟩
        have hoo := HST.out.other zz
        rw [← ho1, ← ho2]
        rw [← ho1, ← ho2] at hoo
        have q1 : (zz.1.toList == x.1.toList) = sEq zz.1 x.1 := rfl
        have q2 : (zz.2.toList == x.2.toList) = sEq zz.2 x.2 := rfl
        have q3 : (zz.1.toList == y'.1.toList) = sEq zz.1 y'.1 := rfl
        have q4 : (zz.2.toList == y'.2.toList) = sEq zz.2 y'.2 := rfl
        have hc4 := not_named hoo
        obtain ⟨p1, hp1⟩ : ∃ p, p = sEq zz.1 x.1 := ⟨_, rfl⟩
        obtain ⟨p2, hp2⟩ : ∃ p, p = sEq zz.2 x.2 := ⟨_, rfl⟩
        obtain ⟨p3, hp3⟩ : ∃ p, p = sEq zz.1 y'.1 := ⟨_, rfl⟩
        obtain ⟨p4, hp4⟩ : ∃ p, p = sEq zz.2 y'.2 := ⟨_, rfl⟩
        rw [← hp1] at q1 hc4
        rw [← hp2] at q2 hc4
        rw [← hp3] at q3 hc4
        rw [← hp4] at q4 hc4
        clear hoo ho1 ho2 hp1 hp2 hp3 hp4
        go_upto_region 29 with fail
        go_cut [142] from 122 to 141 (fun t wx => t = .bool false ∧ wx = w11)
        case first =>
          rcases hc4 with ⟨rfl, rfl⟩ | ⟨rfl, rfl⟩ | rfl
          · go_wp2
            go_meet
            exact ⟨rfl, rfl⟩
          · cases p1 <;> cases p2
            all_goals
              go_wp2
              go_meet
              exact ⟨rfl, rfl⟩
          · cases p1 <;> cases p2 <;> cases p3 <;> cases p4
            all_goals
              go_wp2
              go_meet
              exact ⟨rfl, rfl⟩
        case rest =>
          obtain ⟨rfl, hwx⟩ := hcut
          rw [hwx]
          clear hwx q1 q2 q3 q4 hc4 a10 a11 b10 b11 z10 z11
          go_wp2_with fail
          refine (TT.out w11 (HLN9.out.below F11.out)).mono ?_
          rintro e w12 ⟨rfl, hb⟩
          have F12 := Lib.hid (F11.out.trans (hb.mono F11.out.size))
          have r12 := cell_up r11 hb
          clear hb r11
          go_wp2_with fail
          refine (TH.out w12 (HLN9.out.below F12.out)).mono ?_
          rintro e w13 ⟨Ah, ch, hs', rfl, hoh, hih, hb⟩
          have F13 := Lib.hid (F12.out.trans (hb.mono F12.out.size))
          have r13 := cell_up r12 hb
          have HOH := Lib.hid hoh
          have HBD := Lib.hid (hold_bd hih (fun z hz => by have := HST.out.kg.units z hz; omega))
          have HSM := Lib.hid (hold_sum hih)
          obtain ⟨N2, hN2⟩ : ∃ N2, N2 = hs'.length := ⟨_, rfl⟩
          have hn2 : N2 ≤ maxLen := by
            rw [hN2]
            by_cases h0 : hs'.length = 0
            · rw [h0]; exact Nat.zero_le _
            · obtain ⟨_, _, _, h1, h2, _⟩ := ownH_at hoh (by omega); omega
          unfold maxLen at hn2
          have HN2 := Lib.hid hN2
          rw [← hN2]
          clear hb r12 hoh hih hN2
          go_wp2_with fail
          go_loopg [19, 23] N2 (fun g s t wr2 => ∃ j : Nat, j ≤ N2 ∧ N2 - j ≤ g ∧ t = .int .i64 j ∧ s = .int .i64 (S' - sumH (hs'.take j)) ∧ wr2 = w13)
          case atStart => exact ⟨0, by omega, by omega, rfl, by simp [sumH], rfl⟩
          case round =>
            obtain ⟨j, hj, hjm, rfl, rfl, hwr⟩ := hrel
            subst wr
            obtain ⟨g1, g2, g3⟩ := HBD.out j
            have hS0 := HS'.out
            by_cases hlt : j < N2
            · obtain ⟨q, hq⟩ : ∃ q, hs'[j]? = some q := ⟨hs'[j]'(by rw [← HN2.out]; exact hlt), by simp [← HN2.out, hlt]⟩
              obtain ⟨g, _, hv, _, _, _, _, _, _, hcell⟩ := ownH_at HOH.out (by rw [← HN2.out]; omega)
              injection hv with hv1 hv2 hv3
              subst hv1 hv3
              obtain ⟨y0, y1⟩ := hcell j q hq
              have hq1 := g3 q (List.mem_of_getElem? hq)
              have HNX := Lib.hid (sumH_take hq)
              obtain ⟨sk, hsk⟩ : ∃ sk, sk = sumH (hs'.take j) := ⟨_, rfl⟩
              rw [← hS0, ← hsk] at g2
              rw [← hsk] at g1 ⊢
              rw [← hS0] at hq1
              have hsub : IntKind.i64.wrap (S' - sk - q.units) = S' - sk - q.units := IntWalk.i64_in _ (by omega)
              have HSK := Lib.hid hsk
              clear hq hsk g1 g2 g3 hS0 hq1 hcell hv2
              go_wp2
              go_roundg (gk - 1)
              case measure => omega
              case rel => exact ⟨j + 1, by omega, by omega, by go_num, by rw [HNX.out, ← HSK.out]; go_num, rfl⟩
            · have hfin : hs'.take j = hs' := List.take_of_length_le (by have := HN2.out; omega)
              have hz : S' - sumH hs' = 0 := by rw [HSM.out, hS0]; omega
              rw [hfin, hz]
              clear hfin hz g1 g2 g3 hS0
              go_wp2
              go_roundg (G - 1)
              case measure => have := HGG.out; omega
              case rel =>
                have hb813 : Below w8.heap.size w8 w13 := HB9.out.trans (F13.out.mono HB9.out.size)
                exact ⟨k + 1, l', A', c', by omega, by have := HGG.out; omega, by go_num, by rw [HS'.out], HST.out.kg, by rw [← HS'.out]; omega, by rw [← HN'.out]; exact r13, (hb813.frozen (p := ⟨R, 0, none⟩) (by simpa using hRs8)).trans RZ8.out, ON8.out.below hb813, D8.out.below hb813, by have := hb813.size; omega⟩
    · have hno : ¬ (k < 12 ∧ at_ < tlen) := hgo
      have hch := HKG.out.check (by rw [← HSS.out]; omega)
      have TT := Lib.hid (fun W (hh : LotsAt W (.slice A N c) l) => show Calls Try.prog 31 #[.agg #[.slice A N c]] W (fun e w' => e = .returned (.tuple #[.int .i64 S, .int .i64 0]) ∧ Below W.heap.size W w') by
        have hNl := HN.out
        have := total_any A c l W (by rwa [hNl] at hh)
        rw [← hNl, totN, totE, if_pos hch, if_pos hch, ← HSS.out] at this
        exact this)
      have HF := Lib.hid (HD.out.frame HB1.out)
      have HLO := Lib.hid (show LotsAt wr (.slice A N c) l from HO.out.lots)
      clear hch hno
      by_cases hk12 : k < 12
      · have hatl : ¬ at_ < tlen := fun h => hgo ⟨hk12, h⟩
        have hkd : decide ((k : Int) < 12) = true := decide_eq_true (by omega)
        clear hgo
        go_wp2
        go_quiet (fail)
        go_wp2_with fail
        refine (TT.out _ (by exact HLO.out)).mono ?_
        rintro e w2 ⟨rfl, hb⟩
        have HB2 := Lib.hid ((below_drewN' HF.out _).trans (hb.mono (by exact HF.out.size)))
        clear hb t0 t1 c0 z0
        go_wp2_with fail
        refine (awake_any w2).mono ?_
        rintro e w3 ⟨rfl, hb⟩
        have HB3 := Lib.hid (HB2.out.trans (hb.mono HB2.out.size))
        clear hb
        go_wp2
        go_ret
        exact ⟨rfl, HB3.out⟩
      · have hkd : decide ((k : Int) < 12) = false := decide_eq_false (by omega)
        clear hgo
        go_wp2
        go_quiet (fail)
        go_wp2_with fail
        refine (TT.out _ (by exact HLO.out)).mono ?_
        rintro e w2 ⟨rfl, hb⟩
        have HB2 := Lib.hid ((below_drewN' HF.out _).trans (hb.mono (by exact HF.out.size)))
        clear hb t0 t1 c0 z0
        go_wp2_with fail
        refine (awake_any w2).mono ?_
        rintro e w3 ⟨rfl, hb⟩
        have HB3 := Lib.hid (HB2.out.trans (hb.mono HB2.out.size))
        clear hb
        go_wp2
        go_ret
        exact ⟨rfl, HB3.out⟩
end Go.Proofs.Ythhmpdjjfoplgaa
