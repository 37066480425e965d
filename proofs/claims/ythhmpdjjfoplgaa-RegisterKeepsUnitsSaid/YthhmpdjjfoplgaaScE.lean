/- law25.RegisterOfMadeLots, walked. -/
import Derived.Test.YthhmpdjjfoplgaaScD
import Derived.Test.YthhmpdjjfoplgaaRfP
import Derived.Test.YthhmpdjjfoplgaaRfL
set_option linter.unusedVariables false
set_option linter.unusedSimpArgs false
namespace Go.Proofs.Ythhmpdjjfoplgaa
open Go.RowKit Reg

/-- a register and two accounts in blocks of their own -/
structure MadeAt (W : World) (P : Nat) (va : Value) (x y : ByteArray × ByteArray) : Prop where
  r : W.cell? ⟨P, 0, none⟩ = some va
  a0 : W.cell? ⟨P + 1, 0, none⟩ = some (.string x.1)
  a1 : W.cell? ⟨P + 1, 1, none⟩ = some (.string x.2)
  b0 : W.cell? ⟨P + 2, 0, none⟩ = some (.string y.1)
  b1 : W.cell? ⟨P + 2, 1, none⟩ = some (.string y.2)
theorem MadeAt.drawn {W W' : World} {P bt : Nat} {va : Value} {x y : ByteArray × ByteArray} (h : MadeAt W P va x y) (hd : Drew W bt W') (hP : bt < P) : MadeAt W' P va x y :=
  ⟨hd.cell h.r (by simp; omega), hd.cell h.a0 (by simp; omega), hd.cell h.a1 (by simp; omega), hd.cell h.b0 (by simp; omega), hd.cell h.b1 (by simp; omega)⟩
theorem MadeAt.below {W W' : World} {P : Nat} {va : Value} {x y : ByteArray × ByteArray} (h : MadeAt W P va x y) (hb : Below W.heap.size W W') : MadeAt W' P va x y :=
  ⟨cell_up h.r hb, cell_up h.a0 hb, cell_up h.a1 hb, cell_up h.b0 hb, cell_up h.b1 hb⟩
theorem Own.form {w : World} {B : Nat} {v : Value} {l : List Lot} (h : Own w B v l) : ∃ A c, v = .slice A l.length c := Rd.form h.lots
theorem Drew.frame {w w1 w2 : World} (h : Drew w1 w.heap.size w2) (hb : Below w.heap.size w w1) : Below w.heap.size w w2 := hb.trans (below_grownBy h.2 (Nat.le_refl _) hb.size)

set_option maxRecDepth 100000 in
set_option maxHeartbeats 4000000 in
theorem law_made (a : Option Addr) (len cap : Nat) (z : List Int) (w : World) (h : IsRow .i64 w a len cap z) :
    Calls Try.prog 10 #[.slice a len cap] w fun e w' => e = .returned (.bool true) ∧ Below w.heap.size w w' := by
  have hlen := row_len h
  unfold maxLen at hlen
  have HR := Lib.hid (new_any a len cap z w h hlen)
  clear h hlen
  go_enter Try.func10, Try.ntmps10
  go_wp2_with fail
  refine HR.out.mono ?_
  rintro e w1 ⟨rfl, ht, hb⟩
  have hz1 := ht.lt
  have HB1 := Lib.hid hb
  have HT1 := Lib.hid ht
  clear hb ht
  go_wp2_with fail
  refine (register_any w.heap.size 8 w1 HT1.out (by omega)).mono ?_
  rintro e w2 ⟨va, l, rfl, hg, hl, ho, hd2⟩
  obtain ⟨A, c, hva⟩ := ho.form
  subst hva
  have HO := Lib.hid ho
  have HD2 := Lib.hid hd2
  clear ho hd2 hg
  go_wp2_with fail
  refine (account_any w.heap.size w2 HD2.out.1).mono ?_
  rintro e w3 ⟨x, hx, rfl, hd3⟩
  have HO3 := Lib.hid (HO.out.drawn hd3 hz1)
  have HD3 := Lib.hid (HD2.out.trans hd3)
  clear hd3 hx
  go_wp2_with fail
  refine (account_any w.heap.size w3 HD3.out.1).mono ?_
  rintro e w4 ⟨y, hy, rfl, hd4⟩
  have HO4 := Lib.hid (HO3.out.drawn hd4 hz1)
  have HD4 := Lib.hid (HD3.out.trans hd4)
  have hz4 : w.heap.size < w4.heap.size := by have := HD4.out.size; omega
  clear hd4 hy
  go_wp2_with fail
  obtain ⟨w5, hw5⟩ : ∃ w5, w5 = ((w4.alloc (.cells #[.slice A l.length c] 24)).alloc (.cells #[.string x.1, .string x.2] 26)).alloc (.cells #[.string y.1, .string y.2] 26) := ⟨_, rfl⟩
  rw [← hw5]
  have HM5 := Lib.hid (show MadeAt w5 w4.heap.size (.slice A l.length c) x y from by
    rw [hw5]; refine ⟨?_, ?_, ?_, ?_, ?_⟩ <;> go_cell)
  have hb5 : Below w4.heap.size w4 w5 := by rw [hw5]; exact (((Below.refl _ _).alloc (Nat.le_refl _) _).alloc (by simp) _).alloc (by simp; omega) _
  have HO5 := Lib.hid (HO4.out.below hb5)
  have HD5 := Lib.hid (HD4.out.below hb5)
  obtain ⟨P, hP⟩ : ∃ P, P = w4.heap.size := ⟨_, rfl⟩
  have hs5 : P + 3 = w5.heap.size := by rw [hw5, hP]; simp
  have hs52 : P + 2 < w5.heap.size := by omega
  rw [← hP] at HM5 hz4 ⊢
  clear hb5 hw5 hP
  refine (units_any w.heap.size w5 HD5.out.1).mono ?_
  rintro e w6 ⟨u, rfl, hu0, hu1, hd6⟩
  have HO6 := Lib.hid (HO5.out.drawn hd6 hz1)
  have HD6 := Lib.hid (HD5.out.trans hd6)
  have HM6 := Lib.hid (HM5.out.drawn hd6 hz4)
  have hz6 := hd6.size
  clear hd6
  go_wp2_with fail
  refine (next_any w.heap.size 40 w6 HD6.out.1 (by omega) (by omega)).mono ?_
  rintro e w7 ⟨q, rfl, hq0, hq1, hd7⟩
  have HO7 := Lib.hid (HO6.out.drawn hd7 hz1)
  have HD7 := Lib.hid (HD6.out.trans hd7)
  have HM7 := Lib.hid (HM6.out.drawn hd7 hz4)
  have hz7 := hd7.size
  clear hd7
  go_wp2_with fail
  have HP := Lib.hid (ints_at w7 [0, u, q] 3 w7.heap.size rfl)
  refine (pick_any w.heap.size w7.heap.size 3 3 [0, u, q] _ rfl (HD7.out.alloc _).1 (by omega) (by omega) (by omega) HP.out).mono ?_
  rintro e w8 ⟨n, hn, rfl, hd8⟩
  have HD8 := Lib.hid ((HD7.out.alloc _).trans hd8)
  have HM8 := Lib.hid ((HM7.out.below ((Below.refl _ _).alloc (Nat.le_refl _) _)).drawn hd8 hz4)
  have HO8 := Lib.hid ((HO7.out.alloc _).drawn hd8 hz1)
  have hz8 : w7.heap.size ≤ w8.heap.size := by have := hd8.size; simp at this; omega
  clear hd8 hn HP
  go_wp2_with fail
  refine (next_any w.heap.size 60 w8 HD8.out.1 (by omega) (by omega)).mono ?_
  rintro e w9 ⟨r, rfl, hr0, hr1, hd9⟩
  have HO9 := Lib.hid (HO8.out.drawn hd9 hz1)
  have HD9 := Lib.hid (HD8.out.trans hd9)
  have HM9 := Lib.hid (HM8.out.drawn hd9 hz4)
  have hz9 := hd9.size
  clear hd9
  go_wp2_with fail
  have HP := Lib.hid (ints_at w9 [0, 3, 7, r] 3 w9.heap.size rfl)
  refine (pick_any w.heap.size w9.heap.size 4 4 [0, 3, 7, r] _ rfl (HD9.out.alloc _).1 (by omega) (by omega) (by omega) HP.out).mono ?_
  rintro e w10 ⟨t, ht, rfl, hd10⟩
  have HD10 := Lib.hid ((HD9.out.alloc _).trans hd10)
  have HM10 := Lib.hid ((HM9.out.below ((Below.refl _ _).alloc (Nat.le_refl _) _)).drawn hd10 hz4)
  have HO10 := Lib.hid ((HO9.out.alloc _).drawn hd10 hz1)
  clear hd10 ht HP
  have HF10 := Lib.hid (HD10.out.frame HB1.out)
  have HL10 := Lib.hid HO10.out.lots
  obtain ⟨c0, c1, c2, c3, c4⟩ := HM10.out
  obtain ⟨N, hN⟩ : ∃ N, N = l.length := ⟨_, rfl⟩
  have HT := Lib.hid (fun W (hb : Below w10.heap.size w10 W) => show Calls Try.prog 20 #[.agg #[.slice A N c], .agg #[.string x.1, .string x.2]] W (fun e w' => e = .returned (.bool true) ∧ Below W.heap.size W w') by subst hN; exact tells_any A c l x.1 x.2 W (HL10.out.below hb))
  have HI := Lib.hid (fun W (hb : Below w10.heap.size w10 W) => show Calls Try.prog 21 #[.agg #[.slice A N c], .agg #[.string x.1, .string x.2], .int .i64 t, .int .i64 n] W (fun e w' => e = .returned (.bool true) ∧ Below W.heap.size W w') by subst hN; exact issues_any A c l x.1 x.2 t n W (HL10.out.below hb))
  have HE := Lib.hid (fun W (hb : Below w10.heap.size w10 W) => show Calls Try.prog 12 #[.agg #[.slice A N c], .agg #[.string x.1, .string x.2], .int .i64 n] W (fun e w' => e = .returned (.bool true) ∧ Below W.heap.size W w') by subst hN; exact redeems_any A c l x.1 x.2 n W (HL10.out.below hb))
  have HS := Lib.hid (fun W (hb : Below w10.heap.size w10 W) => show Calls Try.prog 22 #[.agg #[.slice A N c], .agg #[.string x.1, .string x.2], .agg #[.string y.1, .string y.2], .int .i64 n] W (fun e w' => e = .returned (.bool true) ∧ Below W.heap.size W w') by subst hN; exact transfers_any A c l x.1 x.2 y.1 y.2 n W (HL10.out.below hb))
  rw [← hN] at c0 ⊢
  clear hN
  go_wp2_with fail
  refine (HT.out w10 (Below.refl _ _)).mono ?_
  rintro e w11 ⟨rfl, hb⟩
  have E1 := Lib.hid hb
  have d0 := cell_up c0 hb
  have d1 := cell_up c1 hb
  have d2 := cell_up c2 hb
  have d3 := cell_up c3 hb
  have d4 := cell_up c4 hb
  clear hb c0 c1 c2 c3 c4
  go_wp2_with fail
  refine (HI.out w11 E1.out).mono ?_
  rintro e w12 ⟨rfl, hb⟩
  have E2 := Lib.hid (E1.out.trans (hb.mono E1.out.size))
  have c0 := cell_up d0 hb
  have c1 := cell_up d1 hb
  have c2 := cell_up d2 hb
  have c3 := cell_up d3 hb
  have c4 := cell_up d4 hb
  clear hb d0 d1 d2 d3 d4
  go_wp2_with fail
  refine (HE.out w12 E2.out).mono ?_
  rintro e w13 ⟨rfl, hb⟩
  have E3 := Lib.hid (E2.out.trans (hb.mono E2.out.size))
  have d0 := cell_up c0 hb
  have d1 := cell_up c1 hb
  have d2 := cell_up c2 hb
  have d3 := cell_up c3 hb
  have d4 := cell_up c4 hb
  clear hb c0 c1 c2 c3 c4
  go_wp2_with fail
  refine (HS.out w13 E3.out).mono ?_
  rintro e w14 ⟨rfl, hb⟩
  have E4 := Lib.hid (E3.out.trans (hb.mono E3.out.size))
  clear hb d0 d1 d2 d3 d4
  go_wp2_with fail
  refine (awake_any w14).mono ?_
  rintro e w15 ⟨rfl, hb⟩
  have E5 := Lib.hid (E4.out.trans (hb.mono E4.out.size))
  clear hb
  go_wp2
  go_ret
  exact ⟨rfl, HF10.out.trans (E5.out.mono HF10.out.size)⟩
end Go.Proofs.Ythhmpdjjfoplgaa
