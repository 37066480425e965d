/- law25.RegisterTransfersBack, walked. -/
import Derived.Test.YthhmpdjjfoplgaaScE
import Derived.Test.YthhmpdjjfoplgaaScQ
set_option linter.unusedVariables false
set_option linter.unusedSimpArgs false
namespace Go.Proofs.Ythhmpdjjfoplgaa
open Go.RowKit Reg

def sTrust : ByteArray := ⟨#[116, 114, 117, 115, 116]⟩
def sZoe : ByteArray := ⟨#[122, 111, 101]⟩
theorem trust_ok : acctB sTrust sZoe = true := by decide +kernel
theorem trust_new : ∀ x ∈ accs, (sEq x.1 sTrust && sEq x.2 sZoe) = false := by decide +kernel
/-- the walk's plain part: both transfers, and what they say -/
theorem back_facts {l : List Lot} {x : ByteArray × ByteArray} {n : Int} (hg : ScGood l) (hl : l.length ≤ 8) (hx : x ∈ accs) (h0 : 0 ≤ n) (h1 : n ≤ 1000000000000000) :
    ∃ (M : List Lot) (k : Int), trnE l x.1 x.2 sTrust sZoe n = 0 ∧ trnL l x.1 x.2 sTrust sZoe n = M ∧ trnN l x.1 x.2 sTrust sZoe n = k ∧
      trnE M sTrust sZoe x.1 x.2 k = 0 ∧ trnL M sTrust sZoe x.1 x.2 k = l ∧ trnN M sTrust sZoe x.1 x.2 k = k ∧ balN l x.1 x.2 = sumU (ownL x.1 x.2 l) ∧ balE l x.1 x.2 = 0 ∧ k = min n (sumU (ownL x.1 x.2 l)) := by
  have hc := good_check hg (by omega)
  obtain ⟨g1, g2, g3, g4, g5⟩ := check_facts hc
  have hu : ∀ y ∈ l, 1 ≤ y.units := fun y hy => (g5 y hy).1
  have ha := accs_ok x hx
  have hno : ∀ y ∈ l, ownB sTrust sZoe y = false := fun y hy => trust_new _ (hg.2 y hy).1
  have hlen := mov_len l x.1 x.2 sTrust sZoe n
  have hz := trnE_zero hc ha trust_ok h0 h1 (by omega)
  obtain ⟨b1, b2⟩ := mov_back (f1 := x.1) (f2 := x.2) hc h0 hno
  have hk := take_min x.1 x.2 l n h0 hu
  have hk0 : 0 ≤ sumU (takeR x.1 x.2 l n).2 := sumU_nonneg _ (fun y hy => by have := ((take_all x.1 x.2 l n h0 hu).2 y hy).1; omega)
  have hk1 : sumU (takeR x.1 x.2 l n).2 ≤ 1000000000000000 := by omega
  have hcM := mov_check x.1 x.2 sTrust sZoe n h0 hc trust_ok (by omega)
  have hz2 := trnE_zero (l := movL l x.1 x.2 sTrust sZoe n) hcM trust_ok ha hk0 hk1 (by rw [b2]; omega)
  refine ⟨_, _, hz.1, hz.2.1, hz.2.2, hz2.1, by rw [hz2.2.1, b2], by rw [hz2.2.2, b1], ?_, ?_, hk⟩
  · unfold balN; rw [if_pos ⟨hc, ha⟩]
  · unfold balE; rw [hc, ha]; simp
theorem TrnP.form' {la : List Lot} {m er : Int} {w : World} {e : Ending} {w' : World} (h : TrnP la m er w e w') : ∃ A c, e = .returned (.tuple #[.agg #[.slice A la.length c], .int .i64 m, .int .i64 er]) ∧ Own w' w.heap.size (.slice A la.length c) la ∧ Below w.heap.size w w' := by
  obtain ⟨va, rfl, ha, hB⟩ := h
  obtain ⟨A, c, rfl⟩ := ha.form
  exact ⟨A, c, rfl, ha, hB⟩

set_option maxRecDepth 100000 in
set_option maxHeartbeats 4000000 in
theorem law_back (a : Option Addr) (len cap : Nat) (z : List Int) (m : Int) (w : World) (h : IsRow .i64 w a len cap z) :
    Calls Try.prog 8 #[.slice a len cap, .int .i64 m] w fun e w' => e = .returned (.bool true) ∧ Below w.heap.size w w' := by
  have hlen := row_len h
  unfold maxLen at hlen
  have HR := Lib.hid (new_any a len cap z w h hlen)
  obtain ⟨n, hn⟩ : ∃ n, n = modI m 2000000 := ⟨_, rfl⟩
  have hnb := modI_bd m 2000000 (by omega)
  rw [← hn] at hnb
  obtain ⟨n0, n1⟩ := hnb
  have HMOD := Lib.hid (fun W => show Calls Try.prog 18 #[.int .i64 m, .int .i64 2000000] W (fun e w' => e = .returned (.int .i64 n) ∧ W = w') by subst hn; exact mod_any m 2000000 W (by omega))
  clear h hlen hn
  go_enter Try.func8, Try.ntmps8
  go_wp2_with fail
  refine HR.out.mono ?_
  rintro e w1 ⟨rfl, ht, hb⟩
  have hz1 := ht.lt
  have HB1 := Lib.hid hb
  have HT1 := Lib.hid ht
  clear hb ht
  go_wp2_with fail
  refine (register_any w.heap.size 8 w1 HT1.out (by omega)).mono ?_
  rintro e w2 ⟨va, l, rfl, hg, hl, ho, hd2⟩
  obtain ⟨A, c, hva⟩ := ho.form
  subst hva
  have HO := Lib.hid ho
  have HD2 := Lib.hid hd2
  clear ho hd2
  go_wp2_with fail
  refine (account_any w.heap.size w2 HD2.out.1).mono ?_
  rintro e w3 ⟨x, hx, rfl, hd3⟩
  have HO3 := Lib.hid (HO.out.drawn hd3 hz1)
  have HD3 := Lib.hid (HD2.out.trans hd3)
  have hz4 : w.heap.size < w3.heap.size := by have := HD3.out.size; omega
  obtain ⟨M, k, e1, e2, e3, e4, e5, e6, e7, e8, e9⟩ := back_facts hg hl hx n0 (show n ≤ 1000000000000000 by omega)
  have T1 := Lib.hid (fun W v (hh : LotsAt W v l) => show Calls Try.prog 23 #[.agg #[v], .agg #[.string x.1, .string x.2], .agg #[.string ⟨#[116, 114, 117, 115, 116]⟩, .string ⟨#[122, 111, 101]⟩], .int .i64 n] W (TrnP M k 0 W) by have := transfer_any v l x.1 x.2 sTrust sZoe n W hh; rw [e1, e2, e3] at this; exact this)
  have T2 := Lib.hid (fun W v (hh : LotsAt W v M) => show Calls Try.prog 23 #[.agg #[v], .agg #[.string ⟨#[116, 114, 117, 115, 116]⟩, .string ⟨#[122, 111, 101]⟩], .agg #[.string x.1, .string x.2], .int .i64 k] W (TrnP l k 0 W) by have := transfer_any v M sTrust sZoe x.1 x.2 k W hh; rw [e4, e5, e6] at this; exact this)
  obtain ⟨bl, hbl⟩ : ∃ bl, bl = sumU (ownL x.1 x.2 l) := ⟨_, rfl⟩
  obtain ⟨N, hN⟩ : ∃ N, N = l.length := ⟨_, rfl⟩
  have T3 := Lib.hid (fun W (hh : LotsAt W (.slice A N c) l) => show Calls Try.prog 17 #[.agg #[.slice A N c], .agg #[.string x.1, .string x.2]] W (fun e w' => e = .returned (.tuple #[.int .i64 bl, .int .i64 0]) ∧ Below W.heap.size W w') by subst hN; have := rbalance_any A c l x.1 x.2 W hh; rwa [e7, e8, ← hbl] at this)
  rw [← hbl] at e9
  have HK := Lib.hid e9
  have HNl := Lib.hid hN
  rw [← hN] at HO3 hl ⊢
  clear hd3 hx hg e1 e2 e3 e4 e5 e6 e7 e8 e9 hbl hN HO
  go_wp2_with fail
  obtain ⟨w5, hw5⟩ : ∃ w5, w5 = ((w3.alloc (.cells #[.slice A N c] 24)).alloc (.cells #[.string x.1, .string x.2] 26)).alloc (.cells #[.string ⟨#[116, 114, 117, 115, 116]⟩, .string ⟨#[122, 111, 101]⟩] 26) := ⟨_, rfl⟩
  rw [← hw5]
  have HM5 := Lib.hid (show MadeAt w5 w3.heap.size (.slice A N c) x (⟨#[116, 114, 117, 115, 116]⟩, ⟨#[122, 111, 101]⟩) from by
    rw [hw5]; refine ⟨?_, ?_, ?_, ?_, ?_⟩ <;> go_cell)
  have hb5 : Below w3.heap.size w3 w5 := by rw [hw5]; exact (((Below.refl _ _).alloc (Nat.le_refl _) _).alloc (by simp) _).alloc (by simp; omega) _
  have HO5 := Lib.hid (HO3.out.below hb5)
  have HF5 := Lib.hid ((HD3.out.below hb5).frame HB1.out)
  obtain ⟨P, hP⟩ : ∃ P, P = w3.heap.size := ⟨_, rfl⟩
  have hs5 : P + 3 = w5.heap.size := by rw [hw5, hP]; simp
  have hs52 : P + 2 < w5.heap.size := by omega
  rw [← hP] at HM5 hz4 ⊢
  have HL5 := Lib.hid (show LotsAt w5 (.slice A N c) l from HO5.out.lots)
  obtain ⟨c0, c1, c2, c3, c4⟩ := HM5.out
  clear hb5 hw5 hP
  refine (HMOD.out w5).mono ?_
  rintro e w' ⟨rfl, rfl⟩
  go_wp2_with fail
  refine (T1.out w5 _ HL5.out).mono ?_
  intro e w6 ht
  obtain ⟨A6, c6, rfl, ho6, hb6⟩ := ht.form'
  have E6 := Lib.hid hb6
  have HO6 := Lib.hid ho6
  have hs6 := hb6.size
  obtain ⟨M6, hM6⟩ : ∃ M6, M6 = M.length := ⟨_, rfl⟩
  rw [← hM6] at HO6 ⊢
  have d0 := cell_up c0 hb6
  have d1 := cell_up c1 hb6
  have d2 := cell_up c2 hb6
  have d3 := cell_up c3 hb6
  have d4 := cell_up c4 hb6
  have T2' := Lib.hid (fun W hb => T2.out W (.slice A6 M6 c6) (HO6.out.below hb).lots)
  clear ho6 hb6 c0 c1 c2 c3 c4 ht hM6
  have hs61 : P < w6.heap.size := by omega
  have hs62 : P + 1 < w6.heap.size := by omega
  have hs63 : P + 2 < w6.heap.size := by omega
  go_wp2_with fail
  refine (T2'.out _ ((Below.refl _ _).alloc (Nat.le_refl _) _)).mono ?_
  intro e w7 ht
  obtain ⟨A7, c7, rfl, ho7, hb7⟩ := ht.form'
  have hb67 : Below w6.heap.size w6 w7 := ((Below.refl _ _).alloc (Nat.le_refl _) _).trans (hb7.mono (by simp))
  have E7 := Lib.hid (E6.out.trans (hb67.mono E6.out.size))
  have HO7 := Lib.hid ho7
  have hs7 := hb67.size
  rw [← HNl.out] at HO7 ⊢
  have c0 := cell_up d0 hb67
  have c1 := cell_up d1 hb67
  have c2 := cell_up d2 hb67
  clear ho7 hb7 hb67 d0 d1 d2 d3 d4 ht
  have hs71 : P < w7.heap.size := by omega
  have hs72 : P + 1 < w7.heap.size := by omega
  go_wp2_with fail
  obtain ⟨w8, hw8⟩ : ∃ w8, w8 = w7.alloc (.cells #[.slice A7 N c7] 24) := ⟨_, rfl⟩
  rw [← hw8]
  have hb8 : Below w7.heap.size w7 w8 := by rw [hw8]; exact (Below.refl _ _).alloc (Nat.le_refl _) _
  have r0 : w8.cell? ⟨w7.heap.size, 0, none⟩ = some (.slice A7 N c7) := by rw [hw8]; go_cell
  have E8 := Lib.hid (E7.out.trans (hb8.mono E7.out.size))
  have HO8 := Lib.hid (HO7.out.below hb8)
  have d0 := cell_up c0 hb8
  have d1 := cell_up c1 hb8
  have d2 := cell_up c2 hb8
  clear hw8 hb8 c0 c1 c2
  refine (T3.out w8 (HL5.out.below E8.out)).mono ?_
  rintro e w9 ⟨rfl, hb⟩
  have E9 := Lib.hid (E8.out.trans (hb.mono E8.out.size))
  have HO9 := Lib.hid (HO8.out.below hb)
  have c0 := cell_up d0 hb
  have s0 := cell_up r0 hb
  clear hb d0 d1 d2 r0
  have hkk := HK.out
  have hkb : (k == min n bl) = true := by rw [hkk]; simp
  clear hkk
  go_wp2_with fail
  have hll := HNl.out
  have HSM := Lib.hid (show Calls Try.prog 24 #[.agg #[.slice A7 N c7], .agg #[.slice A N c]] w9 (fun e w' => e = .returned (.bool true) ∧ Below w9.heap.size w9 w') from same_eq _ _ l w9 (by have := HO9.out.lots; rw [hll] at this ⊢; exact this) (HL5.out.below E9.out) (by omega))
  clear hll
  refine HSM.out.mono ?_
  rintro e w10 ⟨rfl, hb⟩
  have E10 := Lib.hid (E9.out.trans (hb.mono E9.out.size))
  clear hb c0 s0
  go_wp2_with fail
  refine (awake_any w10).mono ?_
  rintro e w11 ⟨rfl, hb⟩
  have E11 := Lib.hid (E10.out.trans (hb.mono E10.out.size))
  clear hb
  go_wp2
  go_ret
  exact ⟨rfl, HF5.out.trans (E11.out.mono HF5.out.size)⟩
end Go.Proofs.Ythhmpdjjfoplgaa
