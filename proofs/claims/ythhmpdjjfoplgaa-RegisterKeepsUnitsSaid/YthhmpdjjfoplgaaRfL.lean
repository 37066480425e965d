/- law25.transfers and law25.RegisterTransfers, walked. -/
import Derived.Test.YthhmpdjjfoplgaaRfH
import Derived.Test.YthhmpdjjfoplgaaRfJ
import Derived.Test.YthhmpdjjfoplgaaRfK
set_option linter.unusedVariables false
set_option linter.unusedSimpArgs false
namespace Go.Proofs.Ythhmpdjjfoplgaa
open Go.RowKit Reg Go.Maps

theorem boxed_three (w : World) (A : Option Addr) (n cap : Nat) (f1 f2 t1 t2 : ByteArray) : ∃ w0 : World, w0 = ((w.alloc (.cells #[.slice A n cap] 24)).alloc (.cells #[.string f1, .string f2] 26)).alloc (.cells #[.string t1, .string t2] 26) ∧ Below w.heap.size w w0 ∧ w0.heap.size = w.heap.size + 1 + 1 + 1 ∧
    w0.cell? ⟨w.heap.size, 0, none⟩ = some (.slice A n cap) ∧ w0.cell? ⟨w.heap.size + 1, 0, none⟩ = some (.string f1) ∧ w0.cell? ⟨w.heap.size + 1, 1, none⟩ = some (.string f2) ∧ w0.cell? ⟨w.heap.size + 1 + 1, 0, none⟩ = some (.string t1) ∧ w0.cell? ⟨w.heap.size + 1 + 1, 1, none⟩ = some (.string t2) :=
  ⟨_, rfl, (((Below.refl _ _).alloc (Nat.le_refl _) _).alloc (by simp) _).alloc (by simp only [World.size_alloc]; omega) _, by simp, by go_cell, by go_cell, by go_cell, by go_cell, by go_cell⟩
theorem trnL_len (l : List Lot) (f1 f2 t1 t2 : ByteArray) (n : Int) : (trnL l f1 f2 t1 t2 n).length ≤ 100000 := by
  rcases trn_cases l f1 f2 t1 t2 n with ⟨h1, hE, hL1, hN1⟩ | ⟨h1, h2, hE, hL1, hN1⟩ | ⟨h1, h2, h3, hE, hL1, hN1⟩ | ⟨h1, h2, h3, h4, hE, hL1, hN1⟩ | ⟨h1, h2, h3, h4, h5, hE, hL1, hN1⟩ | ⟨h1, h2, h3, h4, h5, h6, hE, hL1, hN1⟩ | ⟨h1, h2, h3, h4, h5, h6, hE, hL1, hN1⟩ <;> rw [hL1]
  all_goals first | (simp; done) | omega
theorem TrnP.form {la : List Lot} {m er : Int} {w : World} {e : Ending} {w' : World} (h : TrnP la m er w e w') : ∃ A c, e = .returned (.tuple #[.agg #[.slice A la.length c], .int .i64 m, .int .i64 er]) ∧ Own w' w.heap.size (.slice A la.length c) la ∧ Below w.heap.size w w' := by
  obtain ⟨va, rfl, ha, hB⟩ := h
  obtain ⟨A, c, rfl⟩ := Rd.form ha.lots
  exact ⟨A, c, rfl, ha, hB⟩

set_option maxRecDepth 100000 in
set_option maxHeartbeats 4000000 in
theorem transfers_any (A : Option Addr) (cap : Nat) (l : List Lot) (f1 f2 t1 t2 : ByteArray) (n : Int) (w : World) (h : LotsAt w (.slice A l.length cap) l) :
    Calls Try.prog 22 #[.agg #[.slice A l.length cap], .agg #[.string f1, .string f2], .agg #[.string t1, .string t2], .int .i64 n] w fun e w' => e = .returned (.bool true) ∧ Below w.heap.size w w' := by
  obtain ⟨w0, hw0, hb0, hs0, c0, c1, c2, c3, c4⟩ := boxed_three w A l.length cap f1 f2 t1 t2
  have HL := Lib.hid (fun W hb => LotsAt.below (w' := W) h hb)
  have HB0 := Lib.hid hb0
  obtain ⟨la, hla⟩ : ∃ la, la = trnL l f1 f2 t1 t2 n := ⟨_, rfl⟩
  obtain ⟨mv, hmv⟩ : ∃ mv, mv = trnN l f1 f2 t1 t2 n := ⟨_, rfl⟩
  obtain ⟨er, her⟩ : ∃ er, er = trnE l f1 f2 t1 t2 n := ⟨_, rfl⟩
  have HR1 := Lib.hid (fun v W hh => (show Calls Try.prog 23 #[.agg #[v], .agg #[.string f1, .string f2], .agg #[.string t1, .string t2], .int .i64 n] W (TrnP la mv er W) by rw [hla, hmv, her]; exact transfer_any v l f1 f2 t1 t2 n W hh))
  have HR2 := Lib.hid (fun v W hh => (show Calls Try.prog 47 #[.agg #[v], .agg #[.string f1, .string f2], .agg #[.string t1, .string t2], .int .i64 n] W (TrnP la mv er W) by rw [hla, hmv, her]; exact rtransfer_any v l f1 f2 t1 t2 n W hh))
  have hlen : la.length ≤ 100000 := by rw [hla]; exact trnL_len l f1 f2 t1 t2 n
  have HLEN := Lib.hid hlen
  obtain ⟨N, hN⟩ : ∃ N, N = l.length := ⟨_, rfl⟩
  rw [← hN] at hw0 HL c0 ⊢
  clear h hb0 hla hmv her hlen hN
  go_enter Try.func22, Try.ntmps22
  go_wp2_with fail
  rw [← hw0]
  refine (HR1.out _ w0 (HL.out _ HB0.out)).mono ?_
  intro e w1 hr
  obtain ⟨A1, c1', rfl, ha1, hB1⟩ := hr.form
  have k0 := cell_up c0 hB1
  have k1 := cell_up c1 hB1
  have k2 := cell_up c2 hB1
  have k3 := cell_up c3 hB1
  have k4 := cell_up c4 hB1
  have HW1 := Lib.hid (HB0.out.trans (hB1.mono HB0.out.size))
  have HA1 := Lib.hid ha1.lots
  have hz1 : w.heap.size + 1 + 1 < w1.heap.size := by have := hB1.size; omega
  have q0 := cell_alloc k0 (.cells #[.slice A1 la.length c1'] 24)
  have q1 := cell_alloc k1 (.cells #[.slice A1 la.length c1'] 24)
  have q2 := cell_alloc k2 (.cells #[.slice A1 la.length c1'] 24)
  have q3 := cell_alloc k3 (.cells #[.slice A1 la.length c1'] 24)
  have q4 := cell_alloc k4 (.cells #[.slice A1 la.length c1'] 24)
  clear hr ha1 hB1 c0 c1 c2 c3 c4 hw0 hs0
  go_wp2_with fail
  have HW2 := Lib.hid (HW1.out.alloc HW1.out.size (.cells #[.slice A1 la.length c1'] 24))
  refine (HR2.out _ _ (HL.out _ HW2.out)).mono ?_
  intro e w2 hr
  obtain ⟨A2, c2', rfl, ha2, hB2⟩ := hr.form
  have m0 := cell_up (show (w1.alloc (.cells #[.slice A1 la.length c1'] 24)).cell? ⟨w1.heap.size, 0, none⟩ = some (.slice A1 la.length c1') by go_cell) hB2
  have HW3 := Lib.hid (HW2.out.trans (hB2.mono HW2.out.size))
  have HA2 := Lib.hid (Rd.below (Rd.alloc HA1.out _) hB2)
  have HA3 := Lib.hid ha2.lots
  have hz2 : w1.heap.size < w2.heap.size := by have := hB2.size; simp at this; omega
  have r0 := cell_alloc m0 (.cells #[.slice A2 la.length c2'] 24)
  clear hr ha2 hB2 k0 k1 k2 k3 k4 q0 q1 q2 q3 q4 HA1 HW1 HW2 hz1
  go_wp2_with fail
  refine (same_eq (.slice A1 la.length c1') (.slice A2 la.length c2') la _ (Rd.alloc HA2.out _) (Rd.alloc HA3.out _) HLEN.out).mono ?_
  rintro e w3 ⟨rfl, hB3⟩
  have HW4 := Lib.hid ((HW3.out.alloc HW3.out.size _).trans (hB3.mono (by have := HW3.out.size; simp; omega)))
  clear hB3 HA2 HA3 HW3 m0 r0 hz2
  go_wp2
  go_ret
  exact ⟨rfl, HW4.out⟩
set_option maxRecDepth 100000 in
set_option maxHeartbeats 2000000 in
theorem law_transfers (A : Option Addr) (cap : Nat) (l : List Lot) (f1 f2 t1 t2 : ByteArray) (n : Int) (w : World) (h : LotsAt w (.slice A l.length cap) l) :
    Calls Try.prog 7 #[.agg #[.slice A l.length cap], .agg #[.string f1, .string f2], .agg #[.string t1, .string t2], .int .i64 n] w fun e w' => e = .returned (.bool true) ∧ Below w.heap.size w w' := by
  obtain ⟨w0, hw0, hb0, hs0, c0, c1, c2, c3, c4⟩ := boxed_three w A l.length cap f1 f2 t1 t2
  have HB0 := Lib.hid hb0
  have HR := Lib.hid (transfers_any A cap l f1 f2 t1 t2 n w0 (h.below hb0))
  obtain ⟨N, hN⟩ : ∃ N, N = l.length := ⟨_, rfl⟩
  rw [← hN] at hw0 HR c0 ⊢
  clear h hb0 hN hs0
  go_enter Try.func7, Try.ntmps7
  go_wp2_with fail
  rw [← hw0]
  refine HR.out.mono ?_
  rintro e w1 ⟨rfl, hB1⟩
  have HW1 := Lib.hid (HB0.out.trans (hB1.mono HB0.out.size))
  clear hB1 c0 c1 c2 c3 c4 hw0
  go_wp2_with fail
  refine (awake_any w1).mono ?_
  rintro e w2 ⟨rfl, hB2⟩
  have HW2 := Lib.hid (HW1.out.trans (hB2.mono HW1.out.size))
  clear hB2
  go_wp2
  go_ret
  exact ⟨rfl, HW2.out⟩
end Go.Proofs.Ythhmpdjjfoplgaa
