/- law25.issues and law25.RegisterIssues, walked. -/
import Derived.Test.YthhmpdjjfoplgaaRfG
set_option linter.unusedVariables false
set_option linter.unusedSimpArgs false
namespace Go.Proofs.Ythhmpdjjfoplgaa
open Go.RowKit Reg Go.Maps

theorem issL_len (l : List Lot) (x : Lot) : (issL l x).length ≤ 100000 := by
  rcases iss_cases l x with ⟨h1, e1, e2⟩ | ⟨h1, h2, e1, e2⟩ | ⟨h1, h2, h3, e1, e2⟩ | ⟨h1, h2, h3, h4, e1, e2⟩ | ⟨h1, h2, h3, h4, h5, e1, e2⟩ | ⟨h1, h2, h3, h4, h5, h6, e1, e2⟩ | ⟨h1, h2, h3, h4, h5, h6, h7, e1, e2⟩ | ⟨h1, h2, h3, h4, h5, h6, h7, e1, e2⟩ <;> rw [e2]
  all_goals first | (simp; done) | omega
theorem IssP.form {la : List Lot} {er : Int} {w : World} {e : Ending} {w' : World} (h : IssP la er w e w') : ∃ A c, e = .returned (.tuple #[.agg #[.slice A la.length c], .int .i64 er]) ∧ Own w' w.heap.size (.slice A la.length c) la ∧ Below w.heap.size w w' := by
  obtain ⟨va, rfl, ha, hB⟩ := h
  obtain ⟨A, c, rfl⟩ := Rd.form ha.lots
  exact ⟨A, c, rfl, ha, hB⟩

set_option maxRecDepth 100000 in
set_option maxHeartbeats 4000000 in
theorem issues_any (A : Option Addr) (cap : Nat) (l : List Lot) (nm hl : ByteArray) (ser n : Int) (w : World) (h : LotsAt w (.slice A l.length cap) l) :
    Calls Try.prog 21 #[.agg #[.slice A l.length cap], .agg #[.string nm, .string hl], .int .i64 ser, .int .i64 n] w fun e w' => e = .returned (.bool true) ∧ Below w.heap.size w w' := by
  obtain ⟨w0, hw0, hb0, hs0, c0, c1, c2⟩ := boxed_two w A l.length cap nm hl
  have HL := Lib.hid (fun W hb => LotsAt.below (w' := W) h hb)
  have HB0 := Lib.hid hb0
  obtain ⟨la, hla⟩ : ∃ la, la = issL l ⟨nm, hl, ser, n⟩ := ⟨_, rfl⟩
  obtain ⟨er, her⟩ : ∃ er, er = issE l ⟨nm, hl, ser, n⟩ := ⟨_, rfl⟩
  have HR1 := Lib.hid (fun v W hh => (show Calls Try.prog 28 #[.agg #[v], .agg #[.string nm, .string hl], .int .i64 ser, .int .i64 n] W (IssP la er W) by rw [hla, her]; exact issue_any v l ⟨nm, hl, ser, n⟩ W hh))
  have HR2 := Lib.hid (fun v W hh => (show Calls Try.prog 46 #[.agg #[v], .agg #[.string nm, .string hl], .int .i64 ser, .int .i64 n] W (IssP la er W) by rw [hla, her]; exact rissue_any v l ⟨nm, hl, ser, n⟩ W hh))
  have hlen : la.length ≤ 100000 := by rw [hla]; exact issL_len l _
  have HLEN := Lib.hid hlen
  obtain ⟨N, hN⟩ : ∃ N, N = l.length := ⟨_, rfl⟩
  rw [← hN] at hw0 HL c0 ⊢
  clear h hb0 hla her hlen hN
  go_enter Try.func21, Try.ntmps21
  go_wp2_with fail
  rw [← hw0]
  refine (HR1.out _ w0 (HL.out _ HB0.out)).mono ?_
  intro e w1 hr
  obtain ⟨A1, c1', rfl, ha1, hB1⟩ := hr.form
  have k0 := cell_up c0 hB1
  have k1 := cell_up c1 hB1
  have k2 := cell_up c2 hB1
  have HW1 := Lib.hid (HB0.out.trans (hB1.mono HB0.out.size))
  have HA1 := Lib.hid ha1.lots
  have hz1 : w.heap.size + 1 < w1.heap.size := by have := hB1.size; omega
  have q0 := cell_alloc k0 (.cells #[.slice A1 la.length c1'] 24)
  have q1 := cell_alloc k1 (.cells #[.slice A1 la.length c1'] 24)
  have q2 := cell_alloc k2 (.cells #[.slice A1 la.length c1'] 24)
  clear hr ha1 hB1 c0 c1 c2 hw0 hs0
  go_wp2_with fail
  have HW2 := Lib.hid (HW1.out.alloc HW1.out.size (.cells #[.slice A1 la.length c1'] 24))
  refine (HR2.out _ _ (HL.out _ HW2.out)).mono ?_
  intro e w2 hr
  obtain ⟨A2, c2', rfl, ha2, hB2⟩ := hr.form
  have m0 := cell_up (show (w1.alloc (.cells #[.slice A1 la.length c1'] 24)).cell? ⟨w1.heap.size, 0, none⟩ = some (.slice A1 la.length c1') by go_cell) hB2
  have HW3 := Lib.hid (HW2.out.trans (hB2.mono HW2.out.size))
  have HA2 := Lib.hid (Rd.below (Rd.alloc HA1.out _) hB2)
  have HA3 := Lib.hid ha2.lots
  have hz2 : w1.heap.size < w2.heap.size := by have := hB2.size; simp at this; omega
  have r0 := cell_alloc m0 (.cells #[.slice A2 la.length c2'] 24)
  clear hr ha2 hB2 k0 k1 k2 q0 q1 q2 HA1 HW1 HW2 hz1
  go_wp2_with fail
  refine (same_eq (.slice A1 la.length c1') (.slice A2 la.length c2') la _ (Rd.alloc HA2.out _) (Rd.alloc HA3.out _) HLEN.out).mono ?_
  rintro e w3 ⟨rfl, hB3⟩
  have HW4 := Lib.hid ((HW3.out.alloc HW3.out.size _).trans (hB3.mono (by have := HW3.out.size; simp; omega)))
  clear hB3 HA2 HA3 HW3 m0 r0 hz2
  go_wp2
  go_ret
  exact ⟨rfl, HW4.out⟩
set_option maxRecDepth 100000 in
set_option maxHeartbeats 2000000 in
theorem law_issues (A : Option Addr) (cap : Nat) (l : List Lot) (nm hl : ByteArray) (ser n : Int) (w : World) (h : LotsAt w (.slice A l.length cap) l) :
    Calls Try.prog 6 #[.agg #[.slice A l.length cap], .agg #[.string nm, .string hl], .int .i64 ser, .int .i64 n] w fun e w' => e = .returned (.bool true) ∧ Below w.heap.size w w' := by
  obtain ⟨w0, hw0, hb0, hs0, c0, c1, c2⟩ := boxed_two w A l.length cap nm hl
  have HB0 := Lib.hid hb0
  have HR := Lib.hid (issues_any A cap l nm hl ser n w0 (h.below hb0))
  obtain ⟨N, hN⟩ : ∃ N, N = l.length := ⟨_, rfl⟩
  rw [← hN] at hw0 HR c0 ⊢
  clear h hb0 hN hs0
  go_enter Try.func6, Try.ntmps6
  go_wp2_with fail
  rw [← hw0]
  refine HR.out.mono ?_
  rintro e w1 ⟨rfl, hB1⟩
  have HW1 := Lib.hid (HB0.out.trans (hB1.mono HB0.out.size))
  clear hB1 c0 c1 c2 hw0
  go_wp2_with fail
  refine (awake_any w1).mono ?_
  rintro e w2 ⟨rfl, hB2⟩
  have HW2 := Lib.hid (HW1.out.trans (hB2.mono HW1.out.size))
  clear hB2
  go_wp2
  go_ret
  exact ⟨rfl, HW2.out⟩
end Go.Proofs.Ythhmpdjjfoplgaa
