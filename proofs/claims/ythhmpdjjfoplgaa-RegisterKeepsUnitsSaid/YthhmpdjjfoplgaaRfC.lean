/- law25.redeems and law25.RegisterRedeems, walked. -/
import Derived.Test.YthhmpdjjfoplgaaRfB
set_option linter.unusedVariables false
set_option linter.unusedSimpArgs false
namespace Go.Proofs.Ythhmpdjjfoplgaa
open Go.RowKit Reg Go.Maps

theorem boxed_two (w : World) (A : Option Addr) (n cap : Nat) (nm hl : ByteArray) : ∃ w0 : World, w0 = (w.alloc (.cells #[.slice A n cap] 24)).alloc (.cells #[.string nm, .string hl] 26) ∧ Below w.heap.size w w0 ∧ w0.heap.size = w.heap.size + 1 + 1 ∧
    w0.cell? ⟨w.heap.size, 0, none⟩ = some (.slice A n cap) ∧ w0.cell? ⟨w.heap.size + 1, 0, none⟩ = some (.string nm) ∧ w0.cell? ⟨w.heap.size + 1, 1, none⟩ = some (.string hl) :=
  ⟨_, rfl, ((Below.refl _ _).alloc (Nat.le_refl _) _).alloc (by simp) _, by simp, by go_cell, by go_cell, by go_cell⟩

theorem redL_len (l : List Lot) (nm hl : ByteArray) (n : Int) : (redL l nm hl n).1.length ≤ 100000 ∧ (redL l nm hl n).2.length ≤ 100000 := by
  rcases redE_cases l nm hl n with ⟨h1, e1, e2⟩ | ⟨h1, h2, e1, e2⟩ | ⟨h1, h2, h3, e1, e2⟩ | ⟨h1, h2, h3, h4, e1, e2⟩ | ⟨h1, h2, h3, h4, e1, e2⟩ <;> rw [e2]
  · simp
  · simp
  · simp
  · simp
  · have := takeR_len nm hl l n
    have := (check_facts h1).1
    omega
/-- a redemption's answer, its register's slice written out -/
theorem RedP.form {la lb : List Lot} {er : Int} {w : World} {e : Ending} {w' : World} (h : RedP la lb er w e w') : ∃ A c A2 c2, e = .returned (.tuple #[.agg #[.slice A la.length c], .slice A2 lb.length c2, .int .i64 er]) ∧ LotsAt w' (.slice A la.length c) la ∧ LotsAt w' (.slice A2 lb.length c2) lb ∧ Below w.heap.size w w' := by
  obtain ⟨va, vb, rfl, ha, hb, hB⟩ := h
  obtain ⟨A, c, rfl⟩ := Rd.form ha.lots
  obtain ⟨A2, c2, rfl⟩ := Rd.form hb.lots
  exact ⟨A, c, A2, c2, rfl, ha.lots, hb.lots, hB⟩
set_option maxRecDepth 100000 in
set_option maxHeartbeats 4000000 in
theorem redeems_any (A : Option Addr) (cap : Nat) (l : List Lot) (nm hl : ByteArray) (n : Int) (w : World) (h : LotsAt w (.slice A l.length cap) l) :
    Calls Try.prog 12 #[.agg #[.slice A l.length cap], .agg #[.string nm, .string hl], .int .i64 n] w fun e w' => e = .returned (.bool true) ∧ Below w.heap.size w w' := by
  obtain ⟨w0, hw0, hb0, hs0, c0, c1, c2⟩ := boxed_two w A l.length cap nm hl
  have HL := Lib.hid (fun W hb => LotsAt.below (w' := W) h hb)
  have HB0 := Lib.hid hb0
  obtain ⟨la, hla⟩ : ∃ la, la = (redL l nm hl n).1 := ⟨_, rfl⟩
  obtain ⟨lb, hlb⟩ : ∃ lb, lb = (redL l nm hl n).2 := ⟨_, rfl⟩
  obtain ⟨er, her⟩ : ∃ er, er = redE l nm hl n := ⟨_, rfl⟩
  have HR1 := Lib.hid (fun v W hh => (show Calls Try.prog 19 #[.agg #[v], .agg #[.string nm, .string hl], .int .i64 n] W (RedP la lb er W) by rw [hla, hlb, her]; exact redeem_any v l nm hl n W hh))
  have HR2 := Lib.hid (fun v W hh => (show Calls Try.prog 33 #[.agg #[v], .agg #[.string nm, .string hl], .int .i64 n] W (RedP la lb er W) by rw [hla, hlb, her]; exact rredeem_any v l nm hl n W hh))
  have hlen : la.length ≤ 100000 ∧ lb.length ≤ 100000 := by rw [hla, hlb]; exact redL_len l nm hl n
  have HLEN := Lib.hid hlen
  obtain ⟨N, hN⟩ : ∃ N, N = l.length := ⟨_, rfl⟩
  rw [← hN] at hw0 HL c0 ⊢
  clear h hb0 hla hlb her hlen hN
  go_enter Try.func12, Try.ntmps12
  go_wp2_with fail
  rw [← hw0]
  refine (HR1.out _ w0 (HL.out _ HB0.out)).mono ?_
  intro e w1 hr
  obtain ⟨A1, c1', B1, d1, rfl, ha1, hb1, hB1⟩ := hr.form
  have k0 := cell_up c0 hB1
  have k1 := cell_up c1 hB1
  have k2 := cell_up c2 hB1
  have HW1 := Lib.hid (HB0.out.trans (hB1.mono HB0.out.size))
  have HA1 := Lib.hid (And.intro ha1 hb1)
  have hz1 : w.heap.size + 1 < w1.heap.size := by have := hB1.size; omega
  have q0 := cell_alloc k0 (.cells #[.slice A1 la.length c1'] 24)
  have q1 := cell_alloc k1 (.cells #[.slice A1 la.length c1'] 24)
  have q2 := cell_alloc k2 (.cells #[.slice A1 la.length c1'] 24)
  clear hr ha1 hb1 hB1 c0 c1 c2 hw0 hs0
  go_wp2_with fail
  have HW2 := Lib.hid (HW1.out.alloc HW1.out.size (.cells #[.slice A1 la.length c1'] 24))
  refine (HR2.out _ _ (HL.out _ HW2.out)).mono ?_
  intro e w2 hr
  obtain ⟨A2, c2', B2, d2, rfl, ha2, hb2, hB2⟩ := hr.form
  have m0 := cell_up (show (w1.alloc (.cells #[.slice A1 la.length c1'] 24)).cell? ⟨w1.heap.size, 0, none⟩ = some (.slice A1 la.length c1') by go_cell) hB2
  have HW3 := Lib.hid (HW2.out.trans (hB2.mono HW2.out.size))
  have HA2 := Lib.hid (And.intro (Rd.below (Rd.alloc HA1.out.1 _) hB2) (Rd.below (Rd.alloc HA1.out.2 _) hB2))
  have HA3 := Lib.hid (And.intro ha2 hb2)
  have hz2 : w1.heap.size < w2.heap.size := by have := hB2.size; simp at this; omega
  have r0 := cell_alloc m0 (.cells #[.slice A2 la.length c2'] 24)
  clear hr ha2 hb2 hB2 k0 k1 k2 q0 q1 q2 HA1 HW1 HW2 hz1
  go_wp2_with fail
  refine (same_eq (.slice A1 la.length c1') (.slice A2 la.length c2') la _ (Rd.alloc HA2.out.1 _) (Rd.alloc HA3.out.1 _) HLEN.out.1).mono ?_
  rintro e w3 ⟨rfl, hB3⟩
  have HA4 := Lib.hid (And.intro (Rd.below (Rd.alloc HA2.out.2 _) hB3) (Rd.below (Rd.alloc HA3.out.2 _) hB3))
  have HW4 := Lib.hid ((HW3.out.alloc HW3.out.size _).trans (hB3.mono (by have := HW3.out.size; simp; omega)))
  clear hB3 HA2 HA3 HW3 m0 r0 hz2
  go_wp2_with fail
  refine (lots_eq (.slice B1 lb.length d1) (.slice B2 lb.length d2) lb _ HA4.out.1 HA4.out.2 HLEN.out.2).mono ?_
  rintro e w4 ⟨rfl, hB4⟩
  have HW5 := Lib.hid (HW4.out.trans (hB4.mono HW4.out.size))
  clear hB4 HA4 HW4
  go_wp2
  go_ret
  exact ⟨rfl, HW5.out⟩
set_option maxRecDepth 100000 in
set_option maxHeartbeats 2000000 in
theorem law_redeems (A : Option Addr) (cap : Nat) (l : List Lot) (nm hl : ByteArray) (n : Int) (w : World) (h : LotsAt w (.slice A l.length cap) l) :
    Calls Try.prog 3 #[.agg #[.slice A l.length cap], .agg #[.string nm, .string hl], .int .i64 n] w fun e w' => e = .returned (.bool true) ∧ Below w.heap.size w w' := by
  obtain ⟨w0, hw0, hb0, hs0, c0, c1, c2⟩ := boxed_two w A l.length cap nm hl
  have HB0 := Lib.hid hb0
  have HR := Lib.hid (redeems_any A cap l nm hl n w0 (h.below hb0))
  obtain ⟨N, hN⟩ : ∃ N, N = l.length := ⟨_, rfl⟩
  rw [← hN] at hw0 HR c0 ⊢
  clear h hb0 hN hs0
  go_enter Try.func3, Try.ntmps3
  go_wp2_with fail
  rw [← hw0]
  refine HR.out.mono ?_
  rintro e w1 ⟨rfl, hB1⟩
  have HW1 := Lib.hid (HB0.out.trans (hB1.mono HB0.out.size))
  clear hB1 c0 c1 c2 hw0
  go_wp2_with fail
  refine (awake_any w1).mono ?_
  rintro e w2 ⟨rfl, hB2⟩
  have HW2 := Lib.hid (HW1.out.trans (hB2.mono HW1.out.size))
  clear hB2
  go_wp2
  go_ret
  exact ⟨rfl, HW2.out⟩
end Go.Proofs.Ythhmpdjjfoplgaa
