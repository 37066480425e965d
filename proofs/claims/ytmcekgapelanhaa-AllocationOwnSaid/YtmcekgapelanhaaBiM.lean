import Derived.Test.YtmcekgapelanhaaBkD
set_option linter.unusedVariables false
set_option linter.unusedSimpArgs false
namespace Go.Proofs.Ytmcekgapelanhaa
open Go.RowKit Big
def zI (n : Bool) (v : Nat) : Int := if n = true then -(v : Int) else (v : Int)
theorem from_op {c : List Value} {z : Int} {n : Bool} {v : Nat} (h : c = .bool n :: lv 32 v) (hn : n = decide (z < 0)) (hv : v = z.natAbs) (h1 : -9223372036854775808 ≤ z) (h2 : z ≤ 9223372036854775807) (W : World) :
    Calls Try.prog 32 #[.int .i64 z] W fun e w' => e = .returned (.agg c.toArray) ∧ Below W.heap.size W w' := by
  subst h hn hv; exact from_is z W h1 h2
theorem sign_op {c : List Value} {n : Bool} {v : Nat} {s : Int} (h : c = .bool n :: lv 32 v) (hs : s = sgnI n v) (hv : v < BB ^ 32) (W : World) :
    Calls Try.prog 56 #[.agg c.toArray] W fun e w' => e = .returned (.int .i64 s) ∧ Below W.heap.size W w' := by
  subst h hs; exact sign_is n v W hv
set_option maxRecDepth 100000 in
set_option maxHeartbeats 4000000 in
theorem whole_is (z : Int) (n : Bool) (v : Nat) (w : World) (hn : n = decide (z < 0)) (hv : v = z.natAbs) (h1 : -9223372036854775808 ≤ z) (h2 : z ≤ 9223372036854775807) :
    Calls Try.prog 13 #[.int .i64 z] w fun e w' => e = .returned (rV n v false 1) ∧ Below w.heap.size w w' := by
  obtain ⟨cn, V_cn⟩ : ∃ c : List Value, Hid (c = .bool n :: lv 32 v) := ⟨_, Lib.hid rfl⟩
  obtain ⟨co, V_co⟩ : ∃ c : List Value, Hid (c = .bool false :: lv 32 1) := ⟨_, Lib.hid rfl⟩
  obtain ⟨cr, V_cr⟩ : ∃ c : List Value, Hid (c = rat n v false 1) := ⟨_, Lib.hid rfl⟩
  obtain ⟨cz, V_cz⟩ : ∃ c : List Value, Hid (c = rat false 0 false 0) := ⟨_, Lib.hid rfl⟩
  rw [valR V_cr.out]
  have H1 := Lib.hid (from_op V_cn.out hn hv h1 h2)
  have H2 := Lib.hid (from_op (z := 1) V_co.out rfl rfl (by decide) (by decide))
  clear hn hv h1 h2
  obtain ⟨B0, hB0⟩ : ∃ B, B = w.heap.size := ⟨_, rfl⟩
  obtain ⟨w0, hw0⟩ : ∃ w0, w0 = (w.alloc (.cells Try.zeroCells49 49)) := ⟨_, rfl⟩
  have AB0 := Lib.hid (show At w0 B0 0 cz by rw [hw0]; exact (show At (w.alloc (.cells Try.zeroCells49 49)) B0 0 cz from (by rw [Try.zeroR, V_cz.out]; exact At.fresh _ (rat false 0 false 0) _ (by simp [hB0]))))
  have FR := Lib.hid (show Fr B0 w w0 by rw [hw0, hB0]; exact (Fr.start w).alloc _)
  have FR0 := Lib.hid FR.out.le
  have hZB0 : B0 ≤ B0 := Nat.le_refl _
  have HB0 := Lib.hid hB0
  go_enter Try.func13, Try.ntmps13
  go_upto_region 1 with fail
  rw [← hw0, ← hB0]
  clear hw0 hB0
  refine wp_flow [⟨false, 0, 2, 4, B0, 0, 49, 6, cr, 0, cr, []⟩] [(3, .int .i64 z), (4, .agg cn.toArray), (5, .agg co.toArray), (6, .agg cr.toArray)] _ (by simp only [List.foldl_cons, List.foldl_nil, Act.put, zz1, zz2, zz3]; rfl) (by kernel_rfl) (by kernel_rfl) ?_ ?_ ?_ ?_ ?_ ?_ ?_
  · intro W' hW'
    refine flowX_op ?_ ?_; (go_big_quiet_step (fail); (try simp only [Act.put, zz1, zz2, zz3]); exact wpQuiet_nil rfl)
    refine flowX_op ?_ ?_; (go_big_quiet_step ((go_at_call 32; exact Calls.below_of (H1.out _))); (try simp only [Act.put, zz1, zz2, zz3]); exact wpQuiet_nil rfl)
    refine flowX_op ?_ ?_; (go_big_quiet_step ((go_at_call 32; exact Calls.below_of (H2.out _))); (try simp only [Act.put, zz1, zz2, zz3]); exact wpQuiet_nil rfl)
    refine flowX_op (wpQuiet_build rfl _ _ rfl _ rfl _ (built_r V_cn.out V_co.out V_cr.out) (wpQuiet_nil (by simp only [Act.put, zz1, zz2, zz3]))) ?_
    refine flowX_skip (by rfl) ?_
    exact flowX_nil
  · intro W' hK'
    first | (refine flowX_op ?_ ?_; (go_big_quiet_step (fail); (try simp only [Act.put, zz1, zz2, zz3]); exact wpQuiet_nil rfl)) | (refine flowX_skip (by kernel_rfl) ?_)
    iterate 2 (refine flowX_skip (by kernel_rfl) ?_)
    refine flowX_op (wpQuiet_build rfl _ _ rfl _ rfl _ (built_r V_cn.out V_co.out V_cr.out) (wpQuiet_nil (by simp only [Act.put, zz1, zz2, zz3]))) ?_
    refine flowX_skip (by kernel_rfl) ?_
    exact flowX_nil
  · exact forPl _ _ (fun h => Bool.noConfusion h) (forPl0)
  · exact forPl _ _ (fun _ => ⟨AB0.out.lt, rfl, At.room AB0.out (sizeR V_cz.out) (sizeR V_cr.out)⟩) (forPl0)
  · intro q hq r hr hqn hrn e
    simp only [List.mem_cons, List.not_mem_nil, or_false] at hq hr
    rcases hq with rfl <;> rcases hr with rfl <;> first | rfl | (exact Bool.noConfusion hqn) | (exact Bool.noConfusion hrn) | (exfalso; simp only at e; omega)
  · exact forPl _ _ (stWhole rfl (sizeR V_cr.out) (oneR V_cr.out) (fun _ => rfl)) (forPl0)
  intro β wx1 E
  replace FR := Lib.hid (FR.out.flow E (forPl _ _ (fun _ => (by show B0 ≤ B0; omega)) (forPl0)))
  replace AB0 := Lib.hid (show At wx1 B0 0 cr from E.atOld (List.mem_cons_self ..) rfl AB0.out.lt)
  simp only [newPuts, List.foldl_cons, List.foldl_nil, if_true, Bool.false_eq_true, if_false, Act.put, zz1, zz2, zz3]
  replace FR0 := Lib.hid FR.out.le
  clear E
  go_wp2_with fail
  have hld := AB0.out.read (P := Try.prog) Try.underlying49 rfl (sizeR V_cr.out)
  refine bodyPost_ret (v := .agg cr.toArray) (by simp [results, Try.results13, asAddr, hld]) rfl ?_
  exact ⟨rfl, by rw [HB0.out] at FR; exact FR.out.below⟩
end Go.Proofs.Ytmcekgapelanhaa
set_option linter.unusedVariables false
set_option linter.unusedSimpArgs false
namespace Go.Proofs.Ytmcekgapelanhaa
open Go.RowKit Big
theorem add_same (na nb : Bool) (a b : Nat) (h : cs1 na a = cs1 nb b) : decide (zI na a + zI nb b < 0) = cs1 (cs1 na a) (a + b) ∧ (zI na a + zI nb b).natAbs = a + b := by
  have h1 : na = true → a ≠ 0 → cs1 na a = true := fun h1 h2 => by simp [cs1, h1, h2]
  unfold zI
  by_cases ha : a = 0 <;> by_cases hb : b = 0 <;> cases na <;> cases nb <;> simp [cs1, ha, hb] at h ⊢ <;> omega
theorem add_less (na nb : Bool) (a b : Nat) (h : cs1 na a ≠ cs1 nb b) (hl : a < b) : decide (zI na a + zI nb b < 0) = cs1 (cs1 nb b) (b - a) ∧ (zI na a + zI nb b).natAbs = b - a := by
  unfold zI
  have hb : b - a ≠ 0 := by omega
  by_cases ha : a = 0 <;> by_cases hb2 : b = 0 <;> cases na <;> cases nb <;> simp [cs1, ha, hb, hb2] at h hb ⊢ <;> omega
theorem add_more (na nb : Bool) (a b : Nat) (h : cs1 na a ≠ cs1 nb b) (hl : ¬ a < b) : decide (zI na a + zI nb b < 0) = cs1 (cs1 na a) (a - b) ∧ (zI na a + zI nb b).natAbs = a - b := by
  unfold zI
  by_cases ha : a = 0
  · have hb0 : b = 0 := by omega
    exact absurd (by simp [cs1, ha, hb0]) h
  · have e1 : cs1 na a = na := by simp [cs1, ha]
    rw [e1] at h ⊢
    by_cases hb2 : b = 0
    · subst hb2
      cases na <;> cases nb <;> simp [cs1, ha] at h ⊢ <;> omega
    · have e2 : cs1 nb b = nb := by simp [cs1, hb2]
      rw [e2] at h
      by_cases hab : a = b
      · subst hab
        cases na <;> cases nb <;> simp [cs1] at h ⊢ <;> omega
      · have h3 : a - b ≠ 0 := by omega
        have e3 : cs1 na (a - b) = na := by simp only [cs1, h3, decide_false, Bool.not_false, Bool.and_true]
        rw [e3]
        cases na <;> cases nb <;> simp at h ⊢ <;> omega
end Go.Proofs.Ytmcekgapelanhaa
