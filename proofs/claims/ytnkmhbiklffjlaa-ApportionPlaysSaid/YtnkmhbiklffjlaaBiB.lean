/- fundadminref01.canonical with any sign: walked. -/
import Derived.Test.YtnkmhbiklffjlaaBiA
import Derived.Test.YtnkmhbiklffjlaaBigH
set_option linter.unusedVariables false
set_option linter.unusedSimpArgs false
namespace Go.Proofs.Ytnkmhbiklffjlaa
open Go.RowKit Big

/-- a whole array read under a guard that holds, as a step of such a region -/
theorem wpQuiet_load_guard {P : Program} {ops : Array Oper} {w : World} {Q : Act → Prop} {a : Act} {op : Oper} {rest : List Oper} (hgd : Region.wanted op (yielded ops a.tmps) = true) (ty : TypeId) (x : Operand) (ho : op.op = .load ty x)
    (b o : Nat) (hx : a.eval x = .pointer (some ⟨b, o, none⟩)) (cs : List Value) (d : TypeDesc) (hc : w.rangeAt b o cs)
    (hu : P.underlying ty = some d) (hd : d.isRow = true) (hi : (P.info? ty).map (·.size) = some cs.length) (h : wpQuiet P ops (fun w' => ∃ p : GB, w' = gw w p.d p.os) Q rest (a.put op.dst (.agg cs.toArray))) :
    wpQuiet P ops (fun w' => ∃ p : GB, w' = gw w p.d p.os) Q (op :: rest) a := by
  refine wpQuiet_step (fun K hK => ?_)
  rw [if_pos hgd]
  refine ⟨.agg cs.toArray, fun W hW => ?_, hK _ h⟩
  obtain ⟨p, rfl⟩ := hW
  unfold Oper.quietAt execOp
  simp only [ho, hx, Instr.loadAt, Instr.sureAddr, Sem.run_bind, Sem.run_pure, Result.andThen_ok, run_loadVar_mid (gw w p.d p.os) b o ty cs d (ranges_up hc (below_gw w p.d p.os)) hu hd hi]
  exact ⟨rfl, rfl⟩
theorem wpQuiet_build {P : Program} {ops : Array Oper} {C : World → Prop} {Q : Act → Prop} {a : Act} {op : Oper} {rest : List Oper} (hgd : op.guard = none) (ty : TypeId) (xs : Array (Nat × Operand)) (ho : op.op = .build ty xs)
    (vs : List (Nat × Value)) (hx : xs.toList.map (fun p => (p.1, a.eval p.2)) = vs) (Z : Array Value) (hb : P.built ty vs = some Z) (h : wpQuiet P ops C Q rest (a.put op.dst (.agg Z))) : wpQuiet P ops C Q (op :: rest) a := by
  refine wpQuiet_step (fun K hK => ?_)
  rw [if_pos (by simp [Region.wanted, hgd])]
  refine ⟨.agg Z, fun W hW => ?_, hK _ h⟩
  unfold Oper.quietAt execOp
  have hr := run_build (P := P) W ty vs.toArray Z (by simpa using hb)
  have hx2 : xs.map (fun p => (p.1, a.eval p.2)) = vs.toArray := by rw [← hx]; apply Array.toList_inj.1; simp
  simp [ho, hx2, hr, Oper.quietUpon]

set_option maxRecDepth 100000 in
set_option maxHeartbeats 2000000 in
theorem canon_neg (v : Nat) (n : Bool) (w : World) (hv : v < BB ^ 32) (hn : n = !decide (v = 0)) :
    Calls Try.prog 47 #[.bool true, mV v] w fun e w' => e = .returned (iV n v) ∧ Below w.heap.size w w' := by
  obtain ⟨z, hz⟩ : ∃ z, z = decide (v = 0) := ⟨_, rfl⟩
  have hnz : n = !z := by rw [hz, hn]
  have HZ := Lib.hid (fun W => zero_is v z W hv hz)
  obtain ⟨cs, hcs⟩ : ∃ cs, cs = lv 32 v := ⟨_, rfl⟩
  have hl : cs.length = 32 := by rw [hcs, lv_len]
  have HSZ := Lib.hid (show (Try.prog.info? 49).map (·.size) = some cs.length by rw [hl]; exact Try.infoM)
  have HU := Lib.hid Try.underlying49
  have HONE := Lib.hid (show ∀ u ∈ Value.bool n :: cs, u.oneCell' = true by rw [hcs]; exact int_one n v)
  have HL := Lib.hid hl
  have HZ2 := Lib.hid (fun W => show Calls Try.prog 52 #[.agg cs.toArray] W (fun e w' => e = .returned (.bool z) ∧ Below W.heap.size W w') by rw [hcs]; exact HZ.out W)
  unfold mV iV
  rw [← hcs]
  have hbase := range_new w cs 49
  clear hcs hl hv hz hn
  go_enter Try.func47, Try.ntmps47
  go_upto_region 1 with fail
  obtain ⟨w0, hw0⟩ : ∃ w0, w0 = (w.alloc (.cells cs.toArray 49)).alloc (.cells (Value.bool false :: lv 32 0).toArray 51) := ⟨_, rfl⟩
  have HR := Lib.hid (show w0.rangeAt w.heap.size 0 cs by rw [hw0]; exact fun j v hv => World.rangeAt_alloc hbase _ j v hv)
  have HT := Lib.hid (show w0.there (w.heap.size + 1) 0 33 by rw [hw0]; have := there33 (w.alloc (.cells cs.toArray 49)) 51; rwa [World.size_alloc] at this)
  have HW := Lib.hid (show Below w.heap.size w w0 by rw [hw0]; exact ((Below.refl w.heap.size w).alloc (Nat.le_refl _) (.cells cs.toArray 49)).alloc (by simp) (.cells (Value.bool false :: lv 32 0).toArray 51))
  have hsz0 : w0.heap.size = w.heap.size + 1 + 1 := by rw [hw0]; simp
  rw [lv33_zero] at hw0
  rw [← hw0]
  clear hw0 hbase
  go_cut [5] from 5 to 12 (fun p5 wx => Below w.heap.size w wx ∧ wx.rangeAt (w.heap.size + 1) 0 (.bool n :: cs))
  case first =>
    refine wp_region_below_tail 8 (by kernel_rfl) (by kernel_rfl) ?_
    simp only [List.take_succ_cons, List.take_zero, List.drop_succ_cons, List.drop_zero]
    iterate 2 go_big_quiet_step (fail)
    refine wpQuiet_load_guard (by rfl) _ _ rfl w.heap.size 0 rfl cs _ HR.out HU.out rfl HSZ.out ?_
    simp only [Act.put, List.setIfInBounds_toArray, List.set_cons_zero, List.set_cons_succ]
    go_big_quiet_step ((go_at_call 52; exact Calls.below_of (HZ2.out _)))
    iterate 2 go_big_quiet_step (fail)
    refine wpQuiet_load_mid rfl _ _ rfl w.heap.size 0 rfl cs _ HR.out HU.out rfl HSZ.out ?_
    simp only [Act.put, List.setIfInBounds_toArray, List.set_cons_zero, List.set_cons_succ]
    try rw [← hnz]
    refine wpQuiet_build rfl _ _ rfl _ rfl _ (built_int n cs HL.out) ?_
    simp only [Act.put, List.setIfInBounds_toArray, List.set_cons_zero, List.set_cons_succ]
    refine wpQuiet_nil ?_
    intro w' hw'
    obtain ⟨p, rfl⟩ := hw'
    have hT2 := there_up HT.out (below_gw w0 p.d p.os) (by omega)
    have hB2 := HW.out.trans ((below_gw w0 p.d p.os).mono HW.out.size)
    obtain ⟨w2, hw2⟩ : ∃ w2, w2 = gw w0 p.d p.os := ⟨_, rfl⟩
    rw [← hw2] at hT2 hB2 ⊢
    refine wpList_store_mid rfl _ _ _ rfl (w.heap.size + 1) 0 _ rfl rfl ?ht ?hi ?h1 ?_
    case ht => intro j hj; exact hT2 j (by simpa [HL.out] using hj)
    case hi => rw [show (Value.bool n :: cs).toArray.size = 33 by simp [HL.out]]; exact Try.infoI
    case h1 => exact all_oneCell_toArray HONE.out
    go_wp2_with fail
    try simp only [Act.put, List.setIfInBounds_toArray, List.set_cons_zero, List.set_cons_succ]
    go_meet
    refine ⟨below_sets (by omega) _ _ _ hB2, ?_⟩
    exact World.rangeAt_setCells_same _ _ _ _ (fun j hj => hT2 j (by simpa [HL.out] using hj))
  case rest =>
    obtain ⟨hb, hrg⟩ := hcut
    have hld := run_loadVar_mid (P := Try.prog) wc (w.heap.size + 1) 0 51 (.bool n :: cs) _ hrg Try.underlying51 rfl (by rw [show (Value.bool n :: cs).length = 33 by simp [HL.out]]; exact Try.infoI)
    go_wp2_with fail
    refine bodyPost_ret (v := .agg (Value.bool n :: cs).toArray) (by simp [results, Try.results47, asAddr, hld]) rfl ?_
    exact ⟨rfl, hb⟩
/-- the sign that canonical leaves -/
def cs1 (neg : Bool) (v : Nat) : Bool := neg && !decide (v = 0)
theorem canon_is (neg : Bool) (v : Nat) (w : World) (hv : v < BB ^ 32) :
    Calls Try.prog 47 #[.bool neg, mV v] w fun e w' => e = .returned (iV (cs1 neg v) v) ∧ Below w.heap.size w w' := by
  cases neg with
  | false => exact canon_pos v w hv
  | true => exact canon_neg v _ w hv (by simp [cs1])
/-- Mul, whatever the signs -/
theorem mul_all (na nb : Bool) (a b : Nat) (w : World) (ha : a < BB ^ 32) (hb : b < BB ^ 32) (hab : a * b < BB ^ 32) :
    Calls Try.prog 32 #[iV na a, iV nb b] w fun e w' => e = .returned (.tuple #[iV (cs1 (na != nb) (a * b)) (a * b), .int .i64 0]) ∧ Below w.heap.size w w' :=
  mul_is na nb a b _ _ _ w ha hb hab rfl fun W => canon_is _ _ W hab
/-- ToInt of a number in canonical form -/
theorem toint_all (neg : Bool) (v : Nat) (w : World) (hv : v < 9223372036854775808) (hn : cs1 neg v = neg) :
    Calls Try.prog 38 #[iV neg v] w fun e w' => e = .returned (.tuple #[.int .i64 (if neg = true then -(v : Int) else (v : Int)), .bool true]) ∧ Below w.heap.size w w' :=
  toint_is neg v w hv fun W => by
    have := canon_is neg v W (Nat.lt_of_lt_of_le (two_lt (by omega)) (Nat.pow_le_pow_right BB_pos (by omega)))
    rwa [hn] at this
end Go.Proofs.Ytnkmhbiklffjlaa
