/- fundadminref01.divide, walked: two limbs at most; a quotient of nothing. -/
import Derived.Test.YtnkmhbiklffjlaaBiB
set_option linter.unusedVariables false
set_option linter.unusedSimpArgs false
namespace Go.Proofs.Ytnkmhbiklffjlaa
open Go.RowKit Big

/-- a whole array read under a guard that holds -/
theorem wpList_load_guard {P : Program} {ops : Array Oper} {rest : List Oper} {op : Oper} {a : Act} {w : World} {Q : Exit → Act → World → Prop} (hgd : Region.wanted op (yielded ops a.tmps) = true) (ty : TypeId) (x : Operand) (ho : op.op = .load ty x)
    (b o : Nat) (hx : a.eval x = .pointer (some ⟨b, o, none⟩)) (cs : List Value) (d : TypeDesc) (hc : w.rangeAt b o cs)
    (hu : P.underlying ty = some d) (hd : d.isRow = true) (hi : (P.info? ty).map (·.size) = some cs.length)
    (h : wpList P ops Q rest (a.put op.dst (.agg cs.toArray)) w) : wpList P ops Q (op :: rest) a w := by
  unfold wpList
  rw [if_pos hgd]
  exact .inl (wp_load_mid ty x ho b o hx cs d hc hu hd hi h)
theorem box_four (w : World) (a b : Nat) (t : TypeId) : ∃ w0 : World, w0 = (((w.alloc (.cells (lv 32 a).toArray t)).alloc (.cells (lv 32 b).toArray t)).alloc (.cells (lv 32 0).toArray t)).alloc (.cells (lv 32 0).toArray t) ∧ Below w.heap.size w w0 ∧ w0.heap.size = w.heap.size + 1 + 1 + 1 + 1 ∧
    MagAt w0 w.heap.size 0 32 a ∧ MagAt w0 (w.heap.size + 1) 0 32 b ∧ MagOwn w0 (w.heap.size + 1 + 1) 0 32 0 ∧ MagOwn w0 (w.heap.size + 1 + 1 + 1) 0 32 0 := by
  obtain ⟨w1, h1, hb1, hs1, hA, hB⟩ := box_two w a b t
  obtain ⟨w2, h2⟩ : ∃ w2, w2 = w1.alloc (.cells (lv 32 0).toArray t) := ⟨_, rfl⟩
  have hs2 : w2.heap.size = w1.heap.size + 1 := by rw [h2]; simp
  have hb2 : Below w1.heap.size w1 w2 := by rw [h2]; exact (Below.refl _ _).alloc (Nat.le_refl _) _
  have hb3 : Below w2.heap.size w2 (w2.alloc (.cells (lv 32 0).toArray t)) := (Below.refl _ _).alloc (Nat.le_refl _) _
  have hR : MagOwn w2 w1.heap.size 0 32 0 := by rw [h2]; exact MagOwn.new w1 32 0 t
  have hQ := MagOwn.new w2 32 0 t
  rw [hs2, hs1] at hQ
  have hR3 := hR.up hb3 (by omega)
  rw [hs1] at hR3
  have hb13 := hb2.trans (hb3.mono hb2.size)
  refine ⟨_, rfl, ?_, ?_, ?_, ?_, ?_, ?_⟩
  all_goals rw [← h1, ← h2]
  · exact hb1.trans (hb13.mono hb1.size)
  · rw [World.size_alloc, hs2, hs1]
  · exact hA.up hb13
  · exact hB.up hb13
  · exact hR3
  · exact hQ

theorem there_sets {b o n : Nat} : ∀ {w : World} (h : w.there b o n) (vs : List Value) {b2 : Nat} (o2 : Nat) (hb : b2 ≠ b), (w.setCells b2 o2 vs).there b o n
  | _, h, [], _, _, _ => h
  | w, h, v :: vs, b2, o2, hb => there_sets (w := w.setCell ⟨b2, o2, none⟩ v) (there_set h _ _ hb) vs (o2 + 1) hb
theorem ranges_sets {b o : Nat} {cs : List Value} : ∀ {w : World} (h : w.rangeAt b o cs) (vs : List Value) (b2 o2 : Nat) (hb : b2 ≠ b), (w.setCells b2 o2 vs).rangeAt b o cs
  | _, h, [], _, _, _ => h
  | w, h, v :: vs, b2, o2, hb => ranges_sets (w := w.setCell ⟨b2, o2, none⟩ v) (fun j x hx => cell_other (h j x hx) _ _ hb) vs b2 (o2 + 1) hb

set_option maxRecDepth 100000 in
set_option maxHeartbeats 4000000 in
theorem divide_small (a b : Nat) (w : World) (ha : a < BB ^ 2) (hb : b < BB ^ 2) (h0 : b ≠ 0) :
    Calls Try.prog 53 #[mV a, mV b] w fun e w' => e = .returned (.tuple #[mV (a / b), mV (a % b)]) ∧ Below w.heap.size w w' := by
  have up : BB ^ 2 ≤ BB ^ 32 := Nat.pow_le_pow_right BB_pos (by omega)
  obtain ⟨N, hN32, hN⟩ := is_limbs_exists a 32 (Nat.lt_of_lt_of_le ha up)
  obtain ⟨K, hK32, hK⟩ := is_limbs_exists b 32 (Nat.lt_of_lt_of_le hb up)
  have hN2 : (N : Int) ≤ 2 := by have := limbs_two ha hN; omega
  have hK2 : (K : Int) ≤ 2 := by have := limbs_two hb hK; omega
  obtain ⟨q, hq⟩ : ∃ q, q = a / b := ⟨_, rfl⟩
  obtain ⟨r, hr⟩ : ∃ r, r = a % b := ⟨_, rfl⟩
  have hq2 : q < BB ^ 2 := by rw [hq]; exact Nat.lt_of_le_of_lt (Nat.div_le_self _ _) ha
  have hr2 : r < BB ^ 2 := by rw [hr]; exact Nat.lt_of_le_of_lt (Nat.mod_le _ _) ha
  obtain ⟨w0, hw0, hb0, hs0, hA, hB, hQ, hR⟩ := box_four w a b 49
  have HLA := Lib.hid (fun W => limbs_is a N W (Nat.lt_of_lt_of_le ha up) hN)
  have HLB := Lib.hid (fun W => limbs_is b K W (Nat.lt_of_lt_of_le hb up) hK)
  have HWA := Lib.hid (fun W => low_is a W ha)
  have HWB := Lib.hid (fun W => low_is b W hb)
  have HSQ := Lib.hid (fun W => small_is q W hq2)
  have HSR := Lib.hid (fun W => small_is r W hr2)
  have HW := Lib.hid hb0
  rw [lv_zero] at hw0
  rw [← hq, ← hr]
  unfold mV
  obtain ⟨ca, hca⟩ : ∃ ca, ca = lv 32 a := ⟨_, rfl⟩
  obtain ⟨cb, hcb⟩ : ∃ cb, cb = lv 32 b := ⟨_, rfl⟩
  obtain ⟨cq, hcq⟩ : ∃ cq, cq = lv 32 q := ⟨_, rfl⟩
  obtain ⟨cr, hcr⟩ : ∃ cr, cr = lv 32 r := ⟨_, rfl⟩
  have HLX := Lib.hid (fun W (cs : List Value) (n : Nat) (h : (cs = ca ∧ n = N) ∨ (cs = cb ∧ n = K)) => show Calls Try.prog 46 #[.agg cs.toArray] W (fun e w' => e = .returned (.int .i64 n) ∧ Below W.heap.size W w') by
    rcases h with ⟨h1, h2⟩ | ⟨h1, h2⟩
    · rw [h1, h2, hca]; exact HLA.out W
    · rw [h1, h2, hcb]; exact HLB.out W)
  have HWX := Lib.hid (fun W (cs : List Value) (n : Nat) (h : (cs = ca ∧ n = a) ∨ (cs = cb ∧ n = b)) => show Calls Try.prog 65 #[.agg cs.toArray] W (fun e w' => e = .returned (.int .u64 n) ∧ Below W.heap.size W w') by
    rcases h with ⟨h1, h2⟩ | ⟨h1, h2⟩
    · rw [h1, h2, hca]; exact HWA.out W
    · rw [h1, h2, hcb]; exact HWB.out W)
  have HSX := Lib.hid (fun W (cs : List Value) (n : Nat) (h : (n = q ∧ cs = cq) ∨ (n = r ∧ cs = cr)) => show Calls Try.prog 64 #[.int .u64 n] W (fun e w' => e = .returned (.agg cs.toArray) ∧ Below W.heap.size W w') by
    rcases h with ⟨h1, h2⟩ | ⟨h1, h2⟩
    · rw [h1, h2, hcq]; exact HSQ.out W
    · rw [h1, h2, hcr]; exact HSR.out W)
  have lca : ca.length = 32 := by rw [hca, lv_len]
  have lcb : cb.length = 32 := by rw [hcb, lv_len]
  have lcq : cq.length = 32 := by rw [hcq, lv_len]
  have lcr : cr.length = 32 := by rw [hcr, lv_len]
  have HRA := Lib.hid (show w0.rangeAt w.heap.size 0 ca by rw [hca]; exact hA)
  have HRB := Lib.hid (show w0.rangeAt (w.heap.size + 1) 0 cb by rw [hcb]; exact hB)
  have HQ := Lib.hid hQ.there
  have HR := Lib.hid hR.there
  have sz : ∀ cs : List Value, cs.length = 32 → (Try.prog.info? 49).map (·.size) = some cs.length := fun cs h => by rw [h]; exact Try.infoM
  have HSZ := Lib.hid sz
  have HLEN := Lib.hid (And.intro lca (And.intro lcb (And.intro lcq lcr)))
  have HONE := Lib.hid (And.intro (all_oneCell_toArray (lv_one 32 q)) (all_oneCell_toArray (lv_one 32 r)))
  rw [← hcq, ← hcr] at HONE
  have HU := Lib.hid Try.underlying49
  rw [← hca, ← hcb] at hw0 ⊢
  rw [← hcq, ← hcr]
  have eq1 : (a : Int) / (b : Int) = (q : Int) := by rw [hq]; rfl
  have eq2 : (a : Int) % (b : Int) = (r : Int) := by rw [hr]; rfl
  have wq : IntKind.u64.wrap (q : Int) = (q : Int) := by unfold BB at hq2; rw [IntKind.wrap_u64]; omega
  have wr : IntKind.u64.wrap (r : Int) = (r : Int) := by unfold BB at hr2; rw [IntKind.wrap_u64]; omega
  have HAB := Lib.hid (And.intro ha hb)
  obtain ⟨va, hva⟩ : ∃ va, va = ca.toArray := ⟨_, rfl⟩
  obtain ⟨vb, hvb⟩ : ∃ vb, vb = cb.toArray := ⟨_, rfl⟩
  rw [← hva, ← hvb] at hw0 ⊢
  clear hN hK hN32 hK32 hq2 hr2 hb0 hA hB hQ hR hca hcb hcq hcr lca lcb lcq lcr sz ha hb up hq hr hva hvb
  go_enter Try.func53, Try.ntmps53
  go_upto_region 1 with fail
  rw [← hw0]
  obtain ⟨B0, hB0⟩ : ∃ B0, B0 = w.heap.size := ⟨_, rfl⟩
  have HBE := Lib.hid hB0
  rw [← hB0] at HRA HRB HQ HR hs0 ⊢
  clear hw0 hB0
  go_wp2_with (first
    | (refine wpList_load_mid rfl _ _ rfl B0 0 rfl ca _ HRA.out HU.out rfl (HSZ.out _ HLEN.out.1) ?_))
  refine (HLX.out _ _ _ (.inl ⟨rfl, rfl⟩)).mono ?_
  rintro e w1 ⟨rfl, hb1⟩
  have HRA1 := Lib.hid (ranges_up HRA.out hb1)
  have HRB1 := Lib.hid (ranges_up HRB.out hb1)
  have HB1 := Lib.hid hb1
  clear hb1
  go_wp2_with (first
    | (refine wpList_load_guard (by rfl) _ _ rfl (B0 + 1) 0 rfl cb _ HRB1.out HU.out rfl (HSZ.out _ HLEN.out.2.1) ?_))
  refine (HLX.out _ _ _ (.inr ⟨rfl, rfl⟩)).mono ?_
  rintro e w2 ⟨rfl, hb2⟩
  have hb12 := HB1.out.trans (hb2.mono HB1.out.size)
  have hs2 : B0 + 1 + 1 + 1 + 1 ≤ w2.heap.size := by have := hb12.size; omega
  have ra := ranges_up HRA.out hb12
  have rb := ranges_up HRB.out hb12
  have HQ2 := Lib.hid (there_up HQ.out hb12 (by omega))
  have HR2 := Lib.hid (there_up HR.out hb12 (by omega))
  have HW2 := Lib.hid (HW.out.trans (hb12.mono HW.out.size))
  have sa := HSZ.out _ HLEN.out.1
  have sb := HSZ.out _ HLEN.out.2.1
  have u49 := HU.out
  clear hb2 hb12
  go_upto_region 2 with fail
  refine wp_region_below_tail 12 (by kernel_rfl) (by kernel_rfl) ?_
  simp only [List.take_succ_cons, List.take_zero, List.drop_succ_cons, List.drop_zero]
  repeat (first
    | (refine wpQuiet_load_mid rfl _ _ rfl B0 0 rfl ca _ ra u49 rfl sa ?_; try simp only [Act.put, List.setIfInBounds_toArray, List.set_cons_zero, List.set_cons_succ])
    | (refine wpQuiet_load_mid rfl _ _ rfl (B0 + 1) 0 rfl cb _ rb u49 rfl sb ?_; try simp only [Act.put, List.setIfInBounds_toArray, List.set_cons_zero, List.set_cons_succ])
    | go_big_quiet_step ((go_at_call 65; exact Calls.below_of (HWX.out _ _ _ (by first | exact .inl ⟨rfl, rfl⟩ | exact .inr ⟨rfl, rfl⟩))))
    | go_big_quiet_step ((go_at_call 64; exact Calls.below_of (HSX.out _ _ _ (by first | exact .inl ⟨rfl, rfl⟩ | exact .inr ⟨rfl, rfl⟩)))))
  refine wpQuiet_nil ?_
  intro w' hw'
  obtain ⟨p, rfl⟩ := hw'
  have hbg := below_gw w2 p.d p.os
  obtain ⟨w3, hw3⟩ : ∃ w3, w3 = gw w2 p.d p.os := ⟨_, rfl⟩
  rw [← hw3] at hbg ⊢
  have hq3 := there_up HQ2.out hbg (by omega)
  have hr3 := there_up HR2.out hbg (by omega)
  have HW3 := Lib.hid (HW2.out.trans (hbg.mono HW2.out.size))
  clear hbg hw3 eq1 eq2 wq wr
  refine wpList_store_mid rfl _ _ _ rfl (B0 + 1 + 1) 0 _ rfl rfl ?ht (by rw [List.size_toArray]; exact HSZ.out _ HLEN.out.2.2.1) HONE.out.1 ?_
  case ht => rw [List.size_toArray, HLEN.out.2.2.1]; exact hq3
  simp only [Act.put, List.setIfInBounds_toArray, List.set_cons_zero, List.set_cons_succ]
  have hr4 : (w3.setCells (B0 + 1 + 1) 0 cq).there (B0 + 1 + 1 + 1) 0 32 := there_sets hr3 cq 0 (by omega)
  refine wpList_store_mid rfl _ _ _ rfl (B0 + 1 + 1 + 1) 0 _ rfl rfl ?ht (by rw [List.size_toArray]; exact HSZ.out _ HLEN.out.2.2.2) HONE.out.2 ?_
  case ht => rw [List.size_toArray, HLEN.out.2.2.2]; exact hr4
  simp only [Act.put, List.setIfInBounds_toArray, List.set_cons_zero, List.set_cons_succ]
  have hle2 : w.heap.size ≤ B0 + 1 + 1 := by rw [← HBE.out]; omega
  have hle3 : w.heap.size ≤ B0 + 1 + 1 + 1 := by omega
  have HWE := Lib.hid (below_sets hle3 cr 0 _ (below_sets hle2 cq 0 _ HW3.out))
  have g1 := World.rangeAt_setCells_same w3 (B0 + 1 + 1) 0 cq (by rw [HLEN.out.2.2.1]; exact hq3)
  have g2 := ranges_sets g1 cr (B0 + 1 + 1 + 1) 0 (by omega)
  have g3 := World.rangeAt_setCells_same (w3.setCells (B0 + 1 + 1) 0 cq) (B0 + 1 + 1 + 1) 0 cr (by rw [HLEN.out.2.2.2]; exact hr4)
  try simp only [List.toList_toArray]
  go_wp2_with fail
  have hld1 := run_loadVar_mid (P := Try.prog) _ _ _ _ _ _ g2 Try.underlying49 rfl (HSZ.out _ HLEN.out.2.2.1)
  have hld2 := run_loadVar_mid (P := Try.prog) _ _ _ _ _ _ g3 Try.underlying49 rfl (HSZ.out _ HLEN.out.2.2.2)
  refine bodyPost_ret (v := .tuple #[.agg cq.toArray, .agg cr.toArray]) (by simp [results, Try.results53, asAddr, hld1, hld2]) rfl ?_
  exact ⟨rfl, HWE.out⟩
end Go.Proofs.Ytnkmhbiklffjlaa
