import Derived.Test.YtmcekgapelanhaaAlI
import Derived.Test.YtmcekgapelanhaaQrB
import Derived.BigQuiet
import Derived.Deep.CutRange
set_option linter.unusedVariables false
set_option linter.unusedSimpArgs false
namespace Go.Proofs.Ytmcekgapelanhaa
open Go.RowKit Big
open Al Tok Ap
namespace Al
def kA : Bk := ⟨⟨#[97]⟩, 100, 0, -1, 0⟩
def kB : Bk := ⟨⟨#[98]⟩, 200, 100, 0, 0⟩
def kL : List Bk := [kA, kB]
def sA : Sh := ⟨⟨#[97]⟩, 100, -1, 10, 109⟩
def sB : Sh := ⟨⟨#[98]⟩, 300, 0, 31, 331⟩
theorem k_check : checkB kL = true := by
  refine check_of (by decide) (by decide) ?_ ?_
  · intro b hb
    simp only [kL, List.mem_cons, List.not_mem_nil, or_false] at hb
    rcases hb with rfl | rfl
    · exact ⟨nmAt_name 0, by unfold kA; decide, by unfold kA; decide, by unfold kA; decide, by unfold kA; decide, by unfold kA; decide⟩
    · exact ⟨nmAt_name 1, by unfold kB; decide, by unfold kB; decide, by unfold kB; decide, by unfold kB; decide, by unfold kB; decide⟩
  · intro k b hk
    match k with
    | 0 => simp [kL] at hk; rw [← hk]; rfl
    | 1 => simp [kL] at hk; rw [← hk]; rfl
    | k + 2 => simp [kL] at hk
theorem k_parts : Parts 41 [100, 300] [10, 31] := by
  refine ⟨[1, 0], by decide, List.pairwise_pair.2 (by unfold R; decide), rfl, ?_⟩
  intro i hi
  match i with
  | 0 => rfl
  | 1 => rfl
  | k + 2 => simp at hi; omega
theorem k_alloc {r : Int × List Sh} (h : AllocR 440 kL r) : r = (0, [sA, sB]) := by
  have hc : comm 440 kL = 41 := by decide
  have hs : sumO kL = 400 := by decide
  have hres : ∀ rs, Res (comm 440 kL) (kL.map Bk.op) rs → rs = [10, 31] := by
    intro rs h
    rw [hc] at h
    refine res_unique h ?_
    unfold Res
    rw [if_neg (by decide)]
    exact ⟨[10, 31], k_parts, rfl⟩
  cases h with
  | tot h => exact absurd h (by decide)
  | cap _ h => rw [hs] at h; exact absurd h (by decide)
  | far _ _ h => rw [hc] at h; exact absurd h (by decide)
  | net rs s _ _ _ h hm hn =>
    rw [hres rs h] at hm
    simp only [shL, kL, List.zipWith_cons_cons, List.zipWith_nil_right, List.mem_cons, List.not_mem_nil, or_false] at hm
    rcases hm with rfl | rfl <;> exact absurd hn (by decide)
  | ok rs _ _ _ h _ =>
    rw [hres rs h]; rfl
theorem k_exact : exactR (440, 1) kL = (0, [(437, 4), (1323, 4)]) := by kernel_rfl
theorem k_mk : mkQ 437 4 = some (437, 4) := by kernel_rfl
theorem k_vq : VQ (437, 4) := ⟨by unfold B480; decide, by unfold B480; decide, by decide, by decide⟩
end Al
set_option maxRecDepth 100000 in
set_option maxHeartbeats 8000000 in
theorem known_any (w : World) : Calls Try.prog 10 #[] w fun e w' => e = .returned (.bool true) ∧ Below w.heap.size w w' := by
  have HS := Lib.hid (fun (v : Value) (w : World) (h : BksAt w v kL) => alloc_any 440 kL v w h k_check)
  obtain ⟨ct, V_ct⟩ : ∃ c : List Value, Hid (c = ratZ 440 1) := ⟨_, Lib.hid rfl⟩
  obtain ⟨cs, V_cs⟩ : ∃ c : List Value, Hid (c = sA.cells) := ⟨_, Lib.hid rfl⟩
  obtain ⟨cR, V_cR⟩ : ∃ c : List Value, Hid (c = ratZ 437 4) := ⟨_, Lib.hid rfl⟩
  have HE := Lib.hid (fun (v : Value) (w : World) (h : BksAt w v kL) => exact_any (440, 1) kL v w h k_check (vq_whole (by omega) (by omega)) V_ct.out)
  have HW := Lib.hid (rwholeZ V_ct.out (by omega) (by omega))
  have HO := Lib.hid (mofQ (cR := cR) (x := 437) (y := 4) (d := 4) rfl (by omega) (by rw [k_mk]; exact V_cR.out) (by omega) (by omega) (by omega))
  have HC := Lib.hid (fun W => show Calls Try.prog 20 #[.slice none 0 0] W (fun e w' => e = .returned (.int .i64 210) ∧ Below W.heap.size W w') from acheck_any (.slice none 0 0) [] W (rd_nil W 5))
  obtain ⟨B0, hB0⟩ : ∃ B, B = w.heap.size := ⟨_, rfl⟩
  go_enter Try.func10, Try.ntmps10
  go_upto_region 2 with (refine wpList_buildRows rfl (s := 5) [kA.cells, kB.cells] rfl (by simp [Act.eval, Act.put, kA, kB, Bk.cells]) rfl (by decide) (by decide) (by intro c hc; simp only [List.mem_cons, List.not_mem_nil, or_false] at hc; rcases hc with rfl | rfl <;> rfl) (by decide) Try.underlying26 (by kernel_rfl) (by kernel_rfl) ?_)
  obtain ⟨W1, hW1⟩ : ∃ W, W = w.alloc (.cells (kA.cells ++ kB.cells).toArray 30) := ⟨_, rfl⟩
  have HB1 := Lib.hid (show BksAt W1 (.slice (some ⟨B0, 0, none⟩) 2 2) kL by rw [hW1, hB0]; exact rd_fresh w 5 2 (cellsB kL) _ (by omega) rfl)
  have HF1 := Lib.hid (show Below w.heap.size w W1 by rw [hW1]; exact (Below.refl _ _).alloc (Nat.le_refl _) _)
  have HB0 := Lib.hid hB0
  rw [← hW1, ← hB0]
  clear hW1 hB0
  go_wp2_with (go_at_call 9; refine (HS.out _ _ HB1.out).mono ?_; rintro e w2 ⟨vs, r, hr, rfl, hrd, hb2⟩)
  obtain rfl := k_alloc hr
  obtain ⟨g1, o1, c1, rfl, hcs⟩ := shs_some hrd (by decide)
  have HB2 := Lib.hid (HB1.out.below hb2)
  have HF2 := Lib.hid (HF1.out.trans (hb2.mono HF1.out.size))
  have s0 : w2.rangeAt g1 o1 sA.cells := fun j u hu => by have := hcs 0 sA rfl j u hu; simpa using this
  have HS0 := Lib.hid (show w2.rangeAt g1 o1 cs by rw [V_cs.out]; exact s0)
  have HS1 := Lib.hid (show w2.cell? ⟨g1, o1 + 9, none⟩ = some (.int .i64 331) from hcs 1 sB rfl 4 _ rfl)
  clear hr hrd hb2 s0 hcs
  go_upto_region 4 with (first | (go_at_call 13; refine (HW.out _).mono ?_; rintro e w3 ⟨rfl, hb3⟩) | (go_at_call 12; refine (HE.out _ _ (HB2.out.below hb3)).mono ?_; rintro e w4 ⟨vx, rfl, hrx, _, hb4⟩))
  rw [k_exact] at hrx ⊢
  obtain ⟨g2, o2, c2, rfl, hcx⟩ := qs_some hrx (by decide)
  have HX0 := Lib.hid (show w4.rangeAt g2 o2 cR by rw [V_cR.out]; exact fun j u hu => by have := hcx 0 (437, 4) rfl j u hu; simpa using this)
  have hF3 := HF2.out.trans (hb3.mono HF2.out.size)
  have HF4 := Lib.hid (hF3.trans (hb4.mono hF3.size))
  replace HS0 := Lib.hid (ranges_up (ranges_up HS0.out hb3) hb4)
  replace HS1 := Lib.hid (cell_up (cell_up HS1.out hb3) hb4)
  clear hrx hcx hb3 hb4 hF3
  simp only [List.length_cons, List.length_nil, Nat.zero_add, Nat.reduceAdd]
  replace HB0 := Lib.hid (show B0 = w.heap.size from HB0.out)
  have FR := Lib.hid (show Fr w.heap.size w w4 from ⟨HF4.out, HF4.out.size⟩)
  have FR0 := Lib.hid FR.out.le
  refine wp_flow_new [] [(20, .int .i64 0), (21, .bool true), (22, .bool true), (23, .slice (some ⟨g1, o1, none⟩) 2 c1), (24, .int .i64 2), (25, .bool true), (26, .bool true), (27, .bool true), (28, .slice (some ⟨g1, o1, none⟩) 2 c1), (29, .pointer (some ⟨g1, o1, none⟩)), (30, .agg cs.toArray), (31, .agg cs.toArray), (32, .bool true), (33, .bool true), (34, .bool true), (35, .slice (some ⟨g1, o1, none⟩) 2 c1), (36, .pointer (some ⟨g1, o1 + 5, none⟩)), (37, .pointer (some ⟨g1, o1 + 5 + 4, none⟩)), (38, .int .i64 331), (39, .bool true), (40, .bool true), (41, .bool true), (42, .int .i64 0), (43, .bool true), (44, .bool true), (45, .bool true), (46, .slice (some ⟨g2, o2, none⟩) 2 c2), (47, .int .i64 2), (48, .bool true), (49, .bool true), (50, .bool true), (51, .slice (some ⟨g2, o2, none⟩) 2 c2), (52, .pointer (some ⟨g2, o2, none⟩)), (53, .agg cR.toArray), (54, .agg cR.toArray), (55, .bool true), (56, .bool true), (57, .bool true), (58, .int .i64 210), (59, .bool true), (60, .bool true), (0, .bool true)] _ (by simp only [List.foldl_cons, List.foldl_nil, Act.put, zz1, zz2, zz3]; rfl) (by kernel_rfl) (by kernel_rfl) rfl ?_ ?_ ?_ ?_
  · intro W' hW'
    have rs := ranges_up HS0.out hW'
    have s1 := cell_up HS1.out hW'
    have rx := ranges_up HX0.out hW'
    iterate 10 (refine flowX_op ?_ ?_; (go_big_quiet_step (fail); (try simp only [Act.put, zz1, zz2, zz3]); exact wpQuiet_nil rfl))
    refine flowX_op (wpQuiet_load_guard (by rfl) _ _ rfl _ _ rfl _ _ rs Try.underlying38 rfl (sizeSh V_cs.out) (wpQuiet_nil (by simp only [Act.put, zz1, zz2, zz3]))) ?_
    refine flowX_op (wpQuiet_build_g (by rfl) _ _ rfl _ rfl _ (built_Sh (V_cs.out.trans rfl)) (wpQuiet_nil (by simp only [Act.put, zz1, zz2, zz3]))) ?_
    refine flowX_op (wpQuiet_same (by rfl) rfl rfl rfl (by kernel_rfl) (eqS V_cs.out) (wpQuiet_nil (by simp only [Act.put, zz1, zz2, zz3]))) ?_
    iterate 5 (refine flowX_op ?_ ?_; (go_big_quiet_step (fail); (try simp only [Act.put, zz1, zz2, zz3]); exact wpQuiet_nil rfl))
    refine flowX_op (wpQuiet_cell_g (by rfl) rfl rfl (fun W h => by simp [loadVar, h, go_sem]) s1 (wpQuiet_nil (by simp only [Act.put, zz1, zz2, zz3]))) ?_
    iterate 14 (refine flowX_op ?_ ?_; (go_big_quiet_step (fail); (try simp only [Act.put, zz1, zz2, zz3]); exact wpQuiet_nil rfl))
    refine flowX_op (wpQuiet_load_guard (by rfl) _ _ rfl _ _ rfl _ _ rx Try.underlying49 rfl (sizeR V_cR.out) (wpQuiet_nil (by simp only [Act.put, zz1, zz2, zz3]))) ?_
    refine flowX_op ?_ ?_; (go_big_quiet_step ((go_at_call 16; exact Calls.below_of (HO.out _))); (try simp only [Act.put, zz1, zz2, zz3]); exact wpQuiet_nil rfl)
    refine flowX_op (wpQuiet_same (by rfl) rfl rfl rfl (by kernel_rfl) (eqQ (r := (437, 4)) V_cR.out k_vq) (wpQuiet_nil (by simp only [Act.put, zz1, zz2, zz3]))) ?_
    iterate 2 (refine flowX_op ?_ ?_; (go_big_quiet_step (fail); (try simp only [Act.put, zz1, zz2, zz3]); exact wpQuiet_nil rfl))
    refine flowX_op ?_ ?_; (go_big_quiet_step ((go_at_call 20; exact Calls.below_of (HC.out _))); (try simp only [Act.put, zz1, zz2, zz3]); exact wpQuiet_nil rfl)
    iterate 3 (refine flowX_op ?_ ?_; (go_big_quiet_step (fail); (try simp only [Act.put, zz1, zz2, zz3]); exact wpQuiet_nil rfl))
    exact flowX_nil
  · exact forPl0
  · exact forPl0
  intro β wx1 E
  replace FR := Lib.hid (FR.out.flow_new E rfl)
  have hE := E.below rfl
  simp only [newPuts, List.foldl_cons, List.foldl_nil, if_true, Bool.false_eq_true, if_false, Act.put, zz1, zz2, zz3]
  replace FR0 := Lib.hid FR.out.le
  clear E
  go_wp2
  go_ret
  exact ⟨rfl, FR.out.below⟩
end Go.Proofs.Ytmcekgapelanhaa
set_option linter.unusedVariables false
set_option linter.unusedSimpArgs false
namespace Go.Proofs.Ytmcekgapelanhaa
open Go.RowKit Al Tok Ap
theorem wpList_build0 {P : Program} {ops : Array Oper} {rest : List Oper} {o : Oper} {a : Act} {w : World} {Q : Exit → Act → World → Prop} (hg : o.guard = none) {t e : TypeId} {i : TypeInfo} (ho : o.op = .buildSlice t 0 #[])
    (hu : P.underlying t = some (.slice e)) (hi : P.info? e = some i) (h : wpList P ops Q rest (a.put o.dst (.slice (some ⟨w.heap.size, 0, none⟩) 0 0)) (w.alloc (.cells #[] e))) : wpList P ops Q (o :: rest) a w := by
  refine wpList_plain hg fun K' hK' => ?_
  unfold Oper.wp execOp
  simp [ho, Instr.buildSlice, run_underlying hu, sizeOf, typeInfo, hi, Instr.fill, newRow]
  rw [show Array.map (fun (_ : Nat) => (default : Value)) (Array.range 0) = #[] from Array.eq_empty_of_size_eq_zero (by simp)]
  exact hK' _ _ h
theorem own_empty (w : World) (base : Nat) (e : TypeId) (size : Nat) (hb : base ≤ w.heap.size) : (w.alloc (.cells #[] e)).ownsRow base e size (.slice (some ⟨w.heap.size, 0, none⟩) 0 0) 0 [] :=
  ⟨by simp, .inr ⟨w.heap.size, 0, #[], rfl, hb, heap_alloc_new _ _, Nat.le_refl _, by omega, by simp, by simp⟩⟩
theorem oneB (l : List Bk) : ∀ v ∈ cellsB l, v.oneCell' = true := by
  intro v hv
  obtain ⟨s, _, hs⟩ := List.mem_flatMap.1 hv
  simp only [Bk.cells, List.mem_cons, List.not_mem_nil, or_false] at hs
  rcases hs with rfl | rfl | rfl | rfl | rfl <;> rfl
theorem form_own {w : World} {b n s : Nat} {v : Value} {xs : List Value} {t : TypeId} (h : w.ownsRow b t s v n xs) (hn : 0 < n) : ∃ g cap, v = .slice (some ⟨g, 0, none⟩) n cap ∧ b ≤ g ∧ g < w.heap.size := by
  obtain ⟨h1, h2⟩ := h
  rcases h2 with ⟨rfl, h2⟩ | ⟨g, cap, cur, hv, hg, hr⟩
  · omega
  · refine ⟨g, cap, hv, hg, ?_⟩
    rcases Nat.lt_or_ge g w.heap.size with h | h
    · exact h
    · have := hr.1; rw [Array.getElem?_eq_none h] at this; cases this
namespace Al
/-- one book's own value changed -/
def setOwn (l : List Bk) (i : Nat) (b : Bk) (o : Int) : List Bk := l.set i { b with own := b.own + o }
theorem cellsB_set : ∀ (l : List Bk) (i : Nat) (b c : Bk) (j : Nat) (u : Value), l[i]? = some b → c.cells = b.cells.set j u → j < 5 → cellsB (l.set i c) = (cellsB l).set (i * 5 + j) u := by
  intro l
  induction l with
  | nil => intro i b c j u h; simp at h
  | cons a l ih =>
    intro i b c j u h hc hj
    cases i with
    | zero =>
      simp only [List.getElem?_cons_zero, Option.some.injEq] at h
      subst h
      simp only [List.set_cons_zero, cellsB, List.flatMap_cons, Nat.zero_mul, Nat.zero_add]
      rw [List.set_append_left _ _ (by simp [Bk.cells]; omega), hc]
    | succ i =>
      simp only [List.getElem?_cons_succ] at h
      have := ih i b c j u h hc hj
      simp only [List.set_cons_succ, cellsB, List.flatMap_cons] at this ⊢
      rw [List.set_append_right _ _ (by simp [Bk.cells]; omega), this]
      congr 2
      simp [Bk.cells]; omega
theorem ownS_set : ∀ (l : List Bk) (i : Nat) (b : Bk) (o : Int), l[i]? = some b → ownS (setOwn l i b o) = ownS l + o := by
  intro l
  have e : ∀ l, ownS l = sI (l.map Bk.own) := fun _ => rfl
  induction l with
  | nil => intro i b o h; simp at h
  | cons a l ih =>
    intro i b o h
    cases i with
    | zero =>
      simp only [List.getElem?_cons_zero, Option.some.injEq] at h
      subst h
      rw [e, e]
      simp only [setOwn, List.set_cons_zero, List.map_cons, sI_cons]; omega
    | succ i =>
      simp only [List.getElem?_cons_succ] at h
      have := ih i b o h
      rw [e, e] at this ⊢
      simp only [setOwn, List.set_cons_succ, List.map_cons, sI_cons] at this ⊢; omega
theorem op_set : ∀ (l : List Bk) (i : Nat) (b : Bk) (o : Int), l[i]? = some b → (setOwn l i b o).map Bk.op = l.map Bk.op := by
  intro l i b o h
  unfold setOwn
  rw [List.map_set]
  apply List.ext_getElem?
  intro k
  by_cases hk : k = i
  · subst hk
    have hl := (List.getElem?_eq_some_iff.1 h).1
    rw [List.getElem?_set_self (by simpa using hl), List.getElem?_map, h]; rfl
  · rw [List.getElem?_set_ne (fun e => hk e.symm)]
theorem own_get {l : List Bk} {i k : Nat} {b c : Bk} {o : Int} (hi : l[i]? = some b) (hk : l[k]? = some c) : (setOwn l i b o)[k]? = some (if k = i then { c with own := c.own + o } else c) := by
  unfold setOwn
  by_cases h : k = i
  · subst h
    rw [hi] at hk; injection hk with hk; subst hk
    rw [List.getElem?_set_self (List.getElem?_eq_some_iff.1 hi).1, if_pos rfl]
  · rw [List.getElem?_set_ne (fun e => h e.symm), if_neg h]; exact hk
theorem own_few {l : List Bk} {i : Nat} {b : Bk} {o : Int} (hD : Drawn l) (hi : l[i]? = some b) (h1 : -5000 ≤ o) (h2 : o ≤ 5000) : ∀ c ∈ setOwn l i b o, Few c := by
  intro c hc
  rcases List.mem_or_eq_of_mem_set hc with hc | rfl
  · exact (hD.all c hc).few
  · have h := hD.all b (List.mem_of_getElem? hi)
    have h3 := h.sum; have h4 := h.own
    exact ⟨by show 0 ≤ b.net + b.flows ∧ b.net + b.flows ≤ _; omega, by show -10000 ≤ b.own + o ∧ b.own + o ≤ _; omega⟩
theorem own_check {l : List Bk} {i : Nat} {b : Bk} {o : Int} (hD : Drawn l) (hi : l[i]? = some b) (h1 : -5000 ≤ o) (h2 : o ≤ 5000) : checkB (setOwn l i b o) = true := by
  have hl : (setOwn l i b o).length = l.length := by simp [setOwn]
  have hn : ∀ k c, (setOwn l i b o)[k]? = some c → c.name = nmAt k := by
    intro k c hk
    have hkl : k < l.length := by rw [← hl]; exact (List.getElem?_eq_some_iff.1 hk).1
    have hx : l[k]? = some l[k] := List.getElem?_eq_getElem hkl
    rw [own_get hi hx] at hk
    have := hD.names k _ hx
    split at hk <;> (injection hk with hk; rw [← hk]; exact this)
  refine check_of (by rw [hl]; exact hD.len.1) (by rw [hl]; exact hD.len.2) ?_ hn
  intro c hc
  have hnm : nameB c.name = true := by
    obtain ⟨k, hk⟩ := List.mem_iff_getElem?.1 hc
    rw [hn k c hk]; exact nmAt_name k
  rcases List.mem_or_eq_of_mem_set hc with hc | rfl
  · exact (hD.all c hc).ok hnm
  · have h := hD.all b (List.mem_of_getElem? hi)
    have h3 := h.sum; have h4 := h.own; have h5 := h.net; have h6 := h.flows; have h7 := h.units
    exact ⟨hnm, by show 0 ≤ b.net ∧ b.net ≤ _; omega, by show _ ≤ b.flows ∧ b.flows ≤ _; omega, by show 0 ≤ b.net + b.flows ∧ b.net + b.flows ≤ _; omega, by show _ ≤ b.own + o ∧ b.own + o ≤ _; omega, by show 0 ≤ b.units ∧ b.units ≤ _; omega⟩
theorem comm_set {l : List Bk} {i : Nat} {b : Bk} {o total : Int} (hi : l[i]? = some b) : comm (total + o) (setOwn l i b o) = comm total l ∧ sumO (setOwn l i b o) = sumO l := by
  have e : sumO (setOwn l i b o) = sumO l := by show sumL _ = sumL _; rw [op_set l i b o hi]
  refine ⟨?_, e⟩
  unfold comm
  rw [e, ownS_set l i b o hi]; omega
/-- both refuse, or both hand back shares of the same results -/
theorem own_both {l : List Bk} {i : Nat} {b : Bk} {o total : Int} {r s : Int × List Sh} (hD : Drawn l) (hi : l[i]? = some b) (h1 : -5000 ≤ o) (h2 : o ≤ 5000) (h3 : 0 ≤ total) (h4 : total ≤ 2000000)
    (hr : AllocR total l r) (hs : AllocR (total + o) (setOwn l i b o) s) : (r = (211, []) ∧ s = (211, [])) ∨ ∃ rs : List Int, r = (0, shL l rs) ∧ s = (0, shL (setOwn l i b o) rs) ∧ rs.length = l.length ∧ ∀ x ∈ rs, -10000000000 ≤ x ∧ x ≤ 10000000000 := by
  have hl : (setOwn l i b o).length = l.length := by simp [setOwn]
  have hc := comm_set (o := o) (total := total) hi
  have hf1 := fun b hb => (hD.all b hb).few
  have a1 := few_alloc hr hD.len.2 hf1 (by omega) (by omega)
  have a2 := few_alloc hs (by rw [hl]; exact hD.len.2) (own_few hD hi h1 h2) (by omega) (by omega)
  rw [hc.1, hc.2] at a2
  rcases a1 with ⟨e1, p1, p2⟩ | ⟨rs, e1, p1, p2⟩
  · rcases a2 with ⟨e2, _, _⟩ | ⟨_, _, _, q2⟩
    · exact .inl ⟨e1, e2⟩
    · exact absurd ⟨p1, p2⟩ q2
  · rcases a2 with ⟨_, q1, q2⟩ | ⟨rs2, e2, q1, _⟩
    · exact absurd ⟨q1, q2⟩ p2
    · rw [op_set l i b o hi] at q1
      have e := res_unique p1 q1
      subst e
      refine .inr ⟨rs, e1, e2, by rw [res_len p1, List.length_map], fun x hx => ?_⟩
      have h5 := res_bd p1 x hx
      have h6 := few_sum hD.len.2 hf1
      have h7 := few_own hD.len.2 hf1
      have e : comm total l = total - (sumO l : Int) - ownS l := rfl
      omega
end Al
end Go.Proofs.Ytmcekgapelanhaa
set_option linter.unusedVariables false
set_option linter.unusedSimpArgs false
namespace Go.Proofs.Ytmcekgapelanhaa
open Go.RowKit Al Tok Big Ap
theorem set_two {b0 b1 : Bk} {l : List Bk} : (((cellsB (b0 :: b1 :: l)).set 6 (.int .i64 b0.net)).set 7 (.int .i64 b0.flows)) = cellsB (b0 :: { b1 with net := b0.net, flows := b0.flows } :: l) := rfl
theorem Al.Drawn.two {b0 b1 : Bk} {l : List Bk} (h : Drawn (b0 :: b1 :: l)) : Drawn (b0 :: { b1 with net := b0.net, flows := b0.flows } :: l) := by
  have h0 := h.all b0 (by simp)
  have h1 := h.all b1 (by simp)
  refine ⟨by simpa using h.len, ?_, ?_⟩
  · intro b hb
    simp only [List.mem_cons] at hb
    rcases hb with rfl | rfl | hb
    · exact h0
    · exact ⟨h0.net, h0.flows, h0.sum, h1.own, h1.units⟩
    · exact h.all b (by simp [hb])
  · intro k b hk
    match k with
    | 0 => exact h.names 0 b hk
    | 1 =>
      have := h.names 1 b1 rfl
      simp at hk
      rw [← hk]; exact this
    | k + 2 => exact h.names (k + 2) b hk
set_option maxRecDepth 100000 in
set_option maxHeartbeats 4000000 in
theorem fair_any (a : Option Addr) (len cap : Nat) (z : List Int) (w : World) (hr : IsRow .i64 w a len cap z) :
    Calls Try.prog 3 #[.slice a len cap] w fun e w' => e = .returned (.bool true) ∧ Below w.heap.size w w' := by
  have ht0 := hr.tape 25
  clear hr
  go_enter Try.func3, Try.ntmps3
  go_wp2_with fail
  refine (books_any w.heap.size 0 _ ht0 (by omega)).mono ?_
  rintro e w1 ⟨v, l, at1, rfl, hD, hown, ht1, ha1, hg1⟩
  have hB1 := ((Below.refl w.heap.size w).alloc (Nat.le_refl _) (.cells #[.slice a len cap, .int .i64 0] 25)).trans (below_grownBy hg1 (Nat.le_refl _) (by simp))
  obtain ⟨bt, hbt⟩ : ∃ bt, bt = w.heap.size := ⟨_, rfl⟩
  have hown1 : w1.ownsRow (bt + 1) 30 5 v l.length (cellsB l) := by have := hown; simp at this; rw [hbt]; exact this
  clear hown ht0 hg1
  rw [← hbt] at ht1 ⊢
  obtain ⟨n, hn⟩ : ∃ n, n = l.length := ⟨_, rfl⟩
  have hl := hD.len
  rw [← hn] at hown1 hl
  obtain ⟨g, cp, rfl, hgb, hgl⟩ := form_own hown1 (by omega)
  have HBT := Lib.hid hbt
  have HO := Lib.hid hown1
  have HD := Lib.hid (And.intro hD hn)
  have HB := Lib.hid hB1
  clear hown1 hD hB1 hbt hn
  go_upto_region 3 with fail
  go_cut [24] from 18 to 24 (fun t wx => ∃ (b : Bool) (at' : Nat), t = .bool b ∧ (b = true → 1 < n) ∧ wx.ownsRow (bt + 1) 30 5 (.slice (some ⟨g, 0, none⟩) n cp) n (cellsB l) ∧ IsTape wx bt at' ∧ at' ≤ 101 ∧ Below w.heap.size w wx)
  case first =>
    by_cases hn1 : 1 < n
    · have hn1' : (1 : Int) < (n : Int) := by omega
      go_wp2_with fail
      refine (chance_any bt at1 1 2 _ ht1 (by omega) (by omega)).mono ?_
      rintro e w2 ⟨b, rfl, ht2, hg2⟩
      go_wp2
      go_meet
      exact ⟨b, _, rfl, fun _ => hn1, own_keptB HO.out hg2 (by omega), ht2, by omega, HB.out.trans (below_grownBy hg2 (by rw [HBT.out]; exact Nat.le_refl _) HB.out.size)⟩
    · have hn1' : ¬ (1 : Int) < (n : Int) := by omega
      go_wp2
      go_meet
      exact ⟨false, _, rfl, fun h => Bool.noConfusion h, HO.out, ht1, by omega, HB.out⟩
  case rest =>
    obtain ⟨b, at2, rfl, hb1, hown2, ht2, ha2, hB2⟩ := hcut
    have HB1 := Lib.hid hb1
    have HO2 := Lib.hid hown2
    have HB2 := Lib.hid hB2
    clear hb1 hown2 hB2 ht1 ha1 HO HB
    go_upto_if 24 with fail
    go_cut [] from 25 to 38 (fun wx => ∃ l' : List Bk, Drawn l' ∧ n = l'.length ∧ wx.ownsRow (bt + 1) 30 5 (.slice (some ⟨g, 0, none⟩) n cp) n (cellsB l') ∧ IsTape wx bt at2 ∧ Below w.heap.size w wx)
    case first =>
      cases b with
      | false =>
        go_wp2
        go_meet
        exact ⟨l, HD.out.1, HD.out.2, HO2.out, ht2, HB2.out⟩
      | true =>
        have hn1 := HB1.out rfl
        obtain ⟨b0, b1, l1, rfl⟩ : ∃ b0 b1 l1, l = b0 :: b1 :: l1 := by
          have hn := HD.out.2
          match l, hn with
          | [], hn => simp at hn; omega
          | [_], hn => simp at hn; omega
          | x :: y :: l1, _ => exact ⟨x, y, l1, rfl⟩
        have c1 : wc.cell? ⟨g, 1, none⟩ = some (.int .i64 b0.net) := HO2.out.cells rfl 1 _ rfl
        have c2 : wc.cell? ⟨g, 2, none⟩ = some (.int .i64 b0.flows) := HO2.out.cells rfl 2 _ rfl
        have c6 : wc.cell? ⟨g, 6, none⟩ = some (.int .i64 b1.net) := HO2.out.cells rfl 6 _ rfl
        have c7 : wc.cell? ⟨g, 7, none⟩ = some (.int .i64 b1.flows) := HO2.out.cells rfl 7 _ rfl
        have fz : ∀ o, wc.frozen? ⟨g, o, none⟩ = false := fun o => HO2.out.frozenAt o
        have f1 := fz 1
        have f2 := fz 2
        have f6 := fz 6
        have f7 := fz 7
        have hn0 : 0 < n := by omega
        clear fz
        go_wp2
        go_region
        go_wp2
        go_meet
        have hst := HO2.out.stored 6 (.int .i64 b0.net)
        have hst2 := hst.1.stored 7 (.int .i64 b0.flows)
        rw [set_two] at hst2
        have hbb := below_drewN ((HB2.out.grown hst.2 HB2.out.size (fun q hq => by injection hq with hq; rw [← HBT.out]; omega)).grown hst2.2 (by simpa using HB2.out.size) (fun q hq => by injection hq with hq; rw [← HBT.out]; omega)) 1
        have hgn : ∀ q, some g = some q → bt < q := fun q hq => by injection hq with hq; omega
        have htt := (ht2.grown hst.2 (fun q hq => hgn q hq)).grown hst2.2 (fun q hq => hgn q hq)
        exact ⟨_, HD.out.1.two, by have := HD.out.2; simpa using this, hst2.1.drew, htt, hbb⟩
    case rest =>
      clear HO2 HB2 ht2 HB1 HD
      obtain ⟨l', hD, hn, hown, ht, hB⟩ := hcut
      have HD := Lib.hid (And.intro hD hn)
      go_wp2_with fail
      refine (next_any bt at2 2000000 _ ht (by omega) (by omega)).mono ?_
      rintro e w3 ⟨u, rfl, ht3, hg3⟩
      have hb3 := foldI_bd u 2000000 (by omega)
      generalize foldI u 2000000 = total at *
      have hb := hB.trans (below_grownBy hg3 (by rw [HBT.out]; exact Nat.le_refl _) hB.size)
      have hbk : BksAt w3 (.slice (some ⟨g, 0, none⟩) n cp) l' := by
        have := Rd.of_own (own_keptB hown hg3 (by omega)); unfold BksAt; rw [← hn]; exact this
      have HAL := Lib.hid (alloc_any total l' _ w3 hbk hD.check)
      have HB := Lib.hid hb
      have HF := Lib.hid (fun r h => few_alloc (total := total) (l := l') (r := r) h (by omega) (fun b hb => (hD.all b hb).few) (by omega) (by omega))
      clear hD hn hB hown ht ht3 hg3 hb hbk
      go_upto_region 7 with (go_at_call 9; refine HAL.out.mono ?_; rintro e w4 ⟨vs, r, hr, rfl, hrd, hb4⟩)
      rcases HF.out r hr with ⟨rfl, _, _⟩ | ⟨rs, rfl, hR, _⟩
      · have hB4 := HB.out.trans (hb4.mono HB.out.size)
        clear hr hrd hb4 HF HAL
        go_wp2_with fail
        refine (known_any w4).mono ?_
        rintro e w5 ⟨rfl, hb5⟩
        go_wp2
        go_ret
        exact ⟨rfl, hB4.trans (hb5.mono hB4.size)⟩
      · have hrl := res_len hR
        rw [List.length_map, ← HD.out.2] at hrl
        have hLn : (shL l' rs).length = n := by rw [shL_len (by rw [hrl]; exact HD.out.2)]; exact HD.out.2.symm
        obtain ⟨ga, oa, ca, rfl, hcs⟩ := shs_some hrd (by show 0 < (shL l' rs).length; omega)
        have hcm := few_sum (l := l') (by rw [← HD.out.2]; omega) (fun b hb => (HD.out.1.all b hb).few)
        have hco := few_own (l := l') (by rw [← HD.out.2]; omega) (fun b hb => (HD.out.1.all b hb).few)
        have hrb := res_bd hR
        have hbd : ∀ x ∈ rs, -10000000000 ≤ x ∧ x ≤ 10000000000 := fun x hx => by
          have := hrb x hx
          have e : comm total l' = total - (sumO l' : Int) - ownS l' := rfl
          omega
        have HALL := Lib.hid (show ∀ i, i < n → ∃ (o : Nat) (x : Int), (l'.map Bk.op)[i]? = some o ∧ rs[i]? = some x ∧ w4.cell? ⟨ga, oa + i * 5 + 1, none⟩ = some (.int .i64 (o : Int)) ∧ w4.cell? ⟨ga, oa + i * 5 + 3, none⟩ = some (.int .i64 x) from fun i hi => by
          obtain ⟨b, hb⟩ : ∃ b, l'[i]? = some b := ⟨_, List.getElem?_eq_getElem (by rw [← HD.out.2]; exact hi)⟩
          obtain ⟨x, hx⟩ : ∃ x, rs[i]? = some x := ⟨_, List.getElem?_eq_getElem (by rw [hrl]; exact hi)⟩
          have hs := hcs i (shOf b x) (shL_get hb hx)
          refine ⟨b.op, x, by rw [List.getElem?_map, hb]; rfl, hx, ?_, ?_⟩
          · have := hs 1 _ rfl; rwa [← Nat.add_assoc] at this
          · have := hs 3 _ rfl; rwa [← Nat.add_assoc] at this)
        have HR := Lib.hid hR
        have HRL := Lib.hid hrl
        have HBD := Lib.hid hbd
        have hB4 := HB.out.trans (hb4.mono HB.out.size)
        have HB4 := Lib.hid hB4
        clear hr hrd hb4 hR hrl hcs hcm hco hrb hbd hB4 HF HAL HB
        rw [hLn]
        clear hLn
        go_wp2
        go_loopg [8, 9] n (fun m gv iv wr => ∃ k : Nat, iv = .int .i64 k ∧ gv = .int .i64 (sI (rs.take k)) ∧ k ≤ n ∧ n ≤ m + k ∧ ∃ q, wr = w4.drewN q)
        case atStart => exact ⟨0, rfl, rfl, by omega, by omega, 0, by cases w4; rfl⟩
        case round =>
          obtain ⟨k, rfl, rfl, hk, hm, q, rfl⟩ := hrel
          obtain ⟨G, hG⟩ : ∃ G, G = sI (rs.take k) := ⟨_, rfl⟩
          have hGb : -40000000000 ≤ G ∧ G ≤ 40000000000 := by
            have := sI_bd (c := 10000000000) (by omega) (rs.take k) (fun x hx => HBD.out x (List.mem_of_mem_take hx))
            have h2 : (rs.take k).length ≤ 4 := by rw [List.length_take]; omega
            generalize (rs.take k).length = y at *
            omega
          by_cases hkn : k < n
          · obtain ⟨o, x, ho, hx, c1, c3⟩ := HALL.out k hkn
            have hxb := HBD.out x (List.mem_of_getElem? hx)
            have hst := sI_take hx
            have ww : IntKind.i64.wrap (G + x) = G + x := IntWalk.i64_in _ (by omega)
            rw [← hG] at hst ⊢
            have HST := Lib.hid hst
            clear hst hx ho hG
            go_wp2
            go_roundg (gk - 1)
            case measure => omega
            case rel => exact ⟨k + 1, by go_num, by rw [HST.out], by omega, by omega, _, rfl⟩
          · obtain rfl : k = n := by omega
            have e : rs.take k = rs := List.take_of_length_le (by rw [HRL.out]; exact Nat.le_refl _)
            rw [e] at hG
            rw [e, ← hG]
            have HG := Lib.hid hG
            clear hG hm e
            go_wp2
            have hgain : 0 ≤ G → 0 ≤ sI rs := fun h => by rw [← HG.out]; exact h
            have HGN := Lib.hid hgain
            clear hgain
            go_loopg [10, 11, 12] k (fun m iv kv dv wr => ∃ i : Nat, iv = .int .i64 i ∧ i ≤ k ∧ k ≤ m + i ∧ Below w4.heap.size w4 wr)
            case atStart => exact ⟨0, rfl, by omega, by omega, below_drewN (Below.refl _ _) _⟩
            case round =>
              obtain ⟨i, rfl, hi, hm, hbi⟩ := hrel
              by_cases hik : i < k
              · obtain ⟨oi, xi, hoi, hxi, ci1, ci3⟩ := HALL.out i hik
                have HI := Lib.hid (And.intro hoi hxi)
                have hxib := HBD.out xi (List.mem_of_getElem? hxi)
                clear hoi hxi
                go_wp2
                obtain ⟨gk0, rfl⟩ : ∃ m, m = gk := ⟨gk, rfl⟩
                go_loopg [11, 12] k (fun m kv dv wr => ∃ j : Nat, kv = .int .i64 j ∧ j ≤ k ∧ k ≤ m + j ∧ Below w4.heap.size w4 wr)
                case atStart => exact ⟨0, rfl, by omega, by omega, hbi⟩
                case round =>
                  obtain ⟨j, rfl, hj, hm2, hbj⟩ := hrel
                  clear hbi
                  by_cases hjk : j < k
                  · obtain ⟨oj, xj, hoj, hxj, cj1, cj3⟩ := HALL.out j hjk
                    have hxjb := HBD.out xj (List.mem_of_getElem? hxj)
                    have hmono : 0 ≤ G → oj < oi → xj ≤ xi := fun hg h => res_mono HR.out (HGN.out hg) HI.out.1 hoj h HI.out.2 hxj
                    have heq1 : oi = oj → xi ≤ xj + 1 := fun h => res_equal HR.out HI.out.1 (by rw [h]; exact hoj) HI.out.2 hxj
                    have heq2 : oi = oj → xj ≤ xi + 1 := fun h => res_equal HR.out hoj (by rw [← h]; exact HI.out.1) hxj HI.out.2
                    obtain ⟨d, hd⟩ : ∃ d, d = xi - xj := ⟨_, rfl⟩
                    have wd : IntKind.i64.wrap (xi - xj) = d := by rw [IntWalk.i64_in _ (by omega)]; exact hd.symm
                    have HDD := Lib.hid hd
                    clear hoj hxj hd
                    have CI := Lib.hid (And.intro (cell_up ci1 hbj) (cell_up ci3 hbj))
                    have CJ := Lib.hid (And.intro (cell_up cj1 hbj) (cell_up cj3 hbj))
                    have FR := Lib.hid (show Fr w4.heap.size w4 wr from ⟨hbj, hbj.size⟩)
                    have FR0 := Lib.hid FR.out.le
                    clear cj1 cj3 hbj
                    go_upto_region 22 with fail
                    refine wp_flow_new [] [(84, .slice (some ⟨ga, oa, none⟩) k ca), (85, .int .i64 (i : Int)), (86, .pointer (some ⟨ga, oa + i * 5, none⟩)), (87, .pointer (some ⟨ga, oa + i * 5 + 3, none⟩)), (88, .int .i64 xi), (89, .slice (some ⟨ga, oa, none⟩) k ca), (90, .int .i64 (j : Int)), (91, .pointer (some ⟨ga, oa + j * 5, none⟩)), (92, .pointer (some ⟨ga, oa + j * 5 + 3, none⟩)), (93, .int .i64 xj), (94, .int .i64 d), (12, .int .i64 d)] _ (by simp only [List.foldl_cons, List.foldl_nil, Act.put, zz1, zz2, zz3]; rfl) (by kernel_rfl) (by kernel_rfl) rfl ?_ ?_ ?_ ?_
                    · intro W' hW'
                      have r1 := cell_up CI.out.2 hW'
                      have r2 := cell_up CJ.out.2 hW'
                      iterate 4 (refine flowX_op ?_ ?_; (go_big_quiet_step (fail); (try simp only [Act.put, zz1, zz2, zz3]); exact wpQuiet_nil rfl))
                      refine flowX_op (wpQuiet_cell_g (by rfl) rfl rfl (fun W h => by simp [loadVar, h, go_sem]) r1 (wpQuiet_nil (by simp only [Act.put, zz1, zz2, zz3]))) ?_
                      iterate 4 (refine flowX_op ?_ ?_; (go_big_quiet_step (fail); (try simp only [Act.put, zz1, zz2, zz3]); exact wpQuiet_nil rfl))
                      refine flowX_op (wpQuiet_cell_g (by rfl) rfl rfl (fun W h => by simp [loadVar, h, go_sem]) r2 (wpQuiet_nil (by simp only [Act.put, zz1, zz2, zz3]))) ?_
                      iterate 2 (refine flowX_op ?_ ?_; (go_big_quiet_step (fail); (try simp only [Act.put, zz1, zz2, zz3]); exact wpQuiet_nil rfl))
                      exact flowX_nil
                    · exact forPl0
                    · exact forPl0
                    intro β wx1 E
                    replace FR := Lib.hid (FR.out.flow_new E rfl)
                    have hE := E.below rfl
                    simp only [newPuts, List.foldl_cons, List.foldl_nil, if_true, Bool.false_eq_true, if_false, Act.put, zz1, zz2, zz3]
                    replace FR0 := Lib.hid FR.out.le
                    clear E
                    replace CI := Lib.hid (And.intro (cell_up CI.out.1 hE) (cell_up CI.out.2 hE))
                    replace CJ := Lib.hid (And.intro (cell_up CJ.out.1 hE) (cell_up CJ.out.2 hE))
                    clear hE
                    go_upto_region 23 with fail
                    have hd := HDD.out
                    by_cases c1 : oi = oj
                    · have hn1 : ¬ (1 : Int) < d := by have := heq1 c1; omega
                      have hn2 : ¬ d < (-1 : Int) := by have := heq2 c1; omega
                      have hq : ((oi : Int) == (oj : Int)) = true := by simp [c1]
                      have hq3 : ¬ (oj : Int) < (oi : Int) := by omega
                      clear hmono heq1 heq2 hd c1
                      by_cases hg : 0 ≤ G
                      · skip
                        refine wp_flow_new [] [(95, .slice (some ⟨ga, oa, none⟩) k ca), (96, .int .i64 (i : Int)), (97, .pointer (some ⟨ga, oa + i * 5, none⟩)), (98, .pointer (some ⟨ga, oa + i * 5 + 1, none⟩)), (99, .int .i64 (oi : Int)), (100, .slice (some ⟨ga, oa, none⟩) k ca), (101, .int .i64 (j : Int)), (102, .pointer (some ⟨ga, oa + j * 5, none⟩)), (103, .pointer (some ⟨ga, oa + j * 5 + 1, none⟩)), (104, .int .i64 (oj : Int)), (105, .bool true), (106, .bool true), (107, .int .i64 d), (108, .bool false), (109, .bool false), (110, .int .i64 d), (111, .bool false), (112, .bool false), (113, .bool false), (114, .bool false), (115, .int .i64 G), (116, .bool true), (117, .bool true), (118, .slice (some ⟨ga, oa, none⟩) k ca), (119, .int .i64 (i : Int)), (120, .pointer (some ⟨ga, oa + i * 5, none⟩)), (121, .pointer (some ⟨ga, oa + i * 5 + 1, none⟩)), (122, .int .i64 (oi : Int)), (123, .slice (some ⟨ga, oa, none⟩) k ca), (124, .int .i64 (j : Int)), (125, .pointer (some ⟨ga, oa + j * 5, none⟩)), (126, .pointer (some ⟨ga, oa + j * 5 + 1, none⟩)), (127, .int .i64 (oj : Int)), (128, .bool false), (129, .bool false), (130, .bool false), (131, undef), (132, undef), (133, .bool false), (134, .bool false)] _ (by simp only [List.foldl_cons, List.foldl_nil, Act.put, zz1, zz2, zz3]; rfl) (by kernel_rfl) (by kernel_rfl) rfl ?_ ?_ ?_ ?_
                        · intro W' hW'
                          have r1 := cell_up CI.out.1 hW'
                          have r2 := cell_up CJ.out.1 hW'
                          iterate 4 (refine flowX_op ?_ ?_; (go_big_quiet_step (fail); (try simp only [Act.put, zz1, zz2, zz3]); exact wpQuiet_nil rfl))
                          refine flowX_op (wpQuiet_cell_g (by rfl) rfl rfl (fun W h => by simp [loadVar, h, go_sem]) r1 (wpQuiet_nil (by simp only [Act.put, zz1, zz2, zz3]))) ?_
                          iterate 4 (refine flowX_op ?_ ?_; (go_big_quiet_step (fail); (try simp only [Act.put, zz1, zz2, zz3]); exact wpQuiet_nil rfl))
                          refine flowX_op (wpQuiet_cell_g (by rfl) rfl rfl (fun W h => by simp [loadVar, h, go_sem]) r2 (wpQuiet_nil (by simp only [Act.put, zz1, zz2, zz3]))) ?_
                          iterate 17 (refine flowX_op ?_ ?_; (go_big_quiet_step (fail); (try simp only [Act.put, zz1, zz2, zz3]); exact wpQuiet_nil rfl))
                          refine flowX_op (wpQuiet_cell_g (by rfl) rfl rfl (fun W h => by simp [loadVar, h, go_sem]) r1 (wpQuiet_nil (by simp only [Act.put, zz1, zz2, zz3]))) ?_
                          iterate 4 (refine flowX_op ?_ ?_; (go_big_quiet_step (fail); (try simp only [Act.put, zz1, zz2, zz3]); exact wpQuiet_nil rfl))
                          refine flowX_op (wpQuiet_cell_g (by rfl) rfl rfl (fun W h => by simp [loadVar, h, go_sem]) r2 (wpQuiet_nil (by simp only [Act.put, zz1, zz2, zz3]))) ?_
                          iterate 7 (refine flowX_op ?_ ?_; (go_big_quiet_step (fail); (try simp only [Act.put, zz1, zz2, zz3]); exact wpQuiet_nil rfl))
                          exact flowX_nil
                        · exact forPl0
                        · exact forPl0
                        intro β wx2 E
                        replace FR := Lib.hid (FR.out.flow_new E rfl)
                        have hE := E.below rfl
                        simp only [newPuts, List.foldl_cons, List.foldl_nil, if_true, Bool.false_eq_true, if_false, Act.put, zz1, zz2, zz3]
                        replace FR0 := Lib.hid FR.out.le
                        clear E
                        go_wp2
                        go_roundg (gk - 1)
                        case measure => omega
                        case rel => exact ⟨j + 1, by go_num, by omega, by omega, FR.out.below⟩
                      · have hg1 : G < 0 := by omega
                        refine wp_flow_new [] [(95, .slice (some ⟨ga, oa, none⟩) k ca), (96, .int .i64 (i : Int)), (97, .pointer (some ⟨ga, oa + i * 5, none⟩)), (98, .pointer (some ⟨ga, oa + i * 5 + 1, none⟩)), (99, .int .i64 (oi : Int)), (100, .slice (some ⟨ga, oa, none⟩) k ca), (101, .int .i64 (j : Int)), (102, .pointer (some ⟨ga, oa + j * 5, none⟩)), (103, .pointer (some ⟨ga, oa + j * 5 + 1, none⟩)), (104, .int .i64 (oj : Int)), (105, .bool true), (106, .bool true), (107, .int .i64 d), (108, .bool false), (109, .bool false), (110, .int .i64 d), (111, .bool false), (112, .bool false), (113, .bool false), (114, .bool false), (115, .int .i64 G), (116, .bool false), (117, .bool false), (118, undef), (119, undef), (120, undef), (121, undef), (122, undef), (123, undef), (124, undef), (125, undef), (126, undef), (127, undef), (128, undef), (129, .bool false), (130, .bool false), (131, undef), (132, undef), (133, .bool false), (134, .bool false)] _ (by simp only [List.foldl_cons, List.foldl_nil, Act.put, zz1, zz2, zz3]; rfl) (by kernel_rfl) (by kernel_rfl) rfl ?_ ?_ ?_ ?_
                        · intro W' hW'
                          have r1 := cell_up CI.out.1 hW'
                          have r2 := cell_up CJ.out.1 hW'
                          iterate 4 (refine flowX_op ?_ ?_; (go_big_quiet_step (fail); (try simp only [Act.put, zz1, zz2, zz3]); exact wpQuiet_nil rfl))
                          refine flowX_op (wpQuiet_cell_g (by rfl) rfl rfl (fun W h => by simp [loadVar, h, go_sem]) r1 (wpQuiet_nil (by simp only [Act.put, zz1, zz2, zz3]))) ?_
                          iterate 4 (refine flowX_op ?_ ?_; (go_big_quiet_step (fail); (try simp only [Act.put, zz1, zz2, zz3]); exact wpQuiet_nil rfl))
                          refine flowX_op (wpQuiet_cell_g (by rfl) rfl rfl (fun W h => by simp [loadVar, h, go_sem]) r2 (wpQuiet_nil (by simp only [Act.put, zz1, zz2, zz3]))) ?_
                          iterate 30 (refine flowX_op ?_ ?_; (go_big_quiet_step (fail); (try simp only [Act.put, zz1, zz2, zz3]); exact wpQuiet_nil rfl))
                          exact flowX_nil
                        · exact forPl0
                        · exact forPl0
                        intro β wx2 E
                        replace FR := Lib.hid (FR.out.flow_new E rfl)
                        have hE := E.below rfl
                        simp only [newPuts, List.foldl_cons, List.foldl_nil, if_true, Bool.false_eq_true, if_false, Act.put, zz1, zz2, zz3]
                        replace FR0 := Lib.hid FR.out.le
                        clear E
                        go_wp2
                        go_roundg (gk - 1)
                        case measure => omega
                        case rel => exact ⟨j + 1, by go_num, by omega, by omega, FR.out.below⟩
                    · have hq : ((oi : Int) == (oj : Int)) = false := beq_eq_false_iff_ne.2 (by omega)
                      clear heq1 heq2
                      by_cases hg : 0 ≤ G
                      · by_cases c2 : oj < oi
                        · have hn3 : ¬ d < 0 := by have := hmono hg c2; omega
                          have c2' : (oj : Int) < (oi : Int) := by omega
                          clear hmono c1 hd
                          refine wp_flow_new [] [(95, .slice (some ⟨ga, oa, none⟩) k ca), (96, .int .i64 (i : Int)), (97, .pointer (some ⟨ga, oa + i * 5, none⟩)), (98, .pointer (some ⟨ga, oa + i * 5 + 1, none⟩)), (99, .int .i64 (oi : Int)), (100, .slice (some ⟨ga, oa, none⟩) k ca), (101, .int .i64 (j : Int)), (102, .pointer (some ⟨ga, oa + j * 5, none⟩)), (103, .pointer (some ⟨ga, oa + j * 5 + 1, none⟩)), (104, .int .i64 (oj : Int)), (105, .bool false), (106, .bool false), (107, undef), (108, undef), (109, undef), (110, undef), (111, undef), (112, undef), (113, .bool false), (114, .bool false), (115, .int .i64 G), (116, .bool true), (117, .bool true), (118, .slice (some ⟨ga, oa, none⟩) k ca), (119, .int .i64 (i : Int)), (120, .pointer (some ⟨ga, oa + i * 5, none⟩)), (121, .pointer (some ⟨ga, oa + i * 5 + 1, none⟩)), (122, .int .i64 (oi : Int)), (123, .slice (some ⟨ga, oa, none⟩) k ca), (124, .int .i64 (j : Int)), (125, .pointer (some ⟨ga, oa + j * 5, none⟩)), (126, .pointer (some ⟨ga, oa + j * 5 + 1, none⟩)), (127, .int .i64 (oj : Int)), (128, .bool true), (129, .bool true), (130, .bool true), (131, .int .i64 d), (132, .bool false), (133, .bool false), (134, .bool false)] _ (by simp only [List.foldl_cons, List.foldl_nil, Act.put, zz1, zz2, zz3]; rfl) (by kernel_rfl) (by kernel_rfl) rfl ?_ ?_ ?_ ?_
                          · intro W' hW'
                            have r1 := cell_up CI.out.1 hW'
                            have r2 := cell_up CJ.out.1 hW'
                            iterate 4 (refine flowX_op ?_ ?_; (go_big_quiet_step (fail); (try simp only [Act.put, zz1, zz2, zz3]); exact wpQuiet_nil rfl))
                            refine flowX_op (wpQuiet_cell_g (by rfl) rfl rfl (fun W h => by simp [loadVar, h, go_sem]) r1 (wpQuiet_nil (by simp only [Act.put, zz1, zz2, zz3]))) ?_
                            iterate 4 (refine flowX_op ?_ ?_; (go_big_quiet_step (fail); (try simp only [Act.put, zz1, zz2, zz3]); exact wpQuiet_nil rfl))
                            refine flowX_op (wpQuiet_cell_g (by rfl) rfl rfl (fun W h => by simp [loadVar, h, go_sem]) r2 (wpQuiet_nil (by simp only [Act.put, zz1, zz2, zz3]))) ?_
                            iterate 17 (refine flowX_op ?_ ?_; (go_big_quiet_step (fail); (try simp only [Act.put, zz1, zz2, zz3]); exact wpQuiet_nil rfl))
                            refine flowX_op (wpQuiet_cell_g (by rfl) rfl rfl (fun W h => by simp [loadVar, h, go_sem]) r1 (wpQuiet_nil (by simp only [Act.put, zz1, zz2, zz3]))) ?_
                            iterate 4 (refine flowX_op ?_ ?_; (go_big_quiet_step (fail); (try simp only [Act.put, zz1, zz2, zz3]); exact wpQuiet_nil rfl))
                            refine flowX_op (wpQuiet_cell_g (by rfl) rfl rfl (fun W h => by simp [loadVar, h, go_sem]) r2 (wpQuiet_nil (by simp only [Act.put, zz1, zz2, zz3]))) ?_
                            iterate 7 (refine flowX_op ?_ ?_; (go_big_quiet_step (fail); (try simp only [Act.put, zz1, zz2, zz3]); exact wpQuiet_nil rfl))
                            exact flowX_nil
                          · exact forPl0
                          · exact forPl0
                          intro β wx2 E
                          replace FR := Lib.hid (FR.out.flow_new E rfl)
                          have hE := E.below rfl
                          simp only [newPuts, List.foldl_cons, List.foldl_nil, if_true, Bool.false_eq_true, if_false, Act.put, zz1, zz2, zz3]
                          replace FR0 := Lib.hid FR.out.le
                          clear E
                          go_wp2
                          go_roundg (gk - 1)
                          case measure => omega
                          case rel => exact ⟨j + 1, by go_num, by omega, by omega, FR.out.below⟩
                        · have c2' : ¬ (oj : Int) < (oi : Int) := by omega
                          clear hmono c1 hd
                          refine wp_flow_new [] [(95, .slice (some ⟨ga, oa, none⟩) k ca), (96, .int .i64 (i : Int)), (97, .pointer (some ⟨ga, oa + i * 5, none⟩)), (98, .pointer (some ⟨ga, oa + i * 5 + 1, none⟩)), (99, .int .i64 (oi : Int)), (100, .slice (some ⟨ga, oa, none⟩) k ca), (101, .int .i64 (j : Int)), (102, .pointer (some ⟨ga, oa + j * 5, none⟩)), (103, .pointer (some ⟨ga, oa + j * 5 + 1, none⟩)), (104, .int .i64 (oj : Int)), (105, .bool false), (106, .bool false), (107, undef), (108, undef), (109, undef), (110, undef), (111, undef), (112, undef), (113, .bool false), (114, .bool false), (115, .int .i64 G), (116, .bool true), (117, .bool true), (118, .slice (some ⟨ga, oa, none⟩) k ca), (119, .int .i64 (i : Int)), (120, .pointer (some ⟨ga, oa + i * 5, none⟩)), (121, .pointer (some ⟨ga, oa + i * 5 + 1, none⟩)), (122, .int .i64 (oi : Int)), (123, .slice (some ⟨ga, oa, none⟩) k ca), (124, .int .i64 (j : Int)), (125, .pointer (some ⟨ga, oa + j * 5, none⟩)), (126, .pointer (some ⟨ga, oa + j * 5 + 1, none⟩)), (127, .int .i64 (oj : Int)), (128, .bool false), (129, .bool false), (130, .bool false), (131, undef), (132, undef), (133, .bool false), (134, .bool false)] _ (by simp only [List.foldl_cons, List.foldl_nil, Act.put, zz1, zz2, zz3]; rfl) (by kernel_rfl) (by kernel_rfl) rfl ?_ ?_ ?_ ?_
                          · intro W' hW'
                            have r1 := cell_up CI.out.1 hW'
                            have r2 := cell_up CJ.out.1 hW'
                            iterate 4 (refine flowX_op ?_ ?_; (go_big_quiet_step (fail); (try simp only [Act.put, zz1, zz2, zz3]); exact wpQuiet_nil rfl))
                            refine flowX_op (wpQuiet_cell_g (by rfl) rfl rfl (fun W h => by simp [loadVar, h, go_sem]) r1 (wpQuiet_nil (by simp only [Act.put, zz1, zz2, zz3]))) ?_
                            iterate 4 (refine flowX_op ?_ ?_; (go_big_quiet_step (fail); (try simp only [Act.put, zz1, zz2, zz3]); exact wpQuiet_nil rfl))
                            refine flowX_op (wpQuiet_cell_g (by rfl) rfl rfl (fun W h => by simp [loadVar, h, go_sem]) r2 (wpQuiet_nil (by simp only [Act.put, zz1, zz2, zz3]))) ?_
                            iterate 17 (refine flowX_op ?_ ?_; (go_big_quiet_step (fail); (try simp only [Act.put, zz1, zz2, zz3]); exact wpQuiet_nil rfl))
                            refine flowX_op (wpQuiet_cell_g (by rfl) rfl rfl (fun W h => by simp [loadVar, h, go_sem]) r1 (wpQuiet_nil (by simp only [Act.put, zz1, zz2, zz3]))) ?_
                            iterate 4 (refine flowX_op ?_ ?_; (go_big_quiet_step (fail); (try simp only [Act.put, zz1, zz2, zz3]); exact wpQuiet_nil rfl))
                            refine flowX_op (wpQuiet_cell_g (by rfl) rfl rfl (fun W h => by simp [loadVar, h, go_sem]) r2 (wpQuiet_nil (by simp only [Act.put, zz1, zz2, zz3]))) ?_
                            iterate 7 (refine flowX_op ?_ ?_; (go_big_quiet_step (fail); (try simp only [Act.put, zz1, zz2, zz3]); exact wpQuiet_nil rfl))
                            exact flowX_nil
                          · exact forPl0
                          · exact forPl0
                          intro β wx2 E
                          replace FR := Lib.hid (FR.out.flow_new E rfl)
                          have hE := E.below rfl
                          simp only [newPuts, List.foldl_cons, List.foldl_nil, if_true, Bool.false_eq_true, if_false, Act.put, zz1, zz2, zz3]
                          replace FR0 := Lib.hid FR.out.le
                          clear E
                          go_wp2
                          go_roundg (gk - 1)
                          case measure => omega
                          case rel => exact ⟨j + 1, by go_num, by omega, by omega, FR.out.below⟩
                      · have hg1 : G < 0 := by omega
                        clear hmono c1 hd
                        refine wp_flow_new [] [(95, .slice (some ⟨ga, oa, none⟩) k ca), (96, .int .i64 (i : Int)), (97, .pointer (some ⟨ga, oa + i * 5, none⟩)), (98, .pointer (some ⟨ga, oa + i * 5 + 1, none⟩)), (99, .int .i64 (oi : Int)), (100, .slice (some ⟨ga, oa, none⟩) k ca), (101, .int .i64 (j : Int)), (102, .pointer (some ⟨ga, oa + j * 5, none⟩)), (103, .pointer (some ⟨ga, oa + j * 5 + 1, none⟩)), (104, .int .i64 (oj : Int)), (105, .bool false), (106, .bool false), (107, undef), (108, undef), (109, undef), (110, undef), (111, undef), (112, undef), (113, .bool false), (114, .bool false), (115, .int .i64 G), (116, .bool false), (117, .bool false), (118, undef), (119, undef), (120, undef), (121, undef), (122, undef), (123, undef), (124, undef), (125, undef), (126, undef), (127, undef), (128, undef), (129, .bool false), (130, .bool false), (131, undef), (132, undef), (133, .bool false), (134, .bool false)] _ (by simp only [List.foldl_cons, List.foldl_nil, Act.put, zz1, zz2, zz3]; rfl) (by kernel_rfl) (by kernel_rfl) rfl ?_ ?_ ?_ ?_
                        · intro W' hW'
                          have r1 := cell_up CI.out.1 hW'
                          have r2 := cell_up CJ.out.1 hW'
                          iterate 4 (refine flowX_op ?_ ?_; (go_big_quiet_step (fail); (try simp only [Act.put, zz1, zz2, zz3]); exact wpQuiet_nil rfl))
                          refine flowX_op (wpQuiet_cell_g (by rfl) rfl rfl (fun W h => by simp [loadVar, h, go_sem]) r1 (wpQuiet_nil (by simp only [Act.put, zz1, zz2, zz3]))) ?_
                          iterate 4 (refine flowX_op ?_ ?_; (go_big_quiet_step (fail); (try simp only [Act.put, zz1, zz2, zz3]); exact wpQuiet_nil rfl))
                          refine flowX_op (wpQuiet_cell_g (by rfl) rfl rfl (fun W h => by simp [loadVar, h, go_sem]) r2 (wpQuiet_nil (by simp only [Act.put, zz1, zz2, zz3]))) ?_
                          iterate 30 (refine flowX_op ?_ ?_; (go_big_quiet_step (fail); (try simp only [Act.put, zz1, zz2, zz3]); exact wpQuiet_nil rfl))
                          exact flowX_nil
                        · exact forPl0
                        · exact forPl0
                        intro β wx2 E
                        replace FR := Lib.hid (FR.out.flow_new E rfl)
                        have hE := E.below rfl
                        simp only [newPuts, List.foldl_cons, List.foldl_nil, if_true, Bool.false_eq_true, if_false, Act.put, zz1, zz2, zz3]
                        replace FR0 := Lib.hid FR.out.le
                        clear E
                        go_wp2
                        go_roundg (gk - 1)
                        case measure => omega
                        case rel => exact ⟨j + 1, by go_num, by omega, by omega, FR.out.below⟩
                  · go_wp2
                    go_roundg (gk0 - 1)
                    case measure => omega
                    case rel => exact ⟨i + 1, by go_num, by omega, by omega, hbj⟩
              · clear hm
                go_wp2_with fail
                refine (known_any _).mono ?_
                rintro e w5 ⟨rfl, hb5⟩
                have HB5 := Lib.hid hb5
                clear hb5
                go_wp2
                go_ret
                have hb6 := HB4.out.trans (hbi.mono HB4.out.size)
                exact ⟨rfl, hb6.trans (HB5.out.mono hb6.size)⟩
end Go.Proofs.Ytmcekgapelanhaa
