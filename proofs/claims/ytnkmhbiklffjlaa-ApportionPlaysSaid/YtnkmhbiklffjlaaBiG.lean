/- Aids around the law of flow; law04.quota: walked. -/
import Derived.Test.YtnkmhbiklffjlaaBiF
import Derived.Test.YtnkmhbiklffjlaaBiE
set_option linter.unusedVariables false
set_option linter.unusedSimpArgs false
namespace Go.Proofs.Ytnkmhbiklffjlaa
open Go.RowKit Big

theorem Try.laysI : LaysAs Try.prog 51 zero33 := by
  intro o h b w
  unfold execOp
  simp only [h]
  rfl
theorem FlowE.below {pl : List Pl} {W w : World} {β : Nat → Nat} (E : FlowE pl W β w) (h : pl.all (·.new) = true) : Below W.heap.size W w :=
  ⟨E.os, E.tape, E.output, E.big, fun k hk => E.keep k hk fun p hp hn => by have := List.all_eq_true.1 h p hp; rw [hn] at this; cases this⟩
/-- the law of flow where each place is a new block -/
theorem wp_region_flow_new {P : Program} {id : Nat} {Q : Exit → Act → World → Prop} {a : Act} {w : World} {l : List Oper} (pl : List Pl) (vs : List (Tmp × Value)) (fin : Act) (hfin : vs.foldl (fun a p => a.put (some p.1) p.2) a = fin)
    (hm : P.follows .mixedOrders = true) (hB : flowB l.toArray pl (vs.map (·.1)) a.tmps.size = true) (hn : pl.all (·.new) = true)
    (hX : ∀ W', Below w.heap.size w W' → flowX P l.toArray (fun w' => ∃ p : GB, w' = gw W' p.d p.os) fin (fun k => isA pl k || isS pl k) 0 l)
    (hAl : ∀ p ∈ pl, ∃ z, LaysAs P p.ty z ∧ p.cs.length ≤ z.size)
    (hSt : ∀ p ∈ pl, fin.tmps[p.x]? = some (.agg p.cs.toArray) ∧ (P.info? p.ty).map (·.size) = some p.cs.length ∧ p.cs.toArray.all (·.oneCell') = true)
    (hQ : ∀ β w', FlowE pl w β w' → Q .normal (newPuts β pl fin) w') : (Code.region id l.toArray true).wp P Q a w := by
  have nw : ∀ p ∈ pl, p.new = true := fun p hp => List.all_eq_true.1 hn p hp
  have he : ∀ k, early l.toArray pl k = true := fun k => List.all_eq_true.2 fun p hp => by simp [nw p hp]
  have mono : ∀ (C : World → Prop) (s t : Nat → Bool) (h : ∀ k, s k = t k) (l' : List Oper) (k : Nat), flowX P l.toArray C fin s k l' → flowX P l.toArray C fin t k l' := fun C s t h l' k hx => by
    have : s = t := funext h
    rwa [← this]
  have all : ∀ (C : World → Prop) (s : Nat → Bool) (h : ∀ k, s k = true) (l' : List Oper) (k : Nat), flowX P l.toArray C fin s k l' := by
    intro C s h l'
    induction l' with
    | nil => intro k; trivial
    | cons o l' ih => intro k; exact ⟨.inl (h k), ih (k + 1)⟩
  refine wp_region_flow pl vs fin hfin hm hB (fun W' hW' => mono _ _ _ (fun k => by simp [he k]) _ _ (hX W' hW')) (fun W' _ => all _ _ (fun k => by simp [he k]) _ _) (fun p hp _ => hAl p hp) (fun q hq h => ?_) (fun q hq r hr h _ _ => ?_) hSt hQ
  · have := nw q hq; rw [h] at this; cases this
  · have := nw q hq; rw [h] at this; cases this
theorem fa1 {f : Pl → Prop} {p : Pl} (h : f p) : ∀ x ∈ [p], f x := fun x hx => by rw [List.mem_singleton.1 hx]; exact h
theorem fa2 {f : Pl → Prop} {p q : Pl} (h : f p) (h2 : f q) : ∀ x ∈ [p, q], f x := fun x hx => by
  rcases List.mem_cons.1 hx with e | hx
  · rw [e]; exact h
  · exact fa1 h2 x hx
theorem from_nat (n : Nat) (w : World) (hn : n < 9223372036854775808) :
    Calls Try.prog 33 #[.int .i64 (n : Int)] w fun e w' => e = .returned (iV false n) ∧ Below w.heap.size w w' := by
  have := from_is (n : Int) w (by omega) (by omega)
  have hz : zV (n : Int) = iV false n := by
    unfold zV
    rw [show decide ((n : Int) < 0) = false from decide_eq_false (by omega), Int.natAbs_natCast]
  rwa [hz] at this
theorem cs_false (v : Nat) : cs1 false v = false := rfl
theorem rint_nat {v : Nat} {n : Int} (h : (v : Int) = n) : Value.int .i64 (v : Int) = .int .i64 n := by rw [h]
/-- an Int's cells -/
theorem iv_facts (neg : Bool) (v : Nat) {cs : List Value} (h : cs = Value.bool neg :: lv 32 v) : cs.length = 33 ∧ cs.toArray.all (·.oneCell') = true ∧ cs.toArray.size = 33 := by
  subst h
  exact ⟨by rw [List.length_cons, lv_len], all_oneCell_toArray (int_one neg v), int_size neg v⟩

set_option maxRecDepth 100000 in
set_option maxHeartbeats 4000000 in
theorem quota_is (t x s : Nat) (q : Nat) (rest : Bool) (w : World) (ht : t < 9223372036854775808) (hx : x < 9223372036854775808) (hs : s < 9223372036854775808) (hs0 : s ≠ 0) (hq : q < 9223372036854775808) (hqe : q = t * x / s) (hre : rest = !decide (t * x % s = 0)) :
    Calls Try.prog 20 #[.int .i64 (t : Int), .int .i64 (x : Int), .int .i64 (s : Int)] w fun e w' => e = .returned (.tuple #[.int .i64 (q : Int), .bool rest]) ∧ Below w.heap.size w w' := by
  have b63 : ∀ {v : Nat}, v < 9223372036854775808 → v < BB ^ 2 := fun h => two_lt (by omega)
  have bu : ∀ {v : Nat}, v < BB ^ 2 → v < BB ^ 32 := fun h => Nat.lt_of_lt_of_le h (Nat.pow_le_pow_right BB_pos (by omega))
  have hp : t * x < BB ^ 32 := by
    have h1 : t * x < BB ^ 2 * BB ^ 2 := Nat.mul_lt_mul'' (b63 ht) (b63 hx)
    rw [← Nat.pow_add] at h1
    exact Nat.lt_of_lt_of_le h1 (Nat.pow_le_pow_right BB_pos (by omega))
  obtain ⟨r, hr⟩ : ∃ r, r = t * x % s := ⟨_, rfl⟩
  have hrs : r < s := by rw [hr]; exact Nat.mod_lt _ (by omega)
  have HF1 := Lib.hid (fun W => from_nat t W ht)
  have HF2 := Lib.hid (fun W => from_nat x W hx)
  have HF3 := Lib.hid (fun W => from_nat s W hs)
  have HM := Lib.hid (fun W => mul_all false false t x W (bu (b63 ht)) (bu (b63 hx)) hp)
  have HD := Lib.hid (fun W => divmod_is false false (t * x) s q r W hp (bu (b63 hs)) hs0 (by simp [hqe]) (by simp [hr]))
  have HT := Lib.hid (fun W => toint_all false q W hq rfl)
  have HS := Lib.hid (fun W => sign_is false r W (Nat.lt_trans hrs (bu (b63 hs))))
  have hsg : sgnI false r = if r = 0 then 0 else 1 := by unfold sgnI; simp
  simp only [show (false != false) = false from rfl, cs_false, Bool.false_eq_true, if_false] at HM HD HT
  obtain ⟨ct, hct⟩ : ∃ c, c = Value.bool false :: lv 32 t := ⟨_, rfl⟩
  obtain ⟨cx, hcx⟩ : ∃ c, c = Value.bool false :: lv 32 x := ⟨_, rfl⟩
  obtain ⟨cp, hcp⟩ : ∃ c, c = Value.bool false :: lv 32 (t * x) := ⟨_, rfl⟩
  obtain ⟨cs, hcs⟩ : ∃ c, c = Value.bool false :: lv 32 s := ⟨_, rfl⟩
  obtain ⟨cq, hcq⟩ : ∃ c, c = Value.bool false :: lv 32 q := ⟨_, rfl⟩
  obtain ⟨cr, hcr⟩ : ∃ c, c = Value.bool false :: lv 32 r := ⟨_, rfl⟩
  unfold iV at HF1 HF2 HF3 HM HD HT HS
  rw [← hct] at HF1 HM
  rw [← hcx] at HF2 HM
  rw [← hcs] at HF3 HD
  rw [← hcp] at HM HD
  rw [← hcq] at HD HT
  rw [← hcr] at HD HS
  have HPF := Lib.hid (iv_facts _ _ hcp)
  have HQF := Lib.hid (iv_facts _ _ hcq)
  have HRF := Lib.hid (iv_facts _ _ hcr)
  obtain ⟨g, hg⟩ : ∃ g, g = sgnI false r := ⟨_, rfl⟩
  rw [← hg] at HS
  have HG := Lib.hid (show (g != 0) = rest by
    rw [hg, hsg, hre, ← hr]
    by_cases h : r = 0 <;> simp [h])
  clear hct hcx hcp hcs hcq hcr hg hsg hre hr hrs hqe hp b63 bu hs0
  have SAI := Lib.hid Try.infoI
  have u51 := Try.underlying51
  go_enter Try.func20, Try.ntmps20
  go_wp2_with fail
  refine (HF1.out _).mono ?_
  rintro e w1 ⟨rfl, hb1⟩
  go_wp2_with fail
  refine (HF2.out _).mono ?_
  rintro e w2 ⟨rfl, hb2⟩
  go_wp2_with fail
  refine (HM.out _).mono ?_
  rintro e w3 ⟨rfl, hb3⟩
  have HTP := Lib.hid (show (w3.alloc (.cells zero33 51)).there w3.heap.size 0 cp.toArray.size by rw [HPF.out.2.2]; exact there_fresh _ _ _ (by decide))
  have HSP := Lib.hid (show (Try.prog.info? 51).map (·.size) = some cp.toArray.size by rw [HPF.out.2.2]; exact Try.infoI)
  have h3 := (hb1.trans (hb2.mono hb1.size)).trans (hb3.mono (Nat.le_trans hb1.size hb2.size))
  obtain ⟨w4, hw4⟩ : ∃ w4, w4 = (w3.alloc (.cells zero33 51)).setCells w3.heap.size 0 cp := ⟨_, rfl⟩
  have H4 := Lib.hid (show Below w.heap.size w w4 by rw [hw4]; exact below_sets h3.size _ _ _ (h3.alloc h3.size _))
  have r4 : w4.rangeAt w3.heap.size 0 cp := by rw [hw4]; exact World.rangeAt_setCells_same _ _ _ _ (by have := HTP.out; rw [HPF.out.2.2] at this; rwa [HPF.out.1])
  unfold zero33 at hw4
  have HW4 := Lib.hid hw4
  obtain ⟨B, hB⟩ : ∃ B, B = w3.heap.size := ⟨_, rfl⟩
  rw [← hB] at r4
  have HB := Lib.hid hB
  clear hb1 hb2 hb3 h3 hw4 hB
  go_upto_region 2 with (refine wpList_store_mid rfl _ _ _ rfl w3.heap.size 0 _ rfl rfl HTP.out HSP.out HPF.out.2.1 ?_)
  try simp only [Act.put, List.setIfInBounds_toArray, List.set_cons_zero, List.set_cons_succ]
  try simp only [List.toList_toArray]
  rw [← HW4.out, ← HB.out]
  have HLQ := Lib.hid (show (Try.prog.info? 51).map (·.size) = some cp.length by rw [HPF.out.1]; exact Try.infoI)
  refine wp_region_flow_new [⟨true, 8, 10, 10, 0, 0, 51, 28, cq⟩, ⟨true, 9, 11, 11, 0, 0, 51, 29, cr⟩]
    [(24, .agg cp.toArray), (25, .int .i64 (s : Int)), (26, .agg cs.toArray), (27, .tuple #[.agg cq.toArray, .agg cr.toArray, .int .i64 0]), (23, .tuple #[.agg cq.toArray, .agg cr.toArray, .int .i64 0]), (28, .agg cq.toArray), (29, .agg cr.toArray), (30, .int .i64 0), (12, .int .i64 0)]
    _ (by simp only [List.foldl_cons, List.foldl_nil, Act.put, List.setIfInBounds_toArray, List.set_cons_zero, List.set_cons_succ]; rfl) (by kernel_rfl) (by kernel_rfl) rfl ?_ ?_ ?_ ?_
  · intro W' hW'
    have rp := ranges_up r4 hW'
    repeat (first
      | exact flowX_nil
      | (refine flowX_skip (by rfl) ?_)
      | (refine flowX_op (wpQuiet_load_mid rfl _ _ rfl B 0 rfl cp _ rp u51 rfl HLQ.out (wpQuiet_nil (by simp only [Act.put, List.setIfInBounds_toArray, List.set_cons_zero, List.set_cons_succ]))) ?_)
      | (refine flowX_op ?_ ?_; (first
          | (go_big_quiet_step ((go_at_call 33; exact Calls.below_of (HF3.out _))); (try simp only [Act.put, List.setIfInBounds_toArray, List.set_cons_zero, List.set_cons_succ]); exact wpQuiet_nil rfl)
          | (go_big_quiet_step ((go_at_call 37; exact Calls.below_of (HD.out _))); (try simp only [Act.put, List.setIfInBounds_toArray, List.set_cons_zero, List.set_cons_succ]); exact wpQuiet_nil rfl))))
  · exact fa2 ⟨zero33, Try.laysI, by rw [HQF.out.1]; decide⟩ ⟨zero33, Try.laysI, by rw [HRF.out.1]; decide⟩
  · exact fa2 ⟨rfl, by rw [HQF.out.1]; exact Try.infoI, HQF.out.2.1⟩ ⟨rfl, by rw [HRF.out.1]; exact Try.infoI, HRF.out.2.1⟩
  intro β w5 E
  have h5 := Lib.hid (H4.out.trans ((E.below rfl).mono H4.out.size))
  have e1 := E.laid _ (List.mem_cons_self ..) rfl
  have e2 := E.laid _ (List.mem_cons_of_mem _ (List.mem_cons_self ..)) rfl
  simp only [newPuts, List.foldl_cons, List.foldl_nil, if_true, Act.put, List.setIfInBounds_toArray, List.set_cons_zero, List.set_cons_succ]
  simp only at e1 e2
  obtain ⟨b1, hb1⟩ : ∃ b, b = β 8 := ⟨_, rfl⟩
  obtain ⟨b2, hb2⟩ : ∃ b, b = β 9 := ⟨_, rfl⟩
  rw [← hb1] at e1 ⊢
  rw [← hb2] at e2 ⊢
  obtain ⟨l1, l2, -, r1⟩ := e1
  obtain ⟨m1, m2, -, r2⟩ := e2
  have R1 := Lib.hid r1
  have R2 := Lib.hid r2
  have HSQ := Lib.hid (show (Try.prog.info? 51).map (·.size) = some cq.length by rw [HQF.out.1]; exact Try.infoI)
  have HSR := Lib.hid (show (Try.prog.info? 51).map (·.size) = some cr.length by rw [HRF.out.1]; exact Try.infoI)
  clear r1 r2 E hb1 hb2 r4
  go_wp2_with (first | (refine wpList_load_mid rfl _ _ rfl b1 0 rfl cq _ R1.out u51 rfl HSQ.out ?_))
  refine (HT.out _).mono ?_
  rintro e w6 ⟨rfl, hb6⟩
  have R6 := Lib.hid (ranges_up R2.out hb6)
  go_wp2_with (first | (refine wpList_load_mid rfl _ _ rfl b2 0 rfl cr _ R6.out u51 rfl HSR.out ?_))
  refine (HS.out _).mono ?_
  rintro e w7 ⟨rfl, hb7⟩
  go_wp2
  have hwz := h5.out.trans ((hb6.trans (hb7.mono hb6.size)).mono h5.out.size)
  have HGB := HG.out
  refine bodyPost_ret (v := .tuple #[.int .i64 (q : Int), .bool rest]) (by simp [results, Try.results20]; exact HGB) rfl ?_
  exact ⟨rfl, hwz⟩
end Go.Proofs.Ytnkmhbiklffjlaa
