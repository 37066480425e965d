/- A region that draws its order: a head that only reads, then a gate, then a tail in whatever order (by the laws of wpAnyH). -/
import Derived.Test.YtnkmhbiklffjlaaBigH
import Derived.Deep.RegionHeld3
set_option linter.unusedVariables false
set_option linter.unusedSimpArgs false
namespace Go.Proofs.Ytnkmhbiklffjlaa
open Go.RowKit
section
variable {P : Program} {ops : Array Oper} {md : Region.Mode} {C : World → Prop}
/-- the last of the first n operations is the gate: all the others of them come before it, and all behind wait for it -/
def gateB (md : Region.Mode) (ops : Array Oper) (n : Nat) : Bool :=
  (List.range (n - 1)).all (fun i => (List.range n).any fun j => decide (i < j) && Region.waitsFor md ops j i) && (List.range ops.size).all fun t => decide (t < n) || Region.waitsFor md ops t (n - 1)
/-- the lexical walk of the first operations ends with T listed -/
def lexT (md : Region.Mode) (ops : Array Oper) (T : Array Bool) : Nat → Nat → Array Bool → Bool
  | 0, _, seen => seen == T
  | f + 1, k, seen => (Region.ready md ops seen).contains k && Region.free md ops seen k && lexT md ops T f (k + 1) (seen.setIfInBounds k true)
def headB (md : Region.Mode) (ops : Array Oper) (n : Nat) (T : Array Bool) : Bool :=
  Region.noSelect ops && decide (0 < n) && decide (n < ops.size) && gateB md ops n && (Region.ready md ops T).all (fun j => decide (n ≤ j)) && lexT md ops T n 0 (Array.replicate ops.size false)

theorem gate_waits {n : Nat} {seen : Array Bool} (hg : gateB md ops n = true) (hn0 : 0 < n) (hn : n < ops.size) (inv : HeadInv md ops n seen) {i : Nat} (hi : i < n) (hun : seen.getD i true = false) {t : Nat} (ht : n ≤ t) : t ∉ Region.ready md ops seen := by
  intro hr
  simp only [gateB, Bool.and_eq_true] at hg
  obtain ⟨_, ot, hot, hall⟩ := mem_ready.1 hr
  have htl : t < ops.size := (Array.getElem?_eq_some_iff.1 hot).1
  have hlast : seen.getD (n - 1) false = true := by
    have h1 := List.all_eq_true.1 hg.2 t (List.mem_range.2 htl)
    simp only [Bool.or_eq_true, decide_eq_true_eq] at h1
    rcases h1 with h1 | h1
    · omega
    · obtain ⟨o', ho', e, he, hb, hon⟩ := Region.waitsFor_spec h1
      obtain rfl : o' = ot := Option.some.inj (ho'.symm.trans hot)
      rw [← hon]; exact hall e he hb
  have hev : ∀ (d j : Nat), n - 1 - j = d → j < n → seen.getD j false = true := by
    intro d
    induction d using Nat.strongRecOn with
    | _ d ih =>
      intro j hd hj
      by_cases hjn : j = n - 1
      · subst hjn; exact hlast
      · have h1 := List.all_eq_true.1 hg.1 j (List.mem_range.2 (by omega))
        obtain ⟨k, hk, hk2⟩ := List.any_eq_true.1 h1
        simp only [Bool.and_eq_true, decide_eq_true_eq] at hk2
        obtain ⟨ok, hok, e, he, hb, hon⟩ := Region.waitsFor_spec hk2.2
        have hkn := List.mem_range.1 hk
        rw [← hon]
        exact inv.closed k ok hok (ih (n - 1 - k) (by omega) k rfl hkn) e he hb
  have := hev _ i rfl hi
  rw [getD_both hun] at this
  cases this

theorem headG_first {n i : Nat} {oi : Oper} {v : Value} {L : Array Bool → Act → Prop} (hi : ops[i]? = some oi) (hsel : ∀ (j : Nat) (o : Oper) cs b, ops[j]? = some o → o.op ≠ .select cs b)
    (hw : ∀ seen, HeadInv md ops n seen → ∀ i, i < n → seen.getD i true = false → ∀ t, n ≤ t → t ∉ Region.ready md ops seen) (hin : i < n) (hdone : ∀ seen a, L seen a → ∀ j ∈ Region.ready md ops seen, n ≤ j) :
    ∀ (f : Nat) (seen : Array Bool) (a : Act), HeadInv md ops n seen →
      (∀ j oj, ops[j]? = some oj → j ≠ i → seen.getD j true = false → (∀ e ∈ oj.after, Region.binds md e = true → e.on ≠ i) → oi.apart ops oj = true) →
      i ∈ Region.ready md ops seen → YieldsIn P ops C oi v a →
      headQ P md ops C n L f (seen.setIfInBounds i true) (a.put oi.dst v) → headQ P md ops C n L (f + 1) seen a := by
  intro f
  induction f with
  | zero =>
    intro seen a inv _ hr hy H
    have hun := (mem_ready.1 hr).1
    refine ⟨List.ne_nil_of_mem hr, fun j hj => ?_⟩
    have hjn : j < n := Nat.lt_of_not_le fun h => hw _ inv i hin hun j h hj
    refine ⟨hjn, ?_⟩
    by_cases e : j = i
    · subst e; exact hy.qOp hi H
    · exact absurd (hdone _ _ H j (ready_mono hj e)) (by omega)
  | succ f ih =>
    intro seen a inv hfree hr hy H
    have hun := (mem_ready.1 hr).1
    refine ⟨List.ne_nil_of_mem hr, fun j hj => ?_⟩
    have hjn : j < n := Nat.lt_of_not_le fun h => hw _ inv i hin hun j h hj
    refine ⟨hjn, ?_⟩
    by_cases e : j = i
    · subst e; exact hy.qOp hi H
    obtain ⟨hju, oj, hoj, hall⟩ := mem_ready.1 hj
    have hnot : ∀ e ∈ oj.after, Region.binds md e = true → e.on ≠ i := fun e he hb heq => by
      have h1 := hall e he hb
      rw [heq, getD_both hun] at h1
      cases h1
    refine qOp_mono (fun a' h3 => ih _ a' (inv.set hj hjn) (fun k ok hk hki hu hno => ?_) (ready_mono hr (Ne.symm e)) h3.1 ?_)
      (qOp_put hoj (hfree j oj hoj e hju hnot) (fun cs b => hsel i oi cs b hi) (fun cs b => hsel j oj cs b hoj) hy (H.2 j (ready_mono hj e)).2)
    · by_cases hjk : j = k
      · subst hjk; exact hfree j ok hk hki hju hno
      · exact hfree k ok hk hki (by rwa [getD_set_ne true hjk] at hu) hno
    · rw [Array.setIfInBounds_comm _ _ e]
      exact h3.2

theorem headG_lex {n : Nat} {T : Array Bool} {Lq : Act → Prop} (hsel : Region.noSelect ops = true) (hw : ∀ seen, HeadInv md ops n seen → ∀ i, i < n → seen.getD i true = false → ∀ t, n ≤ t → t ∉ Region.ready md ops seen)
    (hT : ∀ j ∈ Region.ready md ops T, n ≤ j) :
    ∀ (l : List Oper) (k : Nat) (seen : Array Bool) (a : Act), (∀ j, j < l.length → l[j]? = ops[k + j]?) → k + l.length = n → HeadInv md ops n seen →
    lexT md ops T l.length k seen = true → wpQuiet P ops C Lq l a → headQ P md ops C n (fun seen' a' => seen' = T ∧ Lq a') l.length seen a := by
  intro l
  induction l with
  | nil =>
    intro k seen a _ hk _ hB h
    exact ⟨by simpa [lexT] using hB, h⟩
  | cons o l ih =>
    intro k seen a hl hk inv hB h
    have h0 : ops[k]? = some o := by simpa using (hl 0 (by simp)).symm
    simp only [List.length_cons, lexT, Bool.and_eq_true] at hB hk
    obtain ⟨⟨hr, hf⟩, hB'⟩ := hB
    have hkn : k < n := by omega
    have hr' : k ∈ Region.ready md ops seen := by simpa using hr
    have hst : qOp P ops C k (wpQuiet P ops C Lq l) a := by unfold qOp; simp only [h0]; exact h
    obtain ⟨v, hy, hK⟩ := yieldsIn_of_qOp h0 hst
    refine headG_first h0 (Region.noSelect_spec hsel) hw hkn (fun seen' a' hL => by rw [hL.1]; exact hT) l.length seen a inv (Region.free_spec h0 hf) hr' hy ?_
    exact ih (k + 1) _ _ (fun j hj => by have := hl (j + 1) (by simp; omega); simpa [Nat.add_assoc, Nat.add_comm 1 j] using this) (by omega) (inv.set hr' hkn) hB' hK

theorem wp_region_quiet_any {id : Nat} {Q : Exit → Act → World → Prop} {a : Act} {w : World} {l : List Oper} (n : Nat) (T : Array Bool) (S : World → Prop) (hm : P.follows .mixedOrders = true) (hB : headB .any l.toArray n T = true) (hC : C w.drew)
    (h : wpQuiet P l.toArray C (fun a' => ∀ w', C w' → wpAnyH P .any l.toArray (NoPanic Q) S (l.length - n) T a' w') (l.take n) a) : (Code.region id l.toArray true).wp P Q a w := by
  simp only [headB, Bool.and_eq_true, decide_eq_true_eq] at hB
  obtain ⟨⟨⟨⟨⟨hsel, hn0⟩, hn⟩, hg⟩, hT⟩, hlex⟩ := hB
  have hn' : n < l.length := by simpa using hn
  have htl : (l.take n).length = n := by simp; omega
  have inv0 : HeadInv .any l.toArray n (Array.replicate l.toArray.size false) :=
    ⟨by simp, fun j oj _ hl => (by rw [getD_replicate_false] at hl; cases hl), fun t _ ht => getD_in (by simpa using ht) (getD_replicate_false _ _)⟩
  have H := headG_lex (md := .any) (T := T) hsel (fun seen inv i hi hun t ht => gate_waits hg hn0 hn inv hi hun ht) (fun j hj => by simpa using List.all_eq_true.1 hT j hj) (l.take n) 0 _ a (fun j hj => by
    have hj' : j < n := by rw [htl] at hj; exact hj
    simp [hj']) (by simpa using htl) inv0 (by rw [htl]; exact hlex) h
  refine wp_region_noPanic (wp_region_any hm ?_)
  have := any_of_headQ (Q' := NoPanic Q) (g := l.length - n) (fun seen a' w' hw' hL => by
    rw [hL.1]
    exact wpAny_of_held _ _ _ _ (hL.2 w' hw')) _ _ _ _ hC H
  rw [htl, show n + (l.length - n) = l.toArray.size by simp; omega] at this
  exact this
theorem wp_region_below_any {id : Nat} {Q : Exit → Act → World → Prop} {a : Act} {w : World} {l : List Oper} (n : Nat) (T : Array Bool) (S : World → Prop) (hm : P.follows .mixedOrders = true) (hB : headB .any l.toArray n T = true)
    (h : wpQuiet P l.toArray (fun w' => ∃ p : GB, w' = gw w p.d p.os) (fun a' => ∀ w', (∃ p : GB, w' = gw w p.d p.os) → wpAnyH P .any l.toArray (NoPanic Q) S (l.length - n) T a' w') (l.take n) a) : (Code.region id l.toArray true).wp P Q a w :=
  wp_region_quiet_any (C := fun w' => ∃ p : GB, w' = gw w p.d p.os) n T S hm hB (gw_of_below (below_drew (Below.refl _ _))) h
/-- the tail of a pair's assignment: two extracts, a whole store, a copy -/
theorem tail_pair {P : Program} {ops : Array Oper} {md : Region.Mode} {T : Array Bool} {Q : Exit → Act → World → Prop} {a : Act} {w : World} (i0 i1 i2 i3 : Nat) {o0 o1 o2 o3 : Oper} (d0 d1 d3 : Tmp) (ty : TypeId) (x p : Operand) (b : Nat) (c0 : List Value) (u : Value)
    (k0 : ops[i0]? = some o0) (k1 : ops[i1]? = some o1) (k2 : ops[i2]? = some o2) (k3 : ops[i3]? = some o3) (hsel : Region.noSelect ops = true)
    (f0 : Region.free md ops T i0 = true) (r0 : (Region.ready md ops T).contains i0 = true)
    (f1 : Region.free md ops (T.setIfInBounds i0 true) i1 = true) (r1 : (Region.ready md ops (T.setIfInBounds i0 true)).contains i1 = true)
    (r2 : Region.ready md ops ((T.setIfInBounds i0 true).setIfInBounds i1 true) = [i2]) (r3 : Region.ready md ops (((T.setIfInBounds i0 true).setIfInBounds i1 true).setIfInBounds i2 true) = [i3])
    (r4 : Region.ready md ops ((((T.setIfInBounds i0 true).setIfInBounds i1 true).setIfInBounds i2 true).setIfInBounds i3 true) = [])
    (g0 : o0.guard = none) (g1 : o1.guard = none) (g2 : o2.guard = none) (g3 : o3.guard = none)
    (n0 : o0.dst = some d0) (n1 : o1.dst = some d1) (n2 : o2.dst = none) (n3 : o3.dst = some d3)
    (h0 : o0.op = .extract x 0) (h1 : o1.op = .extract x 1) (h2 : o2.op = .store ty p (.tmp d0)) (h3 : o3.op = .assign (.tmp d1))
    (e0 : a.eval x = .tuple #[.agg c0.toArray, u]) (e1 : (a.put (some d0) (.agg c0.toArray)).eval x = .tuple #[.agg c0.toArray, u])
    (e2 : ((a.put (some d0) (.agg c0.toArray)).put (some d1) u).eval p = .pointer (some ⟨b, 0, none⟩)) (e2' : ((a.put (some d0) (.agg c0.toArray)).put (some d1) u).eval (.tmp d0) = .agg c0.toArray)
    (e3 : (((a.put (some d0) (.agg c0.toArray)).put (some d1) u).put none undef).eval (.tmp d1) = u)
    (ht : w.there b 0 c0.length) (hi : (P.info? ty).map (·.size) = some c0.length) (k : c0.toArray.all (·.oneCell') = true)
    (hfin : Q .normal ((((a.put (some d0) (.agg c0.toArray)).put (some d1) u).put none undef).put (some d3) u) (w.setCells b 0 c0)) :
    wpAnyH P md ops (NoPanic Q) (fun _ => True) 4 T a w := by
  refine wpAnyH_take (i := i0) (oi := o0) (v := .agg c0.toArray) k0 hsel f0 r0 (fun c a w h => h) (.inl ⟨by simp [Region.wanted, g0], fun w _ => by unfold execOp; simp [h0, e0, Instr.extract]⟩) trivial ?_
  rw [n0]
  refine wpAnyH_take (i := i1) (oi := o1) (v := u) k1 hsel f1 r1 (fun c a w h => h) (.inl ⟨by simp [Region.wanted, g1], fun w _ => by unfold execOp; simp [h1, e1, Instr.extract]⟩) trivial ?_
  rw [n1]
  refine wpAnyH_ready (rs := [i2]) r2 (by simp) (AllReadyH.cons (o := o2) k2 (fun K hK => ?_) AllReadyH.nil)
  rw [if_pos (by simp [Region.wanted, g2])]
  refine wp_store_mid ty p (.tmp d0) h2 b 0 c0.toArray e2 e2' (by rw [List.size_toArray]; exact ht) (by rw [List.size_toArray]; exact hi) k ?_
  rw [n2]
  refine hK.out _ _ trivial (fun _ => ?_)
  refine wpAnyH_ready (rs := [i3]) r3 (by simp) (AllReadyH.cons (o := o3) k3 (fun K' hK' => ?_) AllReadyH.nil)
  rw [if_pos (by simp [Region.wanted, g3])]
  unfold Oper.wp execOp
  simp [h3, e3, Oper.upon]
  rw [n3]
  refine hK'.out _ _ trivial (fun _ => ?_)
  exact wpAnyH_done r4 (NoPanic.normal hfin) _
end
end Go.Proofs.Ytnkmhbiklffjlaa
