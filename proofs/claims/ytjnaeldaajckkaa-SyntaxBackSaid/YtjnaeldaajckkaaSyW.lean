/- The law of x.f = append(x.f, call(..).g): a region that draws, in which a load and a call come in any order, the call may panic, and a slice literal, an append and a store follow. -/
import Derived.Test.YtjnaeldaajckkaaTokC
import Derived.Deep.RegionHeld3
import Derived.Deep.RegionLaw
set_option linter.unusedVariables false
set_option linter.unusedSimpArgs false
namespace Go.Proofs.Ytjnaeldaajckkaa
open Go.RowKit

section
variable {P : Program} {md : Region.Mode} {ops : Array Oper} {S : World → Prop} {Q : Exit → Act → World → Prop}
def putsA (a : Act) (l : List (Nat × Tmp × Value)) : Act := l.foldl (fun a p => a.put (some p.2.1) p.2.2) a
def takesL (L : Array Bool) (is : List Nat) : Array Bool := is.foldl (fun L i => L.setIfInBounds i true) L
def takesB (md : Region.Mode) (ops : Array Oper) : Array Bool → List Nat → Bool
  | _, [] => true
  | L, i :: is => Region.free md ops L i && (Region.ready md ops L).contains i && takesB md ops (L.setIfInBounds i true) is
def takesY (P : Program) (ops : Array Oper) (S : World → Prop) : List (Nat × Tmp × Value) → Act → Prop
  | [], _ => True
  | (i, d, v) :: l, a => (∃ oi, ops[i]? = some oi ∧ oi.dst = some d ∧ YieldsIf P ops S oi v a) ∧ takesY P ops S l (a.put (some d) v)
/-- several are taken, one after the other -/
theorem wpAnyH_takesQ (hs : Region.noSelect ops = true) (hQ : ∀ d v c a w, Q (.panic c) (a.put d v) w → Q (.panic c) a w) (w : World) (hS : S w) (fuel : Nat) : ∀ (l : List (Nat × Tmp × Value)) (L : Array Bool) (a : Act), takesB md ops L (l.map (·.1)) = true → takesY P ops S l a →
    wpAnyH P md ops Q S fuel (takesL L (l.map (·.1))) (putsA a l) w → wpAnyH P md ops Q S (fuel + l.length) L a w
  | [], L, a, _, _, h => h
  | (i, d, v) :: l, L, a, hB, hy, h => by
    simp only [List.map_cons, takesB, Bool.and_eq_true] at hB
    obtain ⟨⟨hf, hr⟩, hB⟩ := hB
    obtain ⟨⟨oi, ho, hd, hyi⟩, hy⟩ := hy
    have ih := wpAnyH_takesQ hs hQ w hS fuel l (L.setIfInBounds i true) (a.put (some d) v) hB hy h
    refine wpAnyH_take ho hs hf hr (fun c a w => hQ _ _ c a w) hyi hS ?_
    rw [hd]; exact ih
/-- an operation that yields some value -/
def GY (P : Program) (fin : Act) (o : Oper) (W : World) (D : Value → World → Prop) : Prop := match (execOp fin.eval o).run P W with
  | .ok (.value v) w'' => D v w''
  | .ok (.enter f args) w'' => w'' = W ∧ Calls P f args W (fun e w3 => ∃ v, e = .returned v ∧ D v w3)
  | _ => False
theorem GY.value {P : Program} {fin : Act} {o : Oper} {W w' : World} {D : Value → World → Prop} {v : Value} (h : (execOp fin.eval o).run P W = .ok (.value v) w') (hD : D v w') : GY P fin o W D := by
  unfold GY; rw [h]; exact hD
theorem GY.call {P : Program} {fin : Act} {o : Oper} {W : World} {D : Value → World → Prop} {f : FuncId} {args : Array Value} (h : (execOp fin.eval o).run P W = .ok (.enter f args) W) (hD : Calls P f args W (fun e w3 => ∃ v, e = .returned v ∧ D v w3)) : GY P fin o W D := by
  unfold GY; rw [h]; exact ⟨rfl, hD⟩
theorem GY.wp {o : Oper} {a : Act} {W : World} {D : Value → World → Prop} {K : Act → World → Prop} {Q : Exit → Act → World → Prop} (h : GY P a o W D) (hk : ∀ v w', D v w' → K (a.put o.dst v) w') : Oper.wp P o a W K Q := by
  unfold GY at h
  unfold Oper.wp
  split at h
  · rename_i v w'' heq; rw [heq]; exact hk _ _ h
  · rename_i f args w'' heq
    rw [heq]
    obtain ⟨rfl, hc⟩ := h
    rw [Oper.upon_enter]
    refine hc.mono ?_
    rintro e w3 ⟨v, rfl, hD⟩
    exact hk _ _ hD
  · exact h.elim
/-- a call that panics -/
def GP (P : Program) (fin : Act) (o : Oper) (W : World) (D : List PanicEntry → World → Prop) : Prop := ∃ f args, (execOp fin.eval o).run P W = .ok (.enter f args) W ∧ Calls P f args W (fun e w3 => ∃ c, e = .panicked c ∧ D c w3)
theorem GP.wp {o : Oper} {a : Act} {W : World} {D : List PanicEntry → World → Prop} {K : Act → World → Prop} {Q : Exit → Act → World → Prop} (h : GP P a o W D) (hk : ∀ c w', D c w' → Q (.panic c) a w') : Oper.wp P o a W K Q := by
  obtain ⟨f, args, h, hc⟩ := h
  unfold Oper.wp
  rw [h, Oper.upon_enter]
  refine hc.mono ?_
  rintro e w3 ⟨c, rfl, hD⟩
  exact hk _ _ hD
def lcOk (ops : Array Oper) (preI : List Nat) (il ic : Nat) (midI : List Nat) (ib ia ip is : Nat) : Bool :=
  let T1 := takesL (Array.replicate ops.size false) preI
  let TL := T1.setIfInBounds il true
  let TLC := takesL (TL.setIfInBounds ic true) midI
  let TC := takesL (T1.setIfInBounds ic true) midI
  let T5 := TLC.setIfInBounds ib true
  let T6 := T5.setIfInBounds ia true
  takesB .any ops (Array.replicate ops.size false) preI && decide (Region.ready .any ops T1 = [il, ic]) && decide (Region.ready .any ops TL = [ic]) && takesB .any ops (TL.setIfInBounds ic true) midI && decide (Region.ready .any ops TLC = [ib]) &&
    takesB .any ops (T1.setIfInBounds ic true) midI && decide (Region.ready .any ops TC = [il, ib]) && decide (TC.setIfInBounds il true = TLC) && decide (Region.ready .any ops (TC.setIfInBounds ib true) = [il]) && decide ((TC.setIfInBounds ib true).setIfInBounds il true = T5) &&
    decide (Region.ready .any ops T5 = [ia]) && takesB .any ops T6 [ip] && decide (Region.ready .any ops (T6.setIfInBounds ip true) = [is]) && decide (Region.ready .any ops ((T6.setIfInBounds ip true).setIfInBounds is true) = []) && Region.noSelect ops && decide (ops.size = 6 + midI.length + preI.length)
/-- what the post says of panics: D, whatever the slots -/
def PanicD (df : List Deferred) (D : List PanicEntry → World → Prop) : Exit → Act → World → Prop
  | .panic c, a, w => a.defers = df ∧ D c w
  | _, _, _ => False
end
theorem wp_region_lcp {P : Program} {id : Nat} {Q : Exit → Act → World → Prop} {a : Act} {w : World} {l : List Oper} (pre : List (Nat × Tmp × Value)) (mid : List Nat) (il ic ib ia ip is : Nat) (dl : Tmp) (vL : Value) (F0 : Act) (S : World → Prop) (D : List PanicEntry → World → Prop) {ol oc : Oper} (hm : P.follows .mixedOrders = true)
    (hB : lcOk l.toArray (pre.map (·.1)) il ic mid ib ia ip is = true) (hol : l.toArray[il]? = some ol) (hoc : l.toArray[ic]? = some oc) (gl : ol.guard = none) (gc : oc.guard = none) (hdl : ol.dst = some dl)
    (hF0 : putsA a pre = F0) (hS : S w.drew) (hypre : takesY P l.toArray S pre a) (hL : (execOp F0.eval ol).run P w.drew = .ok (.value vL) w.drew)
    (hC1 : GP P (F0.put (some dl) vL) oc w.drew D) (hC2 : GP P F0 oc w.drew D) (hQ : ∀ c a' w', a'.defers = F0.defers → D c w' → Q (.panic c) a' w') : (Code.region id l.toArray true).wp P Q a w := by
  simp only [lcOk, Bool.and_eq_true, decide_eq_true_eq] at hB
  obtain ⟨⟨⟨⟨⟨⟨⟨⟨⟨⟨⟨⟨⟨⟨⟨k1, k2⟩, k3⟩, k4⟩, k5⟩, k6⟩, k7⟩, k8⟩, k9⟩, k10⟩, k11⟩, k14⟩, k12⟩, k13⟩, hs⟩, hsz⟩ := hB
  refine Code.wp_mono (Q := PanicD F0.defers D) (fun e a w h => ?_) (wp_region_any hm (wpAny_of_held (S := S) _ _ _ _ ?_))
  · cases e <;> first | exact hQ _ _ _ h.1 h.2 | exact (h : False).elim
  rw [List.length_map] at hsz
  generalize Array.replicate l.toArray.size false = L0 at *
  rw [hsz]
  refine wpAnyH_takesQ hs (fun d v c a w h => ⟨by have := h.1; cases d <;> exact this, h.2⟩) _ hS _ pre _ _ k1 hypre ?_
  rw [hF0, show 6 + mid.length = (5 + mid.length) + 1 by omega]
  refine wpAnyH_ready k2 (by simp) (AllReadyH.cons hol (fun K hK => ?_) (AllReadyH.cons hoc (fun K hK => ?_) AllReadyH.nil))
  · rw [if_pos (by simp [Region.wanted, gl])]
    unfold Oper.wp
    change Oper.upon _ _ _ _ _ ((execOp F0.eval ol).run P w.drew)
    rw [hL]
    refine hK.out _ _ hS fun _ => ?_
    rw [hdl, show 5 + mid.length = (4 + mid.length) + 1 by omega]
    refine wpAnyH_ready k3 (by simp) (AllReadyH.cons hoc (fun K hK => ?_) AllReadyH.nil)
    rw [if_pos (by simp [Region.wanted, gc])]
    exact GP.wp hC1 fun c w' h => ⟨rfl, h⟩
  · rw [if_pos (by simp [Region.wanted, gc])]
    exact GP.wp hC2 fun c w' h => ⟨rfl, h⟩
theorem wp_region_lcg {P : Program} {id : Nat} {Q : Exit → Act → World → Prop} {a : Act} {w : World} {l : List Oper} (pre mid : List (Nat × Tmp × Value)) (il ic ib ia ip is : Nat) (dl dc db dp : Tmp) (vL vC vP : Value) (F0 G1 G2 : Act) (S RC : World → Prop) (RB : Value → World → Prop) {ol oc ob : Oper} (hm : P.follows .mixedOrders = true)
    (hB : lcOk l.toArray (pre.map (·.1)) il ic (mid.map (·.1)) ib ia ip is = true) (hol : l.toArray[il]? = some ol) (hoc : l.toArray[ic]? = some oc) (hob : l.toArray[ib]? = some ob) (gl : ol.guard = none) (gc : oc.guard = none) (gb : ob.guard = none) (hdl : ol.dst = some dl) (hdc : oc.dst = some dc) (hdb : ob.dst = some db)
    (hF0 : putsA a pre = F0) (hG1 : putsA ((F0.put (some dl) vL).put (some dc) vC) mid = G1) (hG2 : putsA (F0.put (some dc) vC) mid = G2) (hE1 : G2.put (some dl) vL = G1) (hE2 : ∀ vb, (G2.put (some db) vb).put (some dl) vL = G1.put (some db) vb)
    (hS0 : S w.drew) (hSC : ∀ W, RC W → S W) (hSB : ∀ v W, RB v W → S W)
    (hypre : takesY P l.toArray S pre a) (hmid1 : takesY P l.toArray S mid ((F0.put (some dl) vL).put (some dc) vC)) (hmid2 : takesY P l.toArray S mid (F0.put (some dc) vC))
    (hL1 : (execOp F0.eval ol).run P w.drew = .ok (.value vL) w.drew) (hL2 : ∀ W, RC W → (execOp G2.eval ol).run P W = .ok (.value vL) W) (hL3 : ∀ vb W, RB vb W → (execOp (G2.put (some db) vb).eval ol).run P W = .ok (.value vL) W)
    (hC1 : GY P (F0.put (some dl) vL) oc w.drew (fun v w' => v = vC ∧ RC w')) (hC2 : GY P F0 oc w.drew (fun v w' => v = vC ∧ RC w'))
    (hb1 : ∀ W, RC W → GY P G1 ob W RB) (hb2 : ∀ W, RC W → GY P G2 ob W RB)
    (hT : ∀ v W, RB v W → ∃ oa os, l.toArray[ia]? = some oa ∧ l.toArray[is]? = some os ∧ oa.guard = none ∧ os.guard = none ∧
      ∀ K1 : Act → World → Prop, (∀ u W1, S W1 → takesY P l.toArray S [(ip, dp, vP)] ((G1.put (some db) v).put oa.dst u) → (∀ K2 : Act → World → Prop, (∀ x W2, S W2 → Q .normal ((((G1.put (some db) v).put oa.dst u).put (some dp) vP).put os.dst x) W2 → K2 ((((G1.put (some db) v).put oa.dst u).put (some dp) vP).put os.dst x) W2) → Oper.wp P os (((G1.put (some db) v).put oa.dst u).put (some dp) vP) W1 K2 (NoPanic Q)) → K1 ((G1.put (some db) v).put oa.dst u) W1) → Oper.wp P oa (G1.put (some db) v) W K1 (NoPanic Q)) :
    (Code.region id l.toArray true).wp P Q a w := by
  simp only [lcOk, Bool.and_eq_true, decide_eq_true_eq] at hB
  obtain ⟨⟨⟨⟨⟨⟨⟨⟨⟨⟨⟨⟨⟨⟨⟨k1, k2⟩, k3⟩, k4⟩, k5⟩, k6⟩, k7⟩, k8⟩, k9⟩, k10⟩, k11⟩, k14⟩, k12⟩, k13⟩, hs⟩, hsz⟩ := hB
  refine wp_region_noPanic (wp_region_any hm (wpAny_of_held (S := S) _ _ _ _ ?_))
  rw [List.length_map, List.length_map] at hsz
  generalize Array.replicate l.toArray.size false = L0 at *
  rw [hsz]
  have hN : ∀ (d : Option Tmp) (v : Value) (c : List PanicEntry) (a : Act) (w : World), NoPanic Q (.panic c) (a.put d v) w → NoPanic Q (.panic c) a w := fun _ _ _ _ _ h => h
  refine wpAnyH_takesQ hs hN _ hS0 _ pre _ _ k1 hypre ?_
  rw [hF0]
  have tail : ∀ v W, RB v W → wpAnyH P .any l.toArray (NoPanic Q) S 3 ((takesL (((takesL L0 (pre.map (·.1))).setIfInBounds il true).setIfInBounds ic true) (mid.map (·.1))).setIfInBounds ib true) (G1.put (some db) v) W := by
    intro v W hR
    obtain ⟨oa, os, ha, ho, ga, go, hT⟩ := hT v W hR
    refine wpAnyH_ready k11 (by simp) (AllReadyH.cons ha (fun K hK => ?_) AllReadyH.nil)
    rw [if_pos (by simp [Region.wanted, ga])]
    refine hT K fun u W1 hS1 hy h2 => hK.out _ _ hS1 fun _ => ?_
    refine wpAnyH_takesQ hs hN _ hS1 1 [(ip, dp, vP)] _ _ k14 hy ?_
    refine wpAnyH_ready k12 (by simp) (AllReadyH.cons ho (fun K2 hK2 => ?_) AllReadyH.nil)
    rw [if_pos (by simp [Region.wanted, go])]
    refine h2 K2 fun x W2 hS2 hQ => hK2.out _ _ hS2 fun _ => ?_
    exact wpAnyH_done k13 (NoPanic.normal hQ) _
  rw [show 6 + mid.length = (5 + mid.length) + 1 by omega]
  refine wpAnyH_ready k2 (by simp) (AllReadyH.cons hol (fun K hK => ?_) (AllReadyH.cons hoc (fun K hK => ?_) AllReadyH.nil))
  · rw [if_pos (by simp [Region.wanted, gl])]
    unfold Oper.wp
    change Oper.upon _ _ _ _ _ ((execOp F0.eval ol).run P w.drew)
    rw [hL1]
    refine hK.out _ _ hS0 fun _ => ?_
    rw [hdl, show 5 + mid.length = (4 + mid.length) + 1 by omega]
    refine wpAnyH_ready k3 (by simp) (AllReadyH.cons hoc (fun K hK => ?_) AllReadyH.nil)
    rw [if_pos (by simp [Region.wanted, gc])]
    refine GY.wp hC1 ?_
    rintro v w1 ⟨rfl, hb⟩
    refine hK.out _ _ (hSC _ hb) fun _ => ?_
    rw [hdc]
    refine wpAnyH_takesQ hs hN _ (hSC _ hb) 4 mid _ _ k4 hmid1 ?_
    rw [hG1]
    refine wpAnyH_ready k5 (by simp) (AllReadyH.cons hob (fun K hK => ?_) AllReadyH.nil)
    rw [if_pos (by simp [Region.wanted, gb])]
    refine GY.wp (hb1 _ hb) ?_
    intro v w2 hR
    refine hK.out _ _ (hSB _ _ hR) fun _ => ?_
    rw [hdb]
    exact tail v w2 hR
  · rw [if_pos (by simp [Region.wanted, gc])]
    refine GY.wp hC2 ?_
    rintro v w1 ⟨rfl, hb⟩
    refine hK.out _ _ (hSC _ hb) fun _ => ?_
    rw [hdc]
    refine wpAnyH_takesQ hs hN _ (hSC _ hb) 5 mid _ _ k6 hmid2 ?_
    rw [hG2]
    refine wpAnyH_ready k7 (by simp) (AllReadyH.cons hol (fun K hK => ?_) (AllReadyH.cons hob (fun K hK => ?_) AllReadyH.nil))
    · rw [if_pos (by simp [Region.wanted, gl])]
      unfold Oper.wp
      change Oper.upon _ _ _ _ _ ((execOp G2.eval ol).run P w1)
      rw [hL2 _ hb]
      refine hK.out _ _ (hSC _ hb) fun _ => ?_
      rw [hdl, hE1, k8]
      refine wpAnyH_ready k5 (by simp) (AllReadyH.cons hob (fun K hK => ?_) AllReadyH.nil)
      rw [if_pos (by simp [Region.wanted, gb])]
      refine GY.wp (hb1 _ hb) ?_
      intro v w2 hR
      refine hK.out _ _ (hSB _ _ hR) fun _ => ?_
      rw [hdb]
      exact tail v w2 hR
    · rw [if_pos (by simp [Region.wanted, gb])]
      refine GY.wp (hb2 _ hb) ?_
      intro v w2 hR
      refine hK.out _ _ (hSB _ _ hR) fun _ => ?_
      rw [hdb]
      refine wpAnyH_ready k9 (by simp) (AllReadyH.cons hol (fun K hK => ?_) AllReadyH.nil)
      rw [if_pos (by simp [Region.wanted, gl])]
      unfold Oper.wp
      change Oper.upon _ _ _ _ _ ((execOp (G2.put (some db) v).eval ol).run P w2)
      rw [hL3 _ _ hR]
      refine hK.out _ _ (hSB _ _ hR) fun _ => ?_
      rw [hdl, hE2, k10]
      exact tail v w2 hR
end Go.Proofs.Ytjnaeldaajckkaa
