/- The law of a region that draws and whose call panics, with what is known of the slots: all but those that the region writes are as they were. -/
import Derived.Test.YtjnaeldaajckkaaSyW
set_option linter.unusedVariables false
set_option linter.unusedSimpArgs false
namespace Go.Proofs.Ytjnaeldaajckkaa
open Go.RowKit

section
variable {P : Program} {md : Region.Mode} {ops : Array Oper} {S : World → Prop} {Q : Exit → Act → World → Prop}
theorem wpAnyH_takesR (hs : Region.noSelect ops = true) (w : World) (hS : S w) (fuel : Nat) : ∀ (l : List (Nat × Tmp × Value)) (L : Array Bool) (a : Act) (hQ : ∀ p ∈ l, ∀ c a w, Q (.panic c) (a.put (some p.2.1) p.2.2) w → Q (.panic c) a w), takesB md ops L (l.map (·.1)) = true → takesY P ops S l a →
    wpAnyH P md ops Q S fuel (takesL L (l.map (·.1))) (putsA a l) w → wpAnyH P md ops Q S (fuel + l.length) L a w
  | [], L, a, _, _, _, h => h
  | (i, d, v) :: l, L, a, hQ, hB, hy, h => by
    simp only [List.map_cons, takesB, Bool.and_eq_true] at hB
    obtain ⟨⟨hf, hr⟩, hB⟩ := hB
    obtain ⟨⟨oi, ho, hd, hyi⟩, hy⟩ := hy
    have ih := wpAnyH_takesR hs w hS fuel l (L.setIfInBounds i true) (a.put (some d) v) (fun p hp => hQ p (List.mem_cons_of_mem _ hp)) hB hy h
    refine wpAnyH_take ho hs hf hr (fun c a w h => ?_) hyi hS ?_
    · rw [hd] at h
      exact hQ (i, d, v) (List.mem_cons_self ..) c a w h
    · rw [hd]; exact ih
end
theorem put_out {a : Act} {d t : Nat} {v : Value} (h : t ≠ d) : (a.put (some d) v).tmps[t]? = a.tmps[t]? := by
  simp only [Act.put, Array.getElem?_setIfInBounds]
  rw [if_neg (fun e => h e.symm)]
theorem puts_out : ∀ (l : List (Nat × Tmp × Value)) (a : Act), (putsA a l).defers = a.defers ∧ (putsA a l).tmps.size = a.tmps.size ∧ ∀ t, t ∉ l.map (·.2.1) → (putsA a l).tmps[t]? = a.tmps[t]?
  | [], a => ⟨rfl, rfl, fun _ _ => rfl⟩
  | (i, d, v) :: l, a => by
    obtain ⟨h1, h2, h3⟩ := puts_out l (a.put (some d) v)
    refine ⟨h1, h2.trans (by simp [Act.put]), fun t ht => ?_⟩
    simp only [List.map_cons, List.mem_cons, not_or] at ht
    exact (h3 t ht.2).trans (put_out ht.1)
/-- what the post says of panics: D, the slots but those of ds as they were -/
def PanicE (ds : List Nat) (a0 : Act) (D : List PanicEntry → World → Prop) : Exit → Act → World → Prop
  | .panic c, a, w => (a.defers = a0.defers ∧ a.tmps.size = a0.tmps.size ∧ ∀ t, t ∉ ds → a.tmps[t]? = a0.tmps[t]?) ∧ D c w
  | _, _, _ => False
def lceOk (ops : Array Oper) (preI : List Nat) (il ic : Nat) : Bool :=
  let T1 := takesL (Array.replicate ops.size false) preI
  takesB .any ops (Array.replicate ops.size false) preI && decide (Region.ready .any ops T1 = [il, ic]) && decide (Region.ready .any ops (T1.setIfInBounds il true) = [ic]) && Region.noSelect ops && decide (2 + preI.length ≤ ops.size)
theorem wp_region_lce {P : Program} {id : Nat} {Q : Exit → Act → World → Prop} {a : Act} {w : World} {l : List Oper} (pre : List (Nat × Tmp × Value)) (il ic : Nat) (dl : Tmp) (vL : Value) (F0 : Act) (D : List PanicEntry → World → Prop) {ol oc : Oper} (hm : P.follows .mixedOrders = true)
    (hB : lceOk l.toArray (pre.map (·.1)) il ic = true) (hol : l.toArray[il]? = some ol) (hoc : l.toArray[ic]? = some oc) (gl : ol.guard = none) (gc : oc.guard = none) (hdl : ol.dst = some dl)
    (hF0 : putsA a pre = F0) (hypre : takesY P l.toArray (fun _ => True) pre a) (hL : (execOp F0.eval ol).run P w.drew = .ok (.value vL) w.drew)
    (hC1 : GP P (F0.put (some dl) vL) oc w.drew D) (hC2 : GP P F0 oc w.drew D) (hQ : ∀ c a' w', a'.defers = a.defers → a'.tmps.size = a.tmps.size → (∀ t, t ∉ dl :: pre.map (·.2.1) → a'.tmps[t]? = a.tmps[t]?) → D c w' → Q (.panic c) a' w') : (Code.region id l.toArray true).wp P Q a w := by
  simp only [lceOk, Bool.and_eq_true, decide_eq_true_eq] at hB
  obtain ⟨⟨⟨⟨k1, k2⟩, k3⟩, hs⟩, hsz⟩ := hB
  refine Code.wp_mono (Q := PanicE (dl :: pre.map (·.2.1)) a D) (fun e a w h => ?_) (wp_region_any hm (wpAny_of_held (S := fun _ => True) _ _ _ _ ?_))
  · cases e <;> first | exact hQ _ _ _ h.1.1 h.1.2.1 h.1.2.2 h.2 | exact (h : False).elim
  obtain ⟨f, hf⟩ : ∃ f, l.toArray.size = (f + 1 + 1) + (pre.map (·.1)).length := ⟨l.toArray.size - 2 - (pre.map (·.1)).length, by omega⟩
  rw [List.length_map] at hf
  generalize Array.replicate l.toArray.size false = L0 at *
  rw [hf]
  obtain ⟨p1, p2, p3⟩ := puts_out pre a
  rw [hF0] at p1 p2 p3
  have g1 : ∀ t, t ∉ dl :: pre.map (·.2.1) → F0.tmps[t]? = a.tmps[t]? := fun t ht => p3 t fun e => ht (List.mem_cons_of_mem _ e)
  have g2 : ∀ t, t ∉ dl :: pre.map (·.2.1) → (F0.put (some dl) vL).tmps[t]? = a.tmps[t]? := fun t ht => (put_out fun e => ht (by rw [e]; exact List.mem_cons_self ..)).trans (g1 t ht)
  refine wpAnyH_takesR hs _ trivial _ pre _ _ (fun p hp c b w h => ⟨⟨h.1.1, ?_, fun t ht => ?_⟩, h.2⟩) k1 hypre ?_
  · have := h.1.2.1; simpa [Act.put] using this
  · rw [← h.1.2.2 t ht]
    exact (put_out fun e => ht (List.mem_cons_of_mem _ (by rw [e]; exact List.mem_map.2 ⟨p, hp, rfl⟩))).symm
  rw [hF0]
  refine wpAnyH_ready k2 (by simp) (AllReadyH.cons hol (fun K hK => ?_) (AllReadyH.cons hoc (fun K hK => ?_) AllReadyH.nil))
  · rw [if_pos (by simp [Region.wanted, gl])]
    unfold Oper.wp
    change Oper.upon _ _ _ _ _ ((execOp F0.eval ol).run P w.drew)
    rw [hL]
    refine hK.out _ _ trivial fun _ => ?_
    rw [hdl]
    refine wpAnyH_ready k3 (by simp) (AllReadyH.cons hoc (fun K hK => ?_) AllReadyH.nil)
    rw [if_pos (by simp [Region.wanted, gc])]
    exact GP.wp hC1 fun c w' h => ⟨⟨p1, by simpa [Act.put] using p2, g2⟩, h⟩
  · rw [if_pos (by simp [Region.wanted, gc])]
    exact GP.wp hC2 fun c w' h => ⟨⟨p1, p2, g1⟩, h⟩
end Go.Proofs.Ytjnaeldaajckkaa
