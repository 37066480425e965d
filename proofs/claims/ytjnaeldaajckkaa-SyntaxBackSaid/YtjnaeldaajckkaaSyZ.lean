/- The law of a region that draws and holds two calls, the second one fed by the first: f(.., g(..)). -/
import Derived.Test.YtjnaeldaajckkaaSyW
set_option linter.unusedVariables false
set_option linter.unusedSimpArgs false
namespace Go.Proofs.Ytjnaeldaajckkaa
open Go.RowKit

def ccOk (ops : Array Oper) (preI : List Nat) (i1 : Nat) (midI : List Nat) (i2 : Nat) : Bool :=
  let T1 := takesL (Array.replicate ops.size false) preI
  let T2 := takesL (T1.setIfInBounds i1 true) midI
  takesB .any ops (Array.replicate ops.size false) preI && decide (Region.ready .any ops T1 = [i1]) && takesB .any ops (T1.setIfInBounds i1 true) midI && decide (Region.ready .any ops T2 = [i2]) && decide (Region.ready .any ops (T2.setIfInBounds i2 true) = []) && Region.noSelect ops && decide (ops.size = 2 + midI.length + preI.length)
theorem wp_region_cc {P : Program} {id : Nat} {Q : Exit → Act → World → Prop} {a : Act} {w : World} {l : List Oper} (pre : List (Nat × Tmp × Value)) (mid : Value → List (Nat × Tmp × Value)) (midI : List Nat) (i1 i2 : Nat) (d1 d2 : Tmp)
    (F0 : Act) (G : Value → Act) (S : World → Prop) (R1 : Value → World → Prop) (R2 : Value → Value → World → Prop) {o1 o2 : Oper} (hm : P.follows .mixedOrders = true) (hB : ccOk l.toArray (pre.map (·.1)) i1 midI i2 = true)
    (h1 : l.toArray[i1]? = some o1) (h2 : l.toArray[i2]? = some o2) (hg : o1.guard = none ∧ o2.guard = none) (hd : o1.dst = some d1 ∧ o2.dst = some d2) (hmid : ∀ u, (mid u).map (·.1) = midI)
    (hF0 : putsA a pre = F0) (hG : ∀ u, putsA (F0.put (some d1) u) (mid u) = G u) (hS : S w.drew) (hSR : ∀ u W, R1 u W → S W) (hSR2 : ∀ u x W, R2 u x W → S W)
    (hypre : takesY P l.toArray S pre a) (hym : ∀ u W, R1 u W → takesY P l.toArray S (mid u) (F0.put (some d1) u))
    (hC1 : GY P F0 o1 w.drew R1) (hC2 : ∀ u W, R1 u W → GY P (G u) o2 W (R2 u)) (hQ : ∀ u x W, R2 u x W → Q .normal ((G u).put (some d2) x) W) :
    (Code.region id l.toArray true).wp P Q a w := by
  simp only [ccOk, Bool.and_eq_true, decide_eq_true_eq] at hB
  obtain ⟨⟨⟨⟨⟨⟨k1, k2⟩, k3⟩, k4⟩, k5⟩, hs⟩, hsz⟩ := hB
  refine wp_region_noPanic (wp_region_any hm (wpAny_of_held (S := S) _ _ _ _ ?_))
  generalize Array.replicate l.toArray.size false = L0 at *
  rw [hsz, List.length_map]
  have hN : ∀ (d : Option Tmp) (v : Value) (c : List PanicEntry) (a : Act) (w : World), NoPanic Q (.panic c) (a.put d v) w → NoPanic Q (.panic c) a w := fun _ _ _ _ _ h => h
  refine wpAnyH_takesQ hs hN _ hS _ pre _ _ k1 hypre ?_
  rw [hF0, show 2 + midI.length = (1 + midI.length) + 1 by omega]
  refine wpAnyH_ready k2 (by simp) (AllReadyH.cons h1 (fun K hK => ?_) AllReadyH.nil)
  rw [if_pos (by simp [Region.wanted, hg.1])]
  refine GY.wp hC1 ?_
  intro u w1 hb
  refine hK.out _ _ (hSR _ _ hb) fun _ => ?_
  rw [hd.1, ← hmid u, List.length_map]
  rw [← hmid u] at k3 k4 k5
  refine wpAnyH_takesQ hs hN _ (hSR _ _ hb) 1 (mid u) _ _ k3 (hym u _ hb) ?_
  rw [hG]
  refine wpAnyH_ready k4 (by simp) (AllReadyH.cons h2 (fun K hK => ?_) AllReadyH.nil)
  rw [if_pos (by simp [Region.wanted, hg.2])]
  refine GY.wp (hC2 _ _ hb) ?_
  intro x w2 hx
  refine hK.out _ _ (hSR2 _ _ _ hx) fun _ => ?_
  rw [hd.2]
  exact wpAnyH_done k5 (NoPanic.normal (hQ _ _ _ hx)) _
end Go.Proofs.Ytjnaeldaajckkaa
