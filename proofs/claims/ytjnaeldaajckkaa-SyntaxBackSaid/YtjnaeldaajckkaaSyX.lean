/- The law of x.f = append(x.f, call(..)) with the append's own law inside: a region that draws, in which a load and a call come in any order, a slice literal of one item, an append onto an own row and a store follow. What the call hands back is known only when it comes. -/
import Derived.Test.YtjnaeldaajckkaaSyW
import Derived.Deep.AppendLies
set_option linter.unusedVariables false
set_option linter.unusedSimpArgs false
namespace Go.Proofs.Ytjnaeldaajckkaa
open Go.RowKit

def lcaOk (ops : Array Oper) (preI : List Nat) (il ic : Nat) (midI : List Nat) (ib ia : Nat) (postI : List Nat) (is : Nat) : Bool :=
  let T1 := takesL (Array.replicate ops.size false) preI
  let TL := T1.setIfInBounds il true
  let TLC := takesL (TL.setIfInBounds ic true) midI
  let TC := takesL (T1.setIfInBounds ic true) midI
  let T5 := TLC.setIfInBounds ib true
  let T6 := T5.setIfInBounds ia true
  takesB .any ops (Array.replicate ops.size false) preI && decide (Region.ready .any ops T1 = [il, ic]) && decide (Region.ready .any ops TL = [ic]) && takesB .any ops (TL.setIfInBounds ic true) midI && decide (Region.ready .any ops TLC = [ib]) &&
    takesB .any ops (T1.setIfInBounds ic true) midI && decide (Region.ready .any ops TC = [il, ib]) && decide (TC.setIfInBounds il true = TLC) && decide (Region.ready .any ops (TC.setIfInBounds ib true) = [il]) && decide ((TC.setIfInBounds ib true).setIfInBounds il true = T5) &&
    decide (Region.ready .any ops T5 = [ia]) && takesB .any ops T6 postI && decide (Region.ready .any ops (takesL T6 postI) = [is]) && decide (Region.ready .any ops ((takesL T6 postI).setIfInBounds is true) = []) && Region.noSelect ops && decide (ops.size = 5 + postI.length + midI.length + preI.length)
theorem wp_region_lca {P : Program} {id : Nat} {Q : Exit → Act → World → Prop} {a : Act} {w : World} {l : List Oper} (pre post : List (Nat × Tmp × Value)) (mid : Value → List (Nat × Tmp × Value)) (midI : List Nat) (il ic ib ia is : Nat) (dl dc db da : Tmp)
    (v : Value) (F0 : Act) (G1 G2 : Value → Act) (S : World → Prop) (RC : Value → World → Prop) (cs : Value → List Value) (B : Nat) (e : TypeId) (size bytes n : Nat) (xs : List Value) (i : TypeInfo) (z : Value) (bx fo : Nat) (sl xb : Operand) (ts : TypeId) {ol oc ob oa os : Oper}
    (hm : P.follows .mixedOrders = true) (hB : lcaOk l.toArray (pre.map (·.1)) il ic midI ib ia (post.map (·.1)) is = true)
    (hol : l.toArray[il]? = some ol) (hoc : l.toArray[ic]? = some oc) (hob : l.toArray[ib]? = some ob) (hoa : l.toArray[ia]? = some oa) (hos : l.toArray[is]? = some os)
    (hg : ol.guard = none ∧ oc.guard = none ∧ ob.guard = none ∧ oa.guard = none ∧ os.guard = none) (hd : ol.dst = some dl ∧ oc.dst = some dc ∧ ob.dst = some db ∧ oa.dst = some da ∧ os.dst = none)
    (hmid : ∀ u, (mid u).map (·.1) = midI)
    (hF0 : putsA a pre = F0) (hG1 : ∀ u, putsA ((F0.put (some dl) v).put (some dc) u) (mid u) = G1 u) (hG2 : ∀ u, putsA (F0.put (some dc) u) (mid u) = G2 u) (hE1 : ∀ u, (G2 u).put (some dl) v = G1 u) (hE2 : ∀ u b, ((G2 u).put (some db) b).put (some dl) v = (G1 u).put (some db) b)
    (hS : S w.drew) (hSR : ∀ u W, RC u W → S W) (hSA : ∀ W o, S W → S (W.alloc o)) (hSG : ∀ W W2, S W → W.grownBy W2 v.ownBlock → S W2) (hSE : ∀ W u, S W → S (W.setCell ⟨bx, fo, none⟩ u))
    (hypre : takesY P l.toArray S pre a)
    (hm1 : ∀ u W, RC u W → takesY P l.toArray S (mid u) ((F0.put (some dl) v).put (some dc) u)) (hm2 : ∀ u W, RC u W → takesY P l.toArray S (mid u) (F0.put (some dc) u))
    (hL0 : (execOp F0.eval ol).run P w.drew = .ok (.value v) w.drew) (hL2 : ∀ u W, RC u W → (execOp (G2 u).eval ol).run P W = .ok (.value v) W)
    (hL3 : ∀ u b W o, RC u W → (execOp ((G2 u).put (some db) b).eval ol).run P (W.alloc o) = .ok (.value v) (W.alloc o))
    (hC1 : GY P (F0.put (some dl) v) oc w.drew RC) (hC2 : GY P F0 oc w.drew RC)
    (hb1 : ∀ u W, RC u W → (execOp (G1 u).eval ob).run P W = .ok (.value (.slice (some ⟨W.heap.size, 0, none⟩) 1 1)) (W.alloc (.cells (cs u).toArray e)))
    (hb2 : ∀ u W, RC u W → (execOp (G2 u).eval ob).run P W = .ok (.value (.slice (some ⟨W.heap.size, 0, none⟩) 1 1)) (W.alloc (.cells (cs u).toArray e)))
    (hcs : ∀ u W, RC u W → (cs u).length = size ∧ ∀ x ∈ cs u, x.oneCell' = true)
    (hop : oa.op = .call { callee := .builtin .append, args := #[sl, xb], argTypes := #[ts, ts] }) (hsl : ∀ u b, ((G1 u).put (some db) b).eval sl = v) (hxb : ∀ u b, ((G1 u).put (some db) b).eval xb = b)
    (ht : P.underlying ts = some (.slice e)) (hi : P.info? e = some i) (hz : i.zero = some z) (hsize : i.size = size) (hby : i.bytes = bytes) (hzs : z.cells.size = size) (hsz : 0 < size)
    (h63 : n + 1 ≤ maxLen) (hbytes : (n + 1) * bytes ≤ 140737488355328)
    (hown : ∀ u W, RC u W → W.ownsRow B e size v n xs ∧ B ≤ W.heap.size ∧ (∃ x, W.cell? ⟨bx, fo, none⟩ = some x) ∧ W.frozen? ⟨bx, fo, none⟩ = false ∧ bx < W.heap.size ∧ v.ownBlock ≠ some bx)
    (hpost : ∀ u b v', takesY P l.toArray S post (((G1 u).put (some db) b).put (some da) v'))
    (hst : ∀ u b g cap W2, (∃ x, W2.cell? ⟨bx, fo, none⟩ = some x) → W2.frozen? ⟨bx, fo, none⟩ = false → (execOp (putsA (((G1 u).put (some db) b).put (some da) (.slice (some ⟨g, 0, none⟩) (n + 1) cap)) post).eval os).run P W2 = .ok .skip (W2.setCell ⟨bx, fo, none⟩ (.slice (some ⟨g, 0, none⟩) (n + 1) cap)))
    (hQ : ∀ u W, RC u W → ∀ b g cap W2, W2.ownsRow B e size (.slice (some ⟨g, 0, none⟩) (n + 1) cap) (n + 1) (xs ++ cs u) → (W.alloc (.cells (cs u).toArray e)).grownBy W2 v.ownBlock → (v.ownBlock = some g ∨ g = W.heap.size + 1) → g < W2.heap.size →
      Q .normal (putsA (((G1 u).put (some db) b).put (some da) (.slice (some ⟨g, 0, none⟩) (n + 1) cap)) post) (W2.setCell ⟨bx, fo, none⟩ (.slice (some ⟨g, 0, none⟩) (n + 1) cap))) :
    (Code.region id l.toArray true).wp P Q a w := by
  simp only [lcaOk, Bool.and_eq_true, decide_eq_true_eq] at hB
  obtain ⟨⟨⟨⟨⟨⟨⟨⟨⟨⟨⟨⟨⟨⟨⟨k1, k2⟩, k3⟩, k4⟩, k5⟩, k6⟩, k7⟩, k8⟩, k9⟩, k10⟩, k11⟩, k14⟩, k12⟩, k13⟩, hs⟩, hsz'⟩ := hB
  obtain ⟨gl, gc, gb, ga, go⟩ := hg
  obtain ⟨hdl, hdc, hdb, hda, hds⟩ := hd
  refine wp_region_noPanic (wp_region_any hm (wpAny_of_held (S := S) _ _ _ _ ?_))
  generalize Array.replicate l.toArray.size false = L0 at *
  rw [hsz', List.length_map, List.length_map]
  have hN : ∀ (d : Option Tmp) (v : Value) (c : List PanicEntry) (a : Act) (w : World), NoPanic Q (.panic c) (a.put d v) w → NoPanic Q (.panic c) a w := fun _ _ _ _ _ h => h
  refine wpAnyH_takesQ hs hN _ hS _ pre _ _ k1 hypre ?_
  rw [hF0]
  have tail : ∀ u W, RC u W → wpAnyH P .any l.toArray (NoPanic Q) S (2 + post.length) ((takesL (((takesL L0 (pre.map (·.1))).setIfInBounds il true).setIfInBounds ic true) midI).setIfInBounds ib true) ((G1 u).put (some db) (.slice (some ⟨W.heap.size, 0, none⟩) 1 1)) (W.alloc (.cells (cs u).toArray e)) := by
    intro u W hR
    obtain ⟨o1, o2, ⟨x0, o3⟩, o4, o5, o6⟩ := hown u W hR
    obtain ⟨c1, c2⟩ := hcs u W hR
    rw [show 2 + post.length = (1 + post.length) + 1 by omega]
    refine wpAnyH_ready k11 (by simp) (AllReadyH.cons hoa (fun K hK => ?_) AllReadyH.nil)
    rw [if_pos (by simp [Region.wanted, ga])]
    refine wp_append_lies (W.alloc (.cells (cs u).toArray e)) sl xb ts hop B e i z size bytes ht hi hz hsize hby hzs hsz v n xs (hsl _ _) (o1.kept (World.grownBy_alloc W _ none) (by cases hv : v.ownBlock <;> simp)) ⟨W.heap.size, 0, none⟩ 1 1 (cs u) (hxb _ _) (by rw [c1, Nat.one_mul]) (cells_new W (cs u) e) c2 (by omega) h63 hbytes (by simp; omega) (W.heap.size + 1) (by simp) ?_
    intro g cap W2 h1 h2 h3 h4
    have n1 : (W.alloc (.cells (cs u).toArray e)).cell? ⟨bx, fo, none⟩ = some x0 := cell_alloc o3 _
    have hlt : bx < (W.alloc (.cells (cs u).toArray e)).heap.size := by simp; omega
    have n2 : ∃ x, W2.cell? ⟨bx, fo, none⟩ = some x := ⟨x0, h2.cell n1 (fun e => o6 e.symm)⟩
    have n3 : W2.frozen? ⟨bx, fo, none⟩ = false := by
      rw [h2.frozen_far ⟨bx, fo, none⟩ hlt (fun e => o6 e.symm)]
      rw [((Below.refl W.heap.size W).alloc (Nat.le_refl _) _).frozen (p := ⟨bx, fo, none⟩) o5]; exact o4
    have hS2 := hSG _ _ (hSA W (.cells (cs u).toArray e) (hSR u W hR)) h2
    refine hK.out _ _ hS2 fun _ => ?_
    rw [hda]
    refine wpAnyH_takesQ hs hN _ hS2 1 post _ _ k14 (hpost _ _ _) ?_
    refine wpAnyH_ready k12 (by simp) (AllReadyH.cons hos (fun K2 hK2 => ?_) AllReadyH.nil)
    rw [if_pos (by simp [Region.wanted, go])]
    have hy := hst u (.slice (some ⟨W.heap.size, 0, none⟩) 1 1) g cap W2 n2 n3
    unfold Oper.wp
    change Oper.upon _ _ _ _ _ ((execOp _ os).run P W2)
    rw [hy]
    refine hK2.out _ _ (hSE _ _ hS2) fun _ => ?_
    rw [hds]
    exact wpAnyH_done k13 (NoPanic.normal (hQ u W hR _ g cap W2 h1 h2 h3 h4)) _
  rw [show 5 + post.length + midI.length = (4 + post.length + midI.length) + 1 by omega]
  refine wpAnyH_ready k2 (by simp) (AllReadyH.cons hol (fun K hK => ?_) (AllReadyH.cons hoc (fun K hK => ?_) AllReadyH.nil))
  · rw [if_pos (by simp [Region.wanted, gl])]
    unfold Oper.wp
    change Oper.upon _ _ _ _ _ ((execOp F0.eval ol).run P w.drew)
    rw [hL0]
    refine hK.out _ _ hS fun _ => ?_
    rw [hdl, show 4 + post.length + midI.length = (3 + post.length + midI.length) + 1 by omega]
    refine wpAnyH_ready k3 (by simp) (AllReadyH.cons hoc (fun K hK => ?_) AllReadyH.nil)
    rw [if_pos (by simp [Region.wanted, gc])]
    refine GY.wp hC1 ?_
    intro u w1 hb
    refine hK.out _ _ (hSR _ _ hb) fun _ => ?_
    rw [hdc, ← hmid u, List.length_map]
    rw [← hmid u] at k4 k5
    have hT := tail u w1 hb
    rw [← hmid u] at hT
    refine wpAnyH_takesQ hs hN _ (hSR _ _ hb) (3 + post.length) (mid u) _ _ k4 (hm1 u _ hb) ?_
    rw [hG1, show 3 + post.length = (2 + post.length) + 1 by omega]
    refine wpAnyH_ready k5 (by simp) (AllReadyH.cons hob (fun K hK => ?_) AllReadyH.nil)
    rw [if_pos (by simp [Region.wanted, gb])]
    unfold Oper.wp
    change Oper.upon _ _ _ _ _ ((execOp (G1 u).eval ob).run P w1)
    rw [hb1 _ _ hb]
    refine hK.out _ _ (hSA _ _ (hSR _ _ hb)) fun _ => ?_
    rw [hdb]
    exact hT
  · rw [if_pos (by simp [Region.wanted, gc])]
    refine GY.wp hC2 ?_
    intro u w1 hb
    refine hK.out _ _ (hSR _ _ hb) fun _ => ?_
    rw [hdc, ← hmid u, List.length_map]
    rw [← hmid u] at k6 k7 k8 k9 k10 k5
    have hT := tail u w1 hb
    rw [← hmid u] at hT
    rw [show 4 + post.length + (mid u).length = (4 + post.length) + (mid u).length by omega]
    refine wpAnyH_takesQ hs hN _ (hSR _ _ hb) (4 + post.length) (mid u) _ _ k6 (hm2 u _ hb) ?_
    rw [hG2, show 4 + post.length = (3 + post.length) + 1 by omega]
    refine wpAnyH_ready k7 (by simp) (AllReadyH.cons hol (fun K hK => ?_) (AllReadyH.cons hob (fun K hK => ?_) AllReadyH.nil))
    · rw [if_pos (by simp [Region.wanted, gl])]
      unfold Oper.wp
      change Oper.upon _ _ _ _ _ ((execOp (G2 u).eval ol).run P w1)
      rw [hL2 _ _ hb]
      refine hK.out _ _ (hSR _ _ hb) fun _ => ?_
      rw [hdl, hE1, k8, show 3 + post.length = (2 + post.length) + 1 by omega]
      refine wpAnyH_ready k5 (by simp) (AllReadyH.cons hob (fun K hK => ?_) AllReadyH.nil)
      rw [if_pos (by simp [Region.wanted, gb])]
      unfold Oper.wp
      change Oper.upon _ _ _ _ _ ((execOp (G1 u).eval ob).run P w1)
      rw [hb1 _ _ hb]
      refine hK.out _ _ (hSA _ _ (hSR _ _ hb)) fun _ => ?_
      rw [hdb]
      exact hT
    · rw [if_pos (by simp [Region.wanted, gb])]
      unfold Oper.wp
      change Oper.upon _ _ _ _ _ ((execOp (G2 u).eval ob).run P w1)
      rw [hb2 _ _ hb]
      refine hK.out _ _ (hSA _ _ (hSR _ _ hb)) fun _ => ?_
      rw [hdb, show 3 + post.length = (2 + post.length) + 1 by omega]
      refine wpAnyH_ready k9 (by simp) (AllReadyH.cons hol (fun K hK => ?_) AllReadyH.nil)
      rw [if_pos (by simp [Region.wanted, gl])]
      unfold Oper.wp
      change Oper.upon _ _ _ _ _ ((execOp ((G2 u).put (some db) (.slice (some ⟨w1.heap.size, 0, none⟩) 1 1)).eval ol).run P (w1.alloc (.cells (cs u).toArray e)))
      rw [hL3 _ _ _ _ hb]
      refine hK.out _ _ (hSA _ _ (hSR _ _ hb)) fun _ => ?_
      rw [hdl, hE2, k10]
      exact hT
end Go.Proofs.Ytjnaeldaajckkaa
