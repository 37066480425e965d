/- Structs and rows under construction: nothing here is about one function of the program. -/
import Derived.Test.YtjnaeldaajckkaaSyM
import Derived.Test.YtjnaeldaajckkaaSynF
set_option linter.unusedVariables false
set_option linter.unusedSimpArgs false
namespace Go.Proofs.Ytjnaeldaajckkaa
open Go.RowKit Tok Syn

/-- the cells of a block, all to be written -/
structure StA (w : World) (b : Nat) (L : List Value) : Prop where
  c : ∀ j u, L[j]? = some u → w.cell? ⟨b, j, none⟩ = some u
  f : ∀ o, w.frozen? ⟨b, o, none⟩ = false
  lt : b < w.heap.size
theorem StA.above {w w' : World} {b B : Nat} {L : List Value} (h : StA w b L) (hb : Below B w w') (hB : b < B) : StA w' b L :=
  ⟨fun j u hu => by rw [hb.cell (p := ⟨b, j, none⟩) hB]; exact h.c j u hu, fun o => by rw [hb.frozen (p := ⟨b, o, none⟩) hB]; exact h.f o, Nat.lt_of_lt_of_le h.lt hb.size⟩
theorem StA.below {w w' : World} {b : Nat} {L : List Value} (h : StA w b L) (hb : Below w.heap.size w w') : StA w' b L := h.above hb h.lt
theorem StA.grown {w w' : World} {b : Nat} {L : List Value} {r : Option Nat} (h : StA w b L) (hg : w.grownBy w' r) (hr : r ≠ some b) : StA w' b L :=
  ⟨fun j u hu => hg.cell (h.c j u hu) (fun e => hr e.symm), fun o => by rw [hg.frozen_far ⟨b, o, none⟩ h.lt (fun e => hr e.symm)]; exact h.f o, Nat.lt_of_lt_of_le h.lt hg.size⟩
theorem StA.far {w : World} {b : Nat} {L : List Value} (h : StA w b L) (p : Addr) (v : Value) (hp : p.block ≠ b) : StA (w.setCell p v) b L :=
  ⟨fun j u hu => by rw [set_far hp]; exact h.c j u hu, fun o => by simp only [World.frozen?_setCell]; exact h.f o, by simpa [World.setCell] using h.lt⟩
theorem StA.set {w : World} {b : Nat} {L : List Value} (h : StA w b L) (j : Nat) (v : Value) (hj : j < L.length) : StA (w.setCell ⟨b, j, none⟩ v) b (L.set j v) := by
  refine ⟨fun k u hu => ?_, fun o => by simp only [World.frozen?_setCell]; exact h.f o, by simpa [World.setCell] using h.lt⟩
  by_cases hk : k = j
  · subst hk
    rw [List.getElem?_set_self hj] at hu
    cases hu
    exact World.cell?_setCell_same _ _ _ (h.c k _ (List.getElem?_eq_getElem hj))
  · rw [List.getElem?_set_ne (fun e => hk e.symm)] at hu
    rw [World.cell?_setCell_other _ _ _ _ (fun e => hk (by injection e with _ e _; exact e.symm))]
    exact h.c k u hu
theorem StA.new (w : World) (L : List Value) (T : TypeId) : StA (w.alloc (.cells L.toArray T)) w.heap.size L :=
  ⟨fun j u hu => cells_at w L T _ rfl j u hu, fun o => by simp, by simp⟩
/-- a change that leaves the row's own block and the finished blocks alone -/
theorem BldR.upg {α : Type} {w w' : World} {R : World → (Nat → Prop) → α → List Value → Prop} {D D' : Nat → Prop} {B : Nat} {T : TypeId} {size : Nat} {v : Value} {l : List α} {r : Option Nat}
    (hR : ∀ {w w' : World} {D D' : Nat → Prop}, KeepsD D w w' → (∀ k, D k → D' k) → ∀ a c, R w D a c → R w' D' a c) (h : BldR w R D B T size v l) (hg : w.grownBy w' r) (hD : ∀ k, D k → k < w.heap.size) (hr : ∀ g, r = some g → ¬ D g ∧ v.ownBlock ≠ some g)
    (hDD : ∀ k, D k → D' k) (hnew : ∀ k, D' k → D k ∨ w.heap.size ≤ k) : BldR w' R D' B T size v l := by
  obtain ⟨xs, h1, h2, h3⟩ := h
  refine ⟨xs, h1.mono (hR (.grown hg hD fun g e => (hr g e).1) hDD), h2.kept hg ?_, fun g e hd => ?_⟩
  · cases hv : v.ownBlock with
    | none => exact .inl rfl
    | some g => exact .inr fun e => (hr g e.symm).2 hv
  · rcases hnew g hd with q | q
    · exact h3 g e q
    · have := (h2.lt g e).2; omega
/-- a round of x.f = append(x.f, call()): the call's world, the item, the append, the store -/
theorem BldR.round {α : Type} {W0 W W2 : World} {R : World → (Nat → Prop) → α → List Value → Prop} {D D' : Nat → Prop} {B bp bx fo g cap : Nat} {T : TypeId} {size : Nat} {v : Value} {l : List α} {a : α} {xs c : List Value} {o : Obj}
    (hR : ∀ {w w' : World} {D D' : Nat → Prop}, KeepsD D w w' → (∀ k, D k → D' k) → ∀ a c, R w D a c → R w' D' a c)
    (h1 : CellsR (R W0 D) l xs) (h2 : W0.ownsRow B T size v l.length xs) (h3 : ∀ g, v.ownBlock = some g → ¬ D g)
    (hD : ∀ k, D k → k < W0.heap.size) (hg : W0.grownBy W (some bp)) (hbp : ¬ D bp) (hbB : bp < B)
    (hDD : ∀ k, D k → D' k) (hnew : ∀ k, D' k → D k ∨ (W0.heap.size ≤ k ∧ k < W.heap.size)) (ha : R W D' a c)
    (hB : B ≤ W0.heap.size) (hx : ¬ D' bx) (hxB : bx < B)
    (ho : W2.ownsRow B T size (.slice (some ⟨g, 0, none⟩) (l.length + 1) cap) (l.length + 1) (xs ++ c)) (hg2 : (W.alloc o).grownBy W2 v.ownBlock) (hv : v.ownBlock = some g ∨ g = W.heap.size + 1) :
    BldR (W2.setCell ⟨bx, fo, none⟩ (.slice (some ⟨g, 0, none⟩) (l.length + 1) cap)) R D' B T size (.slice (some ⟨g, 0, none⟩) (l.length + 1) cap) (l ++ [a]) := by
  have hs := hg.size
  have hDW : ∀ k, D' k → k < W.heap.size := fun k hk => by
    rcases hnew k hk with q | q
    · have := hD k q; omega
    · exact q.2
  have hvn : ∀ k, v.ownBlock = some k → ¬ D' k := fun k hk hd => by
    rcases hnew k hd with q | q
    · exact h3 k hk q
    · have := (h2.lt k hk).2; omega
  have k1 : KeepsD D W0 W := .grown hg hD fun g e => by cases e; exact hbp
  have k2 : KeepsD D' W W2 := by
    intro k hk
    have q := hDW k hk
    rw [hg2.block k (by simp; omega) (fun e => hvn k e.symm hk)]
    exact (((Below.refl W.heap.size W).alloc (Nat.le_refl _) o).block k q)
  have k3 : KeepsD D' W2 (W2.setCell ⟨bx, fo, none⟩ (.slice (some ⟨g, 0, none⟩) (l.length + 1) cap)) := .set _ _ hx
  refine ⟨xs ++ c, CellsR.app (hR (k2.trans k3) (fun _ h => h) _ _ ha) (h1.mono fun a c h => hR (k2.trans k3) (fun _ h => h) _ _ (hR k1 hDD _ _ h)), ?_, ?_⟩
  · rw [List.length_append]
    exact ownsRow_setCell_below ho hxB _
  · intro k hk hd
    simp only [Value.ownBlock, Option.some.injEq] at hk
    subst hk
    rcases hv with q | q
    · exact hvn g q hd
    · have := hDW g hd; omega
end Go.Proofs.Ytjnaeldaajckkaa
