/- Rows in memory that are finished: they lie in a set D of blocks that nothing writes any more. Nothing here is about one function of the program. -/
import Derived.Test.YtjnaeldaajckkaaTokI
import Derived.Test.YtjnaeldaajckkaaTape
import Derived.Test.YtjnaeldaajckkaaSyP
set_option linter.unusedVariables false
set_option linter.unusedSimpArgs false
namespace Go.Proofs.Ytjnaeldaajckkaa
open Go.RowKit Tok Syn

/-- the blocks of D are as they were -/
def KeepsD (D : Nat → Prop) (w w' : World) : Prop := ∀ k, D k → w'.heap[k]? = w.heap[k]?
theorem KeepsD.refl (D : Nat → Prop) (w : World) : KeepsD D w w := fun _ _ => rfl
theorem KeepsD.trans {D : Nat → Prop} {a b c : World} (h : KeepsD D a b) (k : KeepsD D b c) : KeepsD D a c := fun q hq => (k q hq).trans (h q hq)
theorem KeepsD.below {D : Nat → Prop} {w w' : World} (hb : Below w.heap.size w w') (hD : ∀ k, D k → k < w.heap.size) : KeepsD D w w' := fun k hk => hb.block k (hD k hk)
theorem KeepsD.grown {D : Nat → Prop} {w w' : World} {r : Option Nat} (hg : w.grownBy w' r) (hD : ∀ k, D k → k < w.heap.size) (hr : ∀ g, r = some g → ¬ D g) : KeepsD D w w' :=
  fun k hk => hg.block k (hD k hk) (fun e => hr k e.symm hk)
theorem KeepsD.set {D : Nat → Prop} {w : World} (p : Addr) (v : Value) (hp : ¬ D p.block) : KeepsD D w (w.setCell p v) := by
  intro k hk
  simp only [World.setCell, Array.getElem?_modify]
  rw [if_neg (fun e => hp (by rw [e]; exact hk))]
/-- a row whose cells can be read, in D -/
def RdD (w : World) (D : Nat → Prop) (size : Nat) (v : Value) (n : Nat) (xs : List Value) : Prop :=
  Reads w size v n xs ∧ ∀ g, v.ownBlock = some g → D g
theorem RdD.up {w w' : World} {D D' : Nat → Prop} {size : Nat} {v : Value} {n : Nat} {xs : List Value} (h : RdD w D size v n xs) (hk : KeepsD D w w') (hD : ∀ k, D k → D' k) : RdD w' D' size v n xs := by
  obtain ⟨⟨h1, h2, h3⟩, h4⟩ := h
  refine ⟨⟨h1, h2, ?_⟩, fun g hg => hD g (h4 g hg)⟩
  rcases h3 with h3 | ⟨g, off, cap, hv, hc⟩
  · exact .inl h3
  · have hg := hk g (h4 g (by rw [hv]; rfl))
    exact .inr ⟨g, off, cap, hv, fun j u hu => by rw [World.cell?_of_block (a := ⟨g, off + j, none⟩) hg]; exact hc j u hu⟩
theorem RdD.of_own {w : World} {D : Nat → Prop} {b : Nat} {e : TypeId} {size : Nat} {v : Value} {n : Nat} {xs : List Value} (h : w.ownsRow b e size v n xs) (hD : ∀ g, v.ownBlock = some g → D g) : RdD w D size v n xs := ⟨.of_own h, hD⟩
/-- the cells of a list, each item's by R -/
def CellsR {α : Type} (R : α → List Value → Prop) : List α → List Value → Prop
  | [], xs => xs = []
  | a :: l, xs => ∃ c r, xs = c ++ r ∧ R a c ∧ CellsR R l r
theorem CellsR.mono {α : Type} {R R' : α → List Value → Prop} (h : ∀ a c, R a c → R' a c) : ∀ {l : List α} {xs : List Value}, CellsR R l xs → CellsR R' l xs
  | [], _, hx => hx
  | a :: l, _, ⟨c, r, hx, ha, hl⟩ => ⟨c, r, hx, h a c ha, CellsR.mono h hl⟩
theorem CellsR.app {α : Type} {R : α → List Value → Prop} {a : α} {c : List Value} (ha : R a c) : ∀ {l : List α} {xs : List Value}, CellsR R l xs → CellsR R (l ++ [a]) (xs ++ c)
  | [], xs, hx => ⟨c, [], by rw [show xs = [] from hx]; simp, ha, rfl⟩
  | b :: l, xs, ⟨d, r, hx, hb, hl⟩ => ⟨d, r ++ c, by rw [hx, List.append_assoc], hb, CellsR.app ha hl⟩
theorem CellsR.get {α : Type} {R : α → List Value → Prop} {size : Nat} (hs : ∀ a c, R a c → c.length = size) : ∀ {l : List α} {xs : List Value}, CellsR R l xs → ∀ (k : Nat) (a : α), l[k]? = some a → ∃ c, R a c ∧ ∀ j u, c[j]? = some u → xs[k * size + j]? = some u
  | [], _, _, k, a, h => by simp at h
  | b :: l, xs, ⟨d, r, hx, hb, hl⟩, 0, a, h => by
    rw [List.getElem?_cons_zero] at h
    injection h with h
    subst h
    refine ⟨d, hb, fun j u hu => ?_⟩
    have hj : j < d.length := by
      rcases Nat.lt_or_ge j d.length with hj | hj
      · exact hj
      · rw [List.getElem?_eq_none hj] at hu; cases hu
    rw [hx, Nat.zero_mul, Nat.zero_add, List.getElem?_append_left hj]; exact hu
  | b :: l, xs, ⟨d, r, hx, hb, hl⟩, k + 1, a, h => by
    rw [List.getElem?_cons_succ] at h
    obtain ⟨c, hc, hj⟩ := CellsR.get hs hl k a h
    have hd := hs b d hb
    refine ⟨c, hc, fun j u hu => ?_⟩
    rw [hx, List.getElem?_append_right (by rw [hd, Nat.succ_mul]; omega), hd, show (k + 1) * size + j - size = k * size + j by rw [Nat.succ_mul]; omega]
    exact hj j u hu
theorem CellsR.len {α : Type} {R : α → List Value → Prop} {size : Nat} (hs : ∀ a c, R a c → c.length = size) : ∀ {l : List α} {xs : List Value}, CellsR R l xs → xs.length = l.length * size
  | [], xs, hx => by rw [show xs = [] from hx]; simp
  | b :: l, xs, ⟨d, r, hx, hb, hl⟩ => by rw [hx, List.length_append, CellsR.len hs hl, hs b d hb, List.length_cons, Nat.succ_mul]; omega

namespace Syn
def strV (s : List UInt8) : Value := .string ⟨s.toArray⟩
/-- texts in finished memory -/
def StrD (w : World) (D : Nat → Prop) (v : Value) (l : List (List UInt8)) : Prop := RdD w D 1 v l.length (l.map strV)
def ClR (w : World) (D : Nat → Prop) (c : Cl) (xs : List Value) : Prop := ∃ u, xs = [strV c.word, u, .int .i64 c.line, .int .i64 c.col] ∧ StrD w D u c.vals
/-- clauses in finished memory -/
def ClsD (w : World) (D : Nat → Prop) (v : Value) (l : List Cl) : Prop := ∃ xs, CellsR (ClR w D) l xs ∧ RdD w D 4 v l.length xs
def CbR (w : World) (D : Nat → Prop) (b : Cb) (xs : List Value) : Prop := ∃ u, xs = [strV b.name, u, .int .i64 b.line, .int .i64 b.col] ∧ ClsD w D u b.cls
/-- classes in finished memory -/
def CbsD (w : World) (D : Nat → Prop) (v : Value) (l : List Cb) : Prop := ∃ xs, CellsR (CbR w D) l xs ∧ RdD w D 4 v l.length xs
def BkR (w : World) (D : Nat → Prop) (b : Bk) (xs : List Value) : Prop := ∃ u1 u2, xs = [strV b.name, u1, u2, .int .i64 b.line, .int .i64 b.col] ∧ ClsD w D u1 b.cls ∧ CbsD w D u2 b.cbs
/-- funds in finished memory -/
def BksD (w : World) (D : Nat → Prop) (v : Value) (l : List Bk) : Prop := ∃ xs, CellsR (BkR w D) l xs ∧ RdD w D 5 v l.length xs
theorem ClR.up {w w' : World} {D D' : Nat → Prop} (hk : KeepsD D w w') (hD : ∀ k, D k → D' k) (c : Cl) (xs : List Value) : ClR w D c xs → ClR w' D' c xs := fun ⟨u, h1, h2⟩ => ⟨u, h1, h2.up hk hD⟩
theorem ClsD.up {w w' : World} {D D' : Nat → Prop} {v : Value} {l : List Cl} (h : ClsD w D v l) (hk : KeepsD D w w') (hD : ∀ k, D k → D' k) : ClsD w' D' v l := by
  obtain ⟨xs, h1, h2⟩ := h
  exact ⟨xs, h1.mono (ClR.up hk hD), h2.up hk hD⟩
theorem CbR.up {w w' : World} {D D' : Nat → Prop} (hk : KeepsD D w w') (hD : ∀ k, D k → D' k) (c : Cb) (xs : List Value) : CbR w D c xs → CbR w' D' c xs := fun ⟨u, h1, h2⟩ => ⟨u, h1, h2.up hk hD⟩
theorem CbsD.up {w w' : World} {D D' : Nat → Prop} {v : Value} {l : List Cb} (h : CbsD w D v l) (hk : KeepsD D w w') (hD : ∀ k, D k → D' k) : CbsD w' D' v l := by
  obtain ⟨xs, h1, h2⟩ := h
  exact ⟨xs, h1.mono (CbR.up hk hD), h2.up hk hD⟩
theorem BkR.up {w w' : World} {D D' : Nat → Prop} (hk : KeepsD D w w') (hD : ∀ k, D k → D' k) (c : Bk) (xs : List Value) : BkR w D c xs → BkR w' D' c xs := fun ⟨u1, u2, h1, h2, h3⟩ => ⟨u1, u2, h1, h2.up hk hD, h3.up hk hD⟩
theorem BksD.up {w w' : World} {D D' : Nat → Prop} {v : Value} {l : List Bk} (h : BksD w D v l) (hk : KeepsD D w w') (hD : ∀ k, D k → D' k) : BksD w' D' v l := by
  obtain ⟨xs, h1, h2⟩ := h
  exact ⟨xs, h1.mono (BkR.up hk hD), h2.up hk hD⟩
theorem ClR.len {w : World} {D : Nat → Prop} (c : Cl) (xs : List Value) (h : ClR w D c xs) : xs.length = 4 := by obtain ⟨u, h, _⟩ := h; rw [h]; rfl
theorem CbR.len {w : World} {D : Nat → Prop} (c : Cb) (xs : List Value) (h : CbR w D c xs) : xs.length = 4 := by obtain ⟨u, h, _⟩ := h; rw [h]; rfl
theorem BkR.len {w : World} {D : Nat → Prop} (c : Bk) (xs : List Value) (h : BkR w D c xs) : xs.length = 5 := by obtain ⟨u1, u2, h, _⟩ := h; rw [h]; rfl
end Syn
/-- a row under construction: its items' parts are finished, its own block is not among them -/
def BldR {α : Type} (w : World) (R : World → (Nat → Prop) → α → List Value → Prop) (D : Nat → Prop) (B : Nat) (T : TypeId) (size : Nat) (v : Value) (l : List α) : Prop :=
  ∃ xs, CellsR (R w D) l xs ∧ w.ownsRow B T size v l.length xs ∧ ∀ g, v.ownBlock = some g → ¬ D g
theorem BldR.nil {α : Type} (w : World) (R : World → (Nat → Prop) → α → List Value → Prop) (D : Nat → Prop) (B : Nat) (T : TypeId) (size : Nat) : BldR w R D B T size (.slice none 0 0) [] :=
  ⟨[], rfl, World.ownsRow_nil _ _ _ _, fun g hg => by cases hg⟩
/-- a change elsewhere, with more finished blocks -/
theorem BldR.up {α : Type} {w w' : World} {R : World → (Nat → Prop) → α → List Value → Prop} {D D' : Nat → Prop} {B : Nat} {T : TypeId} {size : Nat} {v : Value} {l : List α} {r : Option Nat}
    (h : BldR w R D B T size v l) (hR : KeepsD D w w' → (∀ k, D k → D' k) → ∀ a c, R w D a c → R w' D' a c) (hg : w.grownBy w' r) (hD : ∀ k, D k → k < w.heap.size) (hr : ∀ g, r = some g → ¬ D g ∧ g < B)
    (hDD : ∀ k, D k → D' k) (hnew : ∀ k, D' k → D k ∨ w.heap.size ≤ k) : BldR w' R D' B T size v l := by
  obtain ⟨xs, h1, h2, h3⟩ := h
  refine ⟨xs, h1.mono (hR (.grown hg hD fun g e => (hr g e).1) hDD), h2.kept hg ?_, fun g e hd => ?_⟩
  · cases hv : v.ownBlock with
    | none => exact .inl rfl
    | some g => exact .inr fun e => by have a := (h2.lt g hv).1; have b := (hr g e.symm).2; omega
  · rcases hnew g hd with q | q
    · exact h3 g e q
    · have := (h2.lt g e).2; omega
/-- one item more -/
theorem BldR.app {α : Type} {w w' : World} {R : World → (Nat → Prop) → α → List Value → Prop} {D : Nat → Prop} {B : Nat} {T : TypeId} {size : Nat} {v v' : Value} {l : List α} {a : α} {xs c : List Value} {n : Nat}
    (h1 : CellsR (R w D) l xs) (h2 : w.ownsRow B T size v l.length xs) (h3 : ∀ g, v.ownBlock = some g → ¬ D g)
    (hR : KeepsD D w w' → (∀ k, D k → D k) → ∀ a c, R w D a c → R w' D a c) (hD : ∀ k, D k → k < w.heap.size) (ha : R w D a c)
    (ho : w'.ownsRow B T size v' n (xs ++ c)) (hn : n = l.length + 1) (hg : w.grownBy w' v.ownBlock) (hv : ∀ g, v'.ownBlock = some g → v.ownBlock = some g ∨ w.heap.size ≤ g) : BldR w' R D B T size v' (l ++ [a]) := by
  have hk : KeepsD D w w' := .grown hg hD h3
  subst hn
  refine ⟨xs ++ c, (h1.app ha).mono (hR hk fun _ h => h), by rw [List.length_append]; exact ho, fun g e hd => ?_⟩
  rcases hv g e with q | q
  · exact h3 g q hd
  · have := hD g hd; omega
/-- finished -/
theorem BldR.fin {α : Type} {w : World} {R : World → (Nat → Prop) → α → List Value → Prop} {D D' : Nat → Prop} {B : Nat} {T : TypeId} {size : Nat} {v : Value} {l : List α}
    (h : BldR w R D B T size v l) (hR : KeepsD D w w → (∀ k, D k → D' k) → ∀ a c, R w D a c → R w D' a c) (hD : ∀ k, D' k ↔ D k ∨ v.ownBlock = some k) : ∃ xs, CellsR (R w D') l xs ∧ RdD w D' size v l.length xs := by
  obtain ⟨xs, h1, h2, h3⟩ := h
  exact ⟨xs, h1.mono (hR (.refl D w) fun k hk => (hD k).2 (.inl hk)), .of_own h2 fun g e => (hD g).2 (.inr e)⟩
end Go.Proofs.Ytjnaeldaajckkaa
