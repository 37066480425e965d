/- Cells of a block that are known and may be written (At), a frame of the call (Fr), and what the law of flow does to them. -/
import Derived.Test.YtnkmhbiklffjlaaBiG
set_option linter.unusedVariables false
set_option linter.unusedSimpArgs false
namespace Go.Proofs.Ytnkmhbiklffjlaa
open Go.RowKit Big

structure At (w : World) (b o : Nat) (cs : List Value) : Prop where
  range : w.rangeAt b o cs
  there : w.there b o cs.length
  lt : b < w.heap.size
theorem At.below {w w' : World} {b o : Nat} {cs : List Value} (h : At w b o cs) (hb : Below w.heap.size w w') : At w' b o cs :=
  ⟨ranges_up h.range hb, there_up h.there hb h.lt, Nat.lt_of_lt_of_le h.lt hb.size⟩
theorem At.alloc {w : World} {b o : Nat} {cs : List Value} (h : At w b o cs) (ob : Obj) : At (w.alloc ob) b o cs := h.below ((Below.refl _ _).alloc (Nat.le_refl _) ob)
theorem At.fresh (w : World) (cs : List Value) (ty : TypeId) {b : Nat} (hb : b = w.heap.size) : At (w.alloc (.cells cs.toArray ty)) b 0 cs := by
  subst hb
  exact ⟨range_new w cs ty, there_fresh w cs.toArray ty (by simp), by simp⟩
theorem At.zero (w : World) (ty : TypeId) {b : Nat} (hb : b = w.heap.size) : At (w.alloc (.cells zero33 ty)) b 0 (.bool false :: lv 32 0) := by
  have : zero33 = (Value.bool false :: lv 32 0).toArray := by rw [lv33_zero]; rfl
  rw [this]; exact At.fresh w _ ty hb
theorem At.sub {w : World} {b o : Nat} {xs ys zs : List Value} (h : At w b o (xs ++ (ys ++ zs))) {k : Nat} (hk : k = o + xs.length) : At w b k ys := by
  subst hk
  refine ⟨fun j v hj => ?_, fun j hj => ?_, h.lt⟩
  · have hl := (List.getElem?_eq_some_iff.1 hj).1
    have := h.range (xs.length + j) v (by rw [List.getElem?_append_right (by omega), List.getElem?_append_left (by omega)]; rw [← hj]; congr 1; omega)
    rwa [← Nat.add_assoc] at this
  · have := h.there (xs.length + j) (by simp; omega)
    rwa [← Nat.add_assoc] at this
theorem At.head {w : World} {b o : Nat} {ys zs : List Value} (h : At w b o (ys ++ zs)) : At w b o ys := At.sub (xs := []) h (by simp)
theorem At.tail {w : World} {b o k : Nat} {xs ys : List Value} (h : At w b o (xs ++ ys)) (hk : k = o + xs.length) : At w b k ys := At.sub (zs := []) (by simpa using h) hk
theorem At.cell {w : World} {b o : Nat} {cs : List Value} (h : At w b o cs) {j : Nat} {v : Value} (hj : cs[j]? = some v) : w.cell? ⟨b, o + j, none⟩ = some v := h.range j v hj
theorem At.flow {pl : List Pl} {w w' : World} {β : Nat → Nat} (E : FlowE pl w β w') {b o : Nat} {cs : List Value} (h : At w b o cs) (hne : ∀ p ∈ pl, p.new = false → p.b ≠ b) : At w' b o cs := by
  have hk := E.keep b h.lt hne
  refine ⟨fun j v hj => ?_, fun j hj => ?_, Nat.lt_of_lt_of_le h.lt E.big⟩
  · rw [World.cell?_of_block (w := w) hk]; exact h.range j v hj
  · rw [World.cell?_of_block (w := w) hk, World.frozen?_of_block (w := w) hk]; exact h.there j hj
theorem At.keep {pl : List Pl} {w w' : World} (E : FlowK pl w w') {b o : Nat} {cs : List Value} (h : At w b o cs) (hne : ∀ p ∈ pl, p.new = false → p.b ≠ b) : At w' b o cs := by
  have hk := E.keep b h.lt hne
  refine ⟨fun j v hj => ?_, fun j hj => ?_, Nat.lt_of_lt_of_le h.lt E.big⟩
  · rw [World.cell?_of_block (w := w) hk]; exact h.range j v hj
  · rw [World.cell?_of_block (w := w) hk, World.frozen?_of_block (w := w) hk]; exact h.there j hj
theorem FlowE.atNew {pl : List Pl} {w w' : World} {β : Nat → Nat} (E : FlowE pl w β w') {p : Pl} (hp : p ∈ pl) (hn : p.new = true) : w.heap.size ≤ β p.i ∧ At w' (β p.i) 0 p.cs := by
  obtain ⟨h1, h2, h3, h4⟩ := E.laid p hp hn
  exact ⟨h1, h4, h3, h2⟩
theorem FlowE.atOld {pl : List Pl} {w w' : World} {β : Nat → Nat} (E : FlowE pl w β w') {p : Pl} (hp : p ∈ pl) (hn : p.new = false) (hb : p.b < w.heap.size) : At w' p.b p.o p.cs := by
  obtain ⟨h3, h4⟩ := E.old p hp hn
  exact ⟨h4, h3, Nat.lt_of_lt_of_le hb E.big⟩
/-- the frame of a call: nothing below its first block has changed -/
structure Fr (Z : Nat) (w w' : World) : Prop where
  below : Below Z w w'
  le : Z ≤ w'.heap.size
theorem Fr.step {Z : Nat} {w w1 w2 : World} (h : Fr Z w w1) (hb : Below w1.heap.size w1 w2) : Fr Z w w2 := ⟨h.below.trans (hb.mono h.le), Nat.le_trans h.le hb.size⟩
theorem Fr.flow {Z : Nat} {w w1 w2 : World} {pl : List Pl} {β : Nat → Nat} (h : Fr Z w w1) (E : FlowE pl w1 β w2) (hz : ∀ p ∈ pl, p.new = false → Z ≤ p.b) : Fr Z w w2 :=
  ⟨h.below.trans ⟨E.os, E.tape, E.output, E.big, fun k hk => E.keep k (Nat.lt_of_lt_of_le hk h.le) fun p hp hn e => by have := hz p hp hn; omega⟩, Nat.le_trans h.le E.big⟩
theorem Fr.alloc {Z : Nat} {w w1 : World} (h : Fr Z w w1) (ob : Obj) : Fr Z w (w1.alloc ob) := h.step ((Below.refl _ _).alloc (Nat.le_refl _) ob)
theorem Fr.start (w : World) : Fr w.heap.size w w := ⟨Below.refl _ _, Nat.le_refl _⟩
/-- a whole read -/
theorem wpQuiet_load_at {P : Program} {ops : Array Oper} {w : World} {Q : Act → Prop} {a : Act} {op : Oper} {rest : List Oper} {ty : TypeId} {x : Operand} {b o : Nat} {cs : List Value} {d : TypeDesc} (hgd : op.guard = none) (ho : op.op = .load ty x)
    (hx : a.eval x = .pointer (some ⟨b, o, none⟩)) (hA : At w b o cs) (hu : P.underlying ty = some d) (hd : d.isRow = true) (hi : (P.info? ty).map (·.size) = some cs.length)
    (h : wpQuiet P ops (fun w' => ∃ p : GB, w' = gw w p.d p.os) Q rest (a.put op.dst (.agg cs.toArray))) :
    wpQuiet P ops (fun w' => ∃ p : GB, w' = gw w p.d p.os) Q (op :: rest) a :=
  wpQuiet_load_mid hgd ty x ho b o hx cs d hA.range hu hd hi h
/-- a whole read, be it guarded -/
theorem wpQuiet_load_g {P : Program} {ops : Array Oper} {w : World} {Q : Act → Prop} {a : Act} {op : Oper} {rest : List Oper} {ty : TypeId} {x : Operand} {b o : Nat} {cs : List Value} {d : TypeDesc} (hgd : Region.wanted op (yielded ops a.tmps) = true) (ho : op.op = .load ty x)
    (hx : a.eval x = .pointer (some ⟨b, o, none⟩)) (hA : At w b o cs) (hu : P.underlying ty = some d) (hd : d.isRow = true) (hi : (P.info? ty).map (·.size) = some cs.length)
    (h : wpQuiet P ops (fun w' => ∃ p : GB, w' = gw w p.d p.os) Q rest (a.put op.dst (.agg cs.toArray))) :
    wpQuiet P ops (fun w' => ∃ p : GB, w' = gw w p.d p.os) Q (op :: rest) a :=
  wpQuiet_load_guard hgd ty x ho b o hx cs d hA.range hu hd hi h
theorem Try.laysM : LaysAs Try.prog 49 (lv 32 0).toArray := by
  rw [lv_zero]
  intro o h b w
  unfold execOp
  simp only [h]
  rfl
theorem forPl {f : Pl → Prop} (p : Pl) (l : List Pl) (h : f p) (h2 : ∀ x ∈ l, f x) : ∀ x ∈ p :: l, f x := fun x hx => by
  rcases List.mem_cons.1 hx with e | hx
  · rw [e]; exact h
  · exact h2 x hx
theorem forPl0 {f : Pl → Prop} : ∀ x ∈ ([] : List Pl), f x := fun x hx => by cases hx
theorem sizeM {cs : List Value} {v : Nat} (h : cs = lv 32 v) : (Try.prog.info? 49).map (·.size) = some cs.length := by rw [h]; exact infoMlv v
theorem sizeI {cs : List Value} {n : Bool} {v : Nat} (h : cs = .bool n :: lv 32 v) : (Try.prog.info? 51).map (·.size) = some cs.length := by rw [h]; exact infoI33 n v
theorem oneM {cs : List Value} {v : Nat} (h : cs = lv 32 v) : cs.toArray.all (·.oneCell') = true := by rw [h]; exact all_oneCell_toArray (lv_one 32 v)
theorem oneI {cs : List Value} {n : Bool} {v : Nat} (h : cs = .bool n :: lv 32 v) : cs.toArray.all (·.oneCell') = true := by rw [h]; exact all_oneCell_toArray (int_one n v)
theorem Try.alI {cs : List Value} (h : (Try.prog.info? 51).map (·.size) = some cs.length) : ∃ z, LaysAs Try.prog 51 z ∧ cs.length ≤ z.size :=
  ⟨zero33, Try.laysI, by rw [Try.infoI] at h; injection h with h; rw [← h]; decide⟩
theorem Try.alM {cs : List Value} (h : (Try.prog.info? 49).map (·.size) = some cs.length) : ∃ z, LaysAs Try.prog 49 z ∧ cs.length ≤ z.size :=
  ⟨_, Try.laysM, by rw [Try.infoM] at h; injection h with h; rw [← h, List.size_toArray, lv_len]; exact Nat.le_refl _⟩
theorem At.room {P : Program} {t : TypeId} {w : World} {b o : Nat} {cs ds : List Value} (h : At w b o cs) (h1 : (P.info? t).map (·.size) = some cs.length) (h2 : (P.info? t).map (·.size) = some ds.length) : w.there b o ds.length := by
  rw [h1] at h2; injection h2 with h2; rw [← h2]; exact h.there
theorem FlowE.nn {pl : List Pl} (h : pl.all (·.new) = true) : ∀ p ∈ pl, p.new = false → False := fun p hp hn => by
  have := List.all_eq_true.1 h p hp; rw [hn] at this; cases this
theorem At.flow_new {pl : List Pl} {w w' : World} {β : Nat → Nat} {b o : Nat} {cs : List Value} (h : At w b o cs) (E : FlowE pl w β w') (hn : pl.all (·.new) = true) : At w' b o cs := h.flow E fun p hp hp2 => (FlowE.nn hn p hp hp2).elim
theorem Fr.flow_new {Z : Nat} {w w1 w2 : World} {pl : List Pl} {β : Nat → Nat} (h : Fr Z w w1) (E : FlowE pl w1 β w2) (hn : pl.all (·.new) = true) : Fr Z w w2 := h.flow E fun p hp hp2 => (FlowE.nn hn p hp hp2).elim
/-- the law of flow where each place is a new block -/
theorem wp_flow_new {P : Program} {id : Nat} {dr : Bool} {Q : Exit → Act → World → Prop} {a : Act} {w : World} {l : List Oper} (pl : List Pl) (vs : List (Tmp × Value)) (fin : Act) (hfin : vs.foldl (fun a p => a.put (some p.1) p.2) a = fin)
    (hm : P.follows .mixedOrders = true) (hB : flowB l.toArray pl (vs.map (·.1)) a.tmps.size = true) (hn : pl.all (·.new) = true)
    (hX : ∀ W', Below w.heap.size w W' → flowX P l.toArray (fun w' => ∃ p : GB, w' = gw W' p.d p.os) fin (fun k => isA pl k || isS pl k) 0 l)
    (hAl : ∀ p ∈ pl, ∃ z, LaysAs P p.ty z ∧ p.cs.length ≤ z.size)
    (hSt : ∀ p ∈ pl, fin.tmps[p.x]? = some (.agg p.cs.toArray) ∧ (P.info? p.ty).map (·.size) = some p.cs.length ∧ p.cs.toArray.all (·.oneCell') = true)
    (hQ : ∀ β w', FlowE pl w β w' → Q .normal (newPuts β pl fin) w') : (Code.region id l.toArray dr).wp P Q a w := by
  have nw : ∀ p ∈ pl, p.new = true := fun p hp => List.all_eq_true.1 hn p hp
  have he : ∀ k, early l.toArray pl k = true := fun k => List.all_eq_true.2 fun p hp => by simp [nw p hp]
  have mono : ∀ (C : World → Prop) (s t : Nat → Bool) (h : ∀ k, s k = t k) (l' : List Oper) (k : Nat), flowX P l.toArray C fin s k l' → flowX P l.toArray C fin t k l' := fun C s t h l' k hx => by
    have : s = t := funext h
    rwa [← this]
  have all : ∀ (C : World → Prop) (s : Nat → Bool) (h : ∀ k, s k = true) (l' : List Oper) (k : Nat), flowX P l.toArray C fin s k l' := by
    intro C s h l'
    induction l' with
    | nil => intro k; trivial
    | cons o l' ih => intro k; exact ⟨.inl (h k), ih (k + 1)⟩
  exact wp_flow pl vs fin hfin hm hB (fun W' hW' => mono _ _ _ (fun k => by simp [he k]) _ _ (hX W' hW')) (fun W' _ => all _ _ (fun k => by simp [he k]) _ _) (fun p hp _ => hAl p hp) (fun q hq h => (FlowE.nn hn q hq h).elim) (fun q hq r hr h _ _ => (FlowE.nn hn q hq h).elim) hSt hQ
end Go.Proofs.Ytnkmhbiklffjlaa
