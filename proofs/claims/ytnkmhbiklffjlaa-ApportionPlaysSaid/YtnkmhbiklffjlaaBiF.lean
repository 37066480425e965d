/- A region that draws its order, seen as a flow of data: whatever the order, each slot gets its one value and each block that is written whole holds what is stored there. -/
import Derived.Test.YtnkmhbiklffjlaaBiD
set_option linter.unusedVariables false
set_option linter.unusedSimpArgs false
namespace Go.Proofs.Ytnkmhbiklffjlaa
open Go.RowKit
/-- a place that is written whole: a block that operation i of the region lays (new), or cells that lie there; s: the store, d: the slot of the pointer -/
structure Pl where
  new : Bool
  i : Nat
  d : Tmp
  s : Nat
  b : Nat
  o : Nat
  ty : TypeId
  x : Tmp
  cs : List Value
def Pl.blk (β : Nat → Nat) (p : Pl) : Nat := if p.new then β p.i else p.b
def isA (pl : List Pl) (k : Nat) : Bool := pl.any fun p => p.new && p.i == k
def isS (pl : List Pl) (k : Nat) : Bool := pl.any fun p => p.s == k
/-- s waits for k, through at most f steps -/
def waitsIn (ops : Array Oper) : Nat → Nat → Nat → Bool
  | 0, _, _ => false
  | f + 1, s, k => match ops[s]? with | some o => o.after.any (fun e => Region.binds .any e && (e.on == k || waitsIn ops f e.on k)) | none => false
def early (ops : Array Oper) (pl : List Pl) (k : Nat) : Bool := pl.all fun p => p.new || waitsIn ops 4 p.s k
def dstIs (ops : Array Oper) (i : Nat) (t : Tmp) : Bool := match ops[i]? with | some o => o.dst == some t | none => false
def opB (ops : Array Oper) (pl : List Pl) (j : Nat) (o : Oper) : Bool :=
  o.after.all (fun e => !Region.binds .any e || decide (e.on < j)) &&
  (o.looksAt ops).all (fun t => (List.range ops.size).all fun i => !dstIs ops i t || Region.waitsFor .any ops j i) &&
  (match o.dst with | some d => (List.range ops.size).all (fun i => i == j || !dstIs ops i d) | none => true) &&
  (isS pl j || pl.all fun p => !p.new || !(o.looksAt ops).contains p.d)
def placeB (ops : Array Oper) (pl : List Pl) (p : Pl) : Bool :=
  (match ops[p.s]? with
    | some o => o.guard.isNone && o.dst.isNone && (match o.op with | .store ty (.tmp d) (.tmp t) => ty == p.ty && d == p.d && t == p.x && pl.all (fun q => !q.new || q.d != t) | _ => false)
    | none => false) &&
  (if p.new then (match ops[p.i]? with | some o => o.guard.isNone && (match o.dst with | some d => d == p.d | none => false) && (match o.op with | .alloc ty => ty == p.ty | _ => false) | none => false) && Region.waitsFor .any ops p.s p.i && p.o == 0 && !isS pl p.i
   else pl.all (fun q => !q.new || q.d != p.d))
def pairB (f : Pl → Pl → Bool) : List Pl → Bool
  | [] => true
  | p :: l => l.all (f p) && pairB f l
def plB (p q : Pl) : Bool := p.s != q.s && (!p.new || !q.new || (p.i != q.i && p.d != q.d))
def flowB (ops : Array Oper) (pl : List Pl) (ts : List Tmp) (n : Nat) : Bool :=
  Region.noSelect ops && (List.range ops.size).all (fun j => match ops[j]? with | none => true | some o => opB ops pl j o) && pl.all (placeB ops pl) && pairB plB pl &&
  ts.all (fun t => decide (t < n) && (List.range ops.size).any fun i => dstIs ops i t && !isA pl i) && pl.all (fun p => !p.new || decide (p.d < n))

theorem pairB_spec {f : Pl → Pl → Bool} (hf : ∀ p q, f p q = f q p) : ∀ {l : List Pl}, pairB f l = true → ∀ p ∈ l, ∀ q ∈ l, p = q ∨ f p q = true
  | [], _, p, hp, _, _ => by cases hp
  | x :: l, h, p, hp, q, hq => by
    simp only [pairB, Bool.and_eq_true] at h
    rcases List.mem_cons.1 hp with e1 | h1
    · rcases List.mem_cons.1 hq with e2 | h2
      · exact .inl (e1.trans e2.symm)
      · exact .inr (by rw [e1]; exact List.all_eq_true.1 h.1 q h2)
    · rcases List.mem_cons.1 hq with e2 | h2
      · exact .inr (by rw [hf, e2]; exact List.all_eq_true.1 h.1 p h1)
      · exact pairB_spec hf h.2 p h1 q h2
theorem plB_symm (p q : Pl) : plB p q = plB q p := by
  unfold plB
  have e : ∀ a b : Nat, (a != b) = (b != a) := fun a b => by rw [bne_comm]
  rw [e p.s, e p.i, e p.d]
  cases p.new <;> cases q.new <;> simp
theorem heap_sets (k b : Nat) (hk : k ≠ b) : ∀ (vs : List Value) (o : Nat) (w : World), (w.setCells b o vs).heap[k]? = w.heap[k]?
  | [], _, _ => rfl
  | v :: vs, o, w => by rw [World.setCells, heap_sets k b hk vs]; exact Below.heap_setCell _ _ _ _ (by simpa using hk)
theorem sets_os (b : Nat) : ∀ (vs : List Value) (o : Nat) (w : World), (w.setCells b o vs).os = w.os ∧ (w.setCells b o vs).tape = w.tape ∧ (w.setCells b o vs).output = w.output
  | [], _, _ => ⟨rfl, rfl, rfl⟩
  | v :: vs, o, w => sets_os b vs (o + 1) (w.setCell ⟨b, o, none⟩ v)

structure FlowJ (ops : Array Oper) (pl : List Pl) (fin : Act) (W : World) (β : Nat → Nat) (seen : Array Bool) (a : Act) (w : World) : Prop where
  ssz : seen.size = ops.size
  closed : ∀ j oj, ops[j]? = some oj → seen.getD j false = true → ∀ e ∈ oj.after, Region.binds .any e = true → seen.getD e.on false = true
  size : a.tmps.size = fin.tmps.size
  defers : a.defers = fin.defers
  same : ∀ t, (∀ p ∈ pl, p.new = true → p.d ≠ t) → (∀ (i : Nat) (o : Oper), ops[i]? = some o → o.dst = some t → seen.getD i false = true) → a.tmps[t]? = fin.tmps[t]?
  os : w.os = W.os
  tape : w.tape = W.tape
  output : w.output = W.output
  big : W.heap.size ≤ w.heap.size
  keep : ∀ k, k < W.heap.size → (∀ p ∈ pl, p.new = false → p.b = k → seen.getD p.s false = false) → w.heap[k]? = W.heap[k]?
  laid : ∀ p ∈ pl, p.new = true → seen.getD p.i false = true → W.heap.size ≤ β p.i ∧ β p.i < w.heap.size ∧ a.tmps[p.d]? = some (.pointer (some ⟨β p.i, 0, none⟩)) ∧ w.there (β p.i) 0 p.cs.length
  old : ∀ p ∈ pl, p.new = false → w.there p.b p.o p.cs.length
  apart : ∀ p ∈ pl, ∀ q ∈ pl, p.new = true → q.new = true → seen.getD p.i false = true → seen.getD q.i false = true → β p.i = β q.i → p.i = q.i
  held : ∀ p ∈ pl, seen.getD p.s false = true → w.rangeAt (p.blk β) p.o p.cs

/-- all is kept but what lies where the region writes -/
structure FlowK (pl : List Pl) (W w : World) : Prop where
  os : w.os = W.os
  tape : w.tape = W.tape
  output : w.output = W.output
  big : W.heap.size ≤ w.heap.size
  keep : ∀ k, k < W.heap.size → (∀ p ∈ pl, p.new = false → p.b ≠ k) → w.heap[k]? = W.heap[k]?

section
variable {P : Program} {ops : Array Oper} {pl : List Pl} {fin : Act} {W : World} {β : Nat → Nat} {seen : Array Bool} {a : Act} {w : World}

theorem set_seen {j i : Nat} (h : (seen.setIfInBounds j true).getD i false = true) : j = i ∨ seen.getD i false = true := by
  by_cases e : j = i
  · exact .inl e
  · right; rwa [getD_set_ne false e] at h
theorem set_unseen {j i : Nat} (h : (seen.setIfInBounds j true).getD i false = false) : seen.getD i false = false := by
  cases hs : seen.getD i false with
  | false => rfl
  | true => rw [getD_set_true hs] at h; cases h

theorem FlowJ.shut (J : FlowJ ops pl fin W β seen a w) {j : Nat} (hr : j ∈ Region.ready .any ops seen) :
    ∀ k ok, ops[k]? = some ok → (seen.setIfInBounds j true).getD k false = true → ∀ e ∈ ok.after, Region.binds .any e = true → (seen.setIfInBounds j true).getD e.on false = true := by
  obtain ⟨_, oj, hoj, hall⟩ := mem_ready.1 hr
  intro k ok hk hs e he hb
  rcases set_seen hs with rfl | hs
  · obtain rfl := Option.some.inj (hk.symm.trans hoj)
    exact getD_set_true (hall e he hb)
  · exact getD_set_true (J.closed k ok hk hs e he hb)

theorem waits_seen (hcl : ∀ j oj, ops[j]? = some oj → seen.getD j false = true → ∀ e ∈ oj.after, Region.binds .any e = true → seen.getD e.on false = true) {s i : Nat} (h : Region.waitsFor .any ops s i = true) (hs : seen.getD s false = true) : seen.getD i false = true := by
  obtain ⟨o, ho, e, he, hb, rfl⟩ := Region.waitsFor_spec h
  exact hcl s o ho hs e he hb
theorem waitsIn_seen (hcl : ∀ j oj, ops[j]? = some oj → seen.getD j false = true → ∀ e ∈ oj.after, Region.binds .any e = true → seen.getD e.on false = true) : ∀ (f s i : Nat), waitsIn ops f s i = true → seen.getD s false = true → seen.getD i false = true
  | 0, _, _, h, _ => by simp [waitsIn] at h
  | f + 1, s, i, h, hs => by
    unfold waitsIn at h
    split at h
    · rename_i o ho
      obtain ⟨e, he, hb⟩ := Array.any_eq_true'.1 h
      simp only [Bool.and_eq_true, Bool.or_eq_true, beq_iff_eq] at hb
      have h1 := hcl s o ho hs e he hb.1
      rcases hb.2 with rfl | h2
      · exact h1
      · exact waitsIn_seen hcl f e.on i h2 h1
    · cases h
theorem waits_ready {s i : Nat} (h : Region.waitsFor .any ops s i = true) (hs : s ∈ Region.ready .any ops seen) : seen.getD i false = true := by
  obtain ⟨o, ho, e, he, hb, rfl⟩ := Region.waitsFor_spec h
  obtain ⟨_, o', ho', hall⟩ := mem_ready.1 hs
  obtain rfl := Option.some.inj (ho.symm.trans ho')
  exact hall e he hb

/-- what the Bool says -/
structure FlowC (ops : Array Oper) (pl : List Pl) : Prop where
  sel : ∀ (j : Nat) (o : Oper) cs b, ops[j]? = some o → o.op ≠ .select cs b
  less : ∀ (j : Nat) (o : Oper), ops[j]? = some o → ∀ e ∈ o.after, Region.binds .any e = true → e.on < j
  looks : ∀ (j : Nat) (o : Oper), ops[j]? = some o → ∀ t ∈ o.looksAt ops, ∀ (i : Nat) (oi : Oper), ops[i]? = some oi → oi.dst = some t → Region.waitsFor .any ops j i = true
  dsts : ∀ (j : Nat) (o : Oper) (d : Tmp), ops[j]? = some o → o.dst = some d → ∀ (i : Nat) (oi : Oper), ops[i]? = some oi → oi.dst = some d → i = j
  free : ∀ (j : Nat) (o : Oper), ops[j]? = some o → isS pl j = false → ∀ p ∈ pl, p.new = true → p.d ∉ o.looksAt ops
  store : ∀ p ∈ pl, ∃ o, ops[p.s]? = some o ∧ o.guard = none ∧ o.dst = none ∧ o.op = .store p.ty (.tmp p.d) (.tmp p.x) ∧ ∀ q ∈ pl, q.new = true → q.d ≠ p.x
  lay : ∀ p ∈ pl, p.new = true → ∃ o, ops[p.i]? = some o ∧ o.guard = none ∧ o.dst = some p.d ∧ o.op = .alloc p.ty ∧ Region.waitsFor .any ops p.s p.i = true ∧ p.o = 0 ∧ isS pl p.i = false
  oldd : ∀ p ∈ pl, p.new = false → ∀ q ∈ pl, q.new = true → q.d ≠ p.d
  two : ∀ p ∈ pl, ∀ q ∈ pl, p = q ∨ (p.s ≠ q.s ∧ (p.new = true → q.new = true → p.i ≠ q.i ∧ p.d ≠ q.d))

theorem dstIs_iff {i : Nat} {t : Tmp} : dstIs ops i t = true ↔ ∃ o, ops[i]? = some o ∧ o.dst = some t := by
  unfold dstIs
  cases h : ops[i]? with
  | none => simp
  | some o => simp

theorem flowC {ts : List Tmp} {n : Nat} (h : flowB ops pl ts n = true) : FlowC ops pl ∧ (∀ t ∈ ts, t < n ∧ ∃ i o, ops[i]? = some o ∧ o.dst = some t ∧ isA pl i = false) ∧ ∀ p ∈ pl, p.new = true → p.d < n := by
  simp only [flowB, Bool.and_eq_true] at h
  obtain ⟨⟨⟨⟨⟨h1, h2⟩, h3⟩, h4⟩, h5⟩, h6⟩ := h
  have h2' : ∀ j o, ops[j]? = some o → opB ops pl j o = true := fun j o ho => by
    have := List.all_eq_true.1 h2 j (List.mem_range.2 (Array.getElem?_eq_some_iff.1 ho).1)
    simpa [ho] using this
  have inR : ∀ i o, ops[i]? = some o → i ∈ List.range ops.size := fun i o ho => List.mem_range.2 (Array.getElem?_eq_some_iff.1 ho).1
  refine ⟨⟨Region.noSelect_spec h1, ?_, ?_, ?_, ?_, ?_, ?_, ?_, ?_⟩, ?_, ?_⟩
  · intro j o ho e he hb
    have := h2' j o ho
    simp only [opB, Bool.and_eq_true] at this
    have := Array.all_eq_true_iff_forall_mem.1 this.1.1.1 e he
    simpa [hb] using this
  · intro j o ho t ht i oi hi hd
    have := h2' j o ho
    simp only [opB, Bool.and_eq_true] at this
    have := List.all_eq_true.1 (List.all_eq_true.1 this.1.1.2 t ht) i (inR i oi hi)
    have hdi : dstIs ops i t = true := dstIs_iff.2 ⟨oi, hi, hd⟩
    simpa [hdi] using this
  · intro j o d ho hd i oi hi hdi
    have := h2' j o ho
    simp only [opB, Bool.and_eq_true, hd] at this
    have := List.all_eq_true.1 this.1.2 i (inR i oi hi)
    have hdi : dstIs ops i d = true := dstIs_iff.2 ⟨oi, hi, hdi⟩
    simpa [hdi] using this
  · intro j o ho hs p hp hn
    have := h2' j o ho
    simp only [opB, Bool.and_eq_true, hs, Bool.false_or] at this
    have := List.all_eq_true.1 this.2 p hp
    simpa [hn] using this
  · intro p hp
    have := List.all_eq_true.1 h3 p hp
    simp only [placeB, Bool.and_eq_true] at this
    have := this.1
    split at this
    · rename_i o ho
      simp only [Bool.and_eq_true, Option.isNone_iff_eq_none] at this
      obtain ⟨⟨hg, hd⟩, hm⟩ := this
      split at hm
      · rename_i ty d t hop
        simp only [Bool.and_eq_true, beq_iff_eq] at hm
        obtain ⟨⟨⟨rfl, rfl⟩, rfl⟩, hm⟩ := hm
        exact ⟨o, ho, hg, hd, hop, fun q hq hn => by have := List.all_eq_true.1 hm q hq; simpa [hn] using this⟩
      · cases hm
    · cases this
  · intro p hp hn
    have := List.all_eq_true.1 h3 p hp
    simp only [placeB, Bool.and_eq_true, hn, if_true] at this
    obtain ⟨⟨⟨this, hw⟩, ho0⟩, hs⟩ := this.2
    split at this
    · rename_i o ho
      simp only [Bool.and_eq_true, Option.isNone_iff_eq_none] at this
      obtain ⟨⟨hg, hd⟩, hm⟩ := this
      split at hd
      · rename_i d hdd
        split at hm
        · rename_i ty hop
          simp only [beq_iff_eq] at hd ho0 hm
          subst hd
          subst hm
          exact ⟨o, ho, hg, hdd, hop, hw, ho0, by simpa using hs⟩
        · cases hm
      · cases hd
    · cases this
  · intro p hp hn q hq hqn
    have := List.all_eq_true.1 h3 p hp
    simp only [placeB, Bool.and_eq_true, hn, Bool.false_eq_true, if_false] at this
    have := List.all_eq_true.1 this.2 q hq
    simpa [hqn] using this
  · intro p hp q hq
    rcases pairB_spec plB_symm h4 p hp q hq with rfl | h
    · exact .inl rfl
    · right
      simp only [plB, Bool.and_eq_true, bne_iff_ne, ne_eq] at h
      refine ⟨h.1, fun hp' hq' => ?_⟩
      have := h.2
      simpa [hp', hq'] using this
  · intro t ht
    have := List.all_eq_true.1 h5 t ht
    simp only [Bool.and_eq_true, decide_eq_true_eq] at this
    obtain ⟨i, hi, hb⟩ := List.any_eq_true.1 this.2
    simp only [Bool.and_eq_true] at hb
    obtain ⟨o, ho, hd⟩ := dstIs_iff.1 hb.1
    exact ⟨this.1, i, o, ho, hd, by simpa using hb.2⟩
  · intro p hp hn
    have := List.all_eq_true.1 h6 p hp
    simpa [hn] using this

theorem put_at {t : Tmp} {dst : Option Tmp} {v : Value} (h : dst ≠ some t) (a : Act) : (a.put dst v).tmps[t]? = a.tmps[t]? := by
  cases dst with
  | none => rfl
  | some d => simp only [Act.put]; exact Array.getElem?_setIfInBounds_ne (by rintro rfl; exact h rfl)
theorem put_size (a : Act) (dst : Option Tmp) (v : Value) : (a.put dst v).tmps.size = a.tmps.size := by cases dst <;> simp [Act.put]
theorem put_defers (a : Act) (dst : Option Tmp) (v : Value) : (a.put dst v).defers = a.defers := by cases dst <;> rfl

theorem FlowJ.sees (C : FlowC ops pl) (J : FlowJ ops pl fin W β seen a w) {j : Nat} {oj : Oper} (hr : j ∈ Region.ready .any ops seen) (hoj : ops[j]? = some oj) {t : Tmp} (ht : t ∈ oj.looksAt ops) (hp : ∀ p ∈ pl, p.new = true → p.d ≠ t) : a.tmps[t]? = fin.tmps[t]? :=
  J.same t hp fun i o hi hd => waits_ready (C.looks j oj hoj t ht i o hi hd) hr

theorem exec_same {o : Oper} {a b : Act} (hs : ∀ cs x, o.op ≠ .select cs x) (h : ∀ t ∈ o.looksAt ops, a.tmps[t]? = b.tmps[t]?) : execOp a.eval o = execOp b.eval o :=
  execOp_congr o hs fun x hx => by
    cases x with
    | tmp t =>
      have := h t (List.mem_append_left _ (List.mem_filterMap.2 ⟨.tmp t, by simpa using hx, rfl⟩))
      simp [Act.eval, this]
    | const v => rfl
    | global g => rfl
    | func f => rfl
theorem wanted_same {o : Oper} {a b : Act} (h : ∀ t ∈ o.looksAt ops, a.tmps[t]? = b.tmps[t]?) : Region.wanted o (yielded ops a.tmps) = Region.wanted o (yielded ops b.tmps) := by
  unfold Region.wanted
  cases hg : o.guard with
  | none => rfl
  | some gw =>
    obtain ⟨g, want⟩ := gw
    simp only
    congr 1
    unfold yielded
    cases hd : (ops[g]?).bind (·.dst) with
    | none => rfl
    | some t =>
      have : a.tmps[t]? = b.tmps[t]? := h t (List.mem_append_right _ (by simp [hg, hd]))
      simp [this]

theorem FlowJ.move (C : FlowC ops pl) (J : FlowJ ops pl fin W β seen a w) {j : Nat} {oj : Oper} (hr : j ∈ Region.ready .any ops seen) (hoj : ops[j]? = some oj) (hA : isA pl j = false) (hS : isS pl j = false)
    {v : Value} (hv : fin.put oj.dst v = fin) {w' : World} (hb : Below w.heap.size w w') : FlowJ ops pl fin W β (seen.setIfInBounds j true) (a.put oj.dst v) w' := by
  have nA : ∀ p ∈ pl, p.new = true → p.i ≠ j := fun p hp hn e => by
    have : isA pl j = true := List.any_eq_true.2 ⟨p, hp, by simp [hn, e]⟩
    rw [hA] at this; cases this
  have nS : ∀ p ∈ pl, p.s ≠ j := fun p hp e => by
    have : isS pl j = true := List.any_eq_true.2 ⟨p, hp, by simp [e]⟩
    rw [hS] at this; cases this
  refine ⟨by simp [J.ssz], J.shut hr, by rw [put_size, J.size], by rw [put_defers, J.defers], ?_, hb.os.trans J.os, hb.tape.trans J.tape, hb.output.trans J.output, Nat.le_trans J.big hb.size, ?_, ?_, ?_, ?_, ?_⟩
  · intro t hn hw
    by_cases e : oj.dst = some t
    · rw [e] at hv ⊢
      have h1 : fin.tmps[t]? = (fin.put (some t) v).tmps[t]? := by rw [hv]
      rw [h1]
      simp only [Act.put, Array.getElem?_setIfInBounds, J.size, if_true]
    · rw [put_at e]
      exact J.same t hn fun i o hi hd => (set_seen (hw i o hi hd)).resolve_left fun e2 => by subst e2; rw [hoj] at hi; cases hi; exact e hd
  · intro k hk hp
    rw [hb.block k (Nat.lt_of_lt_of_le hk J.big)]
    exact J.keep k hk fun p hp' hn hb' => set_unseen (hp p hp' hn hb')
  · intro p hp hn hs
    have hs := (set_seen hs).resolve_left (nA p hp hn).symm
    obtain ⟨h1, h2, h3, h4⟩ := J.laid p hp hn hs
    obtain ⟨o, ho, _, hd, _⟩ := C.lay p hp hn
    refine ⟨h1, Nat.lt_of_lt_of_le h2 hb.size, ?_, there_up h4 hb h2⟩
    rw [put_at fun e => nA p hp hn (C.dsts j oj p.d hoj e p.i o ho hd)]
    exact h3
  · intro p hp hn
    have h := J.old p hp hn
    intro k hk
    obtain ⟨h1, h2⟩ := h k hk
    obtain ⟨v, hv⟩ := Option.isSome_iff_exists.1 h1
    exact ⟨by rw [cell_up hv hb]; rfl, by rw [hb.frozen (World.block_lt_of_cell? w _ hv)]; exact h2⟩
  · intro p hp q hq hpn hqn h1 h2
    exact J.apart p hp q hq hpn hqn ((set_seen h1).resolve_left (nA p hp hpn).symm) ((set_seen h2).resolve_left (nA q hq hqn).symm)
  · intro p hp hs
    exact ranges_up (J.held p hp ((set_seen hs).resolve_left (nS p hp).symm)) hb

theorem FlowJ.stepX {Q : Exit → Act → World → Prop} (C : FlowC ops pl) (J : FlowJ ops pl fin W β seen a w) {j : Nat} {oj : Oper} (hr : j ∈ Region.ready .any ops seen) (hoj : ops[j]? = some oj) (hA : isA pl j = false) (hS : isS pl j = false)
    (hX : ∀ W', FlowK pl W W' → (early ops pl j = true → Below W.heap.size W W') → wpQuiet P ops (fun w' => ∃ p : GB, w' = gw W' p.d p.os) (fun a' => a' = fin) [oj] fin) :
    wpOp P ops Q j (fun a' w' => FlowJ ops pl fin W β (seen.setIfInBounds j true) a' w') a w := by
  have hun := (mem_ready.1 hr).1
  have hlk : ∀ t ∈ oj.looksAt ops, a.tmps[t]? = fin.tmps[t]? := fun t ht => J.sees C hr hoj ht fun p hp hn e => C.free j oj hoj hS p hp hn (by rw [e]; exact ht)
  have h := hX w ⟨J.os, J.tape, J.output, J.big, fun k hk hp => J.keep k hk fun p h1 h2 h3 => absurd h3 (hp p h1 h2)⟩ fun he => ⟨J.os, J.tape, J.output, J.big, fun k hk => J.keep k hk fun p hp hn _ => by
    have h1 := List.all_eq_true.1 he p hp
    rw [hn, Bool.false_or] at h1
    cases hs : seen.getD p.s false with
    | false => rfl
    | true =>
      have := waitsIn_seen J.closed _ _ _ h1 hs
      rw [getD_both hun] at this; cases this⟩
  have hex := exec_same (a := a) (b := fin) (C.sel j oj · · hoj) hlk
  have hwa := wanted_same (a := a) (b := fin) hlk
  simp only [wpQuiet] at h
  unfold wpOp
  simp only [hoj]
  rw [hwa]
  split
  · rename_i hw
    simp only [hw, if_true] at h
    obtain ⟨v, h1, h2⟩ := h
    left
    refine Oper.wp_of_quiet (C := fun w' => ∃ p : GB, w' = gw w p.d p.os) (K := fun a' => a' = a.put oj.dst v) (gw_of_below (Below.refl _ _)) ?_ ⟨v, fun w' hw' => ?_, rfl⟩
    · rintro a' w' ⟨p, rfl⟩ rfl
      exact J.move C hr hoj hA hS h2 (below_gw w p.d p.os)
    · have := h1 w' hw'
      unfold Oper.quietAt at *
      rw [hex]
      exact this
  · rename_i hw
    simp only [hw] at h
    exact J.move C hr hoj hA hS h (Below.refl _ _)

theorem there_fresh (X : World) (z : Array Value) (ty : TypeId) {n : Nat} (hn : n ≤ z.size) : (X.alloc (.cells z ty)).there X.heap.size 0 n := by
  intro j hj
  have hh := heap_alloc_new X (.cells z ty)
  refine ⟨?_, frozen_of_row _ _ _ _ _ hh⟩
  rw [cell_of_row _ X.heap.size (0 + j) z ty (0, 0) hh, Array.getElem?_eq_getElem (by omega)]; rfl

def LaysAs (P : Program) (t : TypeId) (z : Array Value) : Prop := ∀ (o : Oper), o.op = .alloc t → ∀ (b : Act) (w : World), (execOp b.eval o).run P w = .ok (.value (.pointer (some ⟨w.heap.size, 0, none⟩))) (w.alloc (.cells z t))
theorem FlowJ.stepA {Q : Exit → Act → World → Prop} (C : FlowC ops pl) (J : FlowJ ops pl fin W β seen a w) {p : Pl} (hp : p ∈ pl) (hn : p.new = true) (hr : p.i ∈ Region.ready .any ops seen) (hd : p.d < fin.tmps.size)
    (hAl : ∃ z, LaysAs P p.ty z ∧ p.cs.length ≤ z.size) :
    wpOp P ops Q p.i (fun a' w' => ∃ β', FlowJ ops pl fin W β' (seen.setIfInBounds p.i true) a' w') a w := by
  obtain ⟨o, ho, hg, hdd, hop, hws, ho0, hnS⟩ := C.lay p hp hn
  obtain ⟨z, hrun', hz⟩ := hAl
  have hrun := hrun' o hop
  generalize hty' : p.ty = ty' at hrun
  have hun := (mem_ready.1 hr).1
  have nS : ∀ q ∈ pl, q.s ≠ p.i := fun q hq e => by
    have : isS pl p.i = true := List.any_eq_true.2 ⟨q, hq, by simp [e]⟩
    rw [hnS] at this; cases this
  have hoth : ∀ q ∈ pl, q.new = true → q.i = p.i → q = p := fun q hq hqn e => by
    rcases C.two q hq p hp with h | h
    · exact h
    · exact absurd e (h.2 hqn hn).1
  unfold wpOp
  simp only [ho]
  rw [if_pos (by simp [Region.wanted, hg])]
  left
  unfold Oper.wp
  rw [hrun]
  simp only [Oper.upon, hdd]
  refine ⟨fun k => if k = p.i then w.heap.size else β k, ?_⟩
  have hba : Below w.heap.size w (w.alloc (.cells z ty')) := (Below.refl _ _).alloc (Nat.le_refl _) _
  refine ⟨by simp [J.ssz], J.shut hr, by rw [put_size, J.size], by rw [put_defers, J.defers], ?_, J.os, J.tape, J.output, Nat.le_trans J.big hba.size, ?_, ?_, ?_, ?_, ?_⟩
  · intro t htn hw
    rw [put_at (fun e => htn p hp hn (Option.some.inj e))]
    exact J.same t htn fun i oi hi hdi => (set_seen (hw i oi hi hdi)).resolve_left fun e2 => by
      subst e2; rw [ho] at hi; cases hi; rw [hdd] at hdi; exact htn p hp hn (Option.some.inj hdi)
  · intro k hk hq
    rw [hba.block k (Nat.lt_of_lt_of_le hk J.big)]
    exact J.keep k hk fun q hq' hqn hb' => set_unseen (hq q hq' hqn hb')
  · intro q hq hqn hs
    by_cases e : q.i = p.i
    · obtain rfl := hoth q hq hqn e
      simp only [if_true]
      refine ⟨J.big, by simp, ?_, there_fresh _ _ _ hz⟩
      simp [Act.put, J.size, hd]
    · have hs := (set_seen hs).resolve_left (fun h => e h.symm)
      obtain ⟨h1, h2, h3, h4⟩ := J.laid q hq hqn hs
      simp only [if_neg e]
      refine ⟨h1, Nat.lt_of_lt_of_le h2 hba.size, ?_, World.there_alloc h4 _⟩
      rw [put_at fun hc => ?_]
      · exact h3
      · rcases C.two q hq p hp with h | h
        · exact e (by rw [h])
        · exact (h.2 hqn hn).2 (Option.some.inj hc).symm
  · intro q hq hqn
    exact World.there_alloc (J.old q hq hqn) _
  · intro q hq r hr' hqn hrn h1 h2
    by_cases e1 : q.i = p.i <;> by_cases e2 : r.i = p.i
    · intro _; rw [e1, e2]
    · simp only [e1, if_true, if_neg e2]
      intro h
      have := (J.laid r hr' hrn ((set_seen h2).resolve_left (fun h => e2 h.symm))).2.1
      omega
    · simp only [e2, if_true, if_neg e1]
      intro h
      have := (J.laid q hq hqn ((set_seen h1).resolve_left (fun h => e1 h.symm))).2.1
      omega
    · simp only [if_neg e1, if_neg e2]
      exact J.apart q hq r hr' hqn hrn ((set_seen h1).resolve_left (fun h => e1 h.symm)) ((set_seen h2).resolve_left (fun h => e2 h.symm))
  · intro q hq hs
    have hs' := (set_seen hs).resolve_left (nS q hq).symm
    clear hs
    have hb : q.blk (fun k => if k = p.i then w.heap.size else β k) = q.blk β := by
      unfold Pl.blk
      cases hqn : q.new with
      | false => simp
      | true =>
        have hne : q.i ≠ p.i := fun e => by
          obtain rfl := hoth q hq hqn e
          have := waits_seen J.closed hws hs'
          rw [getD_both hun] at this; cases this
        simp [hne]
    rw [hb]
    exact World.rangeAt_alloc (J.held q hq hs') _

theorem FlowJ.stepS {Q : Exit → Act → World → Prop} (C : FlowC ops pl) (J : FlowJ ops pl fin W β seen a w) {p : Pl} (hp : p ∈ pl) (hr : p.s ∈ Region.ready .any ops seen)
    (hold : ∀ q ∈ pl, q.new = false → q.b < W.heap.size ∧ fin.tmps[q.d]? = some (.pointer (some ⟨q.b, q.o, none⟩)))
    (hdb : ∀ q ∈ pl, ∀ r ∈ pl, q.new = false → r.new = false → q.b = r.b → q = r)
    (hSt : fin.tmps[p.x]? = some (.agg p.cs.toArray) ∧ (P.info? p.ty).map (·.size) = some p.cs.length ∧ p.cs.toArray.all (·.oneCell') = true) :
    wpOp P ops Q p.s (fun a' w' => FlowJ ops pl fin W β (seen.setIfInBounds p.s true) a' w') a w := by
  obtain ⟨o, ho, hg, hdn, hop, hxt⟩ := C.store p hp
  obtain ⟨hx, hi, hk⟩ := hSt
  have hun := (mem_ready.1 hr).1
  have hlt : p.s < seen.size := by rw [J.ssz]; exact (Array.getElem?_eq_some_iff.1 ho).1
  have hlook : ∀ x, Operand.tmp x ∈ o.op.operands → x ∈ o.looksAt ops := fun x hx => List.mem_append_left _ (List.mem_filterMap.2 ⟨.tmp x, by simpa using hx, rfl⟩)
  have hax : a.tmps[p.x]? = some (.agg p.cs.toArray) := by
    rw [J.sees C hr ho (hlook p.x (by simp [hop, Op.operands])) hxt]; exact hx
  have hap : a.tmps[p.d]? = some (.pointer (some ⟨p.blk β, p.o, none⟩)) ∧ w.there (p.blk β) p.o p.cs.length ∧ (p.new = true → W.heap.size ≤ p.blk β) := by
    cases hpn : p.new with
    | true =>
      obtain ⟨_, _, _, _, _, hws, ho0, _⟩ := C.lay p hp hpn
      obtain ⟨h1, _, h3, h4⟩ := J.laid p hp hpn (waits_ready hws hr)
      simp only [Pl.blk, hpn, if_true, ho0]
      exact ⟨h3, h4, fun _ => h1⟩
    | false =>
      simp only [Pl.blk, hpn, Bool.false_eq_true, if_false]
      refine ⟨?_, J.old p hp hpn, fun h => by cases h⟩
      rw [J.sees C hr ho (hlook p.d (by simp [hop, Op.operands])) (C.oldd p hp hpn)]
      exact (hold p hp hpn).2
  obtain ⟨h1, h2, h3⟩ := hap
  unfold wpOp
  simp only [ho]
  rw [if_pos (by simp [Region.wanted, hg])]
  left
  refine wp_store_mid p.ty _ _ hop (p.blk β) p.o p.cs.toArray (by simp [Act.eval, h1]) (by simp [Act.eval, hax]) (by simpa using h2) (by simpa using hi) hk ?_
  have hput : a.put o.dst undef = a := by rw [hdn]; rfl
  rw [hput]
  have hso := sets_os (p.blk β) p.cs p.o w
  have hsz : (w.setCells (p.blk β) p.o p.cs).heap.size = w.heap.size := size_sets ..
  have hseen : (seen.setIfInBounds p.s true).getD p.s false = true := by simp [hlt]
  have nI : ∀ q ∈ pl, q.new = true → q.i ≠ p.s := fun q hq hqn e => by
    obtain ⟨_, _, _, _, _, _, _, hs⟩ := C.lay q hq hqn
    have : isS pl q.i = true := List.any_eq_true.2 ⟨p, hp, by simp [e]⟩
    rw [hs] at this; cases this
  refine ⟨by simp [J.ssz], J.shut hr, J.size, J.defers, ?_, hso.1.trans J.os, hso.2.1.trans J.tape, hso.2.2.trans J.output, by simp only [List.toList_toArray]; rw [hsz]; exact J.big, ?_, ?_, ?_, ?_, ?_⟩
  · intro x hxn hw
    exact J.same x hxn fun i oi hi' hdi => (set_seen (hw i oi hi' hdi)).resolve_left fun e2 => by
      subst e2; rw [ho] at hi'; cases hi'; rw [hdn] at hdi; cases hdi
  · intro k hkW hq
    simp only [List.toList_toArray]
    rw [heap_sets k (p.blk β) ?_]
    · exact J.keep k hkW fun q hq' hqn hb' => set_unseen (hq q hq' hqn hb')
    · intro e
      cases hpn : p.new with
      | true => have := h3 hpn; omega
      | false =>
        have := hq p hp hpn (by rw [e]; simp [Pl.blk, hpn])
        rw [hseen] at this; cases this
  · intro q hq hqn hs
    have hs := (set_seen hs).resolve_left (nI q hq hqn).symm
    obtain ⟨g1, g2, g3, g4⟩ := J.laid q hq hqn hs
    simp only [List.toList_toArray]
    exact ⟨g1, by rw [hsz]; exact g2, g3, World.there_setCells g4 _ _ _⟩
  · intro q hq hqn
    exact World.there_setCells (J.old q hq hqn) _ _ _
  · intro q hq r hr' hqn hrn g1 g2
    exact J.apart q hq r hr' hqn hrn ((set_seen g1).resolve_left (nI q hq hqn).symm) ((set_seen g2).resolve_left (nI r hr' hrn).symm)
  · intro q hq hs
    simp only [List.toList_toArray]
    rcases C.two q hq p hp with rfl | hne
    · exact World.rangeAt_setCells_same _ _ _ _ h2
    · have hs := (set_seen hs).resolve_left (fun h => hne.1 h.symm)
      refine ranges_sets (J.held q hq hs) _ _ _ ?_
      intro e
      cases hpn : p.new with
      | true =>
        obtain ⟨_, _, _, _, _, hws, _, _⟩ := C.lay p hp hpn
        have hpi := waits_ready hws hr
        cases hqn : q.new with
        | true =>
          obtain ⟨_, _, _, _, _, hqs, _, _⟩ := C.lay q hq hqn
          have hqi := waits_seen J.closed hqs hs
          simp only [Pl.blk, hpn, hqn, if_true] at e
          exact (hne.2 hqn hpn).1 (J.apart p hp q hq hpn hqn hpi hqi e).symm
        | false =>
          have h5 := h3 hpn
          have h6 := (hold q hq hqn).1
          rw [e] at h5
          simp only [Pl.blk, hqn, Bool.false_eq_true, if_false] at h5
          omega
      | false =>
        cases hqn : q.new with
        | true =>
          obtain ⟨_, _, _, _, _, hqs, _, _⟩ := C.lay q hq hqn
          have h5 := (J.laid q hq hqn (waits_seen J.closed hqs hs)).1
          have h6 := (hold p hp hpn).1
          simp only [Pl.blk, hpn, hqn, if_true, Bool.false_eq_true, if_false] at e
          omega
        | false =>
          simp only [Pl.blk, hpn, hqn, Bool.false_eq_true, if_false] at e
          have := hdb p hp q hq hpn hqn e
          exact hne.1 (by rw [this])

def cnt (seen : Array Bool) : Nat := seen.toList.countP (· == false)
theorem cnt_set {j : Nat} (h : seen.getD j true = false) : cnt seen = cnt (seen.setIfInBounds j true) + 1 := by
  have hj : j < seen.size := by
    rcases Nat.lt_or_ge j seen.size with h' | h'
    · exact h'
    · simp [Array.getElem?_eq_none h'] at h
  have hv : seen.toList[j]'(by simpa using hj) = false := by simpa [hj] using h
  have hpos : 0 < seen.toList.countP (· == false) := List.countP_pos_iff.2 ⟨false, by rw [← hv]; exact List.getElem_mem _, rfl⟩
  unfold cnt
  rw [Array.toList_setIfInBounds, List.countP_set (by simpa using hj)]
  rw [hv]
  have e1 : (if (false == false) = true then 1 else 0) = 1 := rfl
  have e2 : (if (true == false) = true then 1 else 0) = 0 := rfl
  rw [e1, e2]
  omega
theorem ready_all (C : FlowC ops pl) (hs : seen.size = ops.size) (h : Region.ready .any ops seen = []) : ∀ j, j < ops.size → seen.getD j false = true := by
  intro j
  induction j using Nat.strongRecOn with
  | _ j ih =>
    intro hj
    cases hc : seen.getD j false with
    | true => rfl
    | false =>
      exfalso
      have hun := getD_in (by omega) hc
      have : j ∈ Region.ready .any ops seen := mem_ready.2 ⟨hun, ops[j], Array.getElem?_eq_getElem hj, fun e he hb => by
        have hl := C.less j _ (Array.getElem?_eq_getElem hj) e he hb
        exact ih e.on hl (by omega)⟩
      rw [h] at this
      cases this
theorem none_ready (h : cnt seen = 0) : Region.ready .any ops seen = [] := by
  apply List.eq_nil_iff_forall_not_mem.2
  intro j hj
  have := cnt_set (mem_ready.1 hj).1
  omega

/-- what holds at the end -/
structure FlowE (pl : List Pl) (W : World) (β : Nat → Nat) (w : World) : Prop where
  os : w.os = W.os
  tape : w.tape = W.tape
  output : w.output = W.output
  big : W.heap.size ≤ w.heap.size
  keep : ∀ k, k < W.heap.size → (∀ p ∈ pl, p.new = false → p.b ≠ k) → w.heap[k]? = W.heap[k]?
  laid : ∀ p ∈ pl, p.new = true → W.heap.size ≤ β p.i ∧ β p.i < w.heap.size ∧ w.there (β p.i) 0 p.cs.length ∧ w.rangeAt (β p.i) 0 p.cs
  old : ∀ p ∈ pl, p.new = false → w.there p.b p.o p.cs.length ∧ w.rangeAt p.b p.o p.cs
  apart : ∀ p ∈ pl, ∀ q ∈ pl, p.new = true → q.new = true → β p.i = β q.i → p.i = q.i
def newPuts (β : Nat → Nat) (pl : List Pl) (fin : Act) : Act := pl.foldl (fun a p => if p.new then a.put (some p.d) (.pointer (some ⟨β p.i, 0, none⟩)) else a) fin

theorem newPuts_is : ∀ (pl : List Pl) (a fin : Act), a.tmps.size = fin.tmps.size → a.defers = fin.defers → (∀ t, (∀ p ∈ pl, p.new = true → p.d ≠ t) → a.tmps[t]? = fin.tmps[t]?) →
    (∀ p ∈ pl, p.new = true → a.tmps[p.d]? = some (.pointer (some ⟨β p.i, 0, none⟩))) → a = newPuts β pl fin
  | [], a, fin, h1, h2, h3, _ => by
    obtain ⟨t, d⟩ := a; obtain ⟨t', d'⟩ := fin
    simp only at h1 h2
    subst h2
    have : t = t' := Array.ext_getElem? fun i => h3 i (fun p hp => by cases hp)
    subst this; rfl
  | p :: pl, a, fin, h1, h2, h3, h4 => by
    unfold newPuts
    rw [List.foldl_cons]
    cases hn : p.new with
    | false =>
      simp only [Bool.false_eq_true, if_false]
      exact newPuts_is pl a fin h1 h2 (fun t ht => h3 t fun q hq hqn => by
        rcases List.mem_cons.1 hq with e | hq
        · rw [e, hn] at hqn; cases hqn
        · exact ht q hq hqn) (fun q hq hqn => h4 q (List.mem_cons_of_mem _ hq) hqn)
    | true =>
      simp only [if_true]
      refine newPuts_is pl a _ (by rw [put_size, h1]) (by rw [put_defers, h2]) (fun t ht => ?_) (fun q hq hqn => h4 q (List.mem_cons_of_mem _ hq) hqn)
      have h5 := h4 p (List.mem_cons_self ..) hn
      by_cases e : p.d = t
      · subst e
        have hlt : p.d < fin.tmps.size := by rw [← h1]; exact (Array.getElem?_eq_some_iff.1 h5).1
        rw [h5]; simp [Act.put, hlt]
      · rw [put_at (fun h => e (Option.some.inj h))]
        exact h3 t fun q hq hqn => by
          rcases List.mem_cons.1 hq with h | hq
          · rw [h]; exact e
          · exact ht q hq hqn

structure FlowH (P : Program) (ops : Array Oper) (pl : List Pl) (fin : Act) (W : World) : Prop where
  x : ∀ j oj, ops[j]? = some oj → isA pl j = false → isS pl j = false → ∀ W', FlowK pl W W' → (early ops pl j = true → Below W.heap.size W W') → wpQuiet P ops (fun w' => ∃ p : GB, w' = gw W' p.d p.os) (fun a' => a' = fin) [oj] fin
  al : ∀ p ∈ pl, p.new = true → p.d < fin.tmps.size ∧ ∃ z, LaysAs P p.ty z ∧ p.cs.length ≤ z.size
  old : ∀ q ∈ pl, q.new = false → q.b < W.heap.size ∧ fin.tmps[q.d]? = some (.pointer (some ⟨q.b, q.o, none⟩)) ∧ W.there q.b q.o q.cs.length
  db : ∀ q ∈ pl, ∀ r ∈ pl, q.new = false → r.new = false → q.b = r.b → q = r
  st : ∀ p ∈ pl, fin.tmps[p.x]? = some (.agg p.cs.toArray) ∧ (P.info? p.ty).map (·.size) = some p.cs.length ∧ p.cs.toArray.all (·.oneCell') = true

theorem flow_any {Q : Exit → Act → World → Prop} (C : FlowC ops pl) (H : FlowH P ops pl fin W) (hQ : ∀ β w, FlowE pl W β w → Q .normal (newPuts β pl fin) w) :
    ∀ (f : Nat) (seen : Array Bool) (a : Act) (w : World) (β : Nat → Nat), cnt seen = f → FlowJ ops pl fin W β seen a w → wpAny P .any ops Q f seen a w := by
  have done : ∀ (seen : Array Bool) (a : Act) (w : World) (β : Nat → Nat), FlowJ ops pl fin W β seen a w → Region.ready .any ops seen = [] → Q .normal a w := by
    intro seen a w β J h0
    have hall := ready_all C J.ssz h0
    have hs : ∀ i o, ops[i]? = some o → seen.getD i false = true := fun i o h => hall i (Array.getElem?_eq_some_iff.1 h).1
    have hi : ∀ p ∈ pl, p.new = true → seen.getD p.i false = true := fun p hp hn => by
      obtain ⟨o, ho, _⟩ := C.lay p hp hn; exact hs _ o ho
    have hst : ∀ p ∈ pl, seen.getD p.s false = true := fun p hp => by
      obtain ⟨o, ho, _⟩ := C.store p hp; exact hs _ o ho
    rw [newPuts_is (β := β) pl a fin J.size J.defers (fun t ht => J.same t ht fun i o h _ => hs i o h) fun p hp hn => (J.laid p hp hn (hi p hp hn)).2.2.1]
    refine hQ β w ⟨J.os, J.tape, J.output, J.big, fun k hk hp => J.keep k hk fun p h1 h2 h3 => absurd h3 (hp p h1 h2), fun p hp hn => ?_, fun p hp hn => ?_, fun p hp q hq hpn hqn => J.apart p hp q hq hpn hqn (hi p hp hpn) (hi q hq hqn)⟩
    · obtain ⟨h1, h2, _, h4⟩ := J.laid p hp hn (hi p hp hn)
      have := J.held p hp (hst p hp)
      obtain ⟨_, _, _, _, _, _, ho0, _⟩ := C.lay p hp hn
      simp only [Pl.blk, hn, if_true, ho0] at this
      exact ⟨h1, h2, h4, this⟩
    · have := J.held p hp (hst p hp)
      simp only [Pl.blk, hn, Bool.false_eq_true, if_false] at this
      exact ⟨J.old p hp hn, this⟩
  intro f
  induction f with
  | zero => intro seen a w β hc J; exact ⟨none_ready hc, done seen a w β J (none_ready hc)⟩
  | succ f ih =>
    intro seen a w β hc J
    refine ⟨done seen a w β J, fun j hj => ?_⟩
    have hc' : cnt (seen.setIfInBounds j true) = f := by have := cnt_set (mem_ready.1 hj).1; omega
    obtain ⟨hun, oj, hoj, _⟩ := mem_ready.1 hj
    cases hA : isA pl j with
    | true =>
      obtain ⟨p, hp, hb⟩ := List.any_eq_true.1 hA
      simp only [Bool.and_eq_true, beq_iff_eq] at hb
      obtain ⟨hn, rfl⟩ := hb
      exact wpOp_mono (fun a' w' ⟨β', J'⟩ => ih _ a' w' β' hc' J') (J.stepA C hp hn hj (H.al p hp hn).1 (H.al p hp hn).2)
    | false =>
      cases hS : isS pl j with
      | true =>
        obtain ⟨p, hp, hb⟩ := List.any_eq_true.1 hS
        obtain rfl := beq_iff_eq.1 hb
        exact wpOp_mono (fun a' w' J' => ih _ a' w' β hc' J') (J.stepS C hp hj (fun q hq hqn => ⟨(H.old q hq hqn).1, (H.old q hq hqn).2.1⟩) H.db (H.st p hp))
      | false => exact wpOp_mono (fun a' w' J' => ih _ a' w' β hc' J') (J.stepX C hj hoj hA hS (H.x j oj hoj hA hS))

theorem seen_none (n : Nat) : cnt (Array.replicate n false) = n := by
  unfold cnt; simp [List.countP_replicate]
theorem FlowJ.init (C : FlowC ops pl) {vs : List (Tmp × Value)} (hfin : vs.foldl (fun a p => a.put (some p.1) p.2) a = fin) (hd : ∀ t ∈ vs.map (·.1), ∃ (i : Nat) (o : Oper), ops[i]? = some o ∧ o.dst = some t)
    (hold : ∀ q ∈ pl, q.new = false → W.there q.b q.o q.cs.length) : FlowJ ops pl fin W (fun _ => 0) (Array.replicate ops.size false) a W := by
  have h0 : ∀ i, (Array.replicate ops.size false).getD i false = false := getD_replicate_false _
  have key : ∀ (vs : List (Tmp × Value)) (a : Act), (vs.foldl (fun a p => a.put (some p.1) p.2) a).tmps.size = a.tmps.size ∧ (vs.foldl (fun a p => a.put (some p.1) p.2) a).defers = a.defers ∧ ∀ t, t ∉ vs.map (·.1) → (vs.foldl (fun a p => a.put (some p.1) p.2) a).tmps[t]? = a.tmps[t]? := by
    intro vs
    induction vs with
    | nil => intro a; exact ⟨rfl, rfl, fun _ _ => rfl⟩
    | cons p vs ih =>
      intro a
      obtain ⟨h1, h2, h3⟩ := ih (a.put (some p.1) p.2)
      rw [List.foldl_cons]
      refine ⟨by rw [h1, put_size], by rw [h2, put_defers], fun t ht => ?_⟩
      simp only [List.map_cons, List.mem_cons, not_or] at ht
      rw [h3 t ht.2, put_at fun e => ht.1 (Option.some.inj e).symm]
  obtain ⟨k1, k2, k3⟩ := key vs a
  rw [hfin] at k1 k2 k3
  refine ⟨by simp, fun j oj _ h => absurd h (by rw [h0]; exact Bool.noConfusion), k1.symm, k2.symm, fun t _ ht => ?_, rfl, rfl, rfl, Nat.le_refl _, fun _ _ _ => rfl, fun p _ _ h => absurd h (by rw [h0]; exact Bool.noConfusion), hold, fun p _ q _ _ _ h => absurd h (by rw [h0]; exact Bool.noConfusion), fun p _ h => absurd h (by rw [h0]; exact Bool.noConfusion)⟩
  refine (k3 t fun hc => ?_).symm
  obtain ⟨i, o, ho, hdo⟩ := hd t hc
  have := ht i o ho hdo
  rw [h0] at this; cases this
/-- the walk of the operations, each in the frame of the end -/
def flowX (P : Program) (ops : Array Oper) (C : World → Prop) (fin : Act) (skip : Nat → Bool) : Nat → List Oper → Prop
  | _, [] => True
  | k, o :: l => (skip k = true ∨ wpQuiet P ops C (fun a' => a' = fin) [o] fin) ∧ flowX P ops C fin skip (k + 1) l
theorem flowX_nil {C : World → Prop} {skip : Nat → Bool} {k : Nat} : flowX P ops C fin skip k [] := trivial
theorem flowX_skip {C : World → Prop} {skip : Nat → Bool} {k : Nat} {o : Oper} {l : List Oper} (h : skip k = true) (h2 : flowX P ops C fin skip (k + 1) l) : flowX P ops C fin skip k (o :: l) := ⟨.inl h, h2⟩
theorem flowX_op {C : World → Prop} {skip : Nat → Bool} {k : Nat} {o : Oper} {l : List Oper} (h : wpQuiet P ops C (fun a' => a' = fin) [o] fin) (h2 : flowX P ops C fin skip (k + 1) l) : flowX P ops C fin skip k (o :: l) := ⟨.inr h, h2⟩
theorem flowX_at {C : World → Prop} {skip : Nat → Bool} : ∀ (l : List Oper) (k : Nat), flowX P ops C fin skip k l → ∀ j o, l[j]? = some o → skip (k + j) = false → wpQuiet P ops C (fun a' => a' = fin) [o] fin
  | [], _, _, j, o, h, _ => by simp at h
  | x :: l, k, h, j, o, hj, hs => by
    cases j with
    | zero =>
      simp only [List.getElem?_cons_zero, Option.some.injEq] at hj
      subst hj
      exact h.1.resolve_left (by rw [Nat.add_zero] at hs; rw [hs]; exact Bool.noConfusion)
    | succ j => exact flowX_at l (k + 1) h.2 j o (by simpa using hj) (by rw [show k + 1 + j = k + (j + 1) by omega]; exact hs)

/-- **A region that draws its order, by its flow of data.** pl: the places that it writes whole; vs: the slots' values at the end (but the new pointers) -/
theorem wp_region_flow {id : Nat} {Q : Exit → Act → World → Prop} {a : Act} {w : World} {l : List Oper} (pl : List Pl) (vs : List (Tmp × Value)) (fin : Act) (hfin : vs.foldl (fun a p => a.put (some p.1) p.2) a = fin)
    (hm : P.follows .mixedOrders = true) (hB : flowB l.toArray pl (vs.map (·.1)) a.tmps.size = true)
    (hX : ∀ W', Below w.heap.size w W' → flowX P l.toArray (fun w' => ∃ p : GB, w' = gw W' p.d p.os) fin (fun k => isA pl k || isS pl k || !early l.toArray pl k) 0 l)
    (hY : ∀ W', FlowK pl w W' → flowX P l.toArray (fun w' => ∃ p : GB, w' = gw W' p.d p.os) fin (fun k => isA pl k || isS pl k || early l.toArray pl k) 0 l)
    (hAl : ∀ p ∈ pl, p.new = true → ∃ z, LaysAs P p.ty z ∧ p.cs.length ≤ z.size)
    (hOld : ∀ q ∈ pl, q.new = false → q.b < w.heap.size ∧ fin.tmps[q.d]? = some (.pointer (some ⟨q.b, q.o, none⟩)) ∧ w.there q.b q.o q.cs.length)
    (hDb : ∀ q ∈ pl, ∀ r ∈ pl, q.new = false → r.new = false → q.b = r.b → q = r)
    (hSt : ∀ p ∈ pl, fin.tmps[p.x]? = some (.agg p.cs.toArray) ∧ (P.info? p.ty).map (·.size) = some p.cs.length ∧ p.cs.toArray.all (·.oneCell') = true)
    (hQ : ∀ β w', FlowE pl w β w' → Q .normal (newPuts β pl fin) w') : (Code.region id l.toArray true).wp P Q a w := by
  obtain ⟨C, hts, hpd⟩ := flowC hB
  have hO : ∀ q ∈ pl, q.new = false → q.b < w.drew.heap.size ∧ fin.tmps[q.d]? = some (.pointer (some ⟨q.b, q.o, none⟩)) ∧ w.drew.there q.b q.o q.cs.length := fun q hq hn => by
    obtain ⟨h1, h2, h3⟩ := hOld q hq hn
    exact ⟨h1, h2, by simpa using h3⟩
  have J : FlowJ l.toArray pl fin w.drew (fun _ => 0) (Array.replicate l.toArray.size false) a w.drew := FlowJ.init C hfin (fun t ht => by obtain ⟨_, i, o, ho, hd, _⟩ := hts t ht; exact ⟨i, o, ho, hd⟩) fun q hq hn => (hO q hq hn).2.2
  refine wp_region_any hm (flow_any (P := P) C ⟨?_, ?_, hO, hDb, hSt⟩ (fun β w' E => hQ β w' ⟨E.os, E.tape, E.output, E.big, E.keep, E.laid, E.old, E.apart⟩) _ _ _ _ _ (seen_none _) J)
  · intro j oj hoj hA hS W' hK hW'
    cases he : early l.toArray pl j with
    | true => exact flowX_at l 0 (hX W' (by have h := hW' he; exact ⟨h.os, h.tape, h.output, h.size, h.block⟩)) j oj (by simpa using hoj) (by simp [hA, hS, he])
    | false => exact flowX_at l 0 (hY W' ⟨hK.os, hK.tape, hK.output, hK.big, hK.keep⟩) j oj (by simpa using hoj) (by simp [hA, hS, he])
  · intro p hp hn
    exact ⟨by rw [J.size.symm]; exact hpd p hp hn, hAl p hp hn⟩

theorem range_cons (k m : Nat) : List.range' k (m + 1) = k :: List.range' (k + 1) m := rfl
/-- the region's operations one after the other, as they stand -/
theorem flow_seq {Q : Exit → Act → World → Prop} (C : FlowC ops pl) (H : FlowH P ops pl fin W) (hQ : ∀ β w, FlowE pl W β w → Q .normal (newPuts β pl fin) w) :
    ∀ (m k : Nat) (seen : Array Bool) (a : Act) (w : World) (β : Nat → Nat), k + m = ops.size → (∀ i, i < ops.size → seen.getD i false = decide (i < k)) → FlowJ ops pl fin W β seen a w → wpOps P ops Q (List.range' k m) a w := by
  intro m
  induction m with
  | zero =>
    intro k seen a w β hk hseen J
    have hs : ∀ i o, ops[i]? = some o → seen.getD i false = true := fun i o h => by
      have := (Array.getElem?_eq_some_iff.1 h).1
      rw [hseen i this]; simp; omega
    have hi : ∀ p ∈ pl, p.new = true → seen.getD p.i false = true := fun p hp hn => by
      obtain ⟨o, ho, _⟩ := C.lay p hp hn; exact hs _ o ho
    have hst : ∀ p ∈ pl, seen.getD p.s false = true := fun p hp => by
      obtain ⟨o, ho, _⟩ := C.store p hp; exact hs _ o ho
    show Q .normal a w
    rw [newPuts_is (β := β) pl a fin J.size J.defers (fun t ht => J.same t ht fun i o h _ => hs i o h) fun p hp hn => (J.laid p hp hn (hi p hp hn)).2.2.1]
    refine hQ β w ⟨J.os, J.tape, J.output, J.big, fun k hk hp => J.keep k hk fun p h1 h2 h3 => absurd h3 (hp p h1 h2), fun p hp hn => ?_, fun p hp hn => ?_, fun p hp q hq hpn hqn => J.apart p hp q hq hpn hqn (hi p hp hpn) (hi q hq hqn)⟩
    · obtain ⟨h1, h2, _, h4⟩ := J.laid p hp hn (hi p hp hn)
      have := J.held p hp (hst p hp)
      obtain ⟨_, _, _, _, _, _, ho0, _⟩ := C.lay p hp hn
      simp only [Pl.blk, hn, if_true, ho0] at this
      exact ⟨h1, h2, h4, this⟩
    · have := J.held p hp (hst p hp)
      simp only [Pl.blk, hn, Bool.false_eq_true, if_false] at this
      exact ⟨J.old p hp hn, this⟩
  | succ m ih =>
    intro k seen a w β hk hseen J
    have hkl : k < ops.size := by omega
    rw [range_cons, wpOps_cons]
    have hoj : ops[k]? = some ops[k] := Array.getElem?_eq_getElem hkl
    have hun : seen.getD k true = false := getD_in (by rw [J.ssz]; exact hkl) (by rw [hseen k hkl]; simp)
    have hj : k ∈ Region.ready .any ops seen := mem_ready.2 ⟨hun, ops[k], hoj, fun e he hb => by
      have hl := C.less k _ hoj e he hb
      rw [hseen e.on (by omega)]; simp [hl]⟩
    have hsn : ∀ i, i < ops.size → (seen.setIfInBounds k true).getD i false = decide (i < k + 1) := fun i hi => by
      by_cases e : k = i
      · subst e; simp [J.ssz, hkl]
      · rw [getD_set_ne false e, hseen i hi]
        by_cases h : i < k
        · simp [h]; omega
        · simp [h]; omega
    cases hA : isA pl k with
    | true =>
      obtain ⟨p, hp, hb⟩ := List.any_eq_true.1 hA
      simp only [Bool.and_eq_true, beq_iff_eq] at hb
      obtain ⟨hn, rfl⟩ := hb
      exact wpOp_mono (fun a' w' ⟨β', J'⟩ => ih _ _ a' w' β' (by omega) hsn J') (J.stepA C hp hn hj (H.al p hp hn).1 (H.al p hp hn).2)
    | false =>
      cases hS : isS pl k with
      | true =>
        obtain ⟨p, hp, hb⟩ := List.any_eq_true.1 hS
        obtain rfl := beq_iff_eq.1 hb
        exact wpOp_mono (fun a' w' J' => ih _ _ a' w' β (by omega) hsn J') (J.stepS C hp hj (fun q hq hqn => ⟨(H.old q hq hqn).1, (H.old q hq hqn).2.1⟩) H.db (H.st p hp))
      | false => exact wpOp_mono (fun a' w' J' => ih _ _ a' w' β (by omega) hsn J') (J.stepX C hj hoj hA hS (H.x k _ hoj hA hS))
/-- **A region by its flow of data, whether it draws its order or not.** -/
theorem wp_flow {id : Nat} {dr : Bool} {Q : Exit → Act → World → Prop} {a : Act} {w : World} {l : List Oper} (pl : List Pl) (vs : List (Tmp × Value)) (fin : Act) (hfin : vs.foldl (fun a p => a.put (some p.1) p.2) a = fin)
    (hm : P.follows .mixedOrders = true) (hB : flowB l.toArray pl (vs.map (·.1)) a.tmps.size = true)
    (hX : ∀ W', Below w.heap.size w W' → flowX P l.toArray (fun w' => ∃ p : GB, w' = gw W' p.d p.os) fin (fun k => isA pl k || isS pl k || !early l.toArray pl k) 0 l)
    (hY : ∀ W', FlowK pl w W' → flowX P l.toArray (fun w' => ∃ p : GB, w' = gw W' p.d p.os) fin (fun k => isA pl k || isS pl k || early l.toArray pl k) 0 l)
    (hAl : ∀ p ∈ pl, p.new = true → ∃ z, LaysAs P p.ty z ∧ p.cs.length ≤ z.size)
    (hOld : ∀ q ∈ pl, q.new = false → q.b < w.heap.size ∧ fin.tmps[q.d]? = some (.pointer (some ⟨q.b, q.o, none⟩)) ∧ w.there q.b q.o q.cs.length)
    (hDb : ∀ q ∈ pl, ∀ r ∈ pl, q.new = false → r.new = false → q.b = r.b → q = r)
    (hSt : ∀ p ∈ pl, fin.tmps[p.x]? = some (.agg p.cs.toArray) ∧ (P.info? p.ty).map (·.size) = some p.cs.length ∧ p.cs.toArray.all (·.oneCell') = true)
    (hQ : ∀ β w', FlowE pl w β w' → Q .normal (newPuts β pl fin) w') : (Code.region id l.toArray dr).wp P Q a w := by
  cases dr with
  | true => exact wp_region_flow pl vs fin hfin hm hB hX hY hAl hOld hDb hSt hQ
  | false =>
    obtain ⟨C, hts, hpd⟩ := flowC hB
    have J : FlowJ l.toArray pl fin w (fun _ => 0) (Array.replicate l.toArray.size false) a w := FlowJ.init C hfin (fun t ht => by obtain ⟨_, i, o, ho, hd, _⟩ := hts t ht; exact ⟨i, o, ho, hd⟩) fun q hq hn => (hOld q hq hn).2.2
    refine wp_region ?_
    rw [List.range_eq_range']
    refine flow_seq (P := P) (W := w) C ⟨?_, ?_, hOld, hDb, hSt⟩ hQ _ _ _ _ _ _ (by omega) (fun i hi => by rw [getD_replicate_false]; simp) J
    · intro j oj hoj hA hS W' hK hW'
      cases he : early l.toArray pl j with
      | true => exact flowX_at l 0 (hX W' (hW' he)) j oj (by simpa using hoj) (by simp [hA, hS, he])
      | false => exact flowX_at l 0 (hY W' ⟨hK.os, hK.tape, hK.output, hK.big, hK.keep⟩) j oj (by simpa using hoj) (by simp [hA, hS, he])
    · intro p hp hn
      exact ⟨by rw [J.size.symm]; exact hpd p hp hn, hAl p hp hn⟩
end
end Go.Proofs.Ytnkmhbiklffjlaa
