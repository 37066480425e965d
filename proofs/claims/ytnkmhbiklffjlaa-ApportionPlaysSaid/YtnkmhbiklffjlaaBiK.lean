/- Ratios in memory: 66 cells; building one, a part of one, comparing numbers as structs. -/
import Derived.Test.YtnkmhbiklffjlaaBiJ
import Derived.ChangeKeysEq
set_option linter.unusedVariables false
set_option linter.unusedSimpArgs false
namespace Go.Proofs.Ytnkmhbiklffjlaa
open Go.RowKit Big

set_option maxRecDepth 100000 in
theorem Try.infoR : (Try.prog.info? 56).map (·.size) = some 66 := by kernel_rfl
def rat (n : Bool) (p : Nat) (m : Bool) (q : Nat) : List Value := (.bool n :: lv 32 p) ++ (.bool m :: lv 32 q)
def rV (n : Bool) (p : Nat) (m : Bool) (q : Nat) : Value := .agg (rat n p m q).toArray
theorem rat_len (n : Bool) (p : Nat) (m : Bool) (q : Nat) : (rat n p m q).length = 66 := by unfold rat; rw [List.length_append, List.length_cons, List.length_cons, lv_len, lv_len]
theorem rat_one (n : Bool) (p : Nat) (m : Bool) (q : Nat) : ∀ x ∈ rat n p m q, x.oneCell' = true := fun x hx => by
  rcases List.mem_append.1 hx with h | h
  · exact int_one n p x h
  · exact int_one m q x h
theorem sizeR {cs : List Value} {n : Bool} {p : Nat} {m : Bool} {q : Nat} (h : cs = rat n p m q) : (Try.prog.info? 56).map (·.size) = some cs.length := by rw [h, rat_len]; exact Try.infoR
theorem oneR {cs : List Value} {n : Bool} {p : Nat} {m : Bool} {q : Nat} (h : cs = rat n p m q) : cs.toArray.all (·.oneCell') = true := by rw [h]; exact all_oneCell_toArray (rat_one n p m q)
theorem valR {c : List Value} {n : Bool} {p : Nat} {m : Bool} {q : Nat} (h : c = rat n p m q) : rV n p m q = .agg c.toArray := by rw [h]; rfl
theorem At.num {w : World} {b : Nat} {c d : List Value} {n : Bool} {p : Nat} {m : Bool} {q : Nat} (h : At w b 0 c) (hc : c = rat n p m q) (hd : d = .bool n :: lv 32 p) : At w b 0 d := by
  subst hc hd; exact At.head h
theorem At.den {w : World} {b : Nat} {c d : List Value} {n : Bool} {p : Nat} {m : Bool} {q : Nat} (h : At w b 0 c) (hc : c = rat n p m q) (hd : d = .bool m :: lv 32 q) : At w b 33 d := by
  subst hc hd; exact At.tail h (by simp [lv_len])
theorem Try.alR {cs : List Value} (h : (Try.prog.info? 56).map (·.size) = some cs.length) : ∃ z, LaysAs Try.prog 56 z ∧ cs.length ≤ z.size := by
  refine ⟨(rat false 0 false 0).toArray, ?_, by rw [Try.infoR] at h; injection h with h; rw [← h, List.size_toArray, rat_len]; exact Nat.le_refl _⟩
  unfold rat
  rw [lv33_zero]
  intro o ho b w
  unfold execOp
  simp only [ho]
  rfl
theorem built_zeroI : Try.prog.built 51 [] = some (Value.bool false :: lv 32 0).toArray := by rw [lv33_zero]; kernel_rfl
theorem built_zeroR : Try.prog.built 56 [] = some (rat false 0 false 0).toArray := by unfold rat; rw [lv33_zero]; kernel_rfl
theorem fill_seg (off : Nat) : ∀ (v : List Value) (k : Nat) (cells : Array Value), off + k + v.length ≤ cells.size →
    ∀ i, ((v.zipIdx k).foldl (fun (cs : Array Value) (x : Value × Nat) => cs.setIfInBounds (off + x.2) x.1) cells)[i]? = if off + k ≤ i ∧ i < off + k + v.length then v[i - (off + k)]? else cells[i]? := by
  intro v
  induction v with
  | nil => intro k cells _ i; rw [if_neg (by simp only [List.length_nil]; omega)]; rfl
  | cons x v ih =>
    intro k cells h i
    simp only [List.zipIdx_cons, List.foldl_cons, List.length_cons] at h ⊢
    rw [ih (k + 1) _ (by simp; omega)]
    by_cases h1 : off + (k + 1) ≤ i ∧ i < off + (k + 1) + v.length
    · rw [if_pos h1, if_pos (by omega), show i - (off + k) = (i - (off + (k + 1))) + 1 by omega, List.getElem?_cons_succ]
    · rw [if_neg h1, Array.getElem?_setIfInBounds]
      by_cases h2 : off + k = i
      · subst h2
        rw [if_pos rfl, if_pos (by omega), if_pos (by omega), Nat.sub_self, List.getElem?_cons_zero]
      · rw [if_neg h2, if_neg (by omega)]
theorem fill_toList (off : Nat) (v : Array Value) (cells : Array Value) (h : off + v.size ≤ cells.size) (i : Nat) :
    (v.zipIdx.foldl (fun (cs : Array Value) (x : Value × Nat) => cs.setIfInBounds (off + x.2) x.1) cells)[i]? = if off ≤ i ∧ i < off + v.size then v[i - off]? else cells[i]? := by
  have := fill_seg off v.toList 0 cells (by simpa using h) i
  simp only [Nat.add_zero, Array.length_toList, Array.getElem?_toList] at this
  rw [← this, ← Array.foldl_toList, Array.toList_zipIdx]
theorem built_as (parts : List (Nat × Value)) : Try.prog.built 56 parts = Instr.fill (#[(0, 33), (33, 33)][·]?) (rat false 0 false 0).toArray parts := by
  unfold rat; rw [lv33_zero]; kernel_rfl
theorem fill_cons {place : Nat → Option (Nat × Nat)} {cells : Array Value} {i off size : Nat} {v : Value} {rest : List (Nat × Value)} (hp : place i = some (off, size)) (hs : v.cells.size = size) (h : off + v.cells.size ≤ cells.size) :
    Instr.fill place cells ((i, v) :: rest) = Instr.fill place (v.cells.zipIdx.foldl (fun cs (c, j) => cs.setIfInBounds (off + j) c) cells) rest := by
  rw [Instr.fill, hp]
  simp [hs]
  omega
theorem built_ratio {c d : List Value} (hc : c.length = 33) (hd : d.length = 33) : Try.prog.built 56 [(0, .agg c.toArray), (1, .agg d.toArray)] = some (c ++ d).toArray := by
  rw [built_as]
  have hz : (rat false 0 false 0).toArray.size = 66 := by rw [List.size_toArray, rat_len]
  generalize (rat false 0 false 0).toArray = Z at hz
  have h1 := fill_toList 0 c.toArray Z (by simp; omega)
  have e1 : (#[(0, 33), (33, 33)] : Array (Nat × Nat))[0]? = some (0, 33) := rfl
  have e2 : (#[(0, 33), (33, 33)] : Array (Nat × Nat))[1]? = some (33, 33) := rfl
  rw [fill_cons (off := 0) (size := 33) rfl (by simp [Value.cells, hc]) (by simp [Value.cells]; omega)]
  simp only [Value.cells]
  have hs1 : (Array.foldl (fun (cs : Array Value) (x : Value × Nat) => cs.setIfInBounds (0 + x.2) x.1) Z c.toArray.zipIdx).size = 66 := by
    have : ∀ (l : List (Value × Nat)) (Z : Array Value), (l.foldl (fun (cs : Array Value) (x : Value × Nat) => cs.setIfInBounds (0 + x.2) x.1) Z).size = Z.size := by
      intro l; induction l with
      | nil => intro Z; rfl
      | cons x l ih => intro Z; rw [List.foldl_cons, ih]; simp
    rw [← Array.foldl_toList, this, hz]
  have h2 := fill_toList 33 d.toArray _ (Nat.le_of_eq (show 33 + d.toArray.size = _ by rw [hs1]; simp [hd]))
  generalize Array.foldl (fun (cs : Array Value) (x : Value × Nat) => cs.setIfInBounds (0 + x.2) x.1) Z c.toArray.zipIdx = Y at h1 h2 hs1
  rw [fill_cons (off := 33) (size := 33) rfl (by simp [Value.cells, hd]) (by simp [Value.cells]; omega)]
  simp only [Value.cells]
  unfold Instr.fill
  congr 1
  apply Array.ext_getElem?
  intro i
  rw [h2 i]
  by_cases hi : 33 ≤ i ∧ i < 33 + d.toArray.size
  · rw [if_pos hi]; simp [List.getElem?_append_right (show c.length ≤ i by omega), hc]
  · rw [if_neg hi, h1 i]
    by_cases hj : 0 ≤ i ∧ i < 0 + c.toArray.size
    · rw [if_pos hj]; simp at hj; simp [List.getElem?_append_left (show i < c.length by omega)]
    · rw [if_neg hj, Array.getElem?_eq_none (by simp at hi hj; omega), Array.getElem?_eq_none (by simp at hi hj ⊢; omega)]
theorem run_num {c d : List Value} (hc : c.length = 33) (w : World) : (Instr.field 56 (.agg (c ++ d).toArray) 0).run Try.prog w = .ok (.agg c.toArray) w := by
  have hx : List.take 33 (c ++ d) = c := by rw [← hc]; exact List.take_left
  unfold Instr.field
  simp only [Sem.run_bind, run_underlying Try.underlying56, Result.andThen_ok]
  show (do let x ← asAgg (Value.agg (c ++ d).toArray); part 51 x 0 : Sem Value).run Try.prog w = _
  obtain ⟨i, hi, hs⟩ : ∃ i, Try.prog.info? 51 = some i ∧ i.size = 33 := by
    have := Try.infoI
    cases h : Try.prog.info? 51 with
    | none => rw [h] at this; cases this
    | some i => rw [h] at this; injection this with this; exact ⟨i, rfl, this⟩
  simp [asAgg, part, isAgg, Sem.run_bind, run_underlying Try.underlying51, run_sizeOf w hi, Program.cellsOf, hi, hs, hx]
theorem wpQuiet_num {ops : Array Oper} {C : World → Prop} {Q : Act → Prop} {a : Act} {op : Oper} {rest : List Oper} {x : Operand} {c d : List Value} (hgd : op.guard = none) (ho : op.op = .field 56 x 0) (hx : a.eval x = .agg (c ++ d).toArray) (hc : c.length = 33)
    (h : wpQuiet Try.prog ops C Q rest (a.put op.dst (.agg c.toArray))) : wpQuiet Try.prog ops C Q (op :: rest) a := by
  refine wpQuiet_step (fun K hK => ?_)
  rw [if_pos (by simp [Region.wanted, hgd])]
  refine ⟨.agg c.toArray, fun W hW => ?_, hK _ h⟩
  unfold Oper.quietAt execOp
  simp [ho, hx, run_num hc W, Oper.quietUpon]
theorem eq_items (d : Nat) (xs ys : List Value) (us vs : List Nat) (hx : xs = us.map fun (x : Nat) => Value.int .u32 x) (hy : ys = vs.map fun (x : Nat) => Value.int .u32 x) (w : World) : ∀ is : List Nat, (∀ i ∈ is, i < us.length ∧ i < vs.length) →
    (Op.eqItems (d + 1) 48 (Try.prog.cellsOf 48) xs.toArray ys.toArray is).run Try.prog w = .ok (is.all fun i => us[i]? == vs[i]?) w := by
  have hco : Try.prog.cellsOf 48 = 1 := by kernel_rfl
  have hpl : Try.prog.plainKey 48 = true := by kernel_rfl
  intro is
  induction is with
  | nil => intro _; simp [Op.eqItems]
  | cons i is ih =>
    intro h
    obtain ⟨h1, h2⟩ := h i (List.mem_cons_self ..)
    have g1 : us[i]? = some us[i] := List.getElem?_eq_getElem h1
    have g2 : vs[i]? = some vs[i] := List.getElem?_eq_getElem h2
    have p1 := run_part_plain (P := Try.prog) w hpl (xs := xs.toArray) (off := i) (v := .int .u32 (us[i] : Nat)) (by simp [hx, g1])
    have p2 := run_part_plain (P := Try.prog) w hpl (xs := ys.toArray) (off := i) (v := .int .u32 (vs[i] : Nat)) (by simp [hy, g2])
    simp only [Op.eqItems, hco, Nat.mul_one, Sem.run_bind, p1, p2, Result.andThen_ok, run_equalIn_int w d 48 .u32 .u32 _ _ Try.underlying48]
    have ih' := ih fun j hj => h j (List.mem_cons_of_mem _ hj)
    rw [hco] at ih'
    rw [List.all_cons, g1, g2]
    by_cases e : us[i] = vs[i]
    · simp [e, ih']
    · have e1 : ((us[i] : Nat) : Int) ≠ (vs[i] : Nat) := by omega
      simp [e, e1]
theorem eq_mag (d a b : Nat) (ha : a < BB ^ 32) (hb : b < BB ^ 32) (w : World) : (Op.equalIn (d + 2) 49 (.agg (lv 32 a).toArray) (.agg (lv 32 b).toArray)).run Try.prog w = .ok (decide (a = b)) w := by
  obtain ⟨i, hi⟩ : ∃ i, Try.prog.info? 48 = some i := info_of_underlying Try.underlying48
  rw [run_equalIn_array w (d + 1) _ _ Try.underlying49 hi]
  rw [eq_items d (lv 32 a) (lv 32 b) (dg 32 a) (dg 32 b) rfl rfl w (List.range 32) (fun i hi => by rw [dg_len, dg_len]; have := List.mem_range.1 hi; omega)]
  congr 1
  by_cases h : a = b
  · subst h; simp
  · rw [decide_eq_false h]
    cases hc : (List.range 32).all fun i => (dg 32 a)[i]? == (dg 32 b)[i]? with
    | false => rfl
    | true =>
      refine absurd (eq_of_lim ha hb fun k hk => ?_) h
      have := List.all_eq_true.1 hc k (List.mem_range.2 hk)
      rw [dg_get a hk, dg_get b hk] at this
      simpa using this
theorem eq_at (D : Nat) (n m : Bool) (a b : Nat) (ha : a < BB ^ 32) (hb : b < BB ^ 32) (w : World) : (Op.equalIn (D + 3) 51 (iV n a) (iV m b)).run Try.prog w = .ok (decide (n = m ∧ a = b)) w := by
  unfold iV
  have hpl : Try.prog.plainKey 4 = true := by kernel_rfl
  have p1 := run_part_plain (P := Try.prog) w hpl (xs := (Value.bool n :: lv 32 a).toArray) (off := 0) (v := .bool n) (by simp)
  have p2 := run_part_plain (P := Try.prog) w hpl (xs := (Value.bool m :: lv 32 b).toArray) (off := 0) (v := .bool m) (by simp)
  obtain ⟨i, hi, hs⟩ : ∃ i, Try.prog.info? 49 = some i ∧ i.size = 32 := by
    have := Try.infoM
    cases h : Try.prog.info? 49 with
    | none => rw [h] at this; cases this
    | some i => rw [h] at this; injection this with this; exact ⟨i, rfl, this⟩
  have q : ∀ (x : Value) (v : Nat), (part 49 (x :: lv 32 v).toArray 1).run Try.prog w = .ok (.agg (lv 32 v).toArray) w := fun x v => by
    have hx : List.take 32 (lv 32 v) = lv 32 v := by rw [List.take_of_length_le]; rw [lv_len]; exact Nat.le_refl _
    simp [part, isAgg, Sem.run_bind, run_underlying Try.underlying49, run_sizeOf w hi, Program.cellsOf, hi, hs, hx]
  have hu : Try.prog.underlying 51 = some (.struct (Try.prog.fieldsOf 51)) := by rw [Program.fieldsOf, Try.underlying51]
  have hst : Try.prog.stoodInHeld 51 = false := by kernel_rfl
  rw [run_equalIn_struct w (D + 2) 51 _ _ hu hst]
  have hf : (Try.prog.fieldsOf 51).toList = [{ name := "Neg", type := 4, offset := 0, embedded := false, tag := "", pkgPath := "", byteOffset := 0 }, { name := "Mag", type := 49, offset := 1, embedded := false, tag := "", pkgPath := "", byteOffset := 4 }] := by rw [Program.fieldsOf, Try.underlying51]
  rw [hf]
  have em := eq_mag D a b ha hb w
  have eb := run_equalIn_bool' (P := Try.prog) w (D + 1) 4 n m Try.underlying4
  have n1 : ("Neg" : String) ≠ "_" := by simp
  have n2 : ("Mag" : String) ≠ "_" := by simp
  unfold Op.eqFields
  rw [if_pos n1]
  simp only [Sem.run_bind, p1, p2, eb, Result.andThen_ok]
  cases hnm : (n == m) with
  | false =>
    have hn : n ≠ m := by simpa using hnm
    simp only [Bool.not_false, if_true, Sem.run_pure, hn, false_and, decide_false]
  | true =>
    have hn : n = m := by simpa using hnm
    simp only [Bool.not_true, Bool.false_eq_true, if_false]
    unfold Op.eqFields
    rw [if_pos n2]
    rw [Sem.run_bind, q, Result.andThen_ok, Sem.run_bind, q, Result.andThen_ok, Sem.run_bind]
    dsimp only
    rw [em, Result.andThen_ok]
    cases hab : decide (a = b) with
    | false =>
      have h : a ≠ b := of_decide_eq_false hab
      simp only [Bool.not_false, if_true, Sem.run_pure, h, and_false, decide_false]
    | true =>
      have h : a = b := of_decide_eq_true hab
      simp only [Bool.not_true, Bool.false_eq_true, if_false]
      unfold Op.eqFields
      simp only [Sem.run_pure, h, hn, and_self, decide_true]
theorem eq_int (n m : Bool) (a b : Nat) (ha : a < BB ^ 32) (hb : b < BB ^ 32) (w : World) : (binOp .eql 51 (iV n a) (iV m b)).run Try.prog w = .ok (.bool (decide (n = m ∧ a = b))) w := by
  have h := eq_at 9997 n m a b ha hb w
  unfold iV at h ⊢
  rw [run_eql_struct]
  simp only [Nat.reduceAdd] at h
  rw [h]; rfl
theorem wpQuiet_eqI {ops : Array Oper} {C : World → Prop} {Q : Act → Prop} {a : Act} {op : Oper} {rest : List Oper} {x y : Operand} {t : TypeId} {c d : List Value} {n m r : Bool} {u v : Nat} (hgd : Region.wanted op (yielded ops a.tmps) = true) (ho : op.op = .binOp .eql 51 x y t) (hx : a.eval x = .agg c.toArray) (hy : a.eval y = .agg d.toArray)
    (hc : c = .bool n :: lv 32 u) (hd : d = .bool m :: lv 32 v) (hu : u < BB ^ 32) (hv : v < BB ^ 32) (hr : r = decide (n = m ∧ u = v))
    (h : wpQuiet Try.prog ops C Q rest (a.put op.dst (.bool r))) : wpQuiet Try.prog ops C Q (op :: rest) a := by
  refine wpQuiet_step (fun K hK => ?_)
  rw [if_pos hgd]
  refine ⟨.bool r, fun W hW => ?_, hK _ h⟩
  have he := eq_int n m u v hu hv W
  unfold iV at he
  rw [← hc, ← hd, ← hr] at he
  have hg := run_eqGuard_agg (P := Try.prog) W .eql 51 x y c.toArray d.toArray (by kernel_rfl)
  unfold Oper.quietAt execOp
  simp [ho, hx, hy, hg, he, Oper.quietUpon]
theorem built_zI {c : List Value} (h : c = .bool false :: lv 32 0) : Try.prog.built 51 [] = some c.toArray := by rw [h]; exact built_zeroI
theorem built_zR {c : List Value} (h : c = rat false 0 false 0) : Try.prog.built 56 [] = some c.toArray := by rw [h]; exact built_zeroR
theorem built_r {c d r : List Value} {n m : Bool} {p q : Nat} (hc : c = .bool n :: lv 32 p) (hd : d = .bool m :: lv 32 q) (hr : r = rat n p m q) : Try.prog.built 56 [(0, .agg c.toArray), (1, .agg d.toArray)] = some r.toArray := by
  rw [hr, built_ratio (by rw [hc, List.length_cons, lv_len]) (by rw [hd, List.length_cons, lv_len]), hc, hd]; rfl
theorem wpQuiet_numR {ops : Array Oper} {C : World → Prop} {Q : Act → Prop} {a : Act} {op : Oper} {rest : List Oper} {x : Operand} {r c : List Value} {n m : Bool} {p q : Nat} (hgd : op.guard = none) (ho : op.op = .field 56 x 0) (hx : a.eval x = .agg r.toArray) (hr : r = rat n p m q) (hc : c = .bool n :: lv 32 p)
    (h : wpQuiet Try.prog ops C Q rest (a.put op.dst (.agg c.toArray))) : wpQuiet Try.prog ops C Q (op :: rest) a := by
  subst hr hc
  exact wpQuiet_num hgd ho hx (by rw [List.length_cons, lv_len]) h
/-- a cell's read -/
theorem wpQuiet_cell_g {P : Program} {ops : Array Oper} {w : World} {Q : Act → Prop} {a : Act} {op : Oper} {rest : List Oper} {ty : TypeId} {x : Operand} {v : Value} {ad : Addr} (hgd : Region.wanted op (yielded ops a.tmps) = true) (ho : op.op = .load ty x)
    (hx : a.eval x = .pointer (some ad)) (hl : ∀ W : World, W.cell? ad = some v → (loadVar ty ad).run P W = .ok v W) (hc : w.cell? ad = some v)
    (h : wpQuiet P ops (fun w' => ∃ p : GB, w' = gw w p.d p.os) Q rest (a.put op.dst v)) :
    wpQuiet P ops (fun w' => ∃ p : GB, w' = gw w p.d p.os) Q (op :: rest) a := by
  refine wpQuiet_step (fun K hK => ?_)
  rw [if_pos hgd]
  refine ⟨v, fun W hW => ?_, hK _ h⟩
  obtain ⟨p, rfl⟩ := hW
  unfold Oper.quietAt execOp
  simp only [ho, hx, Instr.loadAt, Instr.sureAddr, Sem.run_bind, Sem.run_pure, Result.andThen_ok, hl _ (cell_gw hc p.d p.os)]
  exact ⟨rfl, rfl⟩
theorem Try.zeroR : Try.zeroCells56 = (rat false 0 false 0).toArray := by unfold rat; rw [lv33_zero]; rfl
end Go.Proofs.Ytnkmhbiklffjlaa
