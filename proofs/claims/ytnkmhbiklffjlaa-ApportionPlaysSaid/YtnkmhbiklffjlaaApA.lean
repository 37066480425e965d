/- Aids: rows in memory, draws from a tape; nothing here is about one function of the program but Tape's. -/
import Derived.Test.YtnkmhbiklffjlaaProg
import Derived.WalkKit
import Derived.Lib.Hide
import Derived.Deep.LoopGhost
import Derived.Deep.Light
import Derived.WalkSpells
import Derived.WalkLawsBesides
import Derived.Deep.RegionWith
import Derived.Deep.RegionHeld3
import Derived.Handy
import Derived.BigQuiet
set_option linter.unusedVariables false
set_option linter.unusedSimpArgs false
namespace Go.Proofs.Ytnkmhbiklffjlaa
open Go.RowKit

theorem ret_bool {a b : Bool} (h : a = b) : Ending.returned (.bool a) = .returned (.bool b) := by rw [h]
theorem ret_int {k : IntKind} {a b : Int} (h : a = b) : Ending.returned (.int k a) = .returned (.int k b) := by rw [h]
theorem ret2_int {a b c d : Int} (h : a = c) (g : b = d) : Ending.returned (.tuple #[.int .i64 a, .int .i64 b]) = .returned (.tuple #[.int .i64 c, .int .i64 d]) := by rw [h, g]
theorem bcell {W w1 : World} {B : Nat} (hb : Below B W w1) : (∀ b o, b < B → w1.cell? ⟨b, o, none⟩ = W.cell? ⟨b, o, none⟩) ∧ (∀ b o, b < B → w1.frozen? ⟨b, o, none⟩ = W.frozen? ⟨b, o, none⟩) :=
  ⟨fun b o h => hb.cell (p := ⟨b, o, none⟩) h, fun b o h => hb.frozen (p := ⟨b, o, none⟩) h⟩
theorem ownsRow_base {w : World} {b b' : Nat} {e : TypeId} {size : Nat} {v : Value} {n : Nat} {xs : List Value} (h : w.ownsRow b e size v n xs) (hb : b' ≤ b) : w.ownsRow b' e size v n xs := by
  obtain ⟨h1, h2⟩ := h
  refine ⟨h1, ?_⟩
  rcases h2 with h2 | ⟨g, cap, cur, hv, hg, r⟩
  · exact .inl h2
  · exact .inr ⟨g, cap, cur, hv, Nat.le_trans hb hg, r⟩
theorem ownsRow_below {w w' : World} {b : Nat} {e : TypeId} {size : Nat} {v : Value} {n : Nat} {xs : List Value} (h : w.ownsRow b e size v n xs) (hb : Below w.heap.size w w') : w'.ownsRow b e size v n xs :=
  h.kept (row := none) ⟨hb.os, hb.tape, hb.output, hb.size, fun k h _ => hb.block k h⟩ (by cases v.ownBlock <;> simp)
theorem cell_alloc {w : World} {a : Addr} {v : Value} (h : w.cell? a = some v) (o : Obj) : (w.alloc o).cell? a = some v := by
  have hlt : a.block < w.heap.size := World.block_lt_of_cell? w a h
  rw [← h]
  exact World.cell?_of_block (Below.heap_alloc w o a.block hlt)
theorem cells_new (w : World) (l : List Value) (t : TypeId) : ∀ j u, l[j]? = some u → (w.alloc (.cells l.toArray t)).cell? ((⟨w.heap.size, 0, none⟩ : Addr).add j) = some u := by
  intro j u hu
  have hadd : (⟨w.heap.size, 0, none⟩ : Addr).add j = ⟨w.heap.size, j, none⟩ := by unfold Addr.add; split <;> simp_all
  rw [hadd, cell_of_row _ w.heap.size j l.toArray t (0, 0) (heap_alloc_new w _)]
  simpa using hu
theorem small_maxLen {n : Nat} (h : n ≤ 1000000000) : n ≤ maxLen := by unfold maxLen; omega
/-- append to an owned row, as one step of a region that draws its order -/
theorem step_append_own {P : Program} {ops : Array Oper} {o : Oper} {a : Act} {w : World} {K : Act → World → Prop} {Q : Exit → Act → World → Prop} {E : Prop} (hgd : o.guard = none) (s x : Operand) (t : TypeId)
    (ho : o.op = .call { callee := .builtin .append, args := #[s, x], argTypes := #[t, t] })
    (base : Nat) (e : TypeId) (i : TypeInfo) (z : Value) (size bytes : Nat) (ht : P.underlying t = some (.slice e)) (hi : P.info? e = some i) (hz : i.zero = some z)
    (hsize : i.size = size) (hby : i.bytes = bytes) (hzs : z.cells.size = size) (hsz : 0 < size)
    (v : Value) (n : Nat) (xs : List Value) (hs : a.eval s = v) (hown : w.ownsRow base e size v n xs)
    (ad : Addr) (m c : Nat) (news : List Value) (hx : a.eval x = .slice (some ad) m c) (hl : news.length = m * size) (hnews : ∀ j u, news[j]? = some u → w.cell? (ad.add j) = some u) (h1 : ∀ u ∈ news, u.oneCell' = true)
    (h63 : n + m ≤ maxLen) (hbytes : (n + m) * bytes ≤ 140737488355328) (hbase : base ≤ w.heap.size)
    (h : ∀ v' w', w'.ownsRow base e size v' (n + m) (xs ++ news) → w.grownBy w' v.ownBlock → (v' = .slice none 0 0 ↔ v = .slice none 0 0 ∧ m = 0) → K (a.put o.dst v') w') :
    if Region.wanted o (yielded ops a.tmps) = true then Oper.wp P o a w K Q else E := by
  rw [if_pos (by simp [Region.wanted, hgd])]
  exact wp_append_own w s x t ho base e i z size bytes ht hi hz hsize hby hzs hsz v n xs hs hown ad m c news hx hl hnews h1 h63 hbytes hbase h
theorem cell_drewS {w : World} {a : Addr} {v : Option Value} (h : w.cell? a = v) : World.cell? { heap := w.heap, tape := w.tape, drawn := w.drawn + 1, os := w.os, output := w.output } a = v := h
/-- the slice v of n elements, each of so many cells, holds xs -/
def Reads (w : World) (size : Nat) (v : Value) (n : Nat) (xs : List Value) : Prop :=
  xs.length = n * size ∧ n ≤ 9223372036854775807 ∧ ((v = .slice none 0 0 ∧ n = 0) ∨ ∃ g off cap, v = .slice (some ⟨g, off, none⟩) n cap ∧ ∀ j u, xs[j]? = some u → w.cell? ⟨g, off + j, none⟩ = some u)
theorem Reads.of_own {w : World} {b : Nat} {e : TypeId} {size : Nat} {v : Value} {n : Nat} {xs : List Value} (h : w.ownsRow b e size v n xs) : Reads w size v n xs := by
  have hc := fun g => h.cells (g := g)
  obtain ⟨h1, h2⟩ := h
  refine ⟨h1, ?_⟩
  rcases h2 with ⟨rfl, h2⟩ | ⟨g, cap, cur, hv, hg, hh, hn, hm, _⟩
  · exact ⟨by omega, .inl ⟨rfl, h2⟩⟩
  · refine ⟨by unfold maxLen at hm; omega, .inr ⟨g, 0, cap, hv, fun j u hu => ?_⟩⟩
    have := hc g (by rw [hv]; rfl) j u hu
    have hadd : (⟨g, 0, none⟩ : Addr).add j = ⟨g, 0 + j, none⟩ := by unfold Addr.add; split <;> simp_all
    rwa [hadd] at this
theorem cell_up {w w' : World} {a : Addr} {v : Value} (h : w.cell? a = some v) (hb : Below w.heap.size w w') : w'.cell? a = some v := by
  rw [hb.cell (World.block_lt_of_cell? w _ h)]; exact h
theorem Reads.below {w w' : World} {size : Nat} {v : Value} {n : Nat} {xs : List Value} (h : Reads w size v n xs) (hb : Below w.heap.size w w') : Reads w' size v n xs := by
  obtain ⟨h1, h2, h3⟩ := h
  refine ⟨h1, h2, ?_⟩
  rcases h3 with h3 | ⟨g, off, cap, hv, hc⟩
  · exact .inl h3
  · refine .inr ⟨g, off, cap, hv, fun j u hu => ?_⟩
    have h := hc j u hu
    rw [hb.cell (World.block_lt_of_cell? w _ h)]
    exact h
/-- a slice of tokens that may be read, with one at least -/
theorem Reads.some {w : World} {size : Nat} {v : Value} {n : Nat} {xs : List Value} (h : Reads w size v n xs) (hn : n ≠ 0) : ∃ g off cap, v = .slice (some ⟨g, off, none⟩) n cap ∧ ∀ j u, xs[j]? = some u → w.cell? ⟨g, off + j, none⟩ = some u := by
  rcases h.2.2 with ⟨_, h⟩ | h
  · exact absurd h hn
  · exact h
theorem Reads.zero {w : World} {size : Nat} {v : Value} {n : Nat} {xs : List Value} (h : Reads w size v n xs) (hn : n = 0) : ∃ a cap, v = .slice a 0 cap := by
  rcases h.2.2 with ⟨h, _⟩ | ⟨g, off, cap, h, _⟩
  · exact ⟨_, _, h⟩
  · exact ⟨_, _, by rw [h, hn]⟩
/-- Fold: a number from 0 to n - 1; 0 if n is below 2 -/
def foldI (v n : Int) : Int := if n ≤ 1 then 0 else v % n
theorem foldI_bd (v n : Int) (h : 1 ≤ n) : 0 ≤ foldI v n ∧ foldI v n < n := by
  unfold foldI; split
  · omega
  · exact ⟨Int.emod_nonneg _ (by omega), Int.emod_lt_of_pos _ (by omega)⟩
theorem tmod_emod (v n : Int) (hn : 1 < n) : (v.tmod n < 0 → v.tmod n + n = v % n) ∧ (¬ v.tmod n < 0 → v.tmod n = v % n) ∧ -n < v.tmod n ∧ v.tmod n < n := by
  have h1 := Int.emod_nonneg v (show n ≠ 0 by omega)
  have h2 := Int.emod_lt_of_pos v (show 0 < n by omega)
  have h3 := Int.tmod_eq_emod (a := v) (b := n)
  have h4 : (n.natAbs : Int) = n := by omega
  by_cases hd : 0 ≤ v ∨ n ∣ v
  · rw [if_pos hd] at h3
    refine ⟨fun h => ?_, fun h => ?_, ?_, ?_⟩ <;> omega
  · rw [if_neg hd] at h3
    have h5 : v % n ≠ 0 := fun h => hd (.inr (Int.dvd_of_emod_eq_zero h))
    refine ⟨fun h => ?_, fun h => ?_, ?_, ?_⟩ <;> omega
set_option maxHeartbeats 1000000 in
theorem fold_any (v n : Int) (w : World) (hn : n ≤ 9223372036854775807) :
    Calls Try.prog 40 #[.int .i64 v, .int .i64 n] w fun e w' => e = .returned (.int .i64 (foldI v n)) ∧ w = w' := by
  by_cases h1 : n ≤ 1
  · have HF := Lib.hid (show foldI v n = 0 by unfold foldI; rw [if_pos h1])
    go_enter Try.func40, Try.ntmps40
    go_wp2
    go_ret
    exact ⟨ret_int HF.out.symm, rfl⟩
  · have HF := Lib.hid (show foldI v n = v % n by unfold foldI; rw [if_neg h1])
    obtain ⟨t1, t2, t3, t4⟩ := tmod_emod v n (by omega)
    have H1 := Lib.hid t1
    have H2 := Lib.hid t2
    clear t1 t2
    have hn0 : ¬ n = 0 := by omega
    have hw : IntKind.i64.wrap (v.tmod n) = v.tmod n := IntWalk.i64_in _ (by omega)
    go_enter Try.func40, Try.ntmps40
    by_cases c : v.tmod n < 0
    · have HS := Lib.hid (H1.out c)
      have hw2 : IntKind.i64.wrap (v.tmod n + n) = v.tmod n + n := IntWalk.i64_in _ (by omega)
      go_wp2
      go_ret
      exact ⟨ret_int (by rw [HF.out, HS.out]), rfl⟩
    · have HS := Lib.hid (H2.out c)
      go_wp2
      go_ret
      exact ⟨ret_int (by rw [HF.out, HS.out]), rfl⟩
/-- block bt holds a tape that stands at at_: its list may be read, its place may be written -/
def IsTape (w : World) (bt at_ : Nat) : Prop := ∃ a len cap, w.cell? ⟨bt, 0, none⟩ = some (.slice a len cap) ∧ w.cell? ⟨bt, 1, none⟩ = some (.int .i64 at_) ∧ (∀ o, w.frozen? ⟨bt, o, none⟩ = false) ∧ len ≤ 9223372036854775807 ∧
  (∀ j, j < len → ∃ b off v, a = some ⟨b, off, none⟩ ∧ b < bt ∧ w.cell? ⟨b, off + j, none⟩ = some (.int .i64 v))
theorem grownBy_refl (w : World) (row : Option Nat) : w.grownBy w row := ⟨rfl, rfl, rfl, Nat.le_refl _, fun _ _ _ => rfl⟩
theorem grownBy_trans {a b c : World} {row : Option Nat} (h : a.grownBy b row) (k : b.grownBy c row) : a.grownBy c row :=
  ⟨k.os.trans h.os, k.tape.trans h.tape, k.output.trans h.output, Nat.le_trans h.size k.size, fun i hi hr => (k.block i (Nat.lt_of_lt_of_le hi h.size) hr).trans (h.block i hi hr)⟩
theorem grownBy_drewN {a b : World} {row : Option Nat} (h : a.grownBy b row) (n : Nat) : a.grownBy (b.drewN n) row := ⟨h.os, h.tape, h.output, h.size, h.block⟩
theorem grownBy_below {a b : World} (h : Below a.heap.size a b) (row : Option Nat) : a.grownBy b row := ⟨h.os, h.tape, h.output, h.size, fun k hk _ => h.block k hk⟩
theorem below_grownBy {B : Nat} {a b : World} {bt : Nat} (h : a.grownBy b (some bt)) (hb : B ≤ bt) (hB : B ≤ a.heap.size) : Below B a b := ⟨h.os, h.tape, h.output, h.size, fun k hk => h.block k (by omega) (fun e => by injection e with e; omega)⟩
theorem grownBy_setCell {w : World} {bt : Nat} (p : Addr) (hp : p.block = bt) (v : Value) : w.grownBy (w.setCell p v) (some bt) :=
  ⟨rfl, rfl, rfl, by simp [World.setCell], fun k hk hr => Below.heap_setCell _ _ _ _ (fun e => hr (by rw [e, hp]))⟩
theorem IsTape.lt {w : World} {bt at_ : Nat} (h : IsTape w bt at_) : bt < w.heap.size := by
  obtain ⟨a, len, cap, h0, _⟩ := h
  exact World.block_lt_of_cell? w _ h0
theorem IsTape.below {w w' : World} {bt at_ : Nat} (h : IsTape w bt at_) (hb : Below w.heap.size w w') : IsTape w' bt at_ := by
  have hlt := h.lt
  obtain ⟨a, len, cap, h0, h1, h2, h3, h4⟩ := h
  refine ⟨a, len, cap, cell_up h0 hb, cell_up h1 hb, fun o => by rw [hb.frozen (p := ⟨bt, o, none⟩) hlt]; exact h2 o, h3, fun j hj => ?_⟩
  obtain ⟨b, off, v, e, hne, hc⟩ := h4 j hj
  exact ⟨b, off, v, e, hne, cell_up hc hb⟩
/-- the tape's place is written -/
theorem IsTape.step {w : World} {bt at_ : Nat} (h : IsTape w bt at_) (at' : Nat) : IsTape (w.setCell ⟨bt, 1, none⟩ (.int .i64 at')) bt at' := by
  obtain ⟨a, len, cap, h0, h1, h2, h3, h4⟩ := h
  refine ⟨a, len, cap, ?_, ?_, fun o => by rw [World.frozen?_setCell]; exact h2 o, h3, fun j hj => ?_⟩
  · rw [World.cell?_setCell_other _ _ _ _ (by simp)]; exact h0
  · exact World.cell?_setCell_same _ _ _ h1
  · obtain ⟨b, off, v, e, hne, hc⟩ := h4 j hj
    exact ⟨b, off, v, e, hne, by rw [World.cell?_setCell_other _ _ _ _ (fun e => by injection e with e1; omega)]; exact hc⟩
set_option maxHeartbeats 2000000 in
theorem next_any (bt at_ : Nat) (n : Int) (w : World) (ht : IsTape w bt at_) (hat : at_ < 1000000000000000000) (hn : n ≤ 9223372036854775807) :
    Calls Try.prog 22 #[.pointer (some ⟨bt, 0, none⟩), .int .i64 n] w fun e w' => ∃ v : Int, e = .returned (.int .i64 (foldI v n)) ∧ IsTape w' bt (at_ + 1) ∧ w.grownBy w' (some bt) := by
  have HT := Lib.hid ht
  obtain ⟨a, len, cap, h0, h1, h2, h3, h4⟩ := ht
  have hz := h2 1
  clear h2
  by_cases hlt : at_ < len
  · obtain ⟨b, off, v, rfl, hne, hc⟩ := h4 at_ hlt
    clear h4
    go_enter Try.func22, Try.ntmps22
    go_wp2
    go_quiet (fail)
    go_wp2
    go_quiet (fail)
    go_wp2_with (go_at_call 40; refine (fold_any _ _ _ hn).mono ?_; rintro e w' ⟨rfl, rfl⟩)
    go_ret
    have hs := HT.out.step (at_ + 1)
    refine ⟨v, rfl, ?_, ?_⟩
    · exact hs.below (below_drewN (Below.refl _ _) _)
    · exact grownBy_drewN (grownBy_setCell ⟨bt, 1, none⟩ rfl _) _
  · clear h4
    go_enter Try.func22, Try.ntmps22
    go_wp2
    go_quiet (fail)
    go_wp2_with (go_at_call 40; refine (fold_any _ _ _ hn).mono ?_; rintro e w' ⟨rfl, rfl⟩)
    go_ret
    have hs := HT.out.step (at_ + 1)
    refine ⟨_, rfl, ?_, ?_⟩
    · exact hs.below (below_drewN (Below.refl _ _) _)
    · exact grownBy_drewN (grownBy_setCell ⟨bt, 1, none⟩ rfl _) _
theorem IsTape.grown {w w' : World} {bt at_ : Nat} {row : Option Nat} (h : IsTape w bt at_) (hg : w.grownBy w' row) (hr : ∀ k, row = some k → bt < k) : IsTape w' bt at_ := by
  have hlt := h.lt
  obtain ⟨a, len, cap, h0, h1, h2, h3, h4⟩ := h
  have hb : ∀ b, b ≤ bt → w'.heap[b]? = w.heap[b]? := fun b hb => hg.block b (by omega) (fun e => by have := hr b e.symm; omega)
  refine ⟨a, len, cap, ?_, ?_, fun o => ?_, h3, fun j hj => ?_⟩
  · rw [World.cell?_of_block (w := w) (hb bt (Nat.le_refl _))]; exact h0
  · rw [World.cell?_of_block (w := w) (hb bt (Nat.le_refl _))]; exact h1
  · rw [World.frozen?_of_block (w := w) (hb bt (Nat.le_refl _))]; exact h2 o
  · obtain ⟨b, off, v, e, hne, hc⟩ := h4 j hj
    exact ⟨b, off, v, e, hne, by rw [World.cell?_of_block (w := w) (hb b (by omega))]; exact hc⟩
set_option maxHeartbeats 2000000 in
theorem pick_any (bt at_ : Nat) (g cap n : Nat) (l : List Int) (w : World) (hn : l.length = n) (ht : IsTape w bt at_) (hat : at_ < 1000000000000000000) (hl : 0 < n) (hl2 : n ≤ 1000000000) (hg : g ≠ bt)
    (hc : ∀ j u, l[j]? = some u → w.cell? ⟨g, j, none⟩ = some (.int .i64 u)) :
    Calls Try.prog 36 #[.pointer (some ⟨bt, 0, none⟩), .slice (some ⟨g, 0, none⟩) n cap] w fun e w' => ∃ s, s ∈ l ∧ e = .returned (.int .i64 s) ∧ IsTape w' bt (at_ + 1) ∧ w.grownBy w' (some bt) := by
  have hz : ((n : Int) == 0) = false := beq_eq_false_iff_ne.2 (by omega)
  have HC := Lib.hid hc
  have HL := Lib.hid hl
  have HN := Lib.hid hn
  clear hc hl hn
  go_enter Try.func36, Try.ntmps36
  go_wp2_with fail
  refine (next_any bt at_ n w ht hat (by omega)).mono ?_
  rintro e w1 ⟨v, rfl, ht1, hg1⟩
  have hb := foldI_bd v n (by have := HL.out; omega)
  obtain ⟨k, hk⟩ : ∃ k : Nat, foldI v n = k := ⟨(foldI v n).toNat, by omega⟩
  rw [hk] at hb ⊢
  have hlt : k < n := by omega
  obtain ⟨x, hx⟩ : ∃ x, l[k]? = some x := ⟨l[k]'(by rw [HN.out]; exact hlt), by simp [HN.out, hlt]⟩
  have hc1 : w1.cell? ⟨g, k, none⟩ = some (.int .i64 x) := hg1.cell (HC.out k x hx) (by simpa using hg)
  have HX := Lib.hid (List.mem_of_getElem? hx)
  clear hk hx
  go_wp2
  go_ret
  exact ⟨x, HX.out, rfl, ht1, hg1⟩
/-- WHAT THE WALK IS TOLD OF A SLICE OF INTEGERS THAT CAME IN -/
def IsRow (k : IntKind) (w : World) (a : Option Addr) (len cap : Nat) (zs : List Int) : Prop :=
  (a = none ∧ len = 0 ∧ cap = 0 ∧ zs = []) ∨
  ∃ x, a = some x ∧ len ≤ cap ∧ cap ≤ maxLen ∧ zs.length = cap ∧ (∀ i, i < zs.length → w.cell? (x.add i) = some (.int k (zs.getD i 0))) ∧ ∀ n ∈ zs, (Lit.int k n).wf = true
/-- a tape that the law has just laid over its argument -/
theorem IsRow.tape {w : World} {a : Option Addr} {len cap : Nat} {z : List Int} (h : IsRow .i64 w a len cap z) (T : TypeId) : IsTape (w.alloc (.cells #[.slice a len cap, .int .i64 0] T)) w.heap.size 0 := by
  have c0 : (w.alloc (.cells #[.slice a len cap, .int .i64 0] T)).cell? ⟨w.heap.size, 0, none⟩ = some (.slice a len cap) := by go_cell
  have c1 : (w.alloc (.cells #[.slice a len cap, .int .i64 0] T)).cell? ⟨w.heap.size, 1, none⟩ = some (.int .i64 0) := by go_cell
  have hz : ∀ o, (w.alloc (.cells #[.slice a len cap, .int .i64 0] T)).frozen? ⟨w.heap.size, o, none⟩ = false := fun o => by simp
  rcases h with ⟨rfl, rfl, rfl, rfl⟩ | ⟨x, rfl, h1, h2, h3, h4, h5⟩
  · exact ⟨_, _, _, c0, c1, hz, by omega, fun j hj => absurd hj (by omega)⟩
  · refine ⟨_, _, _, c0, c1, hz, by unfold maxLen at h2; omega, fun j hj => ?_⟩
    have hc := h4 j (by omega)
    obtain ⟨b, off, spot⟩ := x
    have h0 := h4 0 (by omega)
    have hspot : spot = none := by simpa [Addr.add] using World.cell?_spot h0
    subst hspot
    have hadd : (⟨b, off, none⟩ : Addr).add j = ⟨b, off + j, none⟩ := by unfold Addr.add; split <;> simp_all
    rw [hadd] at hc
    have hlt : b < w.heap.size := World.block_lt_of_cell? w _ hc
    exact ⟨b, off, _, rfl, by omega, cell_alloc hc _⟩
theorem ints_new (w : World) (l : List Int) (t : TypeId) : ∀ j u, l[j]? = some u → (w.alloc (.cells (l.map (Value.int .i64)).toArray t)).cell? ⟨w.heap.size, j, none⟩ = some (.int .i64 u) := by
  intro j u hu
  rw [cell_of_row _ w.heap.size j _ t (0, 0) (heap_alloc_new w _)]
  simp [hu]
theorem IsTape.alloc {w : World} {bt at_ : Nat} (h : IsTape w bt at_) (o : Obj) : IsTape (w.alloc o) bt at_ := h.below ((Below.refl _ _).alloc (Nat.le_refl _) _)
theorem grownBy_via {a b : World} {row : Option Nat} (h : a.grownBy b row) (o : Obj) {c : World} (k : (b.alloc o).grownBy c row) : a.grownBy c row := grownBy_trans h (grownBy_trans (World.grownBy_alloc _ _ _) k)
end Go.Proofs.Ytnkmhbiklffjlaa
