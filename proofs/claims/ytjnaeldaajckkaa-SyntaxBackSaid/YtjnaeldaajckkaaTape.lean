/- fundadminmake's Tape: Fold, Next, One, Pick, Text, walked: what a draw may be, and that nothing but the tape's own place is written. -/
import Derived.Test.YtjnaeldaajckkaaTokI
import Derived.BigQuiet
set_option linter.unusedVariables false
set_option linter.unusedSimpArgs false
namespace Go.Proofs.Ytjnaeldaajckkaa
open Go.RowKit Tok

/-- Fold: a number from 0 to n - 1; 0 if n is below 2 -/
def foldI (v n : Int) : Int := if n ≤ 1 then 0 else v % n
theorem foldI_bd (v n : Int) (h : 1 ≤ n) : 0 ≤ foldI v n ∧ foldI v n < n := by
  unfold foldI; split
  · omega
  · exact ⟨Int.emod_nonneg _ (by omega), Int.emod_lt_of_pos _ (by omega)⟩

theorem tmod_emod (v n : Int) (hn : 1 < n) : (v.tmod n < 0 → v.tmod n + n = v % n) ∧ (¬ v.tmod n < 0 → v.tmod n = v % n) ∧ -n < v.tmod n ∧ v.tmod n < n := by
  have h1 := Int.emod_nonneg v (show n ≠ 0 by omega)
  have h2 := Int.emod_lt_of_pos v (show 0 < n by omega)
  have h3 := Int.tmod_eq_emod (a := v) (b := n)
  have h4 : (n.natAbs : Int) = n := by omega
  by_cases hd : 0 ≤ v ∨ n ∣ v
  · rw [if_pos hd] at h3
    refine ⟨fun h => ?_, fun h => ?_, ?_, ?_⟩ <;> omega
  · rw [if_neg hd] at h3
    have h5 : v % n ≠ 0 := fun h => hd (.inr (Int.dvd_of_emod_eq_zero h))
    refine ⟨fun h => ?_, fun h => ?_, ?_, ?_⟩ <;> omega

set_option maxHeartbeats 1000000 in
theorem fold_any (v n : Int) (w : World) (hn : n ≤ 9223372036854775807) :
    Calls Try.prog 28 #[.int .i64 v, .int .i64 n] w fun e w' => e = .returned (.int .i64 (foldI v n)) ∧ w = w' := by
  by_cases h1 : n ≤ 1
  · have HF := Lib.hid (show foldI v n = 0 by unfold foldI; rw [if_pos h1])
    go_enter Try.func28, Try.ntmps28
    go_wp2
    go_ret
    exact ⟨ret_int HF.out.symm, rfl⟩
  · have HF := Lib.hid (show foldI v n = v % n by unfold foldI; rw [if_neg h1])
    obtain ⟨t1, t2, t3, t4⟩ := tmod_emod v n (by omega)
    have H1 := Lib.hid t1
    have H2 := Lib.hid t2
    clear t1 t2
    have hn0 : ¬ n = 0 := by omega
    have hw : IntKind.i64.wrap (v.tmod n) = v.tmod n := IntWalk.i64_in _ (by omega)
    go_enter Try.func28, Try.ntmps28
    by_cases c : v.tmod n < 0
    · have HS := Lib.hid (H1.out c)
      have hw2 : IntKind.i64.wrap (v.tmod n + n) = v.tmod n + n := IntWalk.i64_in _ (by omega)
      go_wp2
      go_ret
      exact ⟨ret_int (by rw [HF.out, HS.out]), rfl⟩
    · have HS := Lib.hid (H2.out c)
      go_wp2
      go_ret
      exact ⟨ret_int (by rw [HF.out, HS.out]), rfl⟩

/-- block bt holds a tape that stands at at_: its list may be read, its place may be written -/
def IsTape (w : World) (bt at_ : Nat) : Prop := ∃ a len cap, w.cell? ⟨bt, 0, none⟩ = some (.slice a len cap) ∧ w.cell? ⟨bt, 1, none⟩ = some (.int .i64 at_) ∧ (∀ o, w.frozen? ⟨bt, o, none⟩ = false) ∧ len ≤ 9223372036854775807 ∧
  (∀ j, j < len → ∃ b off v, a = some ⟨b, off, none⟩ ∧ b < bt ∧ w.cell? ⟨b, off + j, none⟩ = some (.int .i64 v))
theorem grownBy_refl (w : World) (row : Option Nat) : w.grownBy w row := ⟨rfl, rfl, rfl, Nat.le_refl _, fun _ _ _ => rfl⟩
theorem grownBy_trans {a b c : World} {row : Option Nat} (h : a.grownBy b row) (k : b.grownBy c row) : a.grownBy c row :=
  ⟨k.os.trans h.os, k.tape.trans h.tape, k.output.trans h.output, Nat.le_trans h.size k.size, fun i hi hr => (k.block i (Nat.lt_of_lt_of_le hi h.size) hr).trans (h.block i hi hr)⟩
theorem grownBy_drewN {a b : World} {row : Option Nat} (h : a.grownBy b row) (n : Nat) : a.grownBy (b.drewN n) row := ⟨h.os, h.tape, h.output, h.size, h.block⟩
theorem grownBy_below {a b : World} (h : Below a.heap.size a b) (row : Option Nat) : a.grownBy b row := ⟨h.os, h.tape, h.output, h.size, fun k hk _ => h.block k hk⟩
theorem below_grownBy {B : Nat} {a b : World} {bt : Nat} (h : a.grownBy b (some bt)) (hb : B ≤ bt) (hB : B ≤ a.heap.size) : Below B a b := ⟨h.os, h.tape, h.output, h.size, fun k hk => h.block k (by omega) (fun e => by injection e with e; omega)⟩
theorem grownBy_setCell {w : World} {bt : Nat} (p : Addr) (hp : p.block = bt) (v : Value) : w.grownBy (w.setCell p v) (some bt) :=
  ⟨rfl, rfl, rfl, by simp [World.setCell], fun k hk hr => Below.heap_setCell _ _ _ _ (fun e => hr (by rw [e, hp]))⟩
theorem IsTape.lt {w : World} {bt at_ : Nat} (h : IsTape w bt at_) : bt < w.heap.size := by
  obtain ⟨a, len, cap, h0, _⟩ := h
  exact World.block_lt_of_cell? w _ h0
theorem IsTape.below {w w' : World} {bt at_ : Nat} (h : IsTape w bt at_) (hb : Below w.heap.size w w') : IsTape w' bt at_ := by
  have hlt := h.lt
  obtain ⟨a, len, cap, h0, h1, h2, h3, h4⟩ := h
  refine ⟨a, len, cap, cell_up h0 hb, cell_up h1 hb, fun o => by rw [hb.frozen (p := ⟨bt, o, none⟩) hlt]; exact h2 o, h3, fun j hj => ?_⟩
  obtain ⟨b, off, v, e, hne, hc⟩ := h4 j hj
  exact ⟨b, off, v, e, hne, cell_up hc hb⟩
/-- the tape's place is written -/
theorem IsTape.step {w : World} {bt at_ : Nat} (h : IsTape w bt at_) (at' : Nat) : IsTape (w.setCell ⟨bt, 1, none⟩ (.int .i64 at')) bt at' := by
  obtain ⟨a, len, cap, h0, h1, h2, h3, h4⟩ := h
  refine ⟨a, len, cap, ?_, ?_, fun o => by rw [World.frozen?_setCell]; exact h2 o, h3, fun j hj => ?_⟩
  · rw [World.cell?_setCell_other _ _ _ _ (by simp)]; exact h0
  · exact World.cell?_setCell_same _ _ _ h1
  · obtain ⟨b, off, v, e, hne, hc⟩ := h4 j hj
    exact ⟨b, off, v, e, hne, by rw [World.cell?_setCell_other _ _ _ _ (fun e => by injection e with e1; omega)]; exact hc⟩

set_option maxHeartbeats 2000000 in
theorem next_any (bt at_ : Nat) (n : Int) (w : World) (ht : IsTape w bt at_) (hat : at_ < 1000000000000000000) (hn : n ≤ 9223372036854775807) :
    Calls Try.prog 22 #[.pointer (some ⟨bt, 0, none⟩), .int .i64 n] w fun e w' => ∃ v : Int, e = .returned (.int .i64 (foldI v n)) ∧ IsTape w' bt (at_ + 1) ∧ w.grownBy w' (some bt) := by
  have HT := Lib.hid ht
  obtain ⟨a, len, cap, h0, h1, h2, h3, h4⟩ := ht
  have hz := h2 1
  clear h2
  by_cases hlt : at_ < len
  · obtain ⟨b, off, v, rfl, hne, hc⟩ := h4 at_ hlt
    clear h4
    go_enter Try.func22, Try.ntmps22
    go_wp2
    go_quiet (fail)
    go_wp2
    go_quiet (fail)
    go_wp2_with (go_at_call 28; refine (fold_any _ _ _ hn).mono ?_; rintro e w' ⟨rfl, rfl⟩)
    go_ret
    have hs := HT.out.step (at_ + 1)
    refine ⟨v, rfl, ?_, ?_⟩
    · exact hs.below (below_drewN (Below.refl _ _) _)
    · exact grownBy_drewN (grownBy_setCell ⟨bt, 1, none⟩ rfl _) _
  · clear h4
    go_enter Try.func22, Try.ntmps22
    go_wp2
    go_quiet (fail)
    go_wp2_with (go_at_call 28; refine (fold_any _ _ _ hn).mono ?_; rintro e w' ⟨rfl, rfl⟩)
    go_ret
    have hs := HT.out.step (at_ + 1)
    refine ⟨_, rfl, ?_, ?_⟩
    · exact hs.below (below_drewN (Below.refl _ _) _)
    · exact grownBy_drewN (grownBy_setCell ⟨bt, 1, none⟩ rfl _) _

theorem IsTape.grown {w w' : World} {bt at_ : Nat} {row : Option Nat} (h : IsTape w bt at_) (hg : w.grownBy w' row) (hr : ∀ k, row = some k → bt < k) : IsTape w' bt at_ := by
  have hlt := h.lt
  obtain ⟨a, len, cap, h0, h1, h2, h3, h4⟩ := h
  have hb : ∀ b, b ≤ bt → w'.heap[b]? = w.heap[b]? := fun b hb => hg.block b (by omega) (fun e => by have := hr b e.symm; omega)
  refine ⟨a, len, cap, ?_, ?_, fun o => ?_, h3, fun j hj => ?_⟩
  · rw [World.cell?_of_block (w := w) (hb bt (Nat.le_refl _))]; exact h0
  · rw [World.cell?_of_block (w := w) (hb bt (Nat.le_refl _))]; exact h1
  · rw [World.frozen?_of_block (w := w) (hb bt (Nat.le_refl _))]; exact h2 o
  · obtain ⟨b, off, v, e, hne, hc⟩ := h4 j hj
    exact ⟨b, off, v, e, hne, by rw [World.cell?_of_block (w := w) (hb b (by omega))]; exact hc⟩

/-- a list of strings that a call has just laid -/
def Strs (w : World) (a : Addr) (l : List ByteArray) : Prop := ∀ j u, l[j]? = some u → w.cell? (a.add j) = some (.string u)

set_option maxHeartbeats 2000000 in
theorem one_any (bt at_ : Nat) (g cap : Nat) (l : List ByteArray) (w : World) (ht : IsTape w bt at_) (hat : at_ < 1000000000000000000) (hl : 0 < l.length) (hl2 : l.length ≤ 1000000000) (hg : g ≠ bt)
    (hc : ∀ j u, l[j]? = some u → w.cell? ⟨g, j, none⟩ = some (.string u)) :
    Calls Try.prog 23 #[.pointer (some ⟨bt, 0, none⟩), .slice (some ⟨g, 0, none⟩) l.length cap] w fun e w' => ∃ s, s ∈ l ∧ e = .returned (.string s) ∧ IsTape w' bt (at_ + 1) ∧ w.grownBy w' (some bt) := by
  have hz : ((l.length : Int) == 0) = false := beq_eq_false_iff_ne.2 (by omega)
  have HC := Lib.hid hc
  have HL := Lib.hid hl
  clear hc hl
  go_enter Try.func23, Try.ntmps23
  go_wp2_with fail
  refine (next_any bt at_ l.length w ht hat (by omega)).mono ?_
  rintro e w1 ⟨v, rfl, ht1, hg1⟩
  have hb := foldI_bd v l.length (by have := HL.out; omega)
  obtain ⟨k, hk⟩ : ∃ k : Nat, foldI v l.length = k := ⟨(foldI v l.length).toNat, by omega⟩
  rw [hk] at hb ⊢
  have hlt : k < l.length := by omega
  have hc1 : w1.cell? ⟨g, k, none⟩ = some (.string l[k]) := hg1.cell (HC.out k l[k] (by simp [hlt])) (by simpa using hg)
  clear hk
  go_wp2
  go_ret
  exact ⟨l[k], by simp, rfl, ht1, hg1⟩

set_option maxHeartbeats 2000000 in
theorem pick_any (bt at_ : Nat) (g cap n : Nat) (l : List Int) (w : World) (hn : l.length = n) (ht : IsTape w bt at_) (hat : at_ < 1000000000000000000) (hl : 0 < n) (hl2 : n ≤ 1000000000) (hg : g ≠ bt)
    (hc : ∀ j u, l[j]? = some u → w.cell? ⟨g, j, none⟩ = some (.int .i64 u)) :
    Calls Try.prog 32 #[.pointer (some ⟨bt, 0, none⟩), .slice (some ⟨g, 0, none⟩) n cap] w fun e w' => ∃ s, s ∈ l ∧ e = .returned (.int .i64 s) ∧ IsTape w' bt (at_ + 1) ∧ w.grownBy w' (some bt) := by
  have hz : ((n : Int) == 0) = false := beq_eq_false_iff_ne.2 (by omega)
  have HC := Lib.hid hc
  have HL := Lib.hid hl
  have HN := Lib.hid hn
  clear hc hl hn
  go_enter Try.func32, Try.ntmps32
  go_wp2_with fail
  refine (next_any bt at_ n w ht hat (by omega)).mono ?_
  rintro e w1 ⟨v, rfl, ht1, hg1⟩
  have hb := foldI_bd v n (by have := HL.out; omega)
  obtain ⟨k, hk⟩ : ∃ k : Nat, foldI v n = k := ⟨(foldI v n).toNat, by omega⟩
  rw [hk] at hb ⊢
  have hlt : k < n := by omega
  obtain ⟨x, hx⟩ : ∃ x, l[k]? = some x := ⟨l[k]'(by rw [HN.out]; exact hlt), by simp [HN.out, hlt]⟩
  have hc1 : w1.cell? ⟨g, k, none⟩ = some (.int .i64 x) := hg1.cell (HC.out k x hx) (by simpa using hg)
  have HX := Lib.hid (List.mem_of_getElem? hx)
  clear hk hx
  go_wp2
  go_ret
  exact ⟨x, HX.out, rfl, ht1, hg1⟩

theorem Try.info5 : (Try.prog.info? 5).map (fun i => (i.zero, i.size, i.bytes)) = some (some (.int .u8 0), 1, 1) := by kernel_rfl

set_option maxRecDepth 100000 in
set_option maxHeartbeats 2000000 in
theorem ttext_any (bt at_ n : Nat) (s : ByteArray) (w : World) (ht : IsTape w bt at_) (hat : at_ < 100000000000000000) (hn : n ≤ 1000) (hs : 0 < s.size) (hs2 : s.size ≤ 1000000) :
    Calls Try.prog 31 #[.pointer (some ⟨bt, 0, none⟩), .int .i64 n, .string s] w fun e w' => ∃ u : ByteArray, u.size = n ∧ e = .returned (.string u) ∧ IsTape w' bt (at_ + n) ∧ w.grownBy w' (some bt) := by
  have hlt := ht.lt
  go_enter Try.func31, Try.ntmps31
  go_wp2
  go_loopg [7, 8] n (fun m v i wr => ∃ (k : Nat) (xs : List Int), k ≤ n ∧ n - k ≤ m ∧ xs.length = k ∧ i = .int .i64 k ∧ wr.ownsRow w.heap.size 5 1 v k (xs.map (Value.int .u8)) ∧ IsTape wr bt (at_ + k) ∧ w.grownBy wr (some bt))
  case atStart => exact ⟨0, [], by omega, by omega, rfl, rfl, World.ownsRow_nil _ _ _ _, ht, grownBy_refl _ _⟩
  case round =>
    obtain ⟨k, xs, hk, hm, hx, rfl, hown, ht', hg⟩ := hrel
    have hgs := hg.size
    have HX := Lib.hid hx
    clear hx
    have HO := Lib.hid hown
    clear hown
    by_cases hkn : k < n
    · go_wp2_with fail
      refine (next_any bt (at_ + k) s.size _ ht' (by omega) (by omega)).mono ?_
      rintro e w1 ⟨v, rfl, ht1, hg1⟩
      have hb := foldI_bd v s.size (by omega)
      obtain ⟨j, hj⟩ : ∃ j : Nat, foldI v s.size = j := ⟨(foldI v s.size).toNat, by omega⟩
      rw [hj] at hb ⊢
      have hjl : j < s.size := by omega
      clear hj
      have hgs1 := hg1.size
      have HO1 := Lib.hid (HO.out.kept hg1 (.inr (fun e => by have := (HO.out.lt bt e).1; omega)))
      obtain ⟨i0, hi, hz0, hz1, hz2⟩ := info_parts Try.info5
      go_wp2_with (at_builtin; refine wpList_append_own _ rfl _ _ 64 rfl w.heap.size 5 i0 _ 1 1 Try.underlying64 hi hz0 hz1 hz2 rfl (by decide) u7 _ _ rfl (HO1.out.alloc _) ⟨w1.heap.size, 0, none⟩ 1 1 [.int .u8 s[j].toNat] rfl rfl ?_ ?_ ?_ ?_ ?_ ?_; exact cells_new _ _ _; (simp [Value.oneCell']); exact small_maxLen (by omega); omega; (simp; omega); intro v' w3 hown' hgrow _)
      have HW := Lib.hid (show w3.ownsRow w.heap.size 5 1 v' (k + 1) ((xs ++ [(s[j].toNat : Int)]).map (Value.int .u8)) by rw [List.map_append]; exact hown')
      have hT3 : IsTape w3 bt (at_ + k + 1) := (ht1.below ((Below.refl _ _).alloc (Nat.le_refl _) _)).grown hgrow (fun q hq => by have := (HO1.out.lt q hq).1; omega)
      have hG1 := grownBy_trans hg hg1
      have hG3 : w.grownBy w3 (some bt) := ⟨hgrow.os.trans hG1.os, hgrow.tape.trans hG1.tape, hgrow.output.trans hG1.output, by have := hgrow.size; simp at this; omega, fun q hq hr => by
        rw [hgrow.block q (by simp; omega) (fun e => by have := (HO1.out.lt q e.symm).1; omega), Below.heap_alloc _ _ _ (by omega)]
        exact hG1.block q hq hr⟩
      clear hown' hgrow
      go_roundg (gk - 1)
      case measure => omega
      case rel => exact ⟨k + 1, _, by omega, by omega, by simp [HX.out], by go_num, HW.out, by rw [← Nat.add_assoc]; exact hT3, hG3⟩
    · rcases HO.out.2 with ⟨rfl, hk0⟩ | ⟨g, cap, cur, rfl, hbg, _⟩
      · have hcv := run_convert_bytes_nil (P := Try.prog) wr 64 5 Try.underlying64 Try.underlying5 0 0 9 Try.underlying9
        go_wp2
        go_ret
        exact ⟨ByteArray.empty, by simp; omega, rfl, by rw [show n = k by omega]; exact ht', hg⟩
      · have hcells := HO.out.cells (g := g) rfl
        have hcv := run_convert_bytes_arg (P := Try.prog) wr 64 5 Try.underlying64 Try.underlying5 g 0 k cap xs HX.out (fun i hi => by
          have h := hcells i (.int .u8 (xs.getD i 0)) (by simp [HX.out, hi, List.getD])
          have hadd : (⟨g, 0, none⟩ : Addr).add i = ⟨g, 0 + i, none⟩ := by unfold Addr.add; split <;> simp_all
          rwa [hadd] at h) 9 Try.underlying9
        clear hcells
        go_wp2
        go_ret
        exact ⟨strOfNums xs, by rw [strOfNums_size, HX.out]; omega, rfl, by rw [show n = k by omega]; exact ht', hg⟩
/-- WHAT THE WALK IS TOLD OF A SLICE OF INTEGERS THAT CAME IN -/
def IsRow (k : IntKind) (w : World) (a : Option Addr) (len cap : Nat) (zs : List Int) : Prop :=
  (a = none ∧ len = 0 ∧ cap = 0 ∧ zs = []) ∨
  ∃ x, a = some x ∧ len ≤ cap ∧ cap ≤ maxLen ∧ zs.length = cap ∧ (∀ i, i < zs.length → w.cell? (x.add i) = some (.int k (zs.getD i 0))) ∧ ∀ n ∈ zs, (Lit.int k n).wf = true
/-- a tape that the law has just laid over its argument -/
theorem IsRow.tape {w : World} {a : Option Addr} {len cap : Nat} {z : List Int} (h : IsRow .i64 w a len cap z) (T : TypeId) : IsTape (w.alloc (.cells #[.slice a len cap, .int .i64 0] T)) w.heap.size 0 := by
  have c0 : (w.alloc (.cells #[.slice a len cap, .int .i64 0] T)).cell? ⟨w.heap.size, 0, none⟩ = some (.slice a len cap) := by go_cell
  have c1 : (w.alloc (.cells #[.slice a len cap, .int .i64 0] T)).cell? ⟨w.heap.size, 1, none⟩ = some (.int .i64 0) := by go_cell
  have hz : ∀ o, (w.alloc (.cells #[.slice a len cap, .int .i64 0] T)).frozen? ⟨w.heap.size, o, none⟩ = false := fun o => by simp
  rcases h with ⟨rfl, rfl, rfl, rfl⟩ | ⟨x, rfl, h1, h2, h3, h4, h5⟩
  · exact ⟨_, _, _, c0, c1, hz, by omega, fun j hj => absurd hj (by omega)⟩
  · refine ⟨_, _, _, c0, c1, hz, by unfold maxLen at h2; omega, fun j hj => ?_⟩
    have hc := h4 j (by omega)
    obtain ⟨b, off, spot⟩ := x
    have h0 := h4 0 (by omega)
    have hspot : spot = none := by simpa [Addr.add] using World.cell?_spot h0
    subst hspot
    have hadd : (⟨b, off, none⟩ : Addr).add j = ⟨b, off + j, none⟩ := by unfold Addr.add; split <;> simp_all
    rw [hadd] at hc
    have hlt : b < w.heap.size := World.block_lt_of_cell? w _ hc
    exact ⟨b, off, _, rfl, by omega, cell_alloc hc _⟩
end Go.Proofs.Ytjnaeldaajckkaa
