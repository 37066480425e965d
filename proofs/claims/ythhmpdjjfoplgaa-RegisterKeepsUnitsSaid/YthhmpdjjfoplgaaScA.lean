/- fundadminscene's Tape: Mod, Next, Pick, walked: what a draw may be, and that nothing but the tape's own place is written. -/
import Derived.Test.YthhmpdjjfoplgaaRegC
import Derived.BigQuiet
set_option linter.unusedVariables false
set_option linter.unusedSimpArgs false
namespace Go.Proofs.Ythhmpdjjfoplgaa
open Go.RowKit Reg

/-- Mod: a number from 0 to m - 1; 0 if m is below 1 -/
def modI (n m : Int) : Int := if m < 1 then 0 else n % m
theorem modI_bd (n m : Int) (h : 1 ≤ m) : 0 ≤ modI n m ∧ modI n m < m := by
  unfold modI; rw [if_neg (by omega)]; exact ⟨Int.emod_nonneg _ (by omega), Int.emod_lt_of_pos _ (by omega)⟩
theorem tmod_emod (v n : Int) (hn : 1 ≤ n) : (v.tmod n < 0 → v.tmod n + n = v % n) ∧ (¬ v.tmod n < 0 → v.tmod n = v % n) ∧ -n < v.tmod n ∧ v.tmod n < n := by
  have h1 := Int.emod_nonneg v (show n ≠ 0 by omega)
  have h2 := Int.emod_lt_of_pos v (show 0 < n by omega)
  have h3 := Int.tmod_eq_emod (a := v) (b := n)
  have h4 : (n.natAbs : Int) = n := by omega
  by_cases hd : 0 ≤ v ∨ n ∣ v
  · rw [if_pos hd] at h3
    refine ⟨fun h => ?_, fun h => ?_, ?_, ?_⟩ <;> omega
  · rw [if_neg hd] at h3
    have h5 : v % n ≠ 0 := fun h => hd (.inr (Int.dvd_of_emod_eq_zero h))
    refine ⟨fun h => ?_, fun h => ?_, ?_, ?_⟩ <;> omega
set_option maxHeartbeats 1000000 in
theorem mod_any (v n : Int) (w : World) (hn : n ≤ 9223372036854775807) :
    Calls Try.prog 18 #[.int .i64 v, .int .i64 n] w fun e w' => e = .returned (.int .i64 (modI v n)) ∧ w = w' := by
  by_cases h1 : n < 1
  · have HF := Lib.hid (show modI v n = 0 by unfold modI; rw [if_pos h1])
    go_enter Try.func18, Try.ntmps18
    go_wp2
    go_ret
    exact ⟨ret_int HF.out.symm, rfl⟩
  · have HF := Lib.hid (show modI v n = v % n by unfold modI; rw [if_neg h1])
    obtain ⟨t1, t2, t3, t4⟩ := tmod_emod v n (by omega)
    have H1 := Lib.hid t1
    have H2 := Lib.hid t2
    clear t1 t2
    have hn0 : ¬ n = 0 := by omega
    have hw : IntKind.i64.wrap (v.tmod n) = v.tmod n := IntWalk.i64_in _ (by omega)
    go_enter Try.func18, Try.ntmps18
    by_cases c : v.tmod n < 0
    · have HS := Lib.hid (H1.out c)
      have hw2 : IntKind.i64.wrap (v.tmod n + n) = v.tmod n + n := IntWalk.i64_in _ (by omega)
      go_wp2
      go_ret
      exact ⟨ret_int (by rw [HF.out, HS.out]), rfl⟩
    · have HS := Lib.hid (H2.out c)
      go_wp2
      go_ret
      exact ⟨ret_int (by rw [HF.out, HS.out]), rfl⟩

/-- block bt holds a tape: its list may be read, its place may be written -/
def IsTp (w : World) (bt : Nat) : Prop := ∃ (at_ : Nat) (a : Option Addr) (len cap : Nat), at_ ≤ len ∧ w.cell? ⟨bt, 0, none⟩ = some (.slice a len cap) ∧ w.cell? ⟨bt, 1, none⟩ = some (.int .i64 at_) ∧ (∀ o, w.frozen? ⟨bt, o, none⟩ = false) ∧ len ≤ 9223372036854775807 ∧
  (∀ j, j < len → ∃ b off v, a = some ⟨b, off, none⟩ ∧ b < bt ∧ w.cell? ⟨b, off + j, none⟩ = some (.int .i64 v))
theorem grownBy_refl (w : World) (row : Option Nat) : w.grownBy w row := ⟨rfl, rfl, rfl, Nat.le_refl _, fun _ _ _ => rfl⟩
theorem grownBy_trans {a b c : World} {row : Option Nat} (h : a.grownBy b row) (k : b.grownBy c row) : a.grownBy c row :=
  ⟨k.os.trans h.os, k.tape.trans h.tape, k.output.trans h.output, Nat.le_trans h.size k.size, fun i hi hr => (k.block i (Nat.lt_of_lt_of_le hi h.size) hr).trans (h.block i hi hr)⟩
theorem grownBy_up {a b : World} (h : Below a.heap.size a b) (row : Option Nat) : a.grownBy b row := ⟨h.os, h.tape, h.output, h.size, fun k hk _ => h.block k hk⟩
theorem grownBy_drewN {a b : World} {row : Option Nat} (h : a.grownBy b row) (n : Nat) : a.grownBy (b.drewN n) row := ⟨h.os, h.tape, h.output, h.size, h.block⟩
theorem below_grownBy {B : Nat} {a b : World} {bt : Nat} (h : a.grownBy b (some bt)) (hb : B ≤ bt) (hB : B ≤ a.heap.size) : Below B a b := ⟨h.os, h.tape, h.output, h.size, fun k hk => h.block k (by omega) (fun e => by injection e with e; omega)⟩
theorem grownBy_setCell {w : World} {bt : Nat} (p : Addr) (hp : p.block = bt) (v : Value) : w.grownBy (w.setCell p v) (some bt) :=
  ⟨rfl, rfl, rfl, by simp [World.setCell], fun k hk hr => Below.heap_setCell _ _ _ _ (fun e => hr (by rw [e, hp]))⟩
theorem IsTp.lt {w : World} {bt : Nat} (h : IsTp w bt) : bt < w.heap.size := by
  obtain ⟨_, a, len, cap, _, h0, _⟩ := h
  exact World.block_lt_of_cell? w _ h0
theorem IsTp.below {w w' : World} {bt : Nat} (h : IsTp w bt) (hb : Below w.heap.size w w') : IsTp w' bt := by
  have hlt := h.lt
  obtain ⟨at_, a, len, cap, hle, h0, h1, h2, h3, h4⟩ := h
  refine ⟨at_, a, len, cap, hle, cell_up h0 hb, cell_up h1 hb, fun o => by rw [hb.frozen (p := ⟨bt, o, none⟩) hlt]; exact h2 o, h3, fun j hj => ?_⟩
  obtain ⟨b, off, v, e, hne, hc⟩ := h4 j hj
  exact ⟨b, off, v, e, hne, cell_up hc hb⟩
theorem IsTp.drewN {w : World} {bt : Nat} (h : IsTp w bt) (d : Nat) : IsTp (w.drewN d) bt := h
theorem IsTp.grown {w w' : World} {bt : Nat} {row : Option Nat} (h : IsTp w bt) (hg : w.grownBy w' row) (hr : ∀ k, row = some k → bt < k) : IsTp w' bt := by
  have hlt := h.lt
  obtain ⟨at_, a, len, cap, hle, h0, h1, h2, h3, h4⟩ := h
  have hb : ∀ b, b ≤ bt → w'.heap[b]? = w.heap[b]? := fun b hb => hg.block b (by omega) (fun e => by have := hr b e.symm; omega)
  refine ⟨at_, a, len, cap, hle, ?_, ?_, fun o => ?_, h3, fun j hj => ?_⟩
  · rw [World.cell?_of_block (w := w) (hb bt (Nat.le_refl _))]; exact h0
  · rw [World.cell?_of_block (w := w) (hb bt (Nat.le_refl _))]; exact h1
  · rw [World.frozen?_of_block (w := w) (hb bt (Nat.le_refl _))]; exact h2 o
  · obtain ⟨b, off, v, e, hne, hc⟩ := h4 j hj
    exact ⟨b, off, v, e, hne, by rw [World.cell?_of_block (w := w) (hb b (by omega))]; exact hc⟩
/-- what a draw leaves: the tape, and nothing else turned -/
def Drew (w : World) (bt : Nat) (w' : World) : Prop := IsTp w' bt ∧ w.grownBy w' (some bt)
theorem Drew.refl {w : World} {bt : Nat} (h : IsTp w bt) : Drew w bt w := ⟨h, grownBy_refl _ _⟩
theorem Drew.trans {a b c : World} {bt : Nat} (h : Drew a bt b) (k : Drew b bt c) : Drew a bt c := ⟨k.1, grownBy_trans h.2 k.2⟩
theorem Drew.below {a b c : World} {bt : Nat} (h : Drew a bt b) (k : Below b.heap.size b c) : Drew a bt c := ⟨h.1.below k, grownBy_trans h.2 (grownBy_up k _)⟩
theorem Drew.cell {w w' : World} {bt : Nat} {a : Addr} {v : Value} (h : Drew w bt w') (hc : w.cell? a = some v) (hne : a.block ≠ bt) : w'.cell? a = some v := h.2.cell hc (fun e => by simp at e; exact hne (by rw [e]))
theorem Drew.frozen {w w' : World} {bt : Nat} {a : Addr} (h : Drew w bt w') (ha : a.block < w.heap.size) (hne : a.block ≠ bt) : w'.frozen? a = w.frozen? a :=
  World.frozen?_of_block (h.2.block _ ha (fun e => by simp at e; exact hne e))
theorem Drew.size {w w' : World} {bt : Nat} (h : Drew w bt w') : w.heap.size ≤ w'.heap.size := h.2.size
theorem Drew.setCell {w w' : World} {bt : Nat} (h : Drew w bt w') (hbt : bt < w.heap.size) (p : Addr) (v : Value) (hp : w.heap.size ≤ p.block) : Drew w bt (w'.setCell p v) :=
  ⟨h.1.grown (row := some p.block) (grownBy_setCell p rfl v) (fun k hk => by injection hk with hk; omega),
   h.2.os, h.2.tape, h.2.output, by simpa [World.setCell] using h.2.size, fun k hk hr => (Below.heap_setCell _ _ _ _ (fun e => by omega)).trans (h.2.block k hk hr)⟩
theorem Drew.alloc {w w' : World} {bt : Nat} (h : Drew w bt w') (o : Obj) : Drew w bt (w'.alloc o) := h.below ((Below.refl _ _).alloc (Nat.le_refl _) _)
theorem Drew.drewN {w w' : World} {bt : Nat} (h : Drew w bt w') (d : Nat) : Drew w bt (w'.drewN d) := h.below (below_drewN' (Below.refl _ _) _)

set_option maxHeartbeats 2000000 in
theorem next_any (bt : Nat) (n : Int) (w : World) (ht : IsTp w bt) (hn1 : 1 ≤ n) (hn : n ≤ 9223372036854775807) :
    Calls Try.prog 27 #[.pointer (some ⟨bt, 0, none⟩), .int .i64 n] w fun e w' => ∃ v : Int, e = .returned (.int .i64 v) ∧ 0 ≤ v ∧ v < n ∧ Drew w bt w' := by
  have HT := Lib.hid ht
  obtain ⟨at_, a, len, cap, hle, h0, h1, h2, h3, h4⟩ := ht
  have hz := h2 1
  have HZ := Lib.hid h2
  clear h2
  by_cases hlt : at_ < len
  · obtain ⟨b, off, v, rfl, hne, hc⟩ := h4 at_ hlt
    have H4 := Lib.hid h4
    have HMB := Lib.hid (modI_bd v n hn1)
    have HC0 := Lib.hid h0
    have hge : decide ((len : Int) ≤ (at_ : Int)) = false := by simp; omega
    have hw1 : IntKind.i64.wrap ((at_ : Int) + 1) = (at_ : Int) + 1 := IntWalk.i64_in _ (by omega)
    have hcb : b ≠ bt := by omega
    clear h4
    go_enter Try.func27, Try.ntmps27
    go_wp2
    go_quiet (fail)
    go_wp2
    have hw2 : (at_ : Int) + 1 - 1 = (at_ : Int) := by omega
    have hw3 : IntKind.i64.wrap (at_ : Int) = (at_ : Int) := IntWalk.i64_in _ (by omega)
    go_quiet ((go_at_call 18; exact (mod_any _ _ _ hn).mono fun _ _ ⟨he, hw⟩ => ⟨he, _, hw.symm⟩))
    go_wp2
    go_ret
    refine ⟨_, rfl, HMB.out.1, HMB.out.2, ?_, grownBy_drewN (grownBy_trans (grownBy_drewN (grownBy_refl _ _) _) (grownBy_setCell (bt := bt) ⟨bt, 1, none⟩ rfl _)) _⟩
    refine IsTp.drewN ⟨at_ + 1, some ⟨b, off, none⟩, len, cap, by omega, ?_, ?_, fun o => ?_, h3, fun j hj => ?_⟩ _
    · rw [World.cell?_setCell_other _ _ _ _ (by simp)]; exact HC0.out
    · exact World.cell?_setCell_same _ _ _ h1
    · rw [World.frozen?_setCell]; exact HZ.out o
    · obtain ⟨b', off', v', e, hne', hc'⟩ := H4.out j hj
      exact ⟨b', off', v', e, hne', by rw [World.cell?_setCell_other _ _ _ _ (fun e => by injection e with e1; omega)]; exact hc'⟩
  · have hlt' : len ≤ at_ := by omega
    clear h4
    go_enter Try.func27, Try.ntmps27
    go_wp2
    go_quiet (fail)
    go_wp2
    go_ret
    exact ⟨0, rfl, by omega, by omega, HT.out.below (below_drewN' (Below.refl _ _) _), grownBy_drewN (grownBy_refl _ _) _⟩

set_option maxHeartbeats 2000000 in
theorem pick_any (bt : Nat) (g cap n : Nat) (l : List Int) (w : World) (hn : l.length = n) (ht : IsTp w bt) (hl : 0 < n) (hl2 : n ≤ 1000000000) (hg : g ≠ bt)
    (hc : ∀ j u, l[j]? = some u → w.cell? ⟨g, j, none⟩ = some (.int .i64 u)) :
    Calls Try.prog 25 #[.pointer (some ⟨bt, 0, none⟩), .slice (some ⟨g, 0, none⟩) n cap] w fun e w' => ∃ s, s ∈ l ∧ e = .returned (.int .i64 s) ∧ Drew w bt w' := by
  have HC := Lib.hid hc
  have HL := Lib.hid hl
  have HN := Lib.hid hn
  clear hc hl hn
  go_enter Try.func25, Try.ntmps25
  go_wp2_with fail
  refine (next_any bt n w ht (by have := HL.out; omega) (by omega)).mono ?_
  rintro e w1 ⟨v, rfl, hv0, hv1, hd⟩
  obtain ⟨k, rfl⟩ : ∃ k : Nat, v = k := ⟨v.toNat, by omega⟩
  have hlt : k < n := by omega
  obtain ⟨x, hx⟩ : ∃ x, l[k]? = some x := ⟨l[k]'(by rw [HN.out]; exact hlt), by simp [HN.out, hlt]⟩
  have hc1 : w1.cell? ⟨g, k, none⟩ = some (.int .i64 x) := hd.cell (HC.out k x hx) hg
  have HX := Lib.hid (List.mem_of_getElem? hx)
  have HD := Lib.hid hd
  clear hx hd
  go_wp2
  go_ret
  exact ⟨x, HX.out, rfl, HD.out⟩
end Go.Proofs.Ythhmpdjjfoplgaa
