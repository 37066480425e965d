/- The program's parser: take. -/
import Derived.Test.YtjnaeldaajckkaaSynB
import Derived.BigQuiet
set_option linter.unusedVariables false
set_option linter.unusedSimpArgs false
namespace Go.Proofs.Ytjnaeldaajckkaa
open Go.RowKit Tok

theorem IsParser.lt {w : World} {bp : Nat} {l : List T} {at_ : Nat} (h : IsParser w bp l at_) : bp < w.heap.size := by
  obtain ⟨v, h0, _⟩ := h
  exact World.block_lt_of_cell? w _ h0
theorem IsParser.above {w w' : World} {bp : Nat} {l : List T} {at_ : Nat} {B : Nat} (h : IsParser w bp l at_) (hb : Below B w w') (hB : bp < B) : IsParser w' bp l at_ := by
  obtain ⟨v, h0, h1, h2, h3, h4, h5, h6⟩ := h
  refine ⟨v, by rw [hb.cell (by exact hB)]; exact h0, by rw [hb.cell (by exact hB)]; exact h1, fun o => by rw [hb.frozen (p := ⟨bp, o, none⟩) hB]; exact h2 o, ?_, h4, h5, h6⟩
  obtain ⟨r1, r2, r3⟩ := h3
  refine ⟨r1, r2, ?_⟩
  rcases r3 with r3 | ⟨g, off, cap, hv, hc⟩
  · exact .inl r3
  · have hg := h6 g off _ _ hv
    exact .inr ⟨g, off, cap, hv, fun j u hu => by rw [hb.cell (by show g < B; omega)]; exact hc j u hu⟩
set_option maxRecDepth 100000 in
set_option maxHeartbeats 4000000 in
theorem take_true (bp : Nat) (l : List T) (at_ : Nat) (w : World) (hp : IsParser w bp l at_) (hlt : at_ < l.length) :
    Calls Try.prog 71 #[.pointer (some ⟨bp, 0, none⟩), .bool true] w fun e w' => e = .returned (peekT l at_).val ∧ IsParser w' bp l (at_ + 1) ∧ w.grownBy w' (some bp) := by
  have hbp := hp.lt
  have hB0 := (Below.refl w.heap.size w).alloc (Nat.le_refl _) (.cells #[.int .i64 0, .string ⟨#[]⟩, .int .i64 0, .int .i64 0] 38)
  have hp0 := hp.above hB0 hbp
  have hpk := peek_any bp l at_ _ hp0
  generalize peekT l at_ = t at hpk ⊢
  have HPK := Lib.hid hpk
  have HP0 := Lib.hid hp0
  clear hpk hp hp0
  go_enter Try.func71, Try.ntmps71
  go_wp2_with fail
  refine HPK.out.mono ?_
  rintro e w1 ⟨rfl, hb⟩
  have hp1 := HP0.out.below hb
  have hB1 := hB0.trans (hb.mono hB0.size)
  have hs := hB1.size
  have hs2 := hb.size
  simp at hs2
  simp only [Tok.T.val]
  have hp2 := hp1.above ((Below.refl w1.heap.size w1).alloc (Nat.le_refl _) (.cells #[.int .i64 t.kind, .string ⟨t.text.toArray⟩, .int .i64 t.line, .int .i64 t.col] 38)) (by omega)
  have r0 := cell_alloc (cell_up (cells_new w [.int .i64 0, .string ⟨#[]⟩, .int .i64 0, .int .i64 0] 38 0 _ rfl) hb) (.cells #[.int .i64 t.kind, .string ⟨t.text.toArray⟩, .int .i64 t.line, .int .i64 t.col] 38)
  have r1 := cell_alloc (cell_up (cells_new w [.int .i64 0, .string ⟨#[]⟩, .int .i64 0, .int .i64 0] 38 1 _ rfl) hb) (.cells #[.int .i64 t.kind, .string ⟨t.text.toArray⟩, .int .i64 t.line, .int .i64 t.col] 38)
  have r2 := cell_alloc (cell_up (cells_new w [.int .i64 0, .string ⟨#[]⟩, .int .i64 0, .int .i64 0] 38 2 _ rfl) hb) (.cells #[.int .i64 t.kind, .string ⟨t.text.toArray⟩, .int .i64 t.line, .int .i64 t.col] 38)
  have r3 := cell_alloc (cell_up (cells_new w [.int .i64 0, .string ⟨#[]⟩, .int .i64 0, .int .i64 0] 38 3 _ rfl) hb) (.cells #[.int .i64 t.kind, .string ⟨t.text.toArray⟩, .int .i64 t.line, .int .i64 t.col] 38)
  simp only [Addr.add, reduceIte, Nat.reduceEqDiff, Nat.one_ne_zero, Nat.zero_add] at r0 r1 r2 r3
  have hf : ∀ o, (w1.alloc (.cells #[.int .i64 t.kind, .string ⟨t.text.toArray⟩, .int .i64 t.line, .int .i64 t.col] 38)).frozen? ⟨w.heap.size, o, none⟩ = false := fun o => by
    rw [((Below.refl w1.heap.size w1).alloc (Nat.le_refl _) _).frozen (p := ⟨w.heap.size, o, none⟩) (by show w.heap.size < w1.heap.size; omega), hb.frozen (p := ⟨w.heap.size, o, none⟩) (by simp)]; simp
  have hne : ¬ w.heap.size = bp := by omega
  have hne2 : ¬ bp = w.heap.size := by omega
  have HP2 := Lib.hid hp2
  obtain ⟨v, h0, h1, h2, h3, h4, h5, h6⟩ := hp2
  have hz := h2 1
  clear h2 h3 h6 hp1
  go_wp2
  have hst := HP2.out.step (at_ + 1) (by omega)
  rw [show (((at_ + 1 : Nat)) : Int) = (at_ : Int) + 1 by omega] at hst
  have hA := grownBy_trans (grownBy_below (hB1.alloc hs (.cells #[.int .i64 t.kind, .string ⟨t.text.toArray⟩, .int .i64 t.line, .int .i64 t.col] 38)) (some bp)) (grownBy_setCell ⟨bp, 1, none⟩ rfl (.int .i64 ((at_ : Int) + 1)))
  have HST := Lib.hid hst
  clear hst
  refine bodyPost_ret (v := t.val) (by simp [results, Try.results71, go_sem, T.val, r0, r1, r2, r3, hne, hne2]) rfl ?_
  have hBel := ((((Below.refl w.heap.size ((w1.alloc (.cells #[.int .i64 t.kind, .string ⟨t.text.toArray⟩, .int .i64 t.line, .int .i64 t.col] 38)).setCell ⟨bp, 1, none⟩ (.int .i64 ((at_ : Int) + 1)))).setCell (p := ⟨w.heap.size, 0, none⟩) (Nat.le_refl _) (.int .i64 t.kind)).setCell (p := ⟨w.heap.size, 1, none⟩) (Nat.le_refl _) (.string ⟨t.text.toArray⟩)).setCell (p := ⟨w.heap.size, 2, none⟩) (Nat.le_refl _) (.int .i64 t.line)).setCell (p := ⟨w.heap.size, 3, none⟩) (Nat.le_refl _) (.int .i64 t.col)
  exact ⟨rfl, HST.out.above hBel hbp, hBel.os.trans hA.os, hBel.tape.trans hA.tape, hBel.output.trans hA.output, Nat.le_trans hA.size hBel.size, fun k hk hr => (hBel.block k hk).trans (hA.block k hk hr)⟩
end Go.Proofs.Ytjnaeldaajckkaa
