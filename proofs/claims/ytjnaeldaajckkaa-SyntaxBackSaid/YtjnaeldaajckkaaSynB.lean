/- The program's parser: word, sign. -/
import Derived.Test.YtjnaeldaajckkaaSynA
import Derived.BigQuiet
set_option linter.unusedVariables false
set_option linter.unusedSimpArgs false
namespace Go.Proofs.Ytjnaeldaajckkaa
open Go.RowKit Tok

theorem IsParser.below {w w' : World} {bp : Nat} {l : List T} {at_ : Nat} (h : IsParser w bp l at_) (hb : Below w.heap.size w w') : IsParser w' bp l at_ := by
  obtain ⟨v, h0, h1, h2, h3, h4, h5, h6⟩ := h
  have hlt := World.block_lt_of_cell? w _ h0
  exact ⟨v, cell_up h0 hb, cell_up h1 hb, fun o => by rw [hb.frozen (p := ⟨bp, o, none⟩) hlt]; exact h2 o, h3.below hb, h4, h5, h6⟩
set_option maxRecDepth 100000 in
set_option maxHeartbeats 4000000 in
theorem synword_any (bp : Nat) (l : List T) (at_ : Nat) (w : World) (hp : IsParser w bp l at_) :
    Calls Try.prog 70 #[.pointer (some ⟨bp, 0, none⟩)] w fun e w' => e = .returned (.tuple #[.string ⟨(peekT l at_).text.toArray⟩, .bool ((peekT l at_).kind == 1)]) ∧ Below w.heap.size w w' := by
  have hpk := peek_any bp l at_ w hp
  generalize peekT l at_ = t at hpk ⊢
  have HPK := Lib.hid hpk
  clear hpk hp
  go_enter Try.func70, Try.ntmps70
  go_wp2_with fail
  refine HPK.out.mono ?_
  rintro e w1 ⟨rfl, hb⟩
  have d0 := cells_new w1 [.int .i64 t.kind, .string ⟨t.text.toArray⟩, .int .i64 t.line, .int .i64 t.col] 38 0 _ rfl
  have d1 := cells_new w1 [.int .i64 t.kind, .string ⟨t.text.toArray⟩, .int .i64 t.line, .int .i64 t.col] 38 1 _ rfl
  have hs := hb.size
  simp only [Tok.T.val]
  go_wp2
  go_quiet (fail)
  go_wp2
  refine bodyPost_ret (v := .tuple #[.string ⟨t.text.toArray⟩, .bool (t.kind == 1)]) (by simp [results, Try.results70, go_sem]) rfl ?_
  exact ⟨rfl, below_drewN (hb.alloc hs _) _⟩
set_option maxRecDepth 100000 in
set_option maxHeartbeats 4000000 in
theorem synsign_any (bp : Nat) (l : List T) (at_ : Nat) (x : ByteArray) (w : World) (hp : IsParser w bp l at_) :
    Calls Try.prog 73 #[.pointer (some ⟨bp, 0, none⟩), .string x] w fun e w' => e = .returned (.bool ((peekT l at_).kind == 5 && (peekT l at_).text == x.data.toList)) ∧ Below w.heap.size w w' := by
  have hpk := peek_any bp l at_ w hp
  generalize peekT l at_ = t at hpk ⊢
  have HPK := Lib.hid hpk
  clear hpk hp
  go_enter Try.func73, Try.ntmps73
  go_wp2_with fail
  refine HPK.out.mono ?_
  rintro e w1 ⟨rfl, hb⟩
  have d0 := cells_new w1 [.int .i64 t.kind, .string ⟨t.text.toArray⟩, .int .i64 t.line, .int .i64 t.col] 38 0 _ rfl
  have d1 := cells_new w1 [.int .i64 t.kind, .string ⟨t.text.toArray⟩, .int .i64 t.line, .int .i64 t.col] 38 1 _ rfl
  have hs := hb.size
  simp only [Tok.T.val]
  cases hk : (t.kind == 5)
  · go_wp2
    go_ret
    rw [hk, ← ByteArray.toList_eq]
    exact ⟨rfl, hb.alloc hs _⟩
  · go_wp2
    go_ret
    rw [hk, ← ByteArray.toList_eq]
    exact ⟨rfl, hb.alloc hs _⟩

/-- the parser's place is written -/
theorem IsParser.step {w : World} {bp : Nat} {l : List T} {at_ : Nat} (h : IsParser w bp l at_) (at' : Nat) (ha : at' ≤ l.length) : IsParser (w.setCell ⟨bp, 1, none⟩ (.int .i64 at')) bp l at' := by
  obtain ⟨v, h0, h1, h2, h3, h4, h5, h6⟩ := h
  refine ⟨v, ?_, World.cell?_setCell_same _ _ _ h1, fun o => by rw [World.frozen?_setCell]; exact h2 o, ?_, ha, h5, h6⟩
  · rw [World.cell?_setCell_other _ _ _ _ (by simp)]; exact h0
  · obtain ⟨r1, r2, r3⟩ := h3
    refine ⟨r1, r2, ?_⟩
    rcases r3 with r3 | ⟨g, off, cap, hv, hc⟩
    · exact .inl r3
    · have hg := h6 g off _ _ hv
      exact .inr ⟨g, off, cap, hv, fun j u hu => by rw [World.cell?_setCell_other _ _ _ _ (fun e => by injection e with e1; omega)]; exact hc j u hu⟩
end Go.Proofs.Ytjnaeldaajckkaa
