/- The program's parser: take, where the token may not stand there; the parser by what is left to it. -/
import Derived.Test.YtjnaeldaajckkaaSynC
import Derived.Test.YtjnaeldaajckkaaSyP
import Derived.BigQuiet
import Derived.WalkLawsBesides
set_option linter.unusedVariables false
set_option linter.unusedSimpArgs false
namespace Go.Proofs.Ytjnaeldaajckkaa
open Go.RowKit Tok Syn

/-- what the parser panics with: the place of the token at fault -/
def faultC (t : T) : List PanicEntry := [{ v := .iface 67 (.agg #[.int .i64 t.line, .int .i64 t.col]), recovered := false }]
set_option maxRecDepth 100000 in
set_option maxHeartbeats 4000000 in
theorem take_false (bp : Nat) (l : List T) (at_ : Nat) (w : World) (hp : IsParser w bp l at_) :
    Calls Try.prog 71 #[.pointer (some ⟨bp, 0, none⟩), .bool false] w fun e w' => e = .panicked (faultC (peekT l at_)) ∧ Below w.heap.size w w' := by
  have hbp := hp.lt
  have hB0 := (Below.refl w.heap.size w).alloc (Nat.le_refl _) (.cells #[.int .i64 0, .string ⟨#[]⟩, .int .i64 0, .int .i64 0] 38)
  have hp0 := hp.above hB0 hbp
  have hpk := peek_any bp l at_ _ hp0
  generalize peekT l at_ = t at hpk ⊢
  have HPK := Lib.hid hpk
  clear hpk hp hp0
  go_enter Try.func71, Try.ntmps71
  go_wp2_with fail
  refine HPK.out.mono ?_
  rintro e w1 ⟨rfl, hb⟩
  have hB1 := hB0.trans (hb.mono hB0.size)
  have hs := hB1.size
  have hs2 := hb.size
  simp at hs2
  simp only [Tok.T.val]
  have r0 := cell_alloc (cell_up (cells_new w [.int .i64 0, .string ⟨#[]⟩, .int .i64 0, .int .i64 0] 38 0 _ rfl) hb) (.cells #[.int .i64 t.kind, .string ⟨t.text.toArray⟩, .int .i64 t.line, .int .i64 t.col] 38)
  have r1 := cell_alloc (cell_up (cells_new w [.int .i64 0, .string ⟨#[]⟩, .int .i64 0, .int .i64 0] 38 1 _ rfl) hb) (.cells #[.int .i64 t.kind, .string ⟨t.text.toArray⟩, .int .i64 t.line, .int .i64 t.col] 38)
  have r2 := cell_alloc (cell_up (cells_new w [.int .i64 0, .string ⟨#[]⟩, .int .i64 0, .int .i64 0] 38 2 _ rfl) hb) (.cells #[.int .i64 t.kind, .string ⟨t.text.toArray⟩, .int .i64 t.line, .int .i64 t.col] 38)
  have r3 := cell_alloc (cell_up (cells_new w [.int .i64 0, .string ⟨#[]⟩, .int .i64 0, .int .i64 0] 38 3 _ rfl) hb) (.cells #[.int .i64 t.kind, .string ⟨t.text.toArray⟩, .int .i64 t.line, .int .i64 t.col] 38)
  simp only [Addr.add, reduceIte, Nat.reduceEqDiff, Nat.one_ne_zero, Nat.zero_add] at r0 r1 r2 r3
  have hf : ∀ o, (w1.alloc (.cells #[.int .i64 t.kind, .string ⟨t.text.toArray⟩, .int .i64 t.line, .int .i64 t.col] 38)).frozen? ⟨w.heap.size, o, none⟩ = false := fun o => by
    rw [((Below.refl w1.heap.size w1).alloc (Nat.le_refl _) _).frozen (p := ⟨w.heap.size, o, none⟩) (by show w.heap.size < w1.heap.size; omega), hb.frozen (p := ⟨w.heap.size, o, none⟩) (by simp)]; simp
  go_wp2
  exact ⟨rfl, rfl, hB1.alloc hs _⟩

/-- the parser in memory, by what is left to it -/
def Pr (w : World) (bp : Nat) (r : List T) : Prop := ∃ l at_, IsParser w bp l at_ ∧ l.drop at_ = r
def hdT (r : List T) : T := r.headD noT
theorem hd_peek {l : List T} {at_ : Nat} {r : List T} (h : l.drop at_ = r) : peekT l at_ = hdT r := by
  subst h
  unfold peekT hdT
  rw [← List.head?_drop]
  cases l.drop at_ <;> rfl
theorem Pr.lt {w : World} {bp : Nat} {r : List T} (h : Pr w bp r) : bp < w.heap.size := by obtain ⟨l, a, h, _⟩ := h; exact h.lt
theorem Pr.above {w w' : World} {bp : Nat} {r : List T} {B : Nat} (h : Pr w bp r) (hb : Below B w w') (hB : bp < B) : Pr w' bp r := by obtain ⟨l, a, h, q⟩ := h; exact ⟨l, a, h.above hb hB, q⟩
theorem Pr.below {w w' : World} {bp : Nat} {r : List T} (h : Pr w bp r) (hb : Below w.heap.size w w') : Pr w' bp r := h.above hb h.lt
theorem Pr.size {w : World} {bp : Nat} {r : List T} (h : Pr w bp r) : r.length ≤ 65536 := by
  obtain ⟨l, a, ⟨v, _, _, _, _, _, h5, _⟩, rfl⟩ := h
  rw [List.length_drop]; omega
/-- the place is moved on by hand -/
theorem Pr.step {w : World} {bp : Nat} {t : T} {r : List T} (h : Pr w bp (t :: r)) : ∃ at_ : Nat, at_ < 65536 ∧ w.cell? ⟨bp, 1, none⟩ = some (.int .i64 at_) ∧ w.frozen? ⟨bp, 1, none⟩ = false ∧ Pr (w.setCell ⟨bp, 1, none⟩ (.int .i64 ((at_ : Int) + 1))) bp r := by
  obtain ⟨l, a, h, q⟩ := h
  have hl : a < l.length := by
    rcases Nat.lt_or_ge a l.length with h | h
    · exact h
    · rw [List.drop_eq_nil_of_le h] at q; cases q
  have hs := h.step (a + 1) (by omega)
  obtain ⟨v, h0, h1, h2, h3, h4, h5, h6⟩ := h
  refine ⟨a, by omega, h1, h2 1, l, a + 1, by rw [show (((a + 1 : Nat)) : Int) = (a : Int) + 1 by omega] at hs; exact hs, ?_⟩
  rw [← List.drop_drop, q]; rfl
theorem word_pr {bp : Nat} {r : List T} {w : World} (hp : Pr w bp r) :
    Calls Try.prog 70 #[.pointer (some ⟨bp, 0, none⟩)] w fun e w' => e = .returned (.tuple #[.string ⟨(hdT r).text.toArray⟩, .bool (wrd (hdT r))]) ∧ Below w.heap.size w w' := by
  obtain ⟨l, a, h, q⟩ := hp
  have := synword_any bp l a w h
  rw [hd_peek q] at this
  exact this
theorem sign_pr {bp : Nat} {r : List T} (c : UInt8) {w : World} (hp : Pr w bp r) :
    Calls Try.prog 73 #[.pointer (some ⟨bp, 0, none⟩), .string ⟨#[c]⟩] w fun e w' => e = .returned (.bool (sgn (hdT r) c)) ∧ Below w.heap.size w w' := by
  obtain ⟨l, a, h, q⟩ := hp
  have := synsign_any bp l a ⟨#[c]⟩ w h
  rw [hd_peek q] at this
  exact this
theorem peek_pr {bp : Nat} {r : List T} {w : World} (hp : Pr w bp r) :
    Calls Try.prog 91 #[.pointer (some ⟨bp, 0, none⟩)] w fun e w' => e = .returned (hdT r).val ∧ Below w.heap.size w w' := by
  obtain ⟨l, a, h, q⟩ := hp
  have := peek_any bp l a w h
  rw [hd_peek q] at this
  exact this
theorem take_yes {bp : Nat} {t : T} {r : List T} {w : World} (hp : Pr w bp (t :: r)) :
    Calls Try.prog 71 #[.pointer (some ⟨bp, 0, none⟩), .bool true] w fun e w' => e = .returned t.val ∧ Pr w' bp r ∧ w.grownBy w' (some bp) := by
  obtain ⟨l, a, h, q⟩ := hp
  have hl : a < l.length := by
    rcases Nat.lt_or_ge a l.length with h | h
    · exact h
    · rw [List.drop_eq_nil_of_le h] at q; cases q
  have h2 := take_true bp l a w h hl
  rw [hd_peek q] at h2
  refine h2.mono ?_
  rintro e w' ⟨h3, h4, h5⟩
  exact ⟨h3, ⟨l, a + 1, h4, by rw [← List.drop_drop, q]; rfl⟩, h5⟩
theorem take_no {bp : Nat} {r : List T} {w : World} (hp : Pr w bp r) :
    Calls Try.prog 71 #[.pointer (some ⟨bp, 0, none⟩), .bool false] w fun e w' => e = .panicked (faultC (hdT r)) ∧ Below w.heap.size w w' := by
  obtain ⟨l, a, h, q⟩ := hp
  have := take_false bp l a w h
  rw [hd_peek q] at this
  exact this
end Go.Proofs.Ytjnaeldaajckkaa
