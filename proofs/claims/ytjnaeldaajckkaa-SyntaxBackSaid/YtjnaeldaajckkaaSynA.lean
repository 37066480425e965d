/- The program's parser: the look at a token. -/
import Derived.Test.YtjnaeldaajckkaaTokX
import Derived.BigQuiet
set_option linter.unusedVariables false
set_option linter.unusedSimpArgs false
namespace Go.Proofs.Ytjnaeldaajckkaa
open Go.RowKit Tok

/-- a parser (or the reference's) in memory: its tokens and its place -/
def IsParser (w : World) (bp : Nat) (l : List T) (at_ : Nat) : Prop := ∃ v, w.cell? ⟨bp, 0, none⟩ = some v ∧ w.cell? ⟨bp, 1, none⟩ = some (.int .i64 at_) ∧ (∀ o, w.frozen? ⟨bp, o, none⟩ = false) ∧ Reads w 4 v l.length (cellsOf l) ∧ at_ ≤ l.length ∧ l.length ≤ 65536 ∧ ∀ g off n cap, v = .slice (some ⟨g, off, none⟩) n cap → g < bp
def Tok.T.val (t : T) : Value := .agg #[.int .i64 t.kind, .string ⟨t.text.toArray⟩, .int .i64 t.line, .int .i64 t.col]
def noT : T := ⟨0, [], 0, 0⟩
def peekT (l : List T) (i : Nat) : T := (l[i]?).getD noT
set_option maxRecDepth 100000 in
set_option maxHeartbeats 4000000 in
theorem peek_any (bp : Nat) (l : List T) (at_ : Nat) (w : World) (hp : IsParser w bp l at_) :
    Calls Try.prog 91 #[.pointer (some ⟨bp, 0, none⟩)] w fun e w' => e = .returned (peekT l at_).val ∧ Below w.heap.size w w' := by
  obtain ⟨v, h0, h1, h2, h3, h4, h5, h6⟩ := hp
  clear h6
  have hB := (Below.refl w.heap.size w).alloc (Nat.le_refl _) (.cells #[.int .i64 0, .string ⟨#[]⟩, .int .i64 0, .int .i64 0] 38)
  have c0 := cell_alloc h0 (.cells #[.int .i64 0, .string ⟨#[]⟩, .int .i64 0, .int .i64 0] 38)
  have c1 := cell_alloc h1 (.cells #[.int .i64 0, .string ⟨#[]⟩, .int .i64 0, .int .i64 0] 38)
  by_cases hlt : at_ < l.length
  · obtain ⟨t, ht⟩ : ∃ t, l[at_]? = some t := ⟨l[at_], by simp [hlt]⟩
    obtain ⟨g, off, cap, rfl, hc⟩ := h3.some (by omega)
    have q := cellsOf_get _ at_ t ht
    have a0 := cell_alloc (hc _ _ q.1) (.cells #[.int .i64 0, .string ⟨#[]⟩, .int .i64 0, .int .i64 0] 38)
    have a1 := cell_alloc (hc _ _ q.2.1) (.cells #[.int .i64 0, .string ⟨#[]⟩, .int .i64 0, .int .i64 0] 38)
    have a2 := cell_alloc (hc _ _ q.2.2.1) (.cells #[.int .i64 0, .string ⟨#[]⟩, .int .i64 0, .int .i64 0] 38)
    have a3 := cell_alloc (hc _ _ q.2.2.2) (.cells #[.int .i64 0, .string ⟨#[]⟩, .int .i64 0, .int .i64 0] 38)
    rw [← Nat.add_assoc] at a1 a2 a3
    have hpk : peekT l at_ = t := by unfold peekT; rw [ht]; rfl
    have HPK := Lib.hid hpk
    have hne : ¬ at_ = l.length := by omega
    clear hc q ht h2 h3 hpk h0 h1
    go_enter Try.func91, Try.ntmps91
    go_wp2
    go_quiet (fail)
    go_wp2
    go_region
    go_wp2
    refine bodyPost_ret (v := t.val) (by simp [results, Try.results91, go_sem, T.val]) rfl ?_
    exact ⟨by rw [HPK.out], ((((below_drewN hB _).setCell (Nat.le_refl _) _).setCell (Nat.le_refl _) _).setCell (Nat.le_refl _) _).setCell (Nat.le_refl _) _⟩
  · have hpk : peekT l at_ = noT := by unfold peekT; rw [List.getElem?_eq_none (by omega)]; rfl
    have HPK := Lib.hid hpk
    have he : at_ = l.length := by omega
    obtain ⟨a, cap, rfl⟩ : ∃ a cap, v = .slice a l.length cap := by
      rcases h3.2.2 with ⟨h, h6⟩ | ⟨g, off, cap, h, _⟩
      · exact ⟨_, _, by rw [h, h6]⟩
      · exact ⟨_, _, h⟩
    subst he
    clear h2 h3 hpk h0 h1
    go_enter Try.func91, Try.ntmps91
    go_wp2
    go_quiet (fail)
    go_wp2
    refine bodyPost_ret (v := noT.val) (by simp [results, Try.results91, go_sem, T.val, noT]) rfl ?_
    exact ⟨by rw [HPK.out], ((((below_drewN hB _).setCell (Nat.le_refl _) _).setCell (Nat.le_refl _) _).setCell (Nat.le_refl _) _).setCell (Nat.le_refl _) _⟩
end Go.Proofs.Ytjnaeldaajckkaa
