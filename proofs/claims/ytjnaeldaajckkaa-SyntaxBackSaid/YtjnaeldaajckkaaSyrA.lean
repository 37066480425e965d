/- The reference's parser: token, sign, word, is. -/
import Derived.Test.YtjnaeldaajckkaaSynL
import Derived.BigQuiet
set_option linter.unusedVariables false
set_option linter.unusedSimpArgs false
namespace Go.Proofs.Ytjnaeldaajckkaa
open Go.RowKit Tok Syn

theorem reads_up {w w' : World} {size : Nat} {v : Value} {n : Nat} {xs : List Value} (h : Reads w size v n xs) (hk : ∀ g off m cap, v = .slice (some ⟨g, off, none⟩) m cap → w'.heap[g]? = w.heap[g]?) : Reads w' size v n xs := by
  obtain ⟨h1, h2, h3⟩ := h
  refine ⟨h1, h2, ?_⟩
  rcases h3 with h3 | ⟨g, off, cap, hv, hc⟩
  · exact .inl h3
  · exact .inr ⟨g, off, cap, hv, fun j u hu => by rw [World.cell?_of_block (a := ⟨g, off + j, none⟩) (hk g off n cap hv)]; exact hc j u hu⟩
/-- the reference's parser in memory: tv its tokens L, r those that are left -/
structure RP (w : World) (bp : Nat) (tv : Value) (L r : List T) (bad : Bool) : Prop where
  c0 : w.cell? ⟨bp, 0, none⟩ = some tv
  c1 : w.cell? ⟨bp, 1, none⟩ = some (.int .i64 ((L.length - r.length : Nat) : Int))
  c2 : w.cell? ⟨bp, 2, none⟩ = some (.bool bad)
  f : ∀ o, w.frozen? ⟨bp, o, none⟩ = false
  rd : Reads w 4 tv L.length (cellsOf L)
  su : r <:+ L
  len : L.length ≤ 65536
  tb : ∀ g off n cap, tv = .slice (some ⟨g, off, none⟩) n cap → g < bp
  lt : bp < w.heap.size
section
variable {w w' : World} {bp : Nat} {tv : Value} {L r : List T} {bad : Bool}
theorem RP.above {B : Nat} (h : RP w bp tv L r bad) (hb : Below B w w') (hB : bp < B) : RP w' bp tv L r bad where
  c0 := by rw [hb.cell (p := ⟨bp, 0, none⟩) hB]; exact h.c0
  c1 := by rw [hb.cell (p := ⟨bp, 1, none⟩) hB]; exact h.c1
  c2 := by rw [hb.cell (p := ⟨bp, 2, none⟩) hB]; exact h.c2
  f o := by rw [hb.frozen (p := ⟨bp, o, none⟩) hB]; exact h.f o
  rd := reads_up h.rd fun g off m cap hv => hb.block g (Nat.lt_trans (h.tb g off m cap hv) hB)
  su := h.su
  len := h.len
  tb := h.tb
  lt := Nat.lt_of_lt_of_le h.lt hb.size
theorem RP.below (h : RP w bp tv L r bad) (hb : Below w.heap.size w w') : RP w' bp tv L r bad := h.above hb h.lt
theorem RP.rl (h : RP w bp tv L r bad) : r.length ≤ L.length := h.su.length_le
/-- the mark is set -/
theorem RP.mark (h : RP w bp tv L r bad) : RP (w.setCell ⟨bp, 2, none⟩ (.bool true)) bp tv L r true where
  c0 := by rw [World.cell?_setCell_other _ _ _ _ (by simp)]; exact h.c0
  c1 := by rw [World.cell?_setCell_other _ _ _ _ (by simp)]; exact h.c1
  c2 := World.cell?_setCell_same _ _ _ h.c2
  f o := by simp only [World.frozen?_setCell]; exact h.f o
  rd := reads_up h.rd fun g off m cap hv => Below.heap_setCell _ _ _ _ (by have := h.tb g off m cap hv; show g ≠ bp; omega)
  su := h.su
  len := h.len
  tb := h.tb
  lt := by simpa [World.setCell] using h.lt
/-- a token is taken -/
theorem RP.step {t : T} (h : RP w bp tv L (t :: r) bad) : RP (w.setCell ⟨bp, 1, none⟩ (.int .i64 ((L.length - (t :: r).length : Nat) + 1 : Int))) bp tv L r bad where
  c0 := by rw [World.cell?_setCell_other _ _ _ _ (by simp)]; exact h.c0
  c1 := by
    have := h.rl
    rw [List.length_cons] at this
    have e : ((L.length - (t :: r).length : Nat) : Int) + 1 = ((L.length - r.length : Nat) : Int) := by rw [List.length_cons]; omega
    rw [e]
    exact World.cell?_setCell_same _ _ _ h.c1
  c2 := by rw [World.cell?_setCell_other _ _ _ _ (by simp)]; exact h.c2
  f o := by simp only [World.frozen?_setCell]; exact h.f o
  rd := reads_up h.rd fun g off m cap hv => Below.heap_setCell _ _ _ _ (by have := h.tb g off m cap hv; show g ≠ bp; omega)
  su := (List.suffix_cons t r).trans h.su
  len := h.len
  tb := h.tb
  lt := by simpa [World.setCell] using h.lt
end
/-- the token at which the parser is -/
def tokT (r : List T) (bad : Bool) : T := if bad then noT else hdT r
theorem suff_get {L r : List T} (h : r <:+ L) : L[L.length - r.length]? = r.head? := by
  have := suff_drop h
  rw [← List.head?_drop, this]
set_option maxRecDepth 100000 in
set_option maxHeartbeats 4000000 in
theorem rtok_any {w : World} {bp : Nat} {tv : Value} {L r : List T} {bad : Bool} (hp : RP w bp tv L r bad) :
    Calls Try.prog 76 #[.pointer (some ⟨bp, 0, none⟩)] w fun e w' => e = .returned (tokT r bad).val ∧ Below w.heap.size w w' := by
  obtain ⟨h0, h1, h2, hf, h3, hsu, h5, h6, hlt⟩ := hp
  have hB := (Below.refl w.heap.size w).alloc (Nat.le_refl _) (.cells #[.int .i64 0, .string ⟨#[]⟩, .int .i64 0, .int .i64 0] 38)
  have c0 := cell_alloc h0 (.cells #[.int .i64 0, .string ⟨#[]⟩, .int .i64 0, .int .i64 0] 38)
  have c1 := cell_alloc h1 (.cells #[.int .i64 0, .string ⟨#[]⟩, .int .i64 0, .int .i64 0] 38)
  have c2 := cell_alloc h2 (.cells #[.int .i64 0, .string ⟨#[]⟩, .int .i64 0, .int .i64 0] 38)
  have hrl := hsu.length_le
  obtain ⟨at_, hat⟩ : ∃ a, a = L.length - r.length := ⟨_, rfl⟩
  rw [← hat] at c1
  have hg := suff_get hsu
  rw [← hat] at hg
  cases bad
  · by_cases hl : at_ < L.length
    · obtain ⟨t, ht⟩ : ∃ t, L[at_]? = some t := ⟨L[at_], by simp [hl]⟩
      obtain ⟨g, off, cap, rfl, hc⟩ := h3.some (by omega)
      have q := cellsOf_get _ at_ t ht
      have a0 := cell_alloc (hc _ _ q.1) (.cells #[.int .i64 0, .string ⟨#[]⟩, .int .i64 0, .int .i64 0] 38)
      have a1 := cell_alloc (hc _ _ q.2.1) (.cells #[.int .i64 0, .string ⟨#[]⟩, .int .i64 0, .int .i64 0] 38)
      have a2 := cell_alloc (hc _ _ q.2.2.1) (.cells #[.int .i64 0, .string ⟨#[]⟩, .int .i64 0, .int .i64 0] 38)
      have a3 := cell_alloc (hc _ _ q.2.2.2) (.cells #[.int .i64 0, .string ⟨#[]⟩, .int .i64 0, .int .i64 0] 38)
      rw [← Nat.add_assoc] at a1 a2 a3
      have hpk : tokT r false = t := by
        rw [ht] at hg
        cases r with
        | nil => cases hg
        | cons x r => cases hg; rfl
      have HPK := Lib.hid hpk
      clear hc q ht h2 h3 hpk h0 h1 hf h6 hsu hg hrl hat
      go_enter Try.func76, Try.ntmps76
      go_wp2
      go_quiet (fail)
      go_wp2
      go_region
      go_wp2
      refine bodyPost_ret (v := t.val) (by simp [results, Try.results76, go_sem, T.val]) rfl ?_
      exact ⟨by rw [HPK.out], ((((below_drewN hB _).setCell (Nat.le_refl _) _).setCell (Nat.le_refl _) _).setCell (Nat.le_refl _) _).setCell (Nat.le_refl _) _⟩
    · have hpk : tokT r false = noT := by
        cases r with
        | nil => rfl
        | cons x r => rw [List.length_cons] at hrl; rw [List.length_cons] at hat; omega
      have HPK := Lib.hid hpk
      have he : at_ = L.length := by omega
      obtain ⟨a, cap, rfl⟩ : ∃ a cap, tv = .slice a L.length cap := by
        rcases h3.2.2 with ⟨h, h6⟩ | ⟨g, off, cap, h, _⟩
        · exact ⟨_, _, by rw [h, h6]⟩
        · exact ⟨_, _, h⟩
      clear h2 h3 hpk h0 h1 hf h6 hsu hg hrl hat
      subst he
      go_enter Try.func76, Try.ntmps76
      go_wp2
      go_quiet (fail)
      go_wp2
      refine bodyPost_ret (v := noT.val) (by simp [results, Try.results76, go_sem, T.val, noT]) rfl ?_
      exact ⟨by rw [HPK.out], ((((below_drewN hB _).setCell (Nat.le_refl _) _).setCell (Nat.le_refl _) _).setCell (Nat.le_refl _) _).setCell (Nat.le_refl _) _⟩
  · clear h2 h3 h0 h1 hf h6 hsu hg hrl hat
    go_enter Try.func76, Try.ntmps76
    go_wp2
    go_quiet (fail)
    go_wp2
    refine bodyPost_ret (v := noT.val) (by simp [results, Try.results76, go_sem, T.val, noT]) rfl ?_
    exact ⟨rfl, ((((below_drewN hB _).setCell (Nat.le_refl _) _).setCell (Nat.le_refl _) _).setCell (Nat.le_refl _) _).setCell (Nat.le_refl _) _⟩
end Go.Proofs.Ytjnaeldaajckkaa
