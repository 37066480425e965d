/- The law's own functions: same, known; and TokenScans. -/
import Derived.Test.YtjnaeldaajckkaaTokH
set_option linter.unusedVariables false
set_option linter.unusedSimpArgs false
namespace Go.Proofs.Ytjnaeldaajckkaa
open Go.RowKit Tok

/-- the slice v of n elements, each of so many cells, holds xs -/
def Reads (w : World) (size : Nat) (v : Value) (n : Nat) (xs : List Value) : Prop :=
  xs.length = n * size ∧ n ≤ 9223372036854775807 ∧ ((v = .slice none 0 0 ∧ n = 0) ∨ ∃ g off cap, v = .slice (some ⟨g, off, none⟩) n cap ∧ ∀ j u, xs[j]? = some u → w.cell? ⟨g, off + j, none⟩ = some u)
theorem Reads.of_own {w : World} {b : Nat} {e : TypeId} {size : Nat} {v : Value} {n : Nat} {xs : List Value} (h : w.ownsRow b e size v n xs) : Reads w size v n xs := by
  have hc := fun g => h.cells (g := g)
  obtain ⟨h1, h2⟩ := h
  refine ⟨h1, ?_⟩
  rcases h2 with ⟨rfl, h2⟩ | ⟨g, cap, cur, hv, hg, hh, hn, hm, _⟩
  · exact ⟨by omega, .inl ⟨rfl, h2⟩⟩
  · refine ⟨by unfold maxLen at hm; omega, .inr ⟨g, 0, cap, hv, fun j u hu => ?_⟩⟩
    have := hc g (by rw [hv]; rfl) j u hu
    have hadd : (⟨g, 0, none⟩ : Addr).add j = ⟨g, 0 + j, none⟩ := by unfold Addr.add; split <;> simp_all
    rwa [hadd] at this
theorem cell_up {w w' : World} {a : Addr} {v : Value} (h : w.cell? a = some v) (hb : Below w.heap.size w w') : w'.cell? a = some v := by
  rw [hb.cell (World.block_lt_of_cell? w _ h)]; exact h
theorem Reads.below {w w' : World} {size : Nat} {v : Value} {n : Nat} {xs : List Value} (h : Reads w size v n xs) (hb : Below w.heap.size w w') : Reads w' size v n xs := by
  obtain ⟨h1, h2, h3⟩ := h
  refine ⟨h1, h2, ?_⟩
  rcases h3 with h3 | ⟨g, off, cap, hv, hc⟩
  · exact .inl h3
  · refine .inr ⟨g, off, cap, hv, fun j u hu => ?_⟩
    have h := hc j u hu
    rw [hb.cell (World.block_lt_of_cell? w _ h)]
    exact h

theorem cellsOf_get (l : List T) (i : Nat) (t : T) (h : l[i]? = some t) : (cellsOf l)[i * 4]? = some (.int .i64 t.kind) ∧ (cellsOf l)[i * 4 + 1]? = some (.string ⟨t.text.toArray⟩) ∧ (cellsOf l)[i * 4 + 2]? = some (.int .i64 t.line) ∧ (cellsOf l)[i * 4 + 3]? = some (.int .i64 t.col) := by
  induction l generalizing i with
  | nil => simp at h
  | cons a l ih =>
    cases i with
    | zero => simp at h; subst h; simp [cellsOf, T.cells]
    | succ i =>
      have := ih i (by simpa using h)
      simp only [cellsOf, List.flatMap_cons, T.cells, List.cons_append, List.nil_append] at this ⊢
      have e : ∀ j, (i + 1) * 4 + j = (i * 4 + j) + 1 + 1 + 1 + 1 := fun j => by omega
      refine ⟨?_, ?_, ?_, ?_⟩
      · rw [show (i + 1) * 4 = (i * 4) + 1 + 1 + 1 + 1 by omega]; simpa using this.1
      · rw [e 1]; simpa using this.2.1
      · rw [e 2]; simpa using this.2.2.1
      · rw [e 3]; simpa using this.2.2.2

set_option maxHeartbeats 2000000 in
theorem same_eq (l : List T) (va vb : Value) (w : World) (ha : Reads w 4 va l.length (cellsOf l)) (hb : Reads w 4 vb l.length (cellsOf l)) (hn : l.length ≤ 1000000000) :
    Calls Try.prog 18 #[va, vb] w fun e w' => e = .returned (.bool true) ∧ ∃ n, w' = w.drewN n := by
  obtain ⟨_, _, ha⟩ := ha
  obtain ⟨_, _, hb⟩ := hb
  by_cases h0 : l.length = 0
  · have hla : ∃ a m, va = .slice a 0 m := by rcases ha with ⟨rfl, _⟩ | ⟨g, off, cap, rfl, _⟩; exact ⟨_, _, rfl⟩; exact ⟨_, _, by rw [h0]⟩
    have hlb : ∃ a m, vb = .slice a 0 m := by rcases hb with ⟨rfl, _⟩ | ⟨g, off, cap, rfl, _⟩; exact ⟨_, _, rfl⟩; exact ⟨_, _, by rw [h0]⟩
    obtain ⟨a, m, rfl⟩ := hla
    obtain ⟨b, k, rfl⟩ := hlb
    clear ha hb
    go_enter Try.func18, Try.ntmps18
    go_wp2
    go_loopg [5] 1 (fun n i wr => i = .int .i64 0 ∧ wr = w)
    case atStart => exact ⟨rfl, rfl⟩
    case round =>
      obtain ⟨rfl, rfl⟩ := hrel
      go_wp2
      go_ret
      exact ⟨rfl, 0, rfl⟩
  · rcases ha with ⟨_, ha⟩ | ⟨ga, oa, ca, rfl, ha⟩
    · exact absurd ha h0
    rcases hb with ⟨_, hb⟩ | ⟨gb, ob, cb, rfl, hb⟩
    · exact absurd hb h0
    have HA := Lib.hid ha
    have HB := Lib.hid hb
    clear ha hb
    go_enter Try.func18, Try.ntmps18
    go_wp2
    go_loopg [5] l.length (fun n i wr => ∃ k d : Nat, k ≤ l.length ∧ l.length - k ≤ n ∧ i = .int .i64 k ∧ wr = w.drewN d)
    case atStart => exact ⟨0, 0, by omega, by omega, rfl, rfl⟩
    case round =>
      obtain ⟨k, d, hk, hm, rfl, rfl⟩ := hrel
      by_cases hlt : k < l.length
      · obtain ⟨t, ht⟩ : ∃ t, l[k]? = some t := ⟨l[k], by simp [hlt]⟩
        have hg := cellsOf_get l k t ht
        have a0 := HA.out _ _ hg.1
        have a1 : w.cell? ⟨ga, oa + k * 4 + 1, none⟩ = some (.string ⟨t.text.toArray⟩) := by rw [Nat.add_assoc]; exact HA.out _ _ hg.2.1
        have a2 : w.cell? ⟨ga, oa + k * 4 + 2, none⟩ = some (.int .i64 t.line) := by rw [Nat.add_assoc]; exact HA.out _ _ hg.2.2.1
        have a3 : w.cell? ⟨ga, oa + k * 4 + 3, none⟩ = some (.int .i64 t.col) := by rw [Nat.add_assoc]; exact HA.out _ _ hg.2.2.2
        have b0 := HB.out _ _ hg.1
        have b1 : w.cell? ⟨gb, ob + k * 4 + 1, none⟩ = some (.string ⟨t.text.toArray⟩) := by rw [Nat.add_assoc]; exact HB.out _ _ hg.2.1
        have b2 : w.cell? ⟨gb, ob + k * 4 + 2, none⟩ = some (.int .i64 t.line) := by rw [Nat.add_assoc]; exact HB.out _ _ hg.2.2.1
        have b3 : w.cell? ⟨gb, ob + k * 4 + 3, none⟩ = some (.int .i64 t.col) := by rw [Nat.add_assoc]; exact HB.out _ _ hg.2.2.2
        clear hg ht
        go_wp2
        go_quiet (fail)
        go_wp2
        go_roundg (gk - 1)
        case rel => exact ⟨k + 1, d + nq, by omega, by omega, by go_num, rfl⟩
        case measure => omega
      · go_wp2
        go_ret
        exact ⟨rfl, _, rfl⟩

def Tok.c1 : ByteArray := ⟨#[99, 117, 116, 111, 102, 102, 32, 49, 55, 58, 48, 48, 59]⟩
def Tok.c2 : ByteArray := ⟨#[45, 50, 46, 53, 37]⟩
theorem Tok.scan1 : scanR c1.data.toList = ⟨[⟨1, [99, 117, 116, 111, 102, 102], 1, 1⟩, ⟨4, [49, 55, 58, 48, 48], 1, 8⟩, ⟨5, [59], 1, 13⟩], 0, 0, 0⟩ := by kernel_rfl
theorem Tok.scan2 : scanR c2.data.toList = ⟨[], 1, 5, 100⟩ := by kernel_rfl
theorem scan_c1 (w : World) : Calls Try.prog 15 #[.string ⟨#[99, 117, 116, 111, 102, 102, 32, 49, 55, 58, 48, 48, 59]⟩] w fun e w' => ∃ g cap, e = .returned (.tuple #[.slice (some ⟨g, 0, none⟩) 3 cap, .agg #[.int .i64 0, .int .i64 0], .int .i64 0]) ∧
    w'.cell? ⟨g, 4, none⟩ = some (.int .i64 4) ∧ w'.cell? ⟨g, 7, none⟩ = some (.int .i64 8) ∧ Below w.heap.size w w' := by
  refine (scan_any c1 w (by decide)).mono ?_
  rintro e w' ⟨v, r, hr, rfl, hown, hb⟩
  rw [scan1] at hr
  subst hr
  have hc := fun g => hown.cells (g := g)
  rcases hown.2 with ⟨_, h⟩ | ⟨g, cap, cur, rfl, _⟩
  · cases h
  · refine ⟨g, cap, rfl, ?_, ?_, hb⟩
    · exact hc g rfl 4 (.int .i64 4) rfl
    · exact hc g rfl 7 (.int .i64 8) rfl
theorem scan_c2 (w : World) : Calls Try.prog 15 #[.string ⟨#[45, 50, 46, 53, 37]⟩] w fun e w' => ∃ v, e = .returned (.tuple #[v, .agg #[.int .i64 1, .int .i64 5], .int .i64 100]) ∧ Below w.heap.size w w' := by
  refine (scan_any c2 w (by decide)).mono ?_
  rintro e w' ⟨v, r, hr, rfl, hown, hb⟩
  rw [scan2] at hr
  subst hr
  exact ⟨v, rfl, hb⟩
theorem Tok.minc : minR ⟨#[49, 55, 58, 48, 48]⟩ = (1020, 0) := by kernel_rfl
theorem Tok.nam1 : nameB ⟨#[97, 57]⟩ = true := by kernel_rfl
theorem Tok.nam2 : nameB ⟨#[57, 97]⟩ = false := by kernel_rfl
theorem min_c (w : World) : Calls Try.prog 24 #[.string ⟨#[49, 55, 58, 48, 48]⟩] w fun e w' => e = .returned (.tuple #[.int .i64 1020, .int .i64 0]) ∧ ∃ n, w' = w.drewN n := by
  have := minute_any ⟨#[49, 55, 58, 48, 48]⟩ w (by decide)
  rwa [minc] at this
theorem nam_c1 (w : World) : Calls Try.prog 29 #[.string ⟨#[97, 57]⟩] w fun e w' => e = .returned (.bool true) ∧ Below w.heap.size w w' := by
  have := name_any ⟨#[97, 57]⟩ w
  rwa [nam1] at this
theorem nam_c2 (w : World) : Calls Try.prog 29 #[.string ⟨#[57, 97]⟩] w fun e w' => e = .returned (.bool false) ∧ Below w.heap.size w w' := by
  have := name_any ⟨#[57, 97]⟩ w
  rwa [nam2] at this

set_option maxHeartbeats 2000000 in
theorem known_any (w : World) : Calls Try.prog 17 #[] w fun e w' => e = .returned (.bool true) ∧ Below w.heap.size w w' := by
  go_enter Try.func17, Try.ntmps17
  go_wp2_with fail
  refine (scan_c1 _).mono ?_
  rintro e w1 ⟨g, cap, rfl, k4, k7, hb1⟩
  go_wp2_with fail
  refine (scan_c2 _).mono ?_
  rintro e w2 ⟨v, rfl, hb2⟩
  have m4 := cell_up (cell_alloc k4 _) hb2
  have m7 := cell_up (cell_alloc k7 _) hb2
  clear k4 k7
  have hB : Below w.heap.size w w2 := (hb1.alloc hb1.size _).trans (hb2.mono (by have := hb1.size; simp; omega))
  clear hb1 hb2
  have hs2 := hB.size
  have q4 := cell_alloc m4 (.cells #[.int .i64 1, .int .i64 5] 24)
  have q7 := cell_alloc m7 (.cells #[.int .i64 1, .int .i64 5] 24)
  clear m4 m7
  go_wp2_with fail
  refine (min_c _).mono ?_
  rintro e w3 ⟨rfl, n, rfl⟩
  go_wp2_with (first | (go_at_call_of 29 (Value.string ⟨#[97, 57]⟩); refine (nam_c1 _).mono ?_; rintro e w4 ⟨rfl, hb4⟩) | (go_at_call_of 29 (Value.string ⟨#[57, 97]⟩); refine (nam_c2 _).mono ?_; rintro e w5 ⟨rfl, hb5⟩))
  go_ret
  have hC : Below w.heap.size w ((w2.alloc (.cells #[.int .i64 1, .int .i64 5] 24)).drewN n) := below_drewN (hB.alloc hs2 _) n
  have hs4 := hb4.size
  have hD := hC.trans (hb4.mono hC.size)
  exact ⟨rfl, hD.trans (hb5.mono hD.size)⟩
end Go.Proofs.Ytjnaeldaajckkaa
