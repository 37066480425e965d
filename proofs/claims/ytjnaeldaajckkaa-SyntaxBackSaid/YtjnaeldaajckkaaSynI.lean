/- The program's parser: Parse's deferred closure; Parse. -/
import Derived.Test.YtjnaeldaajckkaaSynH
import Derived.Recover
import Derived.Defers
set_option linter.unusedVariables false
set_option linter.unusedSimpArgs false
namespace Go.Proofs.Ytjnaeldaajckkaa
open Go.RowKit Tok Syn

theorem frame19 (a b c x y : Value) : #[a, b, c] ++ ((Array.replicate 16 undef).setIfInBounds 3 x).setIfInBounds 0 y = #[a, b, c, y, undef, undef, x, undef, undef, undef, undef, undef, undef, undef, undef, undef, undef, undef, undef] := by rfl
set_option maxRecDepth 100000 in
set_option maxHeartbeats 4000000 in
theorem catch_panicking (b0 b1 b2 B : Nat) (t : T) (older : List PanicEntry) {L0 L1 L2 : List Value} (w : World) (h0 : StA w b0 L0) (h1 : StA w b1 L1) (h2 : StA w b2 L2) (l0 : L0.length = 1) (l1 : L1.length = 2) (l2 : L2.length = 1) (h01 : b0 < b1) (h12 : b1 < b2) (hB : B ≤ b0) :
    CallsD Try.prog 50 #[.pointer (some ⟨b0, 0, none⟩), .pointer (some ⟨b1, 0, none⟩), .pointer (some ⟨b2, 0, none⟩)] (.panicking ({ v := .iface 67 (.agg #[.int .i64 t.line, .int .i64 t.col]), recovered := false } :: older)) w fun e u' w' =>
      e = .returned (.tuple #[]) ∧ u' = .panicking ({ v := .iface 67 (.agg #[.int .i64 t.line, .int .i64 t.col]), recovered := true } :: older) ∧
        StA w' b0 [.slice none 0 0] ∧ StA w' b1 [.int .i64 t.line, .int .i64 t.col] ∧ StA w' b2 [.int .i64 110] ∧ Below B w w' := by
  obtain ⟨x0, rfl⟩ : ∃ x, L0 = [x] := List.length_eq_one_iff.1 l0
  obtain ⟨x2, rfl⟩ : ∃ x, L2 = [x] := List.length_eq_one_iff.1 l2
  obtain ⟨y0, y1, rfl⟩ : ∃ x y, L1 = [x, y] := match L1, l1 with | [a, b], _ => ⟨a, b, rfl⟩
  have c0 := h0.c 0 _ rfl
  have c1 := h1.c 0 _ rfl
  have c2 := h1.c 1 _ rfl
  have c3 := h2.c 0 _ rfl
  have f0 := h0.f 0
  have f1 := h1.f 0
  have f2 := h1.f 1
  have f3 := h2.f 0
  have n1 := h0.lt
  have n2 := h1.lt
  have n3 := h2.lt
  have hta : ∀ (a b : Int) (W : World), (Instr.typeAssert (.iface 67 (.agg #[.int .i64 a, .int .i64 b])) 20 67 true).run Try.prog W = .ok (.tuple #[.agg #[.int .i64 a, .int .i64 b], .bool true]) W := by intro a b W; kernel_rfl
  refine callsD_of_wpS Try.func50 rfl fun c₀ cs hu => ?_
  apply wpS_seq
  apply wpS_region
  simp [wpOpsS, go_sem, recoverD, hu, Try.ntmps50, Exit.thenS]
  rw [frame19]
  refine wpS_of_wp ?_
  have n4 : ¬ b0 = w.heap.size := by omega
  have n5 : ¬ b1 = w.heap.size := by omega
  have n6 : ¬ b2 = w.heap.size := by omega
  have n7 : ¬ w.heap.size = b0 := by omega
  have n8 : ¬ w.heap.size = b1 := by omega
  have n9 : ¬ w.heap.size = b2 := by omega
  have n10 : ¬ b1 = b0 := by omega
  have n11 : ¬ b2 = b0 := by omega
  have n12 : ¬ b2 = b1 := by omega
  have H0 := Lib.hid h0
  have H1 := Lib.hid h1
  have H2 := Lib.hid h2
  clear h0 h1 h2
  go_wp2
  go_region
  go_wp2
  have hBl : Below w.heap.size w (w.alloc (.cells #[.int .i64 t.line, .int .i64 t.col] 67)) := (Below.refl _ _).alloc (Nat.le_refl _) _
  have e1 := (((H0.out.set 0 (.slice none 0 0) (by simp)).far ⟨b1, 0, none⟩ (.int .i64 t.line) n10).far ⟨b1, 1, none⟩ (.int .i64 t.col) n10).far ⟨b2, 0, none⟩ (.int .i64 110) n11
  have e2 := (((H1.out.far ⟨b0, 0, none⟩ (.slice none 0 0) (fun e => n10 e.symm)).set 0 (.int .i64 t.line) (by simp)).set 1 (.int .i64 t.col) (by simp)).far ⟨b2, 0, none⟩ (.int .i64 110) n12
  have e3 := (((H2.out.far ⟨b0, 0, none⟩ (.slice none 0 0) (fun e => n11 e.symm)).far ⟨b1, 0, none⟩ (.int .i64 t.line) (fun e => n12 e.symm)).far ⟨b1, 1, none⟩ (.int .i64 t.col) (fun e => n12 e.symm)).set 0 (.int .i64 110) (by simp)
  have e4 := (((((Below.refl B w).setCell (p := ⟨b0, 0, none⟩) hB (.slice none 0 0)).setCell (p := ⟨b1, 0, none⟩) (by show B ≤ b1; omega) (.int .i64 t.line)).setCell (p := ⟨b1, 1, none⟩) (by show B ≤ b1; omega) (.int .i64 t.col)).setCell (p := ⟨b2, 0, none⟩) (by show B ≤ b2; omega) (.int .i64 110)).alloc (by simp [World.setCell]; omega) (.cells #[.int .i64 t.line, .int .i64 t.col] 67)
  have e5 := (Below.refl _ (((((w.setCell ⟨b0, 0, none⟩ (.slice none 0 0)).setCell ⟨b1, 0, none⟩ (.int .i64 t.line)).setCell ⟨b1, 1, none⟩ (.int .i64 t.col)).setCell ⟨b2, 0, none⟩ (.int .i64 110)))).alloc (Nat.le_refl _) (.cells #[.int .i64 t.line, .int .i64 t.col] 67)
  have HK := And.intro (e1.below e5.drew) (And.intro (e2.below e5.drew) (And.intro (e3.below e5.drew) e4.drew))
  simp [bodyPostS, results, Try.results50]
  exact HK
set_option maxRecDepth 100000 in
set_option maxHeartbeats 4000000 in
theorem catch_idle (p0 p1 p2 : Option Addr) (w : World) :
    CallsD Try.prog 50 #[.pointer p0, .pointer p1, .pointer p2] .returning w fun e u' w' => e = .returned (.tuple #[]) ∧ u' = .returning ∧ w' = w := by
  refine callsD_of_wpS Try.func50 rfl fun c₀ cs hu => ?_
  apply wpS_seq
  apply wpS_region
  simp [wpOpsS, go_sem, recoverD, hu, Try.ntmps50, Exit.thenS]
  rw [frame19]
  refine wpS_of_wp ?_
  go_wp2
  cases c₀
  simp_all [bodyPostS, results, Try.results50]
end Go.Proofs.Ytjnaeldaajckkaa
