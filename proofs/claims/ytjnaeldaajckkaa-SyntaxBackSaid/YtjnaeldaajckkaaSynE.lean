/- The program's parser: head. -/
import Derived.Test.YtjnaeldaajckkaaSynD
import Derived.Test.YtjnaeldaajckkaaSyM
import Derived.BigQuiet
import Derived.Deep.AppendLies
set_option linter.unusedVariables false
set_option linter.unusedSimpArgs false
namespace Go.Proofs.Ytjnaeldaajckkaa
open Go.RowKit Tok Syn

theorem headP_no1 {t : T} {r : List T} (h : wrd (hdT r) = false) : headP (t :: r) = .error r := by
  cases r with
  | nil => rfl
  | cons n r2 => simp only [hdT, List.headD_cons] at h; simp [headP, h]
theorem headP_no2 {t n : T} {r : List T} (h : wrd n = true) (h2 : sgn (hdT r) 123 = false) : headP (t :: n :: r) = .error r := by
  cases r with
  | nil => simp [headP, h]
  | cons b r2 => simp only [hdT, List.headD_cons] at h2; simp [headP, h, h2]
theorem headP_yes {t n b : T} {r : List T} (h : wrd n = true) (h2 : sgn b 123 = true) : headP (t :: n :: b :: r) = .ok ((n.text, t.line, t.col), r) := by simp [headP, h, h2]
theorem grownBy_thenB {a b c : World} {r : Option Nat} (h : a.grownBy b r) (hb : Below a.heap.size b c) : a.grownBy c r :=
  ⟨hb.os.trans h.os, hb.tape.trans h.tape, hb.output.trans h.output, Nat.le_trans h.size hb.size, fun k hk hr => (hb.block k hk).trans (h.block k hk hr)⟩
theorem fld_pos (k : Int) (x : ByteArray) (l c : Int) (W : World) : (Instr.field 38 (.agg #[.int .i64 k, .string x, .int .i64 l, .int .i64 c]) 2).run Try.prog W = .ok (.agg #[.int .i64 l, .int .i64 c]) W := by kernel_rfl
theorem fld_text (k : Int) (x : ByteArray) (l c : Int) (W : World) : (Instr.field 38 (.agg #[.int .i64 k, .string x, .int .i64 l, .int .i64 c]) 1).run Try.prog W = .ok (.string x) W := by kernel_rfl
theorem wrd_no : wrd (hdT []) = false := rfl
theorem sgn_no (c : UInt8) : sgn (hdT []) c = false := rfl
/-- what a part of the parser hands back: its result, or the panic -/
def OutP {α : Type} (x : Except (List T) (α × List T)) (bp : Nat) (w : World) (e : Ending) (w' : World) (R : α → Ending → World → Prop) : Prop :=
  w.grownBy w' (some bp) ∧ match x with
  | .error s => e = .panicked (faultC (hdT s))
  | .ok (a, r) => R a e w' ∧ Pr w' bp r
set_option maxRecDepth 100000 in
set_option maxHeartbeats 4000000 in
theorem head_any {bp : Nat} {t : T} {r : List T} {w : World} (hp : Pr w bp (t :: r)) :
    Calls Try.prog 72 #[.pointer (some ⟨bp, 0, none⟩)] w fun e w' =>
      OutP (headP (t :: r)) bp w e w' fun h e _ => e = .returned (.tuple #[strV h.1, .agg #[.int .i64 h.2.1, .int .i64 h.2.2]]) := by
  have hbp := hp.lt
  have hB0 := (Below.refl w.heap.size w).alloc (Nat.le_refl _) (.cells #[.int .i64 0, .int .i64 0] 24)
  have HT := Lib.hid (hp.above hB0 hbp)
  have HB0 := Lib.hid hB0
  clear hp hB0
  have hF2 := fld_pos
  have hF1 := fld_text
  go_enter Try.func72, Try.ntmps72
  go_wp2_with fail
  refine (take_yes HT.out).mono ?_
  rintro e w1 ⟨rfl, hp1, hg1⟩
  have hs1 := hg1.size
  simp at hs1
  have HP2 := Lib.hid (hp1.below ((Below.refl w1.heap.size w1).alloc (Nat.le_refl _) (.cells #[.int .i64 t.line, .int .i64 t.col] 24)))
  have HG1 := Lib.hid hg1
  clear hp1 hg1
  simp only [Tok.T.val]
  go_wp2_with fail
  refine (word_pr HP2.out).mono ?_
  rintro e w2 ⟨rfl, hb2⟩
  have HP3 := Lib.hid (HP2.out.below hb2)
  have HB2 := Lib.hid hb2
  clear hb2
  have hB1 := ((Below.refl w1.heap.size w1).alloc (Nat.le_refl _) (.cells #[.int .i64 t.line, .int .i64 t.col] 24)).trans (HB2.out.mono (by simp))
  have hg02 := grownBy_trans HG1.out (grownBy_below hB1 (some bp))
  have HG2 := Lib.hid (grownBy_trans (grownBy_below HB0.out (some bp)) hg02)
  have hs2 := HB2.out.size
  simp at hs2
  have c0 := cell_up (cells_new w1 [.int .i64 t.line, .int .i64 t.col] 24 0 _ rfl) HB2.out
  have c1 := cell_up (cells_new w1 [.int .i64 t.line, .int .i64 t.col] 24 1 _ rfl) HB2.out
  have z0 := hg02.cell (cells_new w [.int .i64 0, .int .i64 0] 24 0 _ rfl) (by simp [Addr.add]; omega)
  have z1 := hg02.cell (cells_new w [.int .i64 0, .int .i64 0] 24 1 _ rfl) (by simp [Addr.add]; omega)
  have f0 : ∀ o, w2.frozen? ⟨w.heap.size, o, none⟩ = false := fun o => by rw [hg02.frozen_far ⟨w.heap.size, o, none⟩ (by simp) (by simp; omega)]; simp
  simp only [Addr.add, reduceIte, Nat.reduceEqDiff, Nat.one_ne_zero, Nat.zero_add] at c0 c1 z0 z1
  clear hB1 hg02
  cases hn : wrd (hdT r)
  · clear c0 c1 z0 z1 f0
    go_wp2_with fail
    refine (take_no HP3.out).mono ?_
    rintro e w3 ⟨rfl, hb3⟩
    go_wp2
    exact ⟨rfl, grownBy_trans HG2.out (grownBy_below hb3 _), by rw [headP_no1 hn]⟩
  · cases r with
    | nil => rw [wrd_no] at hn; cases hn
    | cons n r =>
      rw [show hdT (n :: r) = n from rfl] at hn ⊢
      go_wp2_with fail
      refine (take_yes HP3.out).mono ?_
      rintro e w3 ⟨rfl, hp3, hg3⟩
      have HP4 := Lib.hid hp3
      have HG3 := Lib.hid (grownBy_trans HG2.out hg3)
      have hs3 := hg3.size
      have hn1 : ¬ w1.heap.size = bp := by omega
      have hn2 : ¬ w.heap.size = bp := by omega
      have c0 := hg3.cell c0 (by simpa using hn1)
      have c1 := hg3.cell c1 (by simpa using hn1)
      have z0 := hg3.cell z0 (by simpa using hn2)
      have z1 := hg3.cell z1 (by simpa using hn2)
      have f0 : ∀ o, w3.frozen? ⟨w.heap.size, o, none⟩ = false := fun o => by rw [hg3.frozen_far ⟨w.heap.size, o, none⟩ (by show w.heap.size < _; omega) (by simpa using hn2)]; exact f0 o
      clear hp3 hg3
      simp only [Tok.T.val]
      go_wp2_with fail
      refine (sign_pr 123 HP4.out).mono ?_
      rintro e w4 ⟨rfl, hb4⟩
      have HP5 := Lib.hid (HP4.out.below hb4)
      have HG4 := Lib.hid (grownBy_trans HG3.out (grownBy_below hb4 _))
      have hs4 := hb4.size
      have c0 := cell_up c0 hb4
      have c1 := cell_up c1 hb4
      have z0 := cell_up z0 hb4
      have z1 := cell_up z1 hb4
      have f0 : ∀ o, w4.frozen? ⟨w.heap.size, o, none⟩ = false := fun o => by rw [hb4.frozen (p := ⟨w.heap.size, o, none⟩) (by show w.heap.size < _; omega)]; exact f0 o
      clear hb4
      cases hg : sgn (hdT r) 123
      · clear c0 c1 z0 z1 f0
        go_wp2_with fail
        refine (take_no HP5.out).mono ?_
        rintro e w5 ⟨rfl, hb5⟩
        go_wp2
        exact ⟨rfl, grownBy_trans HG4.out (grownBy_below hb5 _), by rw [headP_no2 hn hg]⟩
      · cases r with
        | nil => rw [sgn_no] at hg; cases hg
        | cons b r =>
          rw [show hdT (b :: r) = b from rfl] at hg
          go_wp2_with fail
          refine (take_yes HP5.out).mono ?_
          rintro e w5 ⟨rfl, hp5, hg5⟩
          have HP6 := Lib.hid hp5
          have HG5 := Lib.hid (grownBy_trans HG4.out hg5)
          have hs5 := hg5.size
          have c0 := hg5.cell c0 (by simpa using hn1)
          have c1 := hg5.cell c1 (by simpa using hn1)
          have z0 := hg5.cell z0 (by simpa using hn2)
          have z1 := hg5.cell z1 (by simpa using hn2)
          have f0 : ∀ o, w5.frozen? ⟨w.heap.size, o, none⟩ = false := fun o => by rw [hg5.frozen_far ⟨w.heap.size, o, none⟩ (by show w.heap.size < _; omega) (by simpa using hn2)]; exact f0 o
          clear hp5 hg5
          have f1 := f0 0
          have f2 := f0 1
          have hn3 : ¬ w1.heap.size = w.heap.size := by omega
          go_wp2
          go_region
          go_wp2
          have hBel := below_drewN (((Below.refl w.heap.size w5).setCell (p := ⟨w.heap.size, 0, none⟩) (Nat.le_refl _) (.int .i64 t.line)).setCell (p := ⟨w.heap.size, 1, none⟩) (Nat.le_refl _) (.int .i64 t.col))
          refine bodyPost_ret (v := .tuple #[strV n.text, .agg #[.int .i64 t.line, .int .i64 t.col]]) (by simp [results, Try.results72, go_sem, strV, z0, z1]) rfl ?_
          refine ⟨grownBy_thenB HG5.out (hBel _), ?_⟩
          rw [headP_yes hn hg]
          exact ⟨rfl, HP6.out.above (hBel _) hbp⟩
end Go.Proofs.Ytjnaeldaajckkaa
