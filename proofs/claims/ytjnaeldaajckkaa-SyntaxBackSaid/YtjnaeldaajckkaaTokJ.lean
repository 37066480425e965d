/- TokenScans, walked: for every text the law returns true. -/
import Derived.Test.YtjnaeldaajckkaaTokI
set_option linter.unusedVariables false
set_option linter.unusedSimpArgs false
namespace Go.Proofs.Ytjnaeldaajckkaa
open Go.RowKit Tok

namespace Tok
theorem scanF_len : ∀ (f : Nat) (l : List UInt8) (ln col : Nat) (acc : List T), (scanF f l ln col acc).toks.length ≤ acc.length + l.length
  | 0, _, _, _, acc => by simp [scanF]
  | f + 1, [], _, _, acc => by simp [scanF]
  | f + 1, c :: t, ln, col, acc => by
    rw [scanF]
    split
    · have := scanF_len f t (ln + 1) 1 acc; simp; omega
    · split
      · have := scanF_len f t ln (col + 1) acc; simp; omega
      · split
        · have := scanF_len f ((c :: t).drop (cmt (c :: t))) ln (col + cmt (c :: t)) acc
          have h2 := cmt_le (c :: t)
          simp only [List.length_drop] at this
          omega
        · split
          · simp
          · have := scanF_len f ((c :: t).drop (lenL (c :: t))) ln (col + lenL (c :: t)) (acc ++ [⟨kindL (c :: t), (c :: t).take (lenL (c :: t)), ln, col⟩])
            simp only [List.length_drop, List.length_append, List.length_cons, List.length_nil] at this ⊢
            omega
theorem scanR_len (l : List UInt8) : (scanR l).toks.length ≤ 65536 := by
  unfold scanR
  split
  · simp
  · have := scanF_len (l.length + 1) l 1 1 []; simp at this; omega
end Tok

set_option maxHeartbeats 2000000 in
theorem scans_any (s : ByteArray) (w : World) (hs : s.size ≤ maxLen) :
    Calls Try.prog 3 #[.string s] w fun e w' => e = .returned (.bool true) ∧ Below w.heap.size w w' := by
  have hl := scanR_len s.data.toList
  have HR : Hid (∃ r, r = scanR s.data.toList) := ⟨_, rfl⟩
  go_enter Try.func3, Try.ntmps3
  go_wp2_with fail
  refine (scan_any _ _ hs).mono ?_
  rintro e w1 ⟨va, r, hr, rfl, hown1, hb1⟩
  rw [← hr] at hl
  have HR1 := Lib.hid hr
  clear hr
  have hA := Reads.of_own hown1
  clear hown1
  go_wp2_with fail
  refine (rscan_any _ _ hs).mono ?_
  rintro e w2 ⟨vb, r2, hr2, rfl, hown2, hb2⟩
  obtain rfl : r2 = r := hr2.trans HR1.out.symm
  clear hr2
  have hB := Reads.of_own hown2
  clear hown2
  have a0 : w2.cell? ⟨w1.heap.size, 0, none⟩ = some (.int .i64 r2.pl) := cell_up (w := w1.alloc (.cells #[.int .i64 r2.pl, .int .i64 r2.pc] 24)) (by go_cell) hb2
  have a1 : w2.cell? ⟨w1.heap.size, 1, none⟩ = some (.int .i64 r2.pc) := cell_up (w := w1.alloc (.cells #[.int .i64 r2.pl, .int .i64 r2.pc] 24)) (by go_cell) hb2
  have hA2 := (hA.below ((Below.refl _ _).alloc (Nat.le_refl _) (.cells #[.int .i64 r2.pl, .int .i64 r2.pc] 24))).below hb2
  have hW : Below w.heap.size w w2 := (hb1.alloc hb1.size _).trans (hb2.mono (by have := hb1.size; simp; omega))
  have HA := Lib.hid hA2
  have HB := Lib.hid hB
  clear hA hA2 hB hb1 hb2
  go_wp2_with fail
  refine (known_any _).mono ?_
  rintro e w3 ⟨rfl, hb3⟩
  have c0 := cell_up (cell_alloc a0 _) hb3
  have c1 := cell_up (cell_alloc a1 _) hb3
  have d0 : w3.cell? ⟨w2.heap.size, 0, none⟩ = some (.int .i64 r2.pl) := cell_up (w := w2.alloc (.cells #[.int .i64 r2.pl, .int .i64 r2.pc] 24)) (by go_cell) hb3
  have d1 : w3.cell? ⟨w2.heap.size, 1, none⟩ = some (.int .i64 r2.pc) := cell_up (w := w2.alloc (.cells #[.int .i64 r2.pl, .int .i64 r2.pc] 24)) (by go_cell) hb3
  have HA3 := Lib.hid ((HA.out.below ((Below.refl _ _).alloc (Nat.le_refl _) (.cells #[.int .i64 r2.pl, .int .i64 r2.pc] 24))).below hb3)
  have HB3 := Lib.hid ((HB.out.below ((Below.refl _ _).alloc (Nat.le_refl _) (.cells #[.int .i64 r2.pl, .int .i64 r2.pc] 24))).below hb3)
  have hW3 : Below w.heap.size w w3 := (hW.alloc hW.size _).trans (hb3.mono (by have := hW.size; simp; omega))
  clear HA HB hW hb3 a0 a1
  go_wp2_with fail
  refine (same_eq r2.toks _ _ _ HA3.out HB3.out (by omega)).mono ?_
  rintro e w4 ⟨rfl, n, rfl⟩
  go_wp2
  go_ret
  exact ⟨rfl, below_drewN hW3 n⟩
end Go.Proofs.Ytjnaeldaajckkaa
