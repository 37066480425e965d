/- SyntaxParses, SyntaxPieces: the blocks, positions and errors of texts. -/
import Derived.Test.YtjnaeldaajckkaaSyrF
import Derived.Test.YtjnaeldaajckkaaSynM
import Derived.Test.YtjnaeldaajckkaaSynO
import Derived.Test.YtjnaeldaajckkaaTokX
import Derived.BigQuiet
set_option linter.unusedVariables false
set_option linter.unusedSimpArgs false
namespace Go.Proofs.Ytjnaeldaajckkaa
open Go.RowKit Tok Syn

namespace Syn
theorem eqCs_refl (ex : Bool) (a : List Cl) : EqCs ex a a := ⟨rfl, fun k x y hx hy => by rw [hx] at hy; cases hy; exact ⟨rfl, rfl, fun _ => ⟨rfl, rfl⟩⟩⟩
theorem eqBs_refl (ex : Bool) (a : List Bk) : EqBs ex a a := ⟨rfl, fun k x y hx hy => by
  rw [hx] at hy; cases hy
  exact ⟨rfl, eqCs_refl _ _, ⟨rfl, fun j p q hp hq => by rw [hp] at hq; cases hq; exact ⟨rfl, eqCs_refl _ _, fun _ => ⟨rfl, rfl⟩⟩⟩, fun _ => ⟨rfl, rfl⟩⟩⟩
end Syn
set_option maxRecDepth 100000 in
set_option maxHeartbeats 4000000 in
theorem parses_any (s : ByteArray) (w : World) (hs : s.size ≤ maxLen) :
    Calls Try.prog 10 #[.string s] w fun e w' => e = .returned (.bool true) ∧ Below w.heap.size w w' := by
  obtain ⟨r, hr⟩ : ∃ r, r = parseR s.data.toList := ⟨_, rfl⟩
  have hp1 := fun W : World => parse_any s W hs
  have hp2 := fun W : World => rparse_any s W hs
  rw [← hr] at hp1 hp2
  have P1 := Lib.hid hp1
  have P2 := Lib.hid hp2
  clear hp1 hp2 hr
  obtain ⟨X, hX⟩ : ∃ X : Int, (r.pl : Int) = X := ⟨_, rfl⟩
  obtain ⟨Y, hY⟩ : ∃ Y : Int, (r.pc : Int) = Y := ⟨_, rfl⟩
  obtain ⟨Z, hZ⟩ : ∃ Z : Int, r.err = Z := ⟨_, rfl⟩
  rw [hX, hY, hZ] at P1 P2
  clear hX hY hZ
  go_enter Try.func10, Try.ntmps10
  go_wp2_with fail
  refine (P1.out _).mono ?_
  rintro e w1 ⟨v1, D1, rfl, hb1, hd1, hB1⟩
  have a1 := (Below.refl _ w1).alloc (Nat.le_refl _) (.cells #[.int .i64 X, .int .i64 Y] 24)
  have hB2 := hB1.trans (a1.mono hB1.size)
  have HB1 := Lib.hid (hb1.up (KeepsD.below a1 (fun k hk => (hd1 k hk).2)) fun _ h => h)
  have HD1 : Hid (∀ k, D1 k → k < (w1.alloc (.cells #[.int .i64 X, .int .i64 Y] 24)).heap.size) := Lib.hid fun k hk => by have := (hd1 k hk).2; simp; omega
  have c0 := cells_at w1 [.int .i64 X, .int .i64 Y] 24 _ rfl 0 _ rfl
  have c1 := cells_at w1 [.int .i64 X, .int .i64 Y] 24 _ rfl 1 _ rfl
  clear hb1 hd1 a1 hB1
  simp only
  go_wp2_with fail
  refine (P2.out _).mono ?_
  rintro e w2 ⟨v2, D2, rfl, hb2, hd2, hB3⟩
  have a2 := (Below.refl _ w2).alloc (Nat.le_refl _) (.cells #[.int .i64 X, .int .i64 Y] 24)
  have a3 := hB3.trans (a2.mono hB3.size)
  have HB2 := Lib.hid (HB1.out.up (KeepsD.below a3 HD1.out) fun _ h => h)
  have HD2 : Hid (∀ k, D1 k → k < (w2.alloc (.cells #[.int .i64 X, .int .i64 Y] 24)).heap.size) := Lib.hid fun k hk => Nat.lt_of_lt_of_le (HD1.out k hk) a3.size
  have HC2 := Lib.hid (hb2.up (KeepsD.below a2 (fun k hk => (hd2 k hk).2)) fun _ h => h)
  have HE2 : Hid (∀ k, D2 k → k < (w2.alloc (.cells #[.int .i64 X, .int .i64 Y] 24)).heap.size) := Lib.hid fun k hk => by have := (hd2 k hk).2; simp; omega
  have c0 := cell_alloc (cell_up c0 hB3) (.cells #[.int .i64 X, .int .i64 Y] 24)
  have c1 := cell_alloc (cell_up c1 hB3) (.cells #[.int .i64 X, .int .i64 Y] 24)
  have d0 := cells_at w2 [.int .i64 X, .int .i64 Y] 24 _ rfl 0 _ rfl
  have d1 := cells_at w2 [.int .i64 X, .int .i64 Y] 24 _ rfl 1 _ rfl
  have hB4 := hB2.trans (a3.mono hB2.size)
  clear hb2 hd2 a2 a3 hB3 hB2
  simp only
  go_wp2_with fail
  refine (known11_any _).mono ?_
  rintro e w3 ⟨rfl, hB5⟩
  have HB3 := Lib.hid (HB2.out.up (KeepsD.below hB5 HD2.out) fun _ h => h)
  have HD3 : Hid (∀ k, D1 k → k < w3.heap.size) := Lib.hid fun k hk => Nat.lt_of_lt_of_le (HD2.out k hk) hB5.size
  have HC3 := Lib.hid (HC2.out.up (KeepsD.below hB5 HE2.out) fun _ h => h)
  have HE3 : Hid (∀ k, D2 k → k < w3.heap.size) := Lib.hid fun k hk => Nat.lt_of_lt_of_le (HE2.out k hk) hB5.size
  have c0 := cell_up c0 hB5
  have c1 := cell_up c1 hB5
  have d0 := cell_up d0 hB5
  have d1 := cell_up d1 hB5
  have hB6 := hB4.trans (hB5.mono hB4.size)
  clear hB4 hB5
  go_wp2_with fail
  refine (same_any true HB3.out HC3.out (eqBs_refl _ _) HD3.out HE3.out).mono ?_
  rintro e w4 ⟨rfl, hB7⟩
  have c0 := cell_up c0 hB7
  have c1 := cell_up c1 hB7
  have d0 := cell_up d0 hB7
  have d1 := cell_up d1 hB7
  have hB8 := hB6.trans (hB7.mono hB6.size)
  clear hB6 hB7
  go_wp2
  go_ret
  exact ⟨rfl, hB8⟩
namespace Syn
def pcHeads : List ByteArray := [⟨#[]⟩, ⟨#[102, 117, 110, 100, 32, 97, 32, 123]⟩, ⟨#[102, 117, 110, 100, 32, 99, 108, 97, 115, 115, 32, 123]⟩, ⟨#[102, 117, 110, 100, 32, 97, 32, 123, 32, 99, 108, 97, 115, 115, 32, 99, 32, 123]⟩]
def pcGaps : List ByteArray := [⟨#[32]⟩, ⟨#[10]⟩, ⟨#[32]⟩]
def pcToks : List ByteArray := [⟨#[102, 117, 110, 100]⟩, ⟨#[97]⟩, ⟨#[99, 108, 97, 115, 115]⟩, ⟨#[123]⟩, ⟨#[125]⟩, ⟨#[59]⟩, ⟨#[44]⟩, ⟨#[103, 97, 116, 101, 32, 53, 37, 59]⟩, ⟨#[120, 59]⟩, ⟨#[99, 97, 108, 101, 110, 100, 97, 114, 32, 120, 44, 32, 121, 59]⟩, ⟨#[49, 50, 58, 48, 48]⟩, ⟨#[45, 49]⟩, ⟨#[99, 108, 97, 115, 115, 32, 98, 32, 123]⟩, ⟨#[125]⟩, ⟨#[102, 117, 110, 100, 32, 102, 32, 123, 32, 125]⟩, ⟨#[35, 32, 99, 10]⟩, ⟨#[33]⟩]
theorem pcHeads_ok : ∀ x ∈ pcHeads, x.size ≤ 20 := by decide
theorem pcGaps_ok : ∀ x ∈ pcGaps, x.size ≤ 1 := by decide
theorem pcToks_ok : ∀ x ∈ pcToks, x.size ≤ 20 := by decide
end Syn
set_option maxRecDepth 100000 in
set_option maxHeartbeats 4000000 in
theorem pieces11_any (a : Option Addr) (len cap : Nat) (z : List Int) (w : World) (hr : IsRow .i64 w a len cap z) :
    Calls Try.prog 11 #[.slice a len cap] w fun e w' => e = .returned (.bool true) ∧ Below w.heap.size w w' := by
  have ht0 := hr.tape 34
  clear hr
  have hB0 := (Below.refl w.heap.size w).alloc (Nat.le_refl _) (.cells #[.slice a len cap, .int .i64 0] 34)
  have h1 := strs_new (w.alloc (.cells #[.slice a len cap, .int .i64 0] 34)) pcHeads 9
  rw [World.size_alloc] at h1
  have hnb : w.heap.size + 1 ≠ w.heap.size := by omega
  go_enter Try.func11, Try.ntmps11
  go_wp2_with fail
  refine (one_n w.heap.size 0 (w.heap.size + 1) 4 4 pcHeads _ rfl (IsTape.alloc' ht0 _) (by omega) (by omega) (by omega) hnb h1).mono ?_
  rintro e w1 ⟨s1, hs1, rfl, ht1, hg1⟩
  have hp2 := pcHeads_ok s1 hs1
  have hB1 := (hB0.alloc (by simp) _).trans (below_grownBy hg1 (Nat.le_refl _) (by simp; omega))
  clear h1 hg1 ht0 hs1 hB0
  go_wp2_with fail
  go_loopg [4, 5] 14 (fun m ms i wr => ∃ (n at' : Nat) (x : ByteArray), n ≤ 13 ∧ 13 - n < m ∧ at' ≤ 1 + 4 * n ∧ ms = .string x ∧ i = .int .i64 (n : Int) ∧ x.size ≤ 20 + 21 * n ∧ IsTape wr w.heap.size at' ∧ Below w.heap.size w wr)
  case atStart => exact ⟨0, _, s1, by omega, by omega, by omega, rfl, rfl, by omega, ht1, hB1⟩
  case round =>
    obtain ⟨n, at', x, hn, hm, hat, rfl, rfl, hxs, ht, hB⟩ := hrel
    clear ht1 hB1
    go_wp2_with fail
    refine (next_any w.heap.size at' 14 _ ht (by omega) (by omega)).mono ?_
    rintro e w5 ⟨v5, rfl, ht5, hg5⟩
    have hb5 := foldI_bd v5 14 (by omega)
    generalize foldI v5 14 = r at *
    have hB5 := hB.trans (below_grownBy hg5 (Nat.le_refl _) hB.size)
    have hlt5 := ht5.lt
    clear ht hB hg5
    by_cases hx : (n : Int) < r
    · go_wp2_with fail
      refine (one_n w.heap.size _ w5.heap.size 3 3 pcGaps _ rfl (IsTape.alloc' ht5 _) (by omega) (by omega) (by omega) (by omega) (strs_new w5 pcGaps 9)).mono ?_
      rintro e w6 ⟨y, hy, rfl, ht6, hg6⟩
      have hy2 := pcGaps_ok y hy
      have hB6 := (hB5.alloc hB5.size _).trans (below_grownBy hg6 (Nat.le_refl _) (by have := hB5.size; simp; omega))
      have hlt6 := ht6.lt
      clear ht5 hB5 hg6 hy
      go_wp2_with fail
      refine (one_n w.heap.size _ w6.heap.size 17 17 pcToks _ rfl (IsTape.alloc' ht6 _) (by omega) (by omega) (by omega) (by omega) (strs_new w6 pcToks 9)).mono ?_
      rintro e w7 ⟨u, hu, rfl, ht7, hg7⟩
      have hu2 := pcToks_ok u hu
      have hB7 := (hB6.alloc hB6.size _).trans (below_grownBy hg7 (Nat.le_refl _) (by have := hB6.size; simp; omega))
      clear ht6 hB6 hg7 hu
      go_wp2
      go_roundg (gk - 1)
      case measure => omega
      case rel => exact ⟨n + 1, _, _, by omega, by omega, by omega, rfl, by go_num, by rw [ByteArray.size_append, ByteArray.size_append]; omega, ht7, hB7⟩
    · go_wp2_with fail
      refine (parses_any x w5 (small_maxLen (by omega))).mono ?_
      rintro e w6 ⟨rfl, hB6⟩
      have hB7 := hB5.trans (hB6.mono hB5.size)
      clear hB5 hB6 ht5
      go_wp2_with fail
      refine (known11_any _).mono ?_
      rintro e w7 ⟨rfl, hB8⟩
      go_wp2
      go_ret
      exact ⟨rfl, hB7.trans (hB8.mono hB7.size)⟩
end Go.Proofs.Ytjnaeldaajckkaa
