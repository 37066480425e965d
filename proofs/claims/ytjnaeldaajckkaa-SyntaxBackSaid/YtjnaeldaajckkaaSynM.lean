/- The law's known(). -/
import Derived.Test.YtjnaeldaajckkaaSynL
import Derived.BigQuiet
set_option linter.unusedVariables false
set_option linter.unusedSimpArgs false
namespace Go.Proofs.Ytjnaeldaajckkaa
open Go.RowKit Tok Syn

namespace Syn
def kn1 : List UInt8 := [102, 117, 110, 100, 32, 97, 32, 123, 32, 103, 97, 116, 101, 32, 53, 37, 59, 32, 125]
def kn2 : List UInt8 := [102, 117, 110, 100, 32, 97, 32, 123, 32, 99, 108, 97, 115, 115, 32, 125]
def kn3 : List UInt8 := [102, 117, 110, 100, 32, 97, 32, 123, 10, 32, 32, 99, 97, 108, 101, 110, 100, 97, 114, 32, 120, 44, 32, 121, 59, 10, 125, 10]
def kC : Cl := ⟨[99, 97, 108, 101, 110, 100, 97, 114], [[120], [44], [121]], 0, 0⟩
def kB : Bk := ⟨[97], [kC], [], 0, 0⟩
theorem kn1_is : parseR kn1 = ⟨[⟨[97], [⟨[103, 97, 116, 101], [[53, 37]], 1, 10⟩], [], 1, 1⟩], 0, 0, 0⟩ := by kernel_rfl
theorem kn2_is : parseR kn2 = ⟨[], 1, 16, 110⟩ := by kernel_rfl
theorem kn3_is : blocksL [kB] = kn3 := by kernel_rfl
theorem kB_good : GoodX kB := by
  have h : ∀ u ∈ ([[97], [99, 97, 108, 101, 110, 100, 97, 114], [120], [121]] : List (List UInt8)), tokU u ∧ kindL u = 1 := by unfold tokU; decide +kernel
  refine ⟨h [97] (by simp), fun c hc => ?_, fun k hk => by cases hk⟩
  have hc : c = kC := by simpa [kB] using hc
  subst hc
  refine ⟨h _ (by simp [kC]), by decide, fun v hv => ?_⟩
  simp only [kC, List.mem_cons, List.not_mem_nil, or_false] at hv
  rcases hv with rfl | rfl | rfl
  · have := h [120] (by simp); exact .inr ⟨this.1, by rw [this.2]; decide, by rw [this.2]; decide⟩
  · exact .inl rfl
  · have := h [121] (by simp); exact .inr ⟨this.1, by rw [this.2]; decide, by rw [this.2]; decide⟩
end Syn
theorem rdD_new {w W : World} {L : List Value} {T : TypeId} {D : Nat → Prop} {g size n cap : Nat} (hc : ∀ j u, L[j]? = some u → W.cell? ⟨g, j, none⟩ = some u) (hD : D g) (hl : L.length = n * size) (hn : n ≤ 9223372036854775807) : RdD W D size (.slice (some ⟨g, 0, none⟩) n cap) n L :=
  ⟨⟨hl, hn, .inr ⟨g, 0, cap, rfl, fun j u hu => by rw [Nat.zero_add]; exact hc j u hu⟩⟩, fun k hk => by simp only [Value.ownBlock, Option.some.injEq] at hk; subst hk; exact hD⟩
set_option maxRecDepth 100000 in
set_option maxHeartbeats 4000000 in
theorem known11_any (w : World) :
    Calls Try.prog 35 #[] w fun e w' => e = .returned (.bool true) ∧ Below w.heap.size w w' := by
  have p1 := fun W : World => parse_any ⟨kn1.toArray⟩ W (by rw [bsize]; exact small_maxLen (by decide))
  have p2 := fun W : World => parse_any ⟨kn2.toArray⟩ W (by rw [bsize]; exact small_maxLen (by decide))
  have q1 : (⟨kn1.toArray⟩ : ByteArray).data.toList = kn1 := by simp
  have q2 : (⟨kn2.toArray⟩ : ByteArray).data.toList = kn2 := by simp
  rw [q1, kn1_is] at p1
  rw [q2, kn2_is] at p2
  have P1 := Lib.hid p1
  have P2 := Lib.hid p2
  clear p1 p2 q1 q2
  go_enter Try.func35, Try.ntmps35
  go_wp2_with fail
  refine (P1.out _).mono ?_
  rintro e w1 ⟨v, D, rfl, hb1, hd1, hB1⟩
  obtain ⟨⟨A, cp, rfl⟩, _⟩ := bksD_form hb1
  obtain ⟨g, off, A1, c1, A2, c2, rfl, x0, x1, x2, x3, x4, _, _⟩ := bks_get hb1 (k := 0) rfl
  have hdg : g < w1.heap.size := by
    rcases Nat.lt_or_ge g w1.heap.size with h | h
    · exact h
    · simp [World.cell?, Array.getElem?_eq_none h] at x1
  simp only [Nat.zero_mul, Nat.add_zero] at x1
  have X1 := Lib.hid x1
  have HB1 := Lib.hid hB1
  clear hb1 hd1 hB1 x0 x1 x2 x3 x4
  simp only [List.length_cons, List.length_nil]
  go_wp2_with fail
  refine (P2.out _).mono ?_
  rintro e w2 ⟨v2, D2, rfl, hb2, hd2, hB2⟩
  obtain ⟨⟨A', cp', rfl⟩, _⟩ := bksD_form hb2
  clear hb2 hd2
  have hs2 := hB2.size
  simp only [World.size_alloc] at hs2
  have hal1 := (Below.refl _ w1).alloc (Nat.le_refl _) (.cells #[.int .i64 0, .int .i64 0] 24)
  have HB2 := Lib.hid (hal1.trans (hB2.mono hal1.size))
  clear hB2 hal1
  go_wp2_with fail
  have b1 : Below w2.heap.size w2 (w2.alloc (.cells #[.int .i64 1, .int .i64 16] 24)) := (Below.refl _ w2).alloc (Nat.le_refl _) _
  have m1 := fun j u (h : ([.string ⟨#[120]⟩, .string ⟨#[44]⟩, .string ⟨#[121]⟩] : List Value)[j]? = some u) => cell_alloc (cell_alloc (cells_at (w2.alloc (.cells #[.int .i64 1, .int .i64 16] 24)) [.string ⟨#[120]⟩, .string ⟨#[44]⟩, .string ⟨#[121]⟩] 9 (w2.heap.size + 1) (by simp) j u h) (.cells #[.string ⟨#[99, 97, 108, 101, 110, 100, 97, 114]⟩, .slice (some ⟨w2.heap.size + 1, 0, none⟩) 3 3, .int .i64 0, .int .i64 0] 81)) (.cells #[.string ⟨#[97]⟩, .slice (some ⟨w2.heap.size + 1 + 1, 0, none⟩) 1 1, .slice none 0 0, .int .i64 0, .int .i64 0] 75)
  have m2 := fun j u (h : ([.string ⟨#[99, 97, 108, 101, 110, 100, 97, 114]⟩, .slice (some ⟨w2.heap.size + 1, 0, none⟩) 3 3, .int .i64 0, .int .i64 0] : List Value)[j]? = some u) => cell_alloc (cells_at ((w2.alloc (.cells #[.int .i64 1, .int .i64 16] 24)).alloc (.cells #[.string ⟨#[120]⟩, .string ⟨#[44]⟩, .string ⟨#[121]⟩] 9)) [.string ⟨#[99, 97, 108, 101, 110, 100, 97, 114]⟩, .slice (some ⟨w2.heap.size + 1, 0, none⟩) 3 3, .int .i64 0, .int .i64 0] 81 (w2.heap.size + 1 + 1) (by simp) j u h) (.cells #[.string ⟨#[97]⟩, .slice (some ⟨w2.heap.size + 1 + 1, 0, none⟩) 1 1, .slice none 0 0, .int .i64 0, .int .i64 0] 75)
  have m3 := cells_at (((w2.alloc (.cells #[.int .i64 1, .int .i64 16] 24)).alloc (.cells #[.string ⟨#[120]⟩, .string ⟨#[44]⟩, .string ⟨#[121]⟩] 9)).alloc (.cells #[.string ⟨#[99, 97, 108, 101, 110, 100, 97, 114]⟩, .slice (some ⟨w2.heap.size + 1, 0, none⟩) 3 3, .int .i64 0, .int .i64 0] 81)) [.string ⟨#[97]⟩, .slice (some ⟨w2.heap.size + 1 + 1, 0, none⟩) 1 1, .slice none 0 0, .int .i64 0, .int .i64 0] 75 (w2.heap.size + 1 + 1 + 1) (by simp)
  have r1 := rdD_new (size := 1) (n := 3) (cap := 3) (D := fun k => k = w2.heap.size + 1 ∨ k = w2.heap.size + 1 + 1 ∨ k = w2.heap.size + 1 + 1 + 1) (T := 0) (w := w) m1 (.inl rfl) rfl (by omega)
  have r2 := rdD_new (size := 4) (n := 1) (cap := 1) (D := fun k => k = w2.heap.size + 1 ∨ k = w2.heap.size + 1 + 1 ∨ k = w2.heap.size + 1 + 1 + 1) (T := 0) (w := w) m2 (.inr (.inl rfl)) rfl (by omega)
  have r3 := rdD_new (size := 5) (n := 1) (cap := 1) (D := fun k => k = w2.heap.size + 1 ∨ k = w2.heap.size + 1 + 1 ∨ k = w2.heap.size + 1 + 1 + 1) (T := 0) (w := w) m3 (.inr (.inr rfl)) rfl (by omega)
  refine (format_good (l := [kB]) ⟨_, ⟨_, [], rfl, ⟨_, _, rfl, ⟨_, ⟨_, [], rfl, ⟨_, rfl, r1⟩, rfl⟩, r2⟩, ⟨[], rfl, ⟨⟨rfl, Nat.zero_le _, .inl ⟨rfl, rfl⟩⟩, fun g e => by cases e⟩⟩⟩, rfl⟩, r3⟩ (fun k hk => by simp; omega) (fun b hb => by simp at hb; subst hb; exact kB_good) (by rw [kn3_is]; decide)).mono ?_
  rw [kn3_is]
  rintro e w3 ⟨rfl, hB3⟩
  have y1 := cell_up (cell_alloc (cell_alloc (cell_alloc (cell_alloc (cell_up X1.out HB2.out) (.cells #[.int .i64 1, .int .i64 16] 24)) (.cells #[.string ⟨#[120]⟩, .string ⟨#[44]⟩, .string ⟨#[121]⟩] 9)) (.cells #[.string ⟨#[99, 97, 108, 101, 110, 100, 97, 114]⟩, .slice (some ⟨w2.heap.size + 1, 0, none⟩) 3 3, .int .i64 0, .int .i64 0] 81)) (.cells #[.string ⟨#[97]⟩, .slice (some ⟨w2.heap.size + 1 + 1, 0, none⟩) 1 1, .slice none 0 0, .int .i64 0, .int .i64 0] 75)) hB3
  have y2 := cell_up (cell_alloc (cell_alloc (cell_alloc (cells_at w2 [.int .i64 1, .int .i64 16] 24 w2.heap.size rfl 1 _ rfl) (.cells #[.string ⟨#[120]⟩, .string ⟨#[44]⟩, .string ⟨#[121]⟩] 9)) (.cells #[.string ⟨#[99, 97, 108, 101, 110, 100, 97, 114]⟩, .slice (some ⟨w2.heap.size + 1, 0, none⟩) 3 3, .int .i64 0, .int .i64 0] 81)) (.cells #[.string ⟨#[97]⟩, .slice (some ⟨w2.heap.size + 1 + 1, 0, none⟩) 1 1, .slice none 0 0, .int .i64 0, .int .i64 0] 75)) hB3
  have hb4 := (((b1.alloc (by simp) (.cells #[.string ⟨#[120]⟩, .string ⟨#[44]⟩, .string ⟨#[121]⟩] 9)).alloc (by simp; omega) (.cells #[.string ⟨#[99, 97, 108, 101, 110, 100, 97, 114]⟩, .slice (some ⟨w2.heap.size + 1, 0, none⟩) 3 3, .int .i64 0, .int .i64 0] 81)).alloc (by simp; omega) (.cells #[.string ⟨#[97]⟩, .slice (some ⟨w2.heap.size + 1 + 1, 0, none⟩) 1 1, .slice none 0 0, .int .i64 0, .int .i64 0] 75))
  have hb5 := hb4.trans (hB3.mono (by simp; omega))
  have HE := Lib.hid (HB1.out.trans ((HB2.out.trans (hb5.mono (by have := HB2.out.size; omega))).mono HB1.out.size))
  clear m1 m2 m3 r1 r2 r3 b1 hb4 hb5 hB3 hdg hs2
  simp only [kn3]
  go_wp2
  go_ret
  exact ⟨rfl, HE.out⟩
end Go.Proofs.Ytjnaeldaajckkaa
