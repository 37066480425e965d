/- The law's texts of pieces, walked; and the laws TokenPieces. -/
import Derived.Test.YtjnaeldaajckkaaTokJ
import Derived.Test.YtjnaeldaajckkaaTape
set_option linter.unusedVariables false
set_option linter.unusedSimpArgs false
namespace Go.Proofs.Ytjnaeldaajckkaa
open Go.RowKit Tok

theorem strs_new (w : World) (l : List ByteArray) (t : TypeId) : ∀ j u, l[j]? = some u → (w.alloc (.cells (l.map Value.string).toArray t)).cell? ⟨w.heap.size, j, none⟩ = some (.string u) := by
  intro j u hu
  rw [cell_of_row _ w.heap.size j _ t (0, 0) (heap_alloc_new w _)]
  simp [hu]
theorem one_n (bt at_ : Nat) (g cap n : Nat) (l : List ByteArray) (w : World) (hn : l.length = n) (ht : IsTape w bt at_) (hat : at_ < 1000000000000000000) (hl : 0 < n) (hl2 : n ≤ 1000000000) (hg : g ≠ bt)
    (hc : ∀ j u, l[j]? = some u → w.cell? ⟨g, j, none⟩ = some (.string u)) :
    Calls Try.prog 23 #[.pointer (some ⟨bt, 0, none⟩), .slice (some ⟨g, 0, none⟩) n cap] w fun e w' => ∃ s, s ∈ l ∧ e = .returned (.string s) ∧ IsTape w' bt (at_ + 1) ∧ w.grownBy w' (some bt) := by
  subst hn; exact one_any bt at_ g cap l w ht hat hl hl2 hg hc

namespace Tok
def pieces : List ByteArray := [⟨#[32]⟩, ⟨#[10]⟩, ⟨#[97]⟩, ⟨#[90, 95, 57]⟩, ⟨#[49, 50]⟩, ⟨#[48, 48, 55]⟩, ⟨#[49, 46, 53]⟩, ⟨#[50, 37]⟩, ⟨#[49, 46, 50, 53, 37]⟩, ⟨#[45, 51]⟩, ⟨#[45]⟩, ⟨#[49, 55, 58, 48, 48]⟩, ⟨#[49, 50, 58, 51, 52, 53]⟩, ⟨#[49, 58, 50, 51]⟩, ⟨#[46]⟩, ⟨#[37]⟩, ⟨#[123]⟩, ⟨#[125]⟩, ⟨#[44]⟩, ⟨#[59]⟩, ⟨#[35, 32, 120, 59, 32, 121, 10]⟩, ⟨#[35]⟩, ⟨#[9]⟩, ⟨#[13, 10]⟩, ⟨#[102, 117, 110, 100]⟩, ⟨#[53, 58]⟩, ⟨#[58]⟩, ⟨#[95]⟩]
theorem pieces_size : ∀ s ∈ pieces, s.size ≤ 7 := by decide
end Tok

set_option maxRecDepth 100000 in
set_option maxHeartbeats 2000000 in
theorem text_any (bt at_ : Nat) (w : World) (ht : IsTape w bt at_) (hat : at_ < 100000000000000000) :
    Calls Try.prog 19 #[.pointer (some ⟨bt, 0, none⟩)] w fun e w' => ∃ s at', s.size ≤ 84 ∧ e = .returned (.string s) ∧ IsTape w' bt at' ∧ at' ≤ at_ + 30 ∧ w.grownBy w' (some bt) := by
  have hlt := ht.lt
  go_enter Try.func19, Try.ntmps19
  go_wp2
  go_loopg [3, 4] 13 (fun n v i wr => ∃ (k at' : Nat) (s : ByteArray), k ≤ 12 ∧ 13 - k ≤ n ∧ s.size ≤ 7 * k ∧ at' ≤ at_ + 2 * k ∧ i = .int .i64 k ∧ v = .string s ∧ IsTape wr bt at' ∧ w.grownBy wr (some bt))
  case atStart => exact ⟨0, at_, ByteArray.empty, by omega, by omega, by simp, by omega, rfl, rfl, ht, grownBy_refl _ _⟩
  case round =>
    obtain ⟨k, at', s, hk, hn, hs, hat', rfl, rfl, ht', hg⟩ := hrel
    have hgs := hg.size
    go_wp2_with fail
    refine (next_any bt at' 12 _ ht' (by omega) (by omega)).mono ?_
    rintro e w1 ⟨v, rfl, ht1, hg1⟩
    have hb := foldI_bd v 12 (by omega)
    generalize foldI v 12 = x at *
    have hgs1 := hg1.size
    by_cases hx : (k : Int) < x
    · go_wp2_with fail
      refine (one_n bt (at' + 1) w1.heap.size _ 28 pieces _ rfl (ht1.below ((Below.refl _ _).alloc (Nat.le_refl _) _)) (by omega) (by omega) (by omega) (by omega) (strs_new _ pieces _)).mono ?_
      rintro e w2 ⟨p, hp, rfl, ht2, hg2⟩
      have hps := pieces_size p hp
      have hG : w.grownBy w2 (some bt) := grownBy_trans (grownBy_trans hg hg1) (grownBy_trans (World.grownBy_alloc _ _ _) hg2)
      clear hp
      go_wp2
      go_roundg (gk - 1)
      case measure => omega
      case rel => exact ⟨k + 1, _, s ++ p, by omega, by omega, by simp only [ByteArray.size_append]; omega, by omega, by go_num, rfl, ht2, hG⟩
    · go_wp2
      go_ret
      exact ⟨s, _, by omega, rfl, ht1, by omega, grownBy_trans hg hg1⟩

set_option maxHeartbeats 2000000 in
theorem pieces_any (a : Option Addr) (len cap : Nat) (z : List Int) (w : World) (hr : IsRow .i64 w a len cap z) :
    Calls Try.prog 4 #[.slice a len cap] w fun e w' => e = .returned (.bool true) ∧ Below w.heap.size w w' := by
  have ht0 := hr.tape 34
  clear hr
  go_enter Try.func4, Try.ntmps4
  go_wp2_with fail
  refine (text_any w.heap.size 0 _ ht0 (by omega)).mono ?_
  rintro e w1 ⟨s1, at1, hs1, rfl, ht1, ha1, hg1⟩
  go_wp2_with fail
  refine (scans_any _ _ (small_maxLen (by omega))).mono ?_
  rintro e w2 ⟨rfl, hb2⟩
  go_wp2_with fail
  refine (text_any w.heap.size at1 _ (ht1.below hb2) (by omega)).mono ?_
  rintro e w3 ⟨s3, at3, hs3, rfl, ht3, ha3, hg3⟩
  go_wp2_with fail
  refine (text_any w.heap.size at3 _ ht3 (by omega)).mono ?_
  rintro e w4 ⟨s4, at4, hs4, rfl, ht4, ha4, hg4⟩
  go_wp2_with fail
  refine (scans_any _ _ (small_maxLen (by simp only [ByteArray.size_append]; omega))).mono ?_
  rintro e w5 ⟨rfl, hb5⟩
  go_wp2_with fail
  refine (known_any _).mono ?_
  rintro e w6 ⟨rfl, hb6⟩
  go_wp2
  go_ret
  have g1 := hg1.size
  have g2 := hb2.size
  have g3 := hg3.size
  have g4 := hg4.size
  have g5 := hb5.size
  simp at g1
  have hA := ((Below.refl w.heap.size w).alloc (Nat.le_refl _) (.cells #[.slice a len cap, .int .i64 0] 34)).trans (below_grownBy hg1 (Nat.le_refl _) (by simp))
  have hC := (hA.trans (hb2.mono (by omega))).trans (below_grownBy hg3 (Nat.le_refl _) (by omega))
  exact ⟨rfl, ((hC.trans (below_grownBy hg4 (Nat.le_refl _) (by omega))).trans (hb5.mono (by omega))).trans (hb6.mono (by omega))⟩
end Go.Proofs.Ytjnaeldaajckkaa
