/- TokenWords, walked. -/
import Derived.Test.YtjnaeldaajckkaaTokL
set_option linter.unusedVariables false
set_option linter.unusedSimpArgs false
namespace Go.Proofs.Ytjnaeldaajckkaa
open Go.RowKit Tok

theorem ints_new (w : World) (l : List Int) (t : TypeId) : ∀ j u, l[j]? = some u → (w.alloc (.cells (l.map (Value.int .i64)).toArray t)).cell? ⟨w.heap.size, j, none⟩ = some (.int .i64 u) := by
  intro j u hu
  rw [cell_of_row _ w.heap.size j _ t (0, 0) (heap_alloc_new w _)]
  simp [hu]
theorem IsTape.alloc {w : World} {bt at_ : Nat} (h : IsTape w bt at_) (o : Obj) : IsTape (w.alloc o) bt at_ := h.below ((Below.refl _ _).alloc (Nat.le_refl _) _)
theorem grownBy_via {a b : World} {row : Option Nat} (h : a.grownBy b row) (o : Obj) {c : World} (k : (b.alloc o).grownBy c row) : a.grownBy c row := grownBy_trans h (grownBy_trans (World.grownBy_alloc _ _ _) k)

set_option maxRecDepth 100000 in
set_option maxHeartbeats 4000000 in
theorem words_any (a : Option Addr) (len cap : Nat) (z : List Int) (w : World) (hr : IsRow .i64 w a len cap z) :
    Calls Try.prog 9 #[.slice a len cap] w fun e w' => e = .returned (.bool true) ∧ Below w.heap.size w w' := by
  have ht0 := hr.tape 34
  clear hr
  go_enter Try.func9, Try.ntmps9
  go_wp2
  go_loopg [4] 5 (fun n i wr => ∃ (k at' : Nat), k ≤ 4 ∧ 5 - k ≤ n ∧ at' ≤ 1000 * k ∧ i = .int .i64 k ∧ IsTape wr w.heap.size at' ∧ Below w.heap.size w wr ∧ w.heap.size < wr.heap.size)
  case atStart => exact ⟨0, 0, by omega, by omega, by omega, rfl, ht0, (Below.refl _ _).alloc (Nat.le_refl _) _, by simp⟩
  case round =>
    obtain ⟨k, at', hk, hn, ha, rfl, ht, hB, hS⟩ := hrel
    by_cases hk4 : k < 4
    · go_wp2_with fail
      refine (pick_any w.heap.size at' wr.heap.size _ 5 [0, 1, 3, 16, 17] _ rfl (ht.alloc _) (by omega) (by omega) (by omega) (by omega) (ints_new _ [0, 1, 3, 16, 17] _)).mono ?_
      rintro e w1 ⟨x1, hx1, rfl, ht1, hg1⟩
      have hG1 := grownBy_via (grownBy_refl wr _) _ hg1
      have g1 := hG1.size
      obtain ⟨n1, rfl, hn1⟩ : ∃ n1 : Nat, x1 = n1 ∧ n1 ≤ 17 := ⟨x1.toNat, by simp at hx1; omega, by simp at hx1; omega⟩
      clear hx1 hg1
      go_wp2_with fail
      refine (ttext_any w.heap.size (at' + 1) n1 ⟨#[97, 98, 57, 122]⟩ _ ht1 (by omega) (by omega) (by decide) (by decide)).mono ?_
      rintro e w2 ⟨s1, hs1, rfl, ht2, hg2⟩
      have hG2 := grownBy_trans hG1 hg2
      have g2 := hG2.size
      clear hG1 hg2
      go_wp2_with fail
      refine (one_n w.heap.size (at' + 1 + n1) w2.heap.size _ 6 [⟨#[]⟩, ⟨#[]⟩, ⟨#[]⟩, ⟨#[65]⟩, ⟨#[95]⟩, ⟨#[32]⟩] _ rfl (ht2.alloc _) (by omega) (by omega) (by omega) (by omega) (strs_new _ [⟨#[]⟩, ⟨#[]⟩, ⟨#[]⟩, ⟨#[65]⟩, ⟨#[95]⟩, ⟨#[32]⟩] _)).mono ?_
      rintro e w3 ⟨p1, hp1, rfl, ht3, hg3⟩
      have hps : p1.size ≤ 1 := by revert p1; decide
      have hG3 := grownBy_via hG2 _ hg3
      have g3 := hG3.size
      clear hG2 hg3 hp1
      go_wp2_with fail
      refine (pick_any w.heap.size _ w3.heap.size _ 3 [1, 2, 2] _ rfl (ht3.alloc _) (by omega) (by omega) (by omega) (by omega) (ints_new _ [1, 2, 2] _)).mono ?_
      rintro e w4 ⟨x2, hx2, rfl, ht4, hg4⟩
      have hG4 := grownBy_via hG3 _ hg4
      have g4 := hG4.size
      obtain ⟨n2, rfl, hn2⟩ : ∃ n2 : Nat, x2 = n2 ∧ n2 ≤ 3 := ⟨x2.toNat, by simp at hx2; omega, by simp at hx2; omega⟩
      clear hx2 hg4 hG3
      go_wp2_with fail
      refine (ttext_any w.heap.size _ n2 ⟨#[48, 49, 50, 51, 52, 53, 54, 55, 56, 57]⟩ _ ht4 (by omega) (by omega) (by decide) (by decide)).mono ?_
      rintro e w5 ⟨s2, hs2, rfl, ht5, hg5⟩
      have hG5 := grownBy_trans hG4 hg5
      have g5 := hG5.size
      clear hG4 hg5
      go_wp2_with fail
      refine (one_n w.heap.size _ w5.heap.size _ 3 [⟨#[58]⟩, ⟨#[58]⟩, ⟨#[]⟩] _ rfl (ht5.alloc _) (by omega) (by omega) (by omega) (by omega) (strs_new _ [⟨#[58]⟩, ⟨#[58]⟩, ⟨#[]⟩] _)).mono ?_
      rintro e w6 ⟨p2, hp2, rfl, ht6, hg6⟩
      have hps2 : p2.size ≤ 1 := by revert p2; decide
      have hG6 := grownBy_via hG5 _ hg6
      have g6 := hG6.size
      clear hG5 hg6 hp2
      go_wp2_with fail
      refine (pick_any w.heap.size _ w6.heap.size _ 4 [2, 2, 1, 3] _ rfl (ht6.alloc _) (by omega) (by omega) (by omega) (by omega) (ints_new _ [2, 2, 1, 3] _)).mono ?_
      rintro e w7 ⟨x3, hx3, rfl, ht7, hg7⟩
      have hG7 := grownBy_via hG6 _ hg7
      have g7 := hG7.size
      obtain ⟨n3, rfl, hn3⟩ : ∃ n3 : Nat, x3 = n3 ∧ n3 ≤ 3 := ⟨x3.toNat, by simp at hx3; omega, by simp at hx3; omega⟩
      clear hx3 hg7 hG6
      go_wp2_with fail
      refine (ttext_any w.heap.size _ n3 ⟨#[48, 49, 50, 51, 52, 53, 54, 55, 56, 57]⟩ _ ht7 (by omega) (by omega) (by decide) (by decide)).mono ?_
      rintro e w8 ⟨s3, hs3, rfl, ht8, hg8⟩
      have hG8 := grownBy_trans hG7 hg8
      have g8 := hG8.size
      clear hG7 hg8
      go_wp2_with fail
      refine (pick_any w.heap.size _ w8.heap.size _ 4 [-1, 0, 1439, 1440] _ rfl (ht8.alloc _) (by omega) (by omega) (by omega) (by omega) (ints_new _ [-1, 0, 1439, 1440] _)).mono ?_
      rintro e w9 ⟨x4, hx4, rfl, ht9, hg9⟩
      have hG9 := grownBy_via hG8 _ hg9
      have g9 := hG9.size
      clear hx4 hg9 hG8
      go_wp2_with fail
      refine (times_any _ x4 _ (small_maxLen (by simp only [ByteArray.size_append]; omega))).mono ?_
      rintro e w10 ⟨rfl, hb10⟩
      have hG10 := grownBy_trans hG9 (grownBy_below hb10 _)
      have g10 := hG10.size
      have ht10 := ht9.below hb10
      clear hG9 hb10
      go_wp2_with fail
      refine (next_any w.heap.size _ 1440 _ ht10 (by omega) (by omega)).mono ?_
      rintro e w11 ⟨v, rfl, ht11, hg11⟩
      have hG11 := grownBy_trans hG10 hg11
      have g11 := hG11.size
      clear hG10 hg11
      go_wp2_with fail
      refine (times_any _ _ _ (small_maxLen (by simp only [ByteArray.size_append]; omega))).mono ?_
      rintro e w12 ⟨rfl, hb12⟩
      have hG12 := grownBy_trans hG11 (grownBy_below hb12 _)
      have g12 := hG12.size
      have ht12 := ht11.below hb12
      clear hG11 hb12
      go_wp2
      go_roundg (gk - 1)
      case measure => omega
      case rel => exact ⟨k + 1, _, by omega, by omega, by omega, by go_num, ht12, hB.trans (below_grownBy hG12 (Nat.le_refl _) (by omega)), by omega⟩
    · go_wp2_with fail
      refine (known_any _).mono ?_
      rintro e w1 ⟨rfl, hb⟩
      go_wp2
      go_ret
      exact ⟨rfl, hB.trans (hb.mono (by omega))⟩
end Go.Proofs.Ytjnaeldaajckkaa
