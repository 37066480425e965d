/- fundadminscene: a tape over a list, and the register that it makes: walked. -/
import Derived.Test.YthhmpdjjfoplgaaScC
set_option linter.unusedVariables false
set_option linter.unusedSimpArgs false
namespace Go.Proofs.Ythhmpdjjfoplgaa
open Go.RowKit Reg

namespace Reg
/-- a lot as a scene makes it -/
def gdLot (x : Lot) : Prop := (x.nom, x.hol) ∈ accs ∧ 0 ≤ x.ser ∧ x.ser ≤ 73048 ∧ 1 ≤ x.units ∧ x.units ≤ 1000000
def ScGood (l : List Lot) : Prop := Srt l ∧ ∀ x ∈ l, gdLot x
theorem ScGood.nil : ScGood [] := ⟨List.Pairwise.nil, by simp⟩
theorem good_put {l l' : List Lot} {x : Lot} (h : PutS l x l') (hl : ScGood l) (hx : gdLot x) : ScGood l' ∧ l'.length ≤ l.length + 1 := by
  rcases h with rfl | ⟨hn, rfl⟩
  · exact ⟨hl, by omega⟩
  · rw [putR_eq x hl.1]
    refine ⟨⟨put_srt l x hl.1, fun z hz => ?_⟩, (put_len l x).2⟩
    rcases put_mem l x z hz with h | h | ⟨y, hy, hk, _⟩
    · exact hl.2 z h
    · rw [h]; exact hx
    · exact absurd hk (hn y hy)
theorem gd_right {x : Lot} (h : gdLot x) : rightB x = true := by
  obtain ⟨h1, h2, h3, h4, h5⟩ := h
  exact right_yes (accs_ok _ h1) h2 h3 h4 (by omega)
theorem good_check {l : List Lot} (h : ScGood l) (hn : l.length ≤ 256) : checkB l = true := by
  have hs := sumU_bd l 1000000 (by omega) (fun x hx => by have := (h.2 x hx).2.2.2; omega)
  have ho : okL l = true := okL_yes (n := l.length) (Nat.le_refl _) (fun k hk => by
    have hx : l[k]? = some l[k] := by simp [hk]
    cases k with
    | zero => rw [okAt_zero hx]; exact gd_right (h.2 _ (List.getElem_mem hk))
    | succ j =>
      have hy : l[j]? = some l[j] := by simp [show j < l.length by omega]
      rw [okAt_succ hx hy, gd_right (h.2 _ (List.getElem_mem hk))]
      have := List.pairwise_iff_getElem.1 h.1 j (j + 1) (by omega) hk (by omega)
      simpa using this)
  unfold checkB
  rw [ho, decide_eq_true hn, decide_eq_true (by omega)]
  rfl
end Reg
theorem Own.drawn {w w' : World} {B bt : Nat} {v : Value} {l : List Lot} (h : Own w B v l) (hd : Drew w bt w') (hB : bt < B) : Own w' B v l :=
  World.ownsRow.kept h (row := some bt) hd.2 (.inr (fun e => by have := h.lt bt e; omega))
/-- a slice of integers that came in -/
def IsRow (k : IntKind) (w : World) (a : Option Addr) (len cap : Nat) (zs : List Int) : Prop :=
  (a = none ∧ len = 0 ∧ cap = 0 ∧ zs = []) ∨
  ∃ x, a = some x ∧ len ≤ cap ∧ cap ≤ maxLen ∧ zs.length = cap ∧ (∀ i, i < zs.length → w.cell? (x.add i) = some (.int k (zs.getD i 0))) ∧ ∀ n ∈ zs, (Lit.int k n).wf = true
theorem IsRow.tp {w : World} {a : Option Addr} {len cap : Nat} {z : List Int} (h : IsRow .i64 w a len cap z) (hcap : len ≤ 9223372036854775807) (T : TypeId) : IsTp (w.alloc (.cells #[.slice a len cap, .int .i64 0] T)) w.heap.size := by
  have c0 : (w.alloc (.cells #[.slice a len cap, .int .i64 0] T)).cell? ⟨w.heap.size, 0, none⟩ = some (.slice a len cap) := by go_cell
  have c1 : (w.alloc (.cells #[.slice a len cap, .int .i64 0] T)).cell? ⟨w.heap.size, 1, none⟩ = some (.int .i64 ((0 : Nat) : Int)) := by go_cell
  have hz : ∀ o, (w.alloc (.cells #[.slice a len cap, .int .i64 0] T)).frozen? ⟨w.heap.size, o, none⟩ = false := fun o => by simp
  rcases h with ⟨rfl, rfl, rfl, rfl⟩ | ⟨x, rfl, h1, h2, h3, h4, h5⟩
  · exact ⟨0, _, _, _, Nat.le_refl _, c0, c1, hz, by omega, fun j hj => absurd hj (by omega)⟩
  · refine ⟨0, _, _, _, Nat.zero_le _, c0, c1, hz, hcap, fun j hj => ?_⟩
    have hc := h4 j (by omega)
    obtain ⟨b, off, spot⟩ := x
    have h0 := h4 0 (by omega)
    have hspot : spot = none := by simpa [Addr.add] using World.cell?_spot h0
    subst hspot
    rw [addLit0] at hc
    have hlt : b < w.heap.size := World.block_lt_of_cell? w _ hc
    exact ⟨b, off, _, rfl, by omega, cell_alloc hc _⟩
theorem row_len {w : World} {a : Option Addr} {len cap : Nat} {z : List Int} (h : IsRow .i64 w a len cap z) : len ≤ maxLen := by
  rcases h with ⟨_, rfl, _, _⟩ | ⟨x, _, h1, h2, _⟩
  · exact Nat.zero_le _
  · omega
set_option maxHeartbeats 1000000 in
theorem new_any (a : Option Addr) (len cap : Nat) (z : List Int) (w : World) (h : IsRow .i64 w a len cap z) (hl : len ≤ 9223372036854775807) :
    Calls Try.prog 14 #[.slice a len cap] w fun e w' => e = .returned (.pointer (some ⟨w.heap.size, 0, none⟩)) ∧ IsTp w' w.heap.size ∧ Below w.heap.size w w' := by
  have HT := Lib.hid (h.tp hl 55)
  clear h
  go_enter Try.func14, Try.ntmps14
  go_wp2
  go_ret
  exact ⟨rfl, HT.out, (Below.refl _ _).alloc (Nat.le_refl _) _⟩

def ScRegP (most : Nat) (bt : Nat) (w : World) (e : Ending) (w' : World) : Prop := ∃ va l, e = .returned (.agg #[va]) ∧ ScGood l ∧ l.length ≤ most ∧ Own w' w.heap.size va l ∧ Drew w bt w'
set_option maxRecDepth 100000 in
set_option maxHeartbeats 4000000 in
theorem register_any (bt most : Nat) (w : World) (ht : IsTp w bt) (hm : most ≤ 100) :
    Calls Try.prog 15 #[.pointer (some ⟨bt, 0, none⟩), .int .i64 most] w (ScRegP most bt w) := by
  have hbt := ht.lt
  have HT := Lib.hid ht
  obtain ⟨w0, hw0⟩ : ∃ w0, w0 = (w.alloc (.cells #[.slice none 0 0] 24)).alloc (.cells #[.slice none 0 0] 24) := ⟨_, rfl⟩
  have hs0 : w0.heap.size = w.heap.size + 2 := by rw [hw0]; simp
  have hd0 : Drew w bt w0 := by rw [hw0]; exact ((Drew.refl ht).alloc _).alloc _
  have c0 : w0.cell? ⟨w.heap.size, 0, none⟩ = some (.slice none 0 0) := by rw [hw0]; go_cell
  have c1 : w0.cell? ⟨w.heap.size + 1, 0, none⟩ = some (.slice none 0 0) := by rw [hw0]; go_cell
  have z0 : w0.frozen? ⟨w.heap.size, 0, none⟩ = false := by rw [hw0, froz_two]; simp
  have z1 : w0.frozen? ⟨w.heap.size + 1, 0, none⟩ = false := by rw [hw0]; simp
  clear ht
  go_enter Try.func15, Try.ntmps15
  go_wp2_with fail
  rw [← hw0]
  refine (next_any bt (most + 1) _ hd0.1 (by omega) (by omega)).mono ?_
  rintro e w1 ⟨n, rfl, hn0, hn1, hd1⟩
  obtain ⟨n, rfl⟩ : ∃ k : Nat, n = k := ⟨n.toNat, by omega⟩
  have HD1 := Lib.hid (hd0.trans hd1)
  have hs1 : w.heap.size + 2 ≤ w1.heap.size := by have := hd1.size; omega
  have d0 := hd1.cell c0 (by simp; omega)
  have d1 := hd1.cell c1 (by simp; omega)
  have y0 := (hd1.frozen (a := ⟨w.heap.size, 0, none⟩) (by simp; omega) (by simp; omega)).trans z0
  have y1 := (hd1.frozen (a := ⟨w.heap.size + 1, 0, none⟩) (by simp; omega) (by simp; omega)).trans z1
  have HC := Lib.hid (And.intro d0 (And.intro d1 (And.intro y0 y1)))
  clear hd0 hd1 c0 c1 z0 z1 d0 d1 y0 y1 hw0
  go_wp2
  go_loopg [6] n (fun m a wr => ∃ (k : Nat) (l : List Lot) (va : Value), k ≤ m ∧ a = .int .i64 k ∧ k + l.length ≤ most ∧ ScGood l ∧ wr.cell? ⟨w.heap.size, 0, none⟩ = some (.slice none 0 0) ∧ wr.cell? ⟨w.heap.size + 1, 0, none⟩ = some va ∧ wr.frozen? ⟨w.heap.size, 0, none⟩ = false ∧ wr.frozen? ⟨w.heap.size + 1, 0, none⟩ = false ∧ Own wr (w.heap.size + 2) va l ∧ Drew w bt wr ∧ w.heap.size + 2 ≤ wr.heap.size)
  case atStart => exact ⟨n, [], .slice none 0 0, by omega, rfl, by simp; omega, ScGood.nil, HC.out.1, HC.out.2.1, HC.out.2.2.1, HC.out.2.2.2, Own.nil _ _, HD1.out, hs1⟩
  case round =>
    obtain ⟨k, l, va, hkm, rfl, hkl, hg, c0, c1, z0, z1, ho, hd, hs⟩ := hrel
    have HG := Lib.hid hg
    have HO := Lib.hid ho
    have HD := Lib.hid hd
    clear hg ho hd
    obtain ⟨A, cap, hva⟩ := Rd.form HO.out.lots
    subst hva
    by_cases hk0 : 0 < k
    · go_wp2_with fail
      refine (account_any bt _ HD.out.1).mono ?_
      rintro e w2 ⟨x, hx, rfl, hd2⟩
      have HX := Lib.hid hx
      have HE2 := Lib.hid hd2
      clear hx hd2
      go_wp2_with fail
      refine (next_any bt 40 _ HE2.out.1 (by omega) (by omega)).mono ?_
      rintro e w3 ⟨s, rfl, hs0', hs1', hd3⟩
      have HE3 := Lib.hid (HE2.out.trans hd3)
      have hz3 := HE3.out.size
      clear hd3
      go_wp2_with fail
      have HP := Lib.hid (ints_at w3 [0, 3, 7, 9, s] 3 w3.heap.size rfl)
      refine (pick_any bt w3.heap.size 5 5 [0, 3, 7, 9, s] _ rfl (HE3.out.alloc _).1 (by omega) (by omega) (by omega) HP.out).mono ?_
      rintro e w4 ⟨t, ht, rfl, hd4⟩
      have hst : 0 ≤ t ∧ t ≤ 73048 := by
        simp only [List.mem_cons, List.not_mem_nil, or_false] at ht; omega
      have HE4 := Lib.hid ((HE3.out.alloc _).trans hd4)
      clear hd4 ht HP
      go_wp2_with fail
      refine (units_any bt _ HE4.out.1).mono ?_
      rintro e w5 ⟨u, rfl, hu0, hu1, hd5⟩
      have HE5 := Lib.hid (HE4.out.trans hd5)
      have hz5 := HE5.out.size
      clear hd5
      have b0 := HE5.out.cell c0 (by simp; omega)
      have b1 := HE5.out.cell c1 (by simp; omega)
      have y0 := (HE5.out.frozen (a := ⟨w.heap.size, 0, none⟩) (by simp; omega) (by simp; omega)).trans z0
      have y1 := (HE5.out.frozen (a := ⟨w.heap.size + 1, 0, none⟩) (by simp; omega) (by simp; omega)).trans z1
      have HO5 := Lib.hid (HO.out.drawn HE5.out (by omega))
      have HD5 := Lib.hid (HD.out.trans HE5.out)
      have hl5 : w.heap.size + 1 < w5.heap.size := by omega
      have hl50 : w.heap.size < w5.heap.size := by omega
      have HLX := Lib.hid (HO5.out.lots)
      clear c0 c1 z0 z1
      go_wp2_with fail
      refine (put_any _ l ⟨x.1, x.2, t, u⟩ _ (HLX.out.below ((Below.refl _ _).alloc (Nat.le_refl _) _)) (by omega)).mono ?_
      rintro e w6 ⟨v', l', rfl, hps, ho6, hb6⟩
      have HGP := Lib.hid (good_put hps HG.out ⟨HX.out, hst.1, hst.2, hu0, hu1⟩)
      have HO6 := Lib.hid (ho6.base (B' := w.heap.size + 2) (by simp; omega))
      have HD6 := Lib.hid ((HD5.out.alloc _).below hb6)
      have e0 := cell_up (cell_alloc b0 _) hb6
      have e1 := cell_up (cell_alloc b1 _) hb6
      have f0 := (hb6.frozen (p := ⟨w.heap.size, 0, none⟩) (by simp; omega)).trans ((World.frozen?_of_block (Below.heap_alloc _ _ _ hl50)).trans y0)
      have f1 := (hb6.frozen (p := ⟨w.heap.size + 1, 0, none⟩) (by simp; omega)).trans ((World.frozen?_of_block (Below.heap_alloc _ _ _ hl5)).trans y1)
      have hz6 : w5.heap.size + 1 ≤ w6.heap.size := by have := hb6.size; simpa using this
      clear hps ho6 hb6 b0 b1 y0 y1
      obtain ⟨A6, c6, hv6⟩ := Rd.form HO6.out.lots
      subst hv6
      have HO7 := Lib.hid (HO6.out.setCell ⟨w.heap.size + 1, 0, none⟩ (.slice A6 l'.length c6) (fun e => by have := (HO6.out.lt _ e).1; simp at this))
      have HD7 := Lib.hid (HD6.out.setCell hbt ⟨w.heap.size + 1, 0, none⟩ (.slice A6 l'.length c6) (by simp))
      go_wp2
      go_roundg (gk - 1)
      case measure => omega
      case rel => exact ⟨k - 1, l', _, by omega, by go_num, by have := HGP.out.2; omega, HGP.out.1, by rw [World.cell?_setCell_other _ _ _ _ (by simp)]; exact e0, World.cell?_setCell_same _ _ _ e1, by rw [World.frozen?_setCell]; exact f0, by rw [World.frozen?_setCell]; exact f1, HO7.out, HD7.out, by simp [World.setCell]; omega⟩
    · obtain rfl : k = 0 := by omega
      go_wp2
      have HO7 := Lib.hid (HO.out.setCell ⟨w.heap.size, 0, none⟩ (.slice A l.length cap) (fun e => by have := (HO.out.lt _ e).1; simp at this; omega))
      have HD7 := Lib.hid (HD.out.setCell hbt ⟨w.heap.size, 0, none⟩ (.slice A l.length cap) (Nat.le_refl _))
      refine bodyPost_ret (v := .agg #[.slice A l.length cap]) (by simp [results, Try.results15, go_sem, c0]) rfl ⟨_, l, rfl, HG.out, by omega, HO7.out.base (by omega), HD7.out⟩
end Go.Proofs.Ythhmpdjjfoplgaa
