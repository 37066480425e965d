/- A lot by itself, the sum of lots: register.right, register.sum: walked. -/
import Derived.Test.YthhmpdjjfoplgaaRegD
set_option linter.unusedVariables false
set_option linter.unusedSimpArgs false
namespace Go.Proofs.Ythhmpdjjfoplgaa
open Go.RowKit Reg

namespace Reg
def rightB (x : Lot) : Bool := acctB x.nom x.hol && (decide (0 ≤ x.ser) && decide (x.ser ≤ 73048) && decide (1 ≤ x.units) && decide (x.units ≤ 1000000000000000))
/-- what is asked of the k-th lot -/
def okAt (l : List Lot) (k : Nat) : Bool := match l[k]? with
  | none => true
  | some x => rightB x && (match k with
    | 0 => true
    | j + 1 => match l[j]? with
      | none => true
      | some y => lotLt y x)
def okL (l : List Lot) : Bool := (List.range l.length).all (okAt l)
def checkB (l : List Lot) : Bool := decide (l.length ≤ 256) && okL l && decide (sumU l ≤ 1000000000000000)
theorem okAt_zero {l : List Lot} {x : Lot} (hx : l[0]? = some x) : okAt l 0 = rightB x := by simp [okAt, hx]
theorem okAt_succ {l : List Lot} {x y : Lot} {j : Nat} (hx : l[j + 1]? = some x) (hy : l[j]? = some y) : okAt l (j + 1) = (rightB x && lotLt y x) := by simp [okAt, hx, hy]
theorem okL_no {l : List Lot} {k : Nat} (hk : k < l.length) (h : okAt l k = false) : okL l = false := by
  unfold okL
  rw [List.all_eq_false]
  exact ⟨k, by simpa using hk, by simp [h]⟩
theorem okL_yes {l : List Lot} {n : Nat} (hn : l.length ≤ n) (h : ∀ k, k < n → okAt l k = true) : okL l = true := by
  unfold okL
  rw [List.all_eq_true]
  intro k hk
  exact h k (by have := List.mem_range.1 hk; omega)
theorem okL_at {l : List Lot} (h : okL l = true) (k : Nat) (hk : k < l.length) : okAt l k = true := by
  unfold okL at h
  rw [List.all_eq_true] at h
  exact h k (by simpa using hk)
theorem okL_right {l : List Lot} (h : okL l = true) (x : Lot) (hx : x ∈ l) : rightB x = true := by
  obtain ⟨k, hk⟩ := List.getElem?_of_mem hx
  have h1 := okL_at h k (List.getElem?_eq_some_iff.1 hk).1
  simp only [okAt, hk, Bool.and_eq_true] at h1
  exact h1.1
theorem right_bd {x : Lot} (h : rightB x = true) : 1 ≤ x.units ∧ x.units ≤ 1000000000000000 ∧ 0 ≤ x.ser ∧ x.ser ≤ 73048 ∧ acctB x.nom x.hol = true := by
  simp only [rightB, Bool.and_eq_true, decide_eq_true_eq] at h
  exact ⟨h.2.1.2, h.2.2, h.2.1.1.1, h.2.1.1.2, h.1⟩
theorem okL_srt {l : List Lot} (h : okL l = true) : Srt l := by
  unfold Srt
  rw [List.pairwise_iff_getElem]
  have step : ∀ i (hi : i + 1 < l.length), lotLt (l[i]'(by omega)) l[i + 1] = true := by
    intro i hi
    have h1 := okL_at h (i + 1) hi
    rw [okAt_succ (x := l[i + 1]) (y := l[i]'(by omega)) (List.getElem?_eq_getElem hi) (List.getElem?_eq_getElem (by omega))] at h1
    simp only [Bool.and_eq_true] at h1
    exact h1.2
  intro i j hi hj hij
  obtain ⟨d, rfl⟩ : ∃ d, j = i + 1 + d := ⟨j - i - 1, by omega⟩
  induction d with
  | zero => exact step i hj
  | succ d ih => exact lotLt_trans (ih (by omega) (by omega)) (step (i + 1 + d) (by omega))
theorem drop_at {α : Type} {l : List α} {k : Nat} {x : α} (h : l[k]? = some x) : l.drop k = x :: l.drop (k + 1) := by
  obtain ⟨h1, h2⟩ := List.getElem?_eq_some_iff.1 h
  rw [List.drop_eq_getElem_cons h1, h2]
end Reg
/-- the slice v holds these lots -/
def LotsAt (w : World) (v : Value) (l : List Lot) : Prop := Rd w 4 v l.length (cellsL l)
theorem LotsAt.below {w w' : World} {v : Value} {l : List Lot} (h : LotsAt w v l) (hb : Below w.heap.size w w') : LotsAt w' v l := Rd.below h hb
/-- the k-th lot's cells -/
def CellsAt (w : World) (g o : Nat) (x : Lot) : Prop := w.cell? ⟨g, o, none⟩ = some (.string x.nom) ∧ w.cell? ⟨g, o + 1, none⟩ = some (.string x.hol) ∧ w.cell? ⟨g, o + 2, none⟩ = some (.int .i64 x.ser) ∧ w.cell? ⟨g, o + 3, none⟩ = some (.int .i64 x.units)
theorem CellsAt.below {w w' : World} {g o : Nat} {x : Lot} (h : CellsAt w g o x) (hb : Below w.heap.size w w') : CellsAt w' g o x := ⟨cell_up h.1 hb, cell_up h.2.1 hb, cell_up h.2.2.1 hb, cell_up h.2.2.2 hb⟩
/-- a slice of lots with one at least: where it lies -/
theorem LotsAt.some {w : World} {v : Value} {l : List Lot} (h : LotsAt w v l) (hn : 0 < l.length) : ∃ g off cap, v = .slice (some ⟨g, off, none⟩) l.length cap ∧ ∀ k x, l[k]? = some x → CellsAt w g (off + k * 4) x := by
  obtain ⟨h1, h2, A, cap, hv, h3⟩ := h
  obtain ⟨g, off, ha, hc⟩ := h3 hn
  subst ha
  refine ⟨g, off, cap, hv, fun k x hx => ?_⟩
  obtain ⟨c0, c1, c2, c3⟩ := cellsL_get l k x hx
  exact ⟨hc _ _ c0, by rw [Nat.add_assoc]; exact hc _ _ c1, by rw [Nat.add_assoc]; exact hc _ _ c2, by rw [Nat.add_assoc]; exact hc _ _ c3⟩
theorem LotsAt.nil {w : World} {v : Value} {l : List Lot} (h : LotsAt w v l) (hn : l.length = 0) : ∃ A cap, v = .slice A 0 cap := by
  obtain ⟨A, cap, hv⟩ := Rd.form h
  exact ⟨A, cap, by rw [hv, hn]⟩

set_option maxHeartbeats 1000000 in
theorem right_any (x : Lot) (w : World) :
    Calls Try.prog 49 #[lotV x] w fun e w' => e = .returned (.bool (rightB x)) ∧ Below w.heap.size w w' := by
  have HB := fun W => acct_any x.nom x.hol W
  have hF := rightB.eq_1 x
  unfold lotV
  obtain ⟨nm, hl, ser, un⟩ := x
  simp only at HB hF ⊢
  cases h1 : acctB nm hl with
  | false =>
    rw [h1] at HB
    have HB := Lib.hid HB
    have HF := Lib.hid (show rightB ⟨nm, hl, ser, un⟩ = false by rw [hF, h1]; rfl)
    clear hF h1
    go_enter Try.func49, Try.ntmps49
    go_wp2_with fail
    refine (HB.out _).mono ?_; rintro e w1 ⟨rfl, hb⟩
    have HB1 := Lib.hid hb; clear hb
    go_wp2
    go_ret
    exact ⟨ret_bool HF.out.symm, ((Below.refl _ _).alloc (Nat.le_refl _) _).trans (HB1.out.mono (by simp))⟩
  | true =>
    rw [h1] at HB hF
    have HB := Lib.hid HB
    have HF := Lib.hid (show rightB ⟨nm, hl, ser, un⟩ = (decide (0 ≤ ser) && decide (ser ≤ 73048) && decide (1 ≤ un) && decide (un ≤ 1000000000000000)) by rw [hF]; rfl)
    clear hF h1
    go_enter Try.func49, Try.ntmps49
    go_wp2_with fail
    refine (HB.out _).mono ?_; rintro e w1 ⟨rfl, hb⟩
    have c2 := cell_up (show (w.alloc (.cells #[.string nm, .string hl, .int .i64 ser, .int .i64 un] 41)).cell? ⟨w.heap.size, 2, none⟩ = some (.int .i64 ser) by go_cell) hb
    have c3 := cell_up (show (w.alloc (.cells #[.string nm, .string hl, .int .i64 ser, .int .i64 un] 41)).cell? ⟨w.heap.size, 3, none⟩ = some (.int .i64 un) by go_cell) hb
    have HB1 := Lib.hid hb; clear hb
    go_wp2
    all_goals go_ret
    all_goals refine ⟨ret_bool ?_, ((Below.refl _ _).alloc (Nat.le_refl _) _).trans (HB1.out.mono (by simp))⟩
    all_goals rw [HF.out]
    all_goals (rw [Bool.eq_iff_iff]; simp <;> omega)

set_option maxRecDepth 100000 in
set_option maxHeartbeats 2000000 in
theorem sum_any (v : Value) (l : List Lot) (w : World) (h : LotsAt w v l) (hb : ∀ x ∈ l, 0 ≤ x.units ∧ x.units ≤ 1000000000000000) (hn : l.length ≤ 1000) :
    Calls Try.prog 48 #[v] w fun e w' => e = .returned (.int .i64 (sumU l)) ∧ Below w.heap.size w w' := by
  have HB := Lib.hid hb
  clear hb
  by_cases h0 : l.length = 0
  · obtain ⟨A, cap, rfl⟩ := h.nil h0
    have HS := Lib.hid (show sumU l = 0 by rw [List.eq_nil_of_length_eq_zero h0]; rfl)
    clear h0 h
    go_enter Try.func48, Try.ntmps48
    go_wp2
    go_loopg [3, 8] 1 (fun m sv i wr => sv = .int .i64 0 ∧ i = .int .i64 0 ∧ wr = w)
    case atStart => exact ⟨rfl, rfl, rfl⟩
    case round =>
      obtain ⟨rfl, rfl, rfl⟩ := hrel
      go_wp2
      go_ret
      exact ⟨ret_int HS.out.symm, Below.refl _ _⟩
  · obtain ⟨g, off, cap, rfl, hc⟩ := h.some (by omega)
    obtain ⟨n, hnn⟩ : ∃ n, n = l.length := ⟨_, rfl⟩
    rw [← hnn] at hn h0 ⊢
    have HN := Lib.hid hnn
    have HC := Lib.hid hc
    clear hnn hc h
    go_enter Try.func48, Try.ntmps48
    go_wp2
    go_loopg [3, 8] n (fun m sv i wr => ∃ (k : Nat) (s : Int), k ≤ n ∧ n - k ≤ m ∧ i = .int .i64 k ∧ sv = .int .i64 s ∧ 0 ≤ s ∧ s ≤ 1000000000000000 * (k : Int) ∧ s + sumU (l.drop k) = sumU l ∧ Below w.heap.size w wr)
    case atStart => exact ⟨0, 0, by omega, by omega, rfl, rfl, by omega, by omega, by simp, Below.refl _ _⟩
    case round =>
      obtain ⟨k, s, hk, hm, rfl, rfl, hs0, hs1, hs2, hbl⟩ := hrel
      have HS2 := Lib.hid hs2
      have HBL := Lib.hid hbl
      clear hs2 hbl
      by_cases hlt : k < n
      · obtain ⟨x, hx⟩ : ∃ x, l[k]? = some x := ⟨l[k]'(by rw [← HN.out]; exact hlt), by simp [← HN.out, hlt]⟩
        obtain ⟨c0, c1, c2, c3⟩ := (HC.out k x hx).below HBL.out
        have hxb := HB.out x (List.mem_of_getElem? hx)
        have HX := Lib.hid (drop_at hx)
        clear hx
        obtain ⟨hx0, hx1⟩ := hxb
        have hadd : IntKind.i64.wrap (s + x.units) = s + x.units := IntWalk.i64_in _ (by omega)
        go_wp2
        go_roundg (gk - 1)
        case measure => omega
        case rel => exact ⟨k + 1, s + x.units, by omega, by omega, by go_num, by go_num, by omega, by omega, by rw [← HS2.out, HX.out, sumU]; omega, HBL.out.alloc HBL.out.size _⟩
      · go_wp2
        go_ret
        exact ⟨ret_int (by rw [← HS2.out, List.drop_eq_nil_of_le (by have := HN.out; omega)]; simp [sumU]), HBL.out⟩
end Go.Proofs.Ythhmpdjjfoplgaa
