/- The reference's taking, walked. -/
import Derived.Test.YthhmpdjjfoplgaaRegI
set_option linter.unusedVariables false
set_option linter.unusedSimpArgs false
namespace Go.Proofs.Ythhmpdjjfoplgaa
open Go.RowKit Reg

theorem Own.drew {w : World} {B : Nat} {v : Value} {l : List Lot} (h : Own w B v l) : Own w.drew B v l := h
theorem grown_undrew {w w' : World} {row : Option Nat} (h : w.drew.grownBy w' row) : w.grownBy w' row := ⟨h.os, h.tape, h.output, h.size, h.block⟩
namespace Reg
theorem takeR_own {nm hl : ByteArray} {l : List Lot} {k : Nat} {x : Lot} {n : Int} {F : List Lot × List Lot} {a b : List Lot} (hx : l[k]? = some x) (ho : ownB nm hl x = true) (h0 : 0 < n)
    (h : F = (a ++ (takeR nm hl (l.drop k) n).1, b ++ (takeR nm hl (l.drop k) n).2)) :
    F = ((a ++ if 0 < x.units - min n x.units then [⟨x.nom, x.hol, x.ser, x.units - min n x.units⟩] else []) ++ (takeR nm hl (l.drop (k + 1)) (n - min n x.units)).1,
         (b ++ [⟨nm, hl, x.ser, min n x.units⟩]) ++ (takeR nm hl (l.drop (k + 1)) (n - min n x.units)).2) := by
  rw [h, drop_at hx, takeR, if_pos ⟨ho, h0⟩]
  dsimp only
  rw [more_neg]
  refine Prod.ext ?_ ?_
  · simp only [List.append_assoc]; split <;> simp
  · simp only [List.append_assoc]; simp
theorem takeR_oth {nm hl : ByteArray} {l : List Lot} {k : Nat} {x : Lot} {n : Int} {F : List Lot × List Lot} {a b : List Lot} (hx : l[k]? = some x) (ho : ¬ (ownB nm hl x = true ∧ 0 < n)) (hu : 0 < x.units)
    (h : F = (a ++ (takeR nm hl (l.drop k) n).1, b ++ (takeR nm hl (l.drop k) n).2)) :
    F = ((a ++ [x]) ++ (takeR nm hl (l.drop (k + 1)) n).1, b ++ (takeR nm hl (l.drop (k + 1)) n).2) := by
  rw [h, drop_at hx, takeR, if_neg ho]
  refine Prod.ext ?_ ?_
  · simp [hu]
  · rfl
theorem takeR_len (nm hl : ByteArray) (l : List Lot) (n : Int) : (takeR nm hl l n).1.length ≤ l.length ∧ (takeR nm hl l n).2.length ≤ l.length := by
  induction l generalizing n with
  | nil => simp [takeR]
  | cons x l ih =>
    have h1 := ih (n - min n x.units)
    have h2 := ih n
    simp only [takeR]
    split
    · simp only
      constructor
      · split <;> simp <;> omega
      · simp; omega
    · simp only
      constructor
      · split <;> simp <;> omega
      · simp; omega
end Reg

set_option maxRecDepth 100000 in
set_option maxHeartbeats 4000000 in
theorem rtake_any (v : Value) (l : List Lot) (nm hl : ByteArray) (n0 : Int) (w : World) (h : LotsAt w v l) (hn : l.length ≤ 1000) (hu : ∀ x ∈ l, 1 ≤ x.units ∧ x.units ≤ 1000000000000000) (hn0 : 0 ≤ n0) (hn1 : n0 ≤ 1000000000000000) :
    Calls Try.prog 55 #[v, .agg #[.string nm, .string hl], .int .i64 n0] w fun e w' => ∃ va vb, e = .returned (.tuple #[va, vb]) ∧ Own w' w.heap.size va (takeR nm hl l n0).1 ∧ Own w' w.heap.size vb (takeR nm hl l n0).2 ∧ Apart va vb ∧ Below w.heap.size w w' := by
  have HU := Lib.hid hu
  clear hu
  by_cases h0 : l.length = 0
  · obtain ⟨A, cap, rfl⟩ := h.nil h0
    have hl0 := List.eq_nil_of_length_eq_zero h0
    subst hl0
    clear h h0 hn HU
    go_enter Try.func55, Try.ntmps55
    go_wp2
    go_loopg [6, 7, 8] 1 (fun m a b i wr => a = .slice none 0 0 ∧ b = .slice none 0 0 ∧ i = .int .i64 0 ∧ wr = w.alloc (.cells #[.string nm, .string hl] 26))
    case atStart => exact ⟨rfl, rfl, rfl, rfl⟩
    case round =>
      obtain ⟨rfl, rfl, rfl, rfl⟩ := hrel
      go_wp2
      go_ret2
      exact ⟨_, _, rfl, Own.nil _ _, Own.nil _ _, fun g h => by simp [Value.ownBlock] at h, (Below.refl _ _).alloc (Nat.le_refl _) _⟩
  · obtain ⟨g, off, cap, rfl, hc⟩ := h.some (by omega)
    obtain ⟨n, hnn⟩ : ∃ n, n = l.length := ⟨_, rfl⟩
    obtain ⟨F, hF⟩ : ∃ F, F = takeR nm hl l n0 := ⟨_, rfl⟩
    rw [← hnn] at hn h0 ⊢
    rw [← hF]
    have HN := Lib.hid hnn
    have HC := Lib.hid hc
    have HF0 := Lib.hid hF
    clear hnn hc h hF
    go_enter Try.func55, Try.ntmps55
    go_wp2
    go_loopg [2, 6, 7, 8] n (fun m q a b i wr => ∃ (k : Nat) (t : Int) (la lb : List Lot), k ≤ n ∧ n - k ≤ m ∧ i = .int .i64 k ∧ q = .int .i64 t ∧ 0 ≤ t ∧ t ≤ 1000000000000000 ∧ F = (la ++ (takeR nm hl (l.drop k) t).1, lb ++ (takeR nm hl (l.drop k) t).2) ∧ la.length ≤ k ∧ lb.length ≤ k ∧
      Own wr (w.heap.size + 1) a la ∧ Own wr (w.heap.size + 1) b lb ∧ Apart a b ∧ Below (w.heap.size + 1) (w.alloc (.cells #[.string nm, .string hl] 26)) wr)
    case atStart => exact ⟨0, n0, [], [], by omega, by omega, rfl, rfl, hn0, hn1, by simpa using HF0.out, by simp, by simp, Own.nil _ _, Own.nil _ _, fun g h => by simp [Value.ownBlock] at h, Below.refl _ _⟩
    case round =>
      obtain ⟨k, t, la, lb, hk, hm, rfl, rfl, ht0, ht1, hF, hla, hlb, hoa, hob, hap, hbl⟩ := hrel
      have hsz : w.heap.size < wr.heap.size := by have := hbl.size; simp at this; omega
      have a0 : wr.cell? ⟨w.heap.size, 0, none⟩ = some (.string nm) := cell_belowB (by go_cell) hbl (by simp)
      have a1 : wr.cell? ⟨w.heap.size, 1, none⟩ = some (.string hl) := cell_belowB (by go_cell) hbl (by simp)
      have HOA := Lib.hid hoa
      have HOB := Lib.hid hob
      have HAP := Lib.hid hap
      have HBL := Lib.hid hbl
      have HB0 := Lib.hid (show Below w.heap.size w wr from ((Below.refl _ _).alloc (Nat.le_refl _) _).trans (hbl.mono (by omega)))
      have HF := Lib.hid hF
      clear hoa hob hap hbl hF
      by_cases hlt : k < n
      · obtain ⟨x, hx⟩ : ∃ x, l[k]? = some x := ⟨l[k]'(by rw [← HN.out]; exact hlt), by simp [← HN.out, hlt]⟩
        obtain ⟨c0, c1, c2, c3⟩ := (HC.out k x hx).below HB0.out
        obtain ⟨hu0, hu1⟩ := HU.out x (List.mem_of_getElem? hx)
        have hpos : 0 < x.units := by omega
        have q1 : (x.nom.toList == nm.toList) = sEq x.nom nm := rfl
        have q2 : (x.hol.toList == hl.toList) = sEq x.hol hl := rfl
        have hpx : ownB nm hl x = (sEq x.nom nm && sEq x.hol hl) := rfl
        have hcase : (sEq x.nom nm = true ∧ sEq x.hol hl = true ∧ ownB nm hl x = true) ∨ (sEq x.nom nm = false ∧ ownB nm hl x = false) ∨ (sEq x.nom nm = true ∧ sEq x.hol hl = false ∧ ownB nm hl x = false) := by
          rw [hpx]; cases sEq x.nom nm <;> cases sEq x.hol hl <;> simp
        clear hpx
        by_cases ht : 0 < t
        · rcases hcase with ⟨e1, e2, e3⟩ | ⟨e1, e3⟩ | ⟨e1, e2, e3⟩
          · rw [e1] at q1
            rw [e2] at q2
            have hF2 := takeR_own hx e3 ht HF.out
            have HX := Lib.hid hx
            clear hx e1 e2 e3
            obtain ⟨q, hq⟩ : ∃ q, min t x.units = q := ⟨_, rfl⟩
            rw [hq] at hF2
            have hq0 : 0 < q := by omega
            have hqt : q ≤ t := by omega
            have hqu : q ≤ x.units := by omega
            have hsub : IntKind.i64.wrap (t - q) = t - q := IntWalk.i64_in _ (by omega)
            have hsub2 : IntKind.i64.wrap (x.units - q) = x.units - q := IntWalk.i64_in _ (by omega)
            by_cases hlq : 0 < x.units - q
            · rw [if_pos hlq] at hF2
              have HF2 := Lib.hid hF2
              clear hF2
              go_wp2_with (at_builtin; refine wpList_append_lot rfl _ _ rfl _ (w.heap.size + 1) u7 lb ⟨nm, hl, x.ser, q⟩ rfl (HOB.out.alloc _) _ rfl (by simp) (by omega) (by first | omega | (simp <;> omega)) ?_; intro v' w1 ho1 hg1 hat1; obtain ⟨⟨x0, x1, x2, x3⟩, hfz, hlt1⟩ := boxed_kept HOB.out hg1; have HO1 := Lib.hid ho1; have HG1 := Lib.hid hg1; have HAT1 := Lib.hid hat1; have HOL := Lib.hid ((HOA.out.alloc _).kept hg1 HAP.out.symm.symm); clear ho1 hg1 hat1)
              go_region
              go_wp2_with (at_builtin; refine wpList_append_lot rfl _ _ rfl _ (w.heap.size + 1) u6 la ⟨x.nom, x.hol, x.ser, x.units - q⟩ rfl (HOL.out.setCell _ _ (HOA.out.ne (.inl (Nat.le_refl _)))).drew _ rfl (by simp) (by omega) (by have := HG1.out.size; simp at this ⊢; omega) ?_; intro v2 w2 ho2 hg2 hat2; have HO2 := Lib.hid ho2; have HG2 := Lib.hid hg2; have HAT2 := Lib.hid hat2; clear ho2 hg2 hat2)
              obtain ⟨e1, e2, e3, e4, e5⟩ := after_one HOA.out HOB.out HAP.out HBL.out hsz HG1.out HO1.out HAT1.out (by simp)
              obtain ⟨f1, f2, f3⟩ := after_two e1 HO1.out e2 e3 e5 e4 (HOA.out.ne (.inl (Nat.le_refl _))) hsz (grown_undrew HG2.out) HO2.out HAT2.out (by simp)
              have HE := Lib.hid (And.intro f1 (And.intro f2 f3))
              clear e1 e2 e3 e4 e5 f1 f2 f3 x0 x1 x2 x3 hfz
              go_roundg (gk - 1)
              case measure => omega
              case rel => exact ⟨k + 1, t - q, _, _, by omega, by omega, by go_num, by go_num, by omega, by omega, HF2.out, by simp; omega, by simp; omega, HO2.out, HE.out.1, HE.out.2.1, HE.out.2.2⟩
            · rw [if_neg hlq, List.append_nil] at hF2
              have HF2 := Lib.hid hF2
              clear hF2
              go_wp2_with (at_builtin; refine wpList_append_lot rfl _ _ rfl _ (w.heap.size + 1) u7 lb ⟨nm, hl, x.ser, q⟩ rfl (HOB.out.alloc _) _ rfl (by simp) (by omega) (by first | omega | (simp <;> omega)) ?_; intro v' w1 ho1 hg1 hat1; obtain ⟨⟨x0, x1, x2, x3⟩, hfz, hlt1⟩ := boxed_kept HOB.out hg1; have HO1 := Lib.hid ho1; have HG1 := Lib.hid hg1; have HAT1 := Lib.hid hat1; have HOL := Lib.hid ((HOA.out.alloc _).kept hg1 HAP.out.symm.symm); clear ho1 hg1 hat1)
              go_region
              go_wp2
              obtain ⟨e1, e2, e3, e4, e5⟩ := after_one HOA.out HOB.out HAP.out HBL.out hsz HG1.out HO1.out HAT1.out (by simp)
              have HE := Lib.hid (And.intro (e1.setCell ⟨wr.heap.size, 3, none⟩ (.int .i64 (x.units - q)) (HOA.out.ne (.inl (Nat.le_refl _)))).drew (And.intro (HO1.out.setCell ⟨wr.heap.size, 3, none⟩ (.int .i64 (x.units - q)) e4).drew (And.intro e2 (below_drew (below_set e3 ⟨wr.heap.size, 3, none⟩ (.int .i64 (x.units - q)) hsz)))))
              clear e1 e2 e3 e4 e5 x0 x1 x2 x3 hfz
              go_roundg (gk - 1)
              case measure => omega
              case rel => exact ⟨k + 1, t - q, _, _, by omega, by omega, by go_num, by go_num, by omega, by omega, HF2.out, by omega, by simp; omega, HE.out.1, HE.out.2.1, HE.out.2.2.1, HE.out.2.2.2⟩
          all_goals
            have hF2 := takeR_oth hx (by rw [e3]; simp) hpos HF.out
            rw [e1] at q1
            try rw [e2] at q2
            have HF2 := Lib.hid hF2
            clear hF2 hx e3 e1
            go_wp2_with (at_builtin; refine wpList_append_lot rfl _ _ rfl _ (w.heap.size + 1) u6 la x rfl (HOA.out.alloc _) _ rfl (by simp) (by omega) (by first | omega | (simp <;> omega)) ?_; intro v' w1 ho1 hg1 hat1; have HO1 := Lib.hid ho1; have HG1 := Lib.hid hg1; have HAT1 := Lib.hid hat1; clear ho1 hg1 hat1)
            obtain ⟨f1, f2, f3, f4, f5⟩ := after_one HOB.out HOA.out HAP.out.symm HBL.out hsz HG1.out HO1.out HAT1.out (by simp)
            have HE := Lib.hid (And.intro f1 (And.intro f2.symm f3))
            clear f1 f2 f3 f4 f5
            go_roundg (gk - 1)
            case measure => omega
            case rel => exact ⟨k + 1, t, _, _, by omega, by omega, by go_num, rfl, by omega, by omega, HF2.out, by simp; omega, by omega, HO1.out, HE.out.1, HE.out.2.1, HE.out.2.2⟩
        · obtain rfl : t = 0 := by omega
          have hF2 := takeR_oth hx (fun h => ht h.2) hpos HF.out
          have HF2 := Lib.hid hF2
          clear hF2 hx
          rcases hcase with ⟨e1, e2, e3⟩ | ⟨e1, e3⟩ | ⟨e1, e2, e3⟩
          all_goals
            rw [e1] at q1
            try rw [e2] at q2
            clear e3 e1
            go_wp2_with (at_builtin; refine wpList_append_lot rfl _ _ rfl _ (w.heap.size + 1) u6 la x rfl (HOA.out.alloc _) _ rfl (by simp) (by omega) (by first | omega | (simp <;> omega)) ?_; intro v' w1 ho1 hg1 hat1; have HO1 := Lib.hid ho1; have HG1 := Lib.hid hg1; have HAT1 := Lib.hid hat1; clear ho1 hg1 hat1)
            obtain ⟨f1, f2, f3, f4, f5⟩ := after_one HOB.out HOA.out HAP.out.symm HBL.out hsz HG1.out HO1.out HAT1.out (by simp)
            have HE := Lib.hid (And.intro f1 (And.intro f2.symm f3))
            clear f1 f2 f3 f4 f5
            go_roundg (gk - 1)
            case measure => omega
            case rel => exact ⟨k + 1, 0, _, _, by omega, by omega, by go_num, rfl, by omega, by omega, HF2.out, by simp; omega, by omega, HO1.out, HE.out.1, HE.out.2.1, HE.out.2.2⟩
      · have hd : l.drop k = [] := List.drop_eq_nil_of_le (by have := HN.out; omega)
        have hFe := HF.out
        rw [hd] at hFe
        simp only [takeR, List.append_nil] at hFe
        have HFE := Lib.hid hFe
        clear hd hFe
        go_wp2
        go_ret2
        exact ⟨_, _, rfl, by rw [HFE.out]; exact HOA.out.base (by omega), by rw [HFE.out]; exact HOB.out.base (by omega), HAP.out, HB0.out⟩
end Go.Proofs.Ythhmpdjjfoplgaa
