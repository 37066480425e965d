/- Taking units off an account's lots: register.take, walked. -/
import Derived.Test.YthhmpdjjfoplgaaRegH
set_option linter.unusedVariables false
set_option linter.unusedSimpArgs false
namespace Go.Proofs.Ythhmpdjjfoplgaa
open Go.RowKit Reg

theorem grown_cell {w w' : World} {row : Option Nat} (h : w.grownBy w' row) {a : Addr} {v : Value} (hc : w.cell? a = some v) (hne : row ≠ some a.block) : w'.cell? a = some v := by
  rw [World.cell?_of_block (h.block a.block (World.block_lt_of_cell? w a hc) (fun e => hne e.symm))]; exact hc
theorem grown_frozen {w w' : World} {row : Option Nat} (h : w.grownBy w' row) {a : Addr} (hlt : a.block < w.heap.size) (hne : row ≠ some a.block) : w'.frozen? a = w.frozen? a :=
  World.frozen?_of_block (h.block a.block hlt (fun e => hne e.symm))
theorem Own.setCell {w : World} {B : Nat} {v : Value} {l : List Lot} (h : Own w B v l) (p : Addr) (u : Value) (hp : v.ownBlock ≠ some p.block) : Own (w.setCell p u) B v l :=
  World.ownsRow.kept h (row := some p.block) ⟨rfl, rfl, rfl, by simp [World.setCell], fun k hk hr => Below.heap_setCell _ _ _ _ (fun e => hr (by rw [e]))⟩ (.inr hp)
theorem below_set {B : Nat} {w w' : World} (h : Below B w w') (p : Addr) (v : Value) (hp : B ≤ p.block) : Below B w (w'.setCell p v) :=
  ⟨h.os, h.tape, h.output, by simpa [World.setCell] using h.size, fun k hk => by rw [Below.heap_setCell _ _ _ _ (by omega)]; exact h.block k hk⟩
theorem Own.ne {w : World} {B : Nat} {v : Value} {l : List Lot} (h : Own w B v l) {g : Nat} (hg : w.heap.size ≤ g ∨ g < B) : v.ownBlock ≠ some g := fun e => by have := h.lt g e; omega

/-- a lot in the block just laid, after an append -/
theorem boxed_kept {wr w1 : World} {B : Nat} {u : Value} {l : List Lot} {x : Lot} (ho : Own wr B u l) (hg : (wr.alloc (.cells #[.string x.nom, .string x.hol, .int .i64 x.ser, .int .i64 x.units] 41)).grownBy w1 u.ownBlock) :
    (w1.cell? ⟨wr.heap.size, 0, none⟩ = some (.string x.nom) ∧ w1.cell? ⟨wr.heap.size, 1, none⟩ = some (.string x.hol) ∧ w1.cell? ⟨wr.heap.size, 2, none⟩ = some (.int .i64 x.ser) ∧ w1.cell? ⟨wr.heap.size, 3, none⟩ = some (.int .i64 x.units)) ∧ (∀ o, w1.frozen? ⟨wr.heap.size, o, none⟩ = false) ∧ wr.heap.size < w1.heap.size := by
  have hne : u.ownBlock ≠ some wr.heap.size := ho.ne (.inl (Nat.le_refl _))
  refine ⟨⟨?_, ?_, ?_, ?_⟩, fun o => ?_, by have := hg.size; simp at this; omega⟩
  · exact grown_cell hg (by go_cell) hne
  · exact grown_cell hg (by go_cell) hne
  · exact grown_cell hg (by go_cell) hne
  · exact grown_cell hg (by go_cell) hne
  · rw [grown_frozen hg (by simp) hne]; simp
theorem after_one {w wr w1 : World} {B b : Nat} {X : Obj} {u v v' : Value} {la lb lb' : List Lot} (HOA : Own wr B u la) (HOB : Own wr B v lb) (HAP : Apart u v) (HBL : Below B w wr) (hB : B ≤ wr.heap.size)
    (HG1 : (wr.alloc X).grownBy w1 v.ownBlock) (HO1 : Own w1 B v' lb') (HAT1 : v'.ownBlock = v.ownBlock ∨ v'.ownBlock = some b) (hb : wr.heap.size + 1 ≤ b) :
    Own w1 B u la ∧ Apart u v' ∧ Below B w w1 ∧ v'.ownBlock ≠ some wr.heap.size ∧ B ≤ w1.heap.size := by
  refine ⟨(HOA.alloc X).kept HG1 HAP, (HAP.symm.grow HOA (by omega) HAT1).symm, below_grown (HBL.alloc hB X) (HOB.alloc X) HG1 (by simp; omega), ?_, by have := HG1.size; simp at this; omega⟩
  rcases HAT1 with h | h
  · rw [h]; exact HOB.ne (.inl (Nat.le_refl _))
  · rw [h]; intro e; injection e with e; omega
theorem after_two {w w1 w2 : World} {B b g o : Nat} {y : Value} {u v' v2 : Value} {la la' lb' : List Lot} (HOA : Own w1 B u la) (HO1 : Own w1 B v' lb') (HAP : Apart u v') (HBL : Below B w w1) (hB : B ≤ w1.heap.size)
    (hv : v'.ownBlock ≠ some g) (hu : u.ownBlock ≠ some g) (hg : B ≤ g) (HG2 : (w1.setCell ⟨g, o, none⟩ y).grownBy w2 u.ownBlock) (HO2 : Own w2 B v2 la') (HAT2 : v2.ownBlock = u.ownBlock ∨ v2.ownBlock = some b) (hb : w1.heap.size ≤ b) :
    Own w2 B v' lb' ∧ Apart v2 v' ∧ Below B w w2 := by
  have h1 := HO1.setCell ⟨g, o, none⟩ y hv
  have h2 := HOA.setCell ⟨g, o, none⟩ y hu
  exact ⟨h1.kept HG2 HAP.symm, HAP.grow h1 (by simpa using hb) HAT2, below_grown (below_set HBL _ _ hg) h2 HG2 (by simpa using hB)⟩
namespace Reg
theorem more_neg (x : Lot) (q : Int) : x.more (-q) = ⟨x.nom, x.hol, x.ser, x.units - q⟩ := by simp [Lot.more, Int.sub_eq_add_neg]
theorem takeP_go {l : List Lot} {k : Nat} {x : Lot} {n : Int} {F : List Lot × List Lot} {a b : List Lot} (hx : l[k]? = some x)
    (h : F = (a ++ (takeP (l.drop k) n).1, b ++ (takeP (l.drop k) n).2)) :
    F = ((a ++ if min n x.units < x.units then [x.more (-(min n x.units))] else []) ++ (takeP (l.drop (k + 1)) (n - min n x.units)).1,
         (b ++ if 0 < min n x.units then [⟨x.nom, x.hol, x.ser, min n x.units⟩] else []) ++ (takeP (l.drop (k + 1)) (n - min n x.units)).2) := by
  rw [h, drop_at hx]
  simp only [takeP]
  refine Prod.ext ?_ ?_
  · simp only [List.append_assoc]; split <;> simp
  · simp only [List.append_assoc]; split <;> simp
theorem takeP_len (l : List Lot) (n : Int) : (takeP l n).1.length ≤ l.length ∧ (takeP l n).2.length ≤ l.length := by
  induction l generalizing n with
  | nil => simp [takeP]
  | cons x l ih =>
    have := ih (n - min n x.units)
    simp only [takeP]
    constructor
    · split <;> simp <;> omega
    · split <;> simp <;> omega
end Reg

set_option maxRecDepth 100000 in
set_option maxHeartbeats 4000000 in
theorem take_any (v : Value) (l : List Lot) (n0 : Int) (w : World) (h : LotsAt w v l) (hn : l.length ≤ 1000) (hu : ∀ x ∈ l, 1 ≤ x.units ∧ x.units ≤ 1000000000000000) (hn0 : 0 ≤ n0) (hn1 : n0 ≤ 1000000000000000) :
    Calls Try.prog 41 #[v, .int .i64 n0] w fun e w' => ∃ va vb, e = .returned (.tuple #[va, vb]) ∧ Own w' w.heap.size va (takeP l n0).1 ∧ Own w' w.heap.size vb (takeP l n0).2 ∧ Apart va vb ∧ Below w.heap.size w w' := by
  have HU := Lib.hid hu
  clear hu
  by_cases h0 : l.length = 0
  · obtain ⟨A, cap, rfl⟩ := h.nil h0
    have hl0 := List.eq_nil_of_length_eq_zero h0
    subst hl0
    clear h h0 hn HU
    go_enter Try.func41, Try.ntmps41
    go_wp2
    go_loopg [4, 5, 11] 1 (fun m a b i wr => a = .slice none 0 0 ∧ b = .slice none 0 0 ∧ i = .int .i64 0 ∧ wr = w)
    case atStart => exact ⟨rfl, rfl, rfl, rfl⟩
    case round =>
      obtain ⟨rfl, rfl, rfl, rfl⟩ := hrel
      go_wp2
      go_ret2
      exact ⟨_, _, rfl, Own.nil _ _, Own.nil _ _, fun g h => by simp [Value.ownBlock] at h, Below.refl _ _⟩
  · obtain ⟨g, off, cap, rfl, hc⟩ := h.some (by omega)
    obtain ⟨n, hnn⟩ : ∃ n, n = l.length := ⟨_, rfl⟩
    obtain ⟨F, hF⟩ : ∃ F, F = takeP l n0 := ⟨_, rfl⟩
    rw [← hnn] at hn h0 ⊢
    rw [← hF]
    have HN := Lib.hid hnn
    have HC := Lib.hid hc
    have HF0 := Lib.hid hF
    clear hnn hc h hF
    go_enter Try.func41, Try.ntmps41
    go_wp2
    go_loopg [1, 4, 5, 11] n (fun m q a b i wr => ∃ (k : Nat) (t : Int) (la lb : List Lot), k ≤ n ∧ n - k ≤ m ∧ i = .int .i64 k ∧ q = .int .i64 t ∧ 0 ≤ t ∧ t ≤ 1000000000000000 ∧ F = (la ++ (takeP (l.drop k) t).1, lb ++ (takeP (l.drop k) t).2) ∧ la.length ≤ k ∧ lb.length ≤ k ∧
      Own wr w.heap.size a la ∧ Own wr w.heap.size b lb ∧ Apart a b ∧ Below w.heap.size w wr)
    case atStart => exact ⟨0, n0, [], [], by omega, by omega, rfl, rfl, hn0, hn1, by simpa using HF0.out, by simp, by simp, Own.nil _ _, Own.nil _ _, fun g h => by simp [Value.ownBlock] at h, Below.refl _ _⟩
    case round =>
      obtain ⟨k, t, la, lb, hk, hm, rfl, rfl, ht0, ht1, hF, hla, hlb, hoa, hob, hap, hbl⟩ := hrel
      have hsz : w.heap.size ≤ wr.heap.size := hbl.size
      have HOA := Lib.hid hoa
      have HOB := Lib.hid hob
      have HAP := Lib.hid hap
      have HBL := Lib.hid hbl
      have HF := Lib.hid hF
      clear hoa hob hap hbl hF
      by_cases hlt : k < n
      · obtain ⟨x, hx⟩ : ∃ x, l[k]? = some x := ⟨l[k]'(by rw [← HN.out]; exact hlt), by simp [← HN.out, hlt]⟩
        obtain ⟨c0, c1, c2, c3⟩ := (HC.out k x hx).below HBL.out
        obtain ⟨hu0, hu1⟩ := HU.out x (List.mem_of_getElem? hx)
        have hF2 := takeP_go hx HF.out
        have HX := Lib.hid hx
        clear hx
        obtain ⟨q, hq⟩ : ∃ q, min t x.units = q := ⟨_, rfl⟩
        rw [hq] at hF2
        have hq0 : 0 ≤ q := by omega
        have hqt : q ≤ t := by omega
        have hqu : q ≤ x.units := by omega
        have hsub : IntKind.i64.wrap (t - q) = t - q := IntWalk.i64_in _ (by omega)
        have hsub2 : IntKind.i64.wrap (x.units - q) = x.units - q := IntWalk.i64_in _ (by omega)
        rw [more_neg] at hF2
        by_cases hz : 0 < q
        · rw [if_pos hz] at hF2
          by_cases hl : q < x.units
          · rw [if_pos hl] at hF2
            have HF2 := Lib.hid hF2
            clear hF2
            go_wp2_with (first
              | (at_builtin; refine wpList_append_lot rfl _ _ rfl _ w.heap.size u5 lb ⟨x.nom, x.hol, x.ser, q⟩ rfl (HOB.out.alloc _) _ rfl (by simp) (by omega) (by first | omega | (simp <;> omega)) ?_; intro v' w1 ho1 hg1 hat1; obtain ⟨⟨x0, x1, x2, x3⟩, hfz, hlt1⟩ := boxed_kept HOB.out hg1; have HO1 := Lib.hid ho1; have HG1 := Lib.hid hg1; have HAT1 := Lib.hid hat1; have HOL := Lib.hid ((HOA.out.alloc _).kept hg1 HAP.out.symm.symm); clear ho1 hg1 hat1)
              | (at_builtin; refine wpList_append_lot rfl _ _ rfl _ w.heap.size u4 la ⟨x.nom, x.hol, x.ser, x.units - q⟩ rfl (HOL.out.setCell _ _ (HOA.out.ne (.inl (Nat.le_refl _)))) _ rfl (by simp) (by omega) (by have := HG1.out.size; simp at this ⊢; omega) ?_; intro v2 w2 ho2 hg2 hat2; have HO2 := Lib.hid ho2; have HG2 := Lib.hid hg2; have HAT2 := Lib.hid hat2; clear ho2 hg2 hat2))
            obtain ⟨e1, e2, e3, e4, e5⟩ := after_one HOA.out HOB.out HAP.out HBL.out hsz HG1.out HO1.out HAT1.out (by simp)
            obtain ⟨f1, f2, f3⟩ := after_two e1 HO1.out e2 e3 e5 e4 (HOA.out.ne (.inl (Nat.le_refl _))) hsz HG2.out HO2.out HAT2.out (by simp)
            have HE := Lib.hid (And.intro f1 (And.intro f2 f3))
            clear e1 e2 e3 e4 e5 f1 f2 f3 x0 x1 x2 x3 hfz
            go_roundg (gk - 1)
            case measure => omega
            case rel => exact ⟨k + 1, t - q, _, _, by omega, by omega, by go_num, by go_num, by omega, by omega, HF2.out, by simp; omega, by simp; omega, HO2.out, HE.out.1, HE.out.2.1, HE.out.2.2⟩
          · rw [if_neg hl, List.append_nil] at hF2
            have HF2 := Lib.hid hF2
            clear hF2
            go_wp2_with (at_builtin; refine wpList_append_lot rfl _ _ rfl _ w.heap.size u5 lb ⟨x.nom, x.hol, x.ser, q⟩ rfl (HOB.out.alloc _) _ rfl (by simp) (by omega) (by first | omega | (simp <;> omega)) ?_; intro v' w1 ho1 hg1 hat1; obtain ⟨⟨x0, x1, x2, x3⟩, hfz, hlt1⟩ := boxed_kept HOB.out hg1; have HO1 := Lib.hid ho1; have HG1 := Lib.hid hg1; have HAT1 := Lib.hid hat1; clear ho1 hg1 hat1)
            obtain ⟨e1, e2, e3, e4, e5⟩ := after_one HOA.out HOB.out HAP.out HBL.out hsz HG1.out HO1.out HAT1.out (by simp)
            have HE := Lib.hid (And.intro e1 (And.intro e2 e3))
            clear e1 e2 e3 e4 e5 x0 x1 x2 x3 hfz
            go_roundg (gk - 1)
            case measure => omega
            case rel => exact ⟨k + 1, t - q, _, _, by omega, by omega, by go_num, by go_num, by omega, by omega, HF2.out, by omega, by simp; omega, HE.out.1, HO1.out, HE.out.2.1, HE.out.2.2⟩
        · have hl : q < x.units := by omega
          rw [if_neg hz, if_pos hl, List.append_nil] at hF2
          have HF2 := Lib.hid hF2
          clear hF2
          go_wp2_with (at_builtin; refine wpList_append_lot rfl _ _ rfl _ w.heap.size u4 la ⟨x.nom, x.hol, x.ser, x.units - q⟩ rfl (HOA.out.alloc _) _ rfl (by simp) (by omega) (by first | omega | (simp <;> omega)) ?_; intro v' w1 ho1 hg1 hat1; have HO1 := Lib.hid ho1; have HG1 := Lib.hid hg1; have HAT1 := Lib.hid hat1; clear ho1 hg1 hat1)
          obtain ⟨e1, e2, e3, e4, e5⟩ := after_one HOB.out HOA.out HAP.out.symm HBL.out hsz HG1.out HO1.out HAT1.out (by simp)
          have HE := Lib.hid (And.intro e1 (And.intro e2.symm e3))
          clear e1 e2 e3 e4 e5
          go_roundg (gk - 1)
          case measure => omega
          case rel => exact ⟨k + 1, t - q, _, _, by omega, by omega, by go_num, by go_num, by omega, by omega, HF2.out, by simp; omega, by omega, HO1.out, HE.out.1, HE.out.2.1, HE.out.2.2⟩
      · have hd : l.drop k = [] := List.drop_eq_nil_of_le (by have := HN.out; omega)
        have hFe := HF.out
        rw [hd] at hFe
        simp only [takeP, List.append_nil] at hFe
        have HFE := Lib.hid hFe
        clear hd hFe
        go_wp2
        go_ret2
        exact ⟨_, _, rfl, by rw [HFE.out]; exact HOA.out, by rw [HFE.out]; exact HOB.out, HAP.out, HBL.out⟩
end Go.Proofs.Ythhmpdjjfoplgaa
