/- The reference's put, walked: one lot among sorted lots. -/
import Derived.Test.YthhmpdjjfoplgaaRfC
set_option linter.unusedVariables false
set_option linter.unusedSimpArgs false
namespace Go.Proofs.Ythhmpdjjfoplgaa
open Go.RowKit Reg

namespace Reg
def stP (x : Lot) (st : List Lot × Bool) (y : Lot) : List Lot × Bool :=
  if sameKey y x then (st.1 ++ [y.more x.units], true) else if st.2 = false ∧ lotLt x y = true then (st.1 ++ [x, y], true) else (st.1 ++ [y], st.2)
def foldP (x : Lot) (l : List Lot) : List Lot × Bool := l.foldl (stP x) ([], false)
def putR (l : List Lot) (x : Lot) : List Lot := if (foldP x l).2 = true then (foldP x l).1 else (foldP x l).1 ++ [x]
theorem fold_done (x : Lot) (l : List Lot) (o : List Lot) (h : ∀ z ∈ l, ¬ sameKey z x) : l.foldl (stP x) (o, true) = (o ++ l, true) := by
  induction l generalizing o with
  | nil => simp
  | cons y l ih =>
    rw [List.foldl_cons, show stP x (o, true) y = (o ++ [y], true) by simp [stP, h y (by simp)], ih _ (fun z hz => h z (by simp [hz]))]
    simp
theorem fold_put (x : Lot) (l : List Lot) (o : List Lot) (h : Srt l) : (if (l.foldl (stP x) (o, false)).2 = true then (l.foldl (stP x) (o, false)).1 else (l.foldl (stP x) (o, false)).1 ++ [x]) = o ++ putL l x := by
  induction l generalizing o with
  | nil => simp [putL]
  | cons y l ih =>
    have h1 := List.pairwise_cons.1 h
    rw [List.foldl_cons, putL]
    by_cases hk : sameKey y x
    · rw [show stP x (o, false) y = (o ++ [y.more x.units], true) by simp [stP, hk], fold_done, if_pos hk]
      · simp
      · intro z hz hzk
        exact lotLt_key (h1.1 z hz) ⟨hk.1.trans hzk.1.symm, hk.2.1.trans hzk.2.1.symm, hk.2.2.trans hzk.2.2.symm⟩
    · rw [if_neg hk]
      by_cases hl : lotLt x y = true
      · rw [show stP x (o, false) y = (o ++ [x, y], true) by simp [stP, hk, hl], fold_done, if_pos hl]
        · simp
        · intro z hz hzk
          exact lotLt_key (lotLt_trans hl (h1.1 z hz)) ⟨hzk.1.symm, hzk.2.1.symm, hzk.2.2.symm⟩
      · rw [show stP x (o, false) y = (o ++ [y], false) by simp [stP, hk, hl], if_neg hl, ih _ h1.2]
        simp
theorem putR_eq {l : List Lot} (x : Lot) (h : Srt l) : putR l x = putL l x := by
  have := fold_put x l [] h
  rw [List.nil_append] at this
  unfold putR foldP
  exact this
theorem foldP_len (x : Lot) (l : List Lot) : (foldP x l).1.length ≤ l.length * 2 := by
  have hg : ∀ (l : List Lot) (st : List Lot × Bool), (l.foldl (stP x) st).1.length ≤ st.1.length + l.length * 2 := by
    intro l
    induction l with
    | nil => intro st; simp
    | cons y l ih =>
      intro st
      have h1 := ih (stP x st y)
      have h2 : (stP x st y).1.length ≤ st.1.length + 2 := by unfold stP; split <;> (try split) <;> simp
      rw [List.foldl_cons, List.length_cons]
      omega
  have := hg l ([], false)
  simpa [foldP] using this
theorem foldP_snoc {l : List Lot} {k : Nat} {y : Lot} (x : Lot) (hy : l[k]? = some y) : foldP x (l.take (k + 1)) = stP x (foldP x (l.take k)) y := by
  obtain ⟨h1, h2⟩ := List.getElem?_eq_some_iff.1 hy
  unfold foldP
  rw [List.take_succ_eq_append_getElem h1, h2, List.foldl_append]
  rfl
end Reg

set_option maxRecDepth 100000 in
set_option maxHeartbeats 8000000 in
theorem rput_any (v : Value) (l : List Lot) (x : Lot) (w : World) (h : LotsAt w v l) (hn : l.length ≤ 1000) (hu : ∀ y ∈ l, 0 ≤ y.units ∧ y.units ≤ 1000000000000000) (hx0 : 0 ≤ x.units) (hx1 : x.units ≤ 1000000000000000) :
    Calls Try.prog 63 #[v, .agg #[.string x.nom, .string x.hol, .int .i64 x.ser, .int .i64 x.units]] w fun e w' => ∃ va, e = .returned va ∧ Own w' w.heap.size va (putR l x) ∧ Below w.heap.size w w' := by
  obtain ⟨A, cap, hv⟩ := Rd.form h
  subst hv
  have HAT := Lib.hid (lots_at_any h)
  have HU := Lib.hid hu
  obtain ⟨w0, hw0⟩ : ∃ w0 : World, w0 = w.alloc (.cells #[.string x.nom, .string x.hol, .int .i64 x.ser, .int .i64 x.units] 41) := ⟨_, rfl⟩
  have hs0 : w0.heap.size = w.heap.size + 1 := by rw [hw0]; simp
  have hb0 : Below w.heap.size w w0 := by rw [hw0]; exact (Below.refl _ _).alloc (Nat.le_refl _) _
  have x0 : w0.cell? ⟨w.heap.size, 0, none⟩ = some (.string x.nom) := by rw [hw0]; go_cell
  have x1 : w0.cell? ⟨w.heap.size, 1, none⟩ = some (.string x.hol) := by rw [hw0]; go_cell
  have x2 : w0.cell? ⟨w.heap.size, 2, none⟩ = some (.int .i64 x.ser) := by rw [hw0]; go_cell
  have x3 : w0.cell? ⟨w.heap.size, 3, none⟩ = some (.int .i64 x.units) := by rw [hw0]; go_cell
  have HX := Lib.hid (And.intro x0 (And.intro x1 (And.intro x2 x3)))
  have HB0 := Lib.hid hb0
  have HS0 := Lib.hid hs0
  obtain ⟨n, hn'⟩ : ∃ n, n = l.length := ⟨_, rfl⟩
  rw [← hn'] at hn ⊢
  have HN := Lib.hid hn'
  clear h hu hb0 hs0 hn' x0 x1 x2 x3
  go_enter Try.func63, Try.ntmps63
  go_wp2
  rw [← hw0]
  clear hw0
  go_loopg [5, 6, 7] n (fun m a b i wr => ∃ k : Nat, k ≤ n ∧ n - k ≤ m ∧ i = .int .i64 k ∧ b = .bool (foldP x (l.take k)).2 ∧ Own wr w0.heap.size a (foldP x (l.take k)).1 ∧ Below w0.heap.size w0 wr)
  case atStart => exact ⟨0, by omega, by omega, rfl, rfl, Own.nil _ _, Below.refl _ _⟩
  case round =>
    obtain ⟨k, hk, hm, rfl, rfl, hoa, hbl⟩ := hrel
    have hsz : w0.heap.size ≤ wr.heap.size := hbl.size
    have hwz : w.heap.size < wr.heap.size := by have := HS0.out; omega
    have x0 := cell_belowB HX.out.1 hbl (by have := HS0.out; simp; omega)
    have x1 := cell_belowB HX.out.2.1 hbl (by have := HS0.out; simp; omega)
    have x2 := cell_belowB HX.out.2.2.1 hbl (by have := HS0.out; simp; omega)
    have x3 := cell_belowB HX.out.2.2.2 hbl (by have := HS0.out; simp; omega)
    have hfl := foldP_len x (l.take k)
    rw [List.length_take] at hfl
    obtain ⟨o, ho⟩ : ∃ o, o = (foldP x (l.take k)).1 := ⟨_, rfl⟩
    obtain ⟨d, hd⟩ : ∃ d, d = (foldP x (l.take k)).2 := ⟨_, rfl⟩
    rw [← ho] at hoa hfl
    rw [← hd]
    have hol : o.length ≤ 2000 := by omega
    have HOD := Lib.hid (And.intro ho hd)
    have HOA := Lib.hid hoa
    have HBL := Lib.hid hbl
    clear hoa hbl hfl ho hd
    by_cases hlt : k < n
    · obtain ⟨y, hy⟩ : ∃ y, l[k]? = some y := ⟨l[k]'(by rw [← HN.out]; exact hlt), by simp [← HN.out, hlt]⟩
      obtain ⟨g, off, rfl, hcc⟩ := HAT.out k y hy
      obtain ⟨c0, c1, c2, c3⟩ := hcc.below (HB0.out.trans (HBL.out.mono HB0.out.size))
      obtain ⟨hu0, hu1⟩ := HU.out y (List.mem_of_getElem? hy)
      have hadd : IntKind.i64.wrap (y.units + x.units) = y.units + x.units := IntWalk.i64_in _ (by omega)
      have hst : foldP x (l.take (k + 1)) = stP x (o, d) y := by rw [foldP_snoc x hy, HOD.out.1, HOD.out.2]
      have q1 : (y.nom.toList == x.nom.toList) = sEq y.nom x.nom := rfl
      have q2 : (y.hol.toList == x.hol.toList) = sEq y.hol x.hol := rfl
      clear hcc hy
      by_cases hk1 : sameKey y x
      · have e1 : sEq y.nom x.nom = true := (sEq_iff _ _).2 hk1.1
        have e2 : sEq y.hol x.hol = true := (sEq_iff _ _).2 hk1.2.1
        have e3 : (y.ser == x.ser) = true := by simp [hk1.2.2]
        rw [e1] at q1
        rw [e2] at q2
        have HST := Lib.hid (show foldP x (l.take (k + 1)) = (o ++ [y.more x.units], true) by rw [hst]; simp [stP, hk1])
        clear hst hk1 e1 e2
        go_wp2_with (at_builtin; refine wpList_append_lot rfl _ _ rfl _ w0.heap.size u5 o (y.more x.units) rfl (HOA.out.alloc _) _ rfl (by simp) (by omega) (by first | omega | (simp <;> omega)) ?_; intro v' w1 ho1 hg1 hat1)
        have HO1 := Lib.hid ho1
        have HB1 := Lib.hid (below_grown (HBL.out.alloc hsz _) (HOA.out.alloc _) hg1 (by first | omega | (simp <;> omega)))
        clear ho1 hg1 hat1
        go_roundg (gk - 1)
        case measure => omega
        case rel => exact ⟨k + 1, by omega, by omega, by go_num, by rw [HST.out], by rw [HST.out]; exact HO1.out, HB1.out⟩
      · have hcase : (sEq y.nom x.nom = false) ∨ (sEq y.nom x.nom = true ∧ sEq y.hol x.hol = false) ∨ (sEq y.nom x.nom = true ∧ sEq y.hol x.hol = true ∧ (y.ser == x.ser) = false) := by
          cases h1 : sEq y.nom x.nom
          · exact .inl rfl
          · cases h2 : sEq y.hol x.hol
            · exact .inr (.inl ⟨rfl, rfl⟩)
            · refine .inr (.inr ⟨rfl, rfl, ?_⟩)
              simp only [beq_eq_false_iff_ne]
              exact fun h3 => hk1 ⟨(sEq_iff _ _).1 h1, (sEq_iff _ _).1 h2, h3⟩
        have HYB := Lib.hid (fun (W : World) (hb : Below (wr.alloc (.cells #[.string y.nom, .string y.hol, .int .i64 y.ser, .int .i64 y.units] 41)).heap.size (wr.alloc (.cells #[.string y.nom, .string y.hol, .int .i64 y.ser, .int .i64 y.units] 41)) W) => boxed_kept (x := y) (B := w0.heap.size) (u := .slice none 0 0) (l := []) (Own.nil wr _) (grownBy_belowR hb _))
        cases d with
        | true =>
          have HST := Lib.hid (show foldP x (l.take (k + 1)) = (o ++ [y], true) by rw [hst]; simp [stP, hk1])
          clear hst hk1
          rcases hcase with e1 | ⟨e1, e2⟩ | ⟨e1, e2, e3⟩
          · rw [e1] at q1
            clear e1 q2
            go_wp2_with (at_builtin; refine wpList_append_lot rfl _ _ rfl _ w0.heap.size u5 o y rfl (HOA.out.alloc _) _ rfl (by simp) (by omega) (by first | omega | (simp <;> omega)) ?_; intro v' w1 ho1 hg1 hat1)
            have HO1 := Lib.hid ho1
            have HB1 := Lib.hid (below_grown (HBL.out.alloc hsz _) (HOA.out.alloc _) hg1 (by first | omega | (simp <;> omega)))
            clear ho1 hg1 hat1
            go_roundg (gk - 1)
            case measure => omega
            case rel => exact ⟨k + 1, by omega, by omega, by go_num, by rw [HST.out], by rw [HST.out]; exact HO1.out, HB1.out⟩
          · rw [e1] at q1
            rw [e2] at q2
            clear e1 e2
            go_wp2_with (at_builtin; refine wpList_append_lot rfl _ _ rfl _ w0.heap.size u5 o y rfl (HOA.out.alloc _) _ rfl (by simp) (by omega) (by first | omega | (simp <;> omega)) ?_; intro v' w1 ho1 hg1 hat1)
            have HO1 := Lib.hid ho1
            have HB1 := Lib.hid (below_grown (HBL.out.alloc hsz _) (HOA.out.alloc _) hg1 (by first | omega | (simp <;> omega)))
            clear ho1 hg1 hat1
            go_roundg (gk - 1)
            case measure => omega
            case rel => exact ⟨k + 1, by omega, by omega, by go_num, by rw [HST.out], by rw [HST.out]; exact HO1.out, HB1.out⟩
          · rw [e1] at q1
            rw [e2] at q2
            clear e1 e2
            go_wp2_with (at_builtin; refine wpList_append_lot rfl _ _ rfl _ w0.heap.size u5 o y rfl (HOA.out.alloc _) _ rfl (by simp) (by omega) (by first | omega | (simp <;> omega)) ?_; intro v' w1 ho1 hg1 hat1)
            have HO1 := Lib.hid ho1
            have HB1 := Lib.hid (below_grown (HBL.out.alloc hsz _) (HOA.out.alloc _) hg1 (by first | omega | (simp <;> omega)))
            clear ho1 hg1 hat1
            go_roundg (gk - 1)
            case measure => omega
            case rel => exact ⟨k + 1, by omega, by omega, by go_num, by rw [HST.out], by rw [HST.out]; exact HO1.out, HB1.out⟩
        | false =>
          cases hlx : lotLt x y with
          | true =>
            have HST := Lib.hid (show foldP x (l.take (k + 1)) = (o ++ [x, y], true) by rw [hst]; simp [stP, hk1, hlx])
            have HLX := Lib.hid hlx
            clear hst hk1 hlx
            rcases hcase with e1 | ⟨e1, e2⟩ | ⟨e1, e2, e3⟩
            · rw [e1] at q1
              clear e1 q2
              go_wp2_with fail
              refine (lessB_any x y _ HLX.out _).mono ?_
              rintro e w2 ⟨rfl, hb2⟩
              obtain ⟨⟨y0, y1, y2, y3⟩, hfz, hlt2⟩ := HYB.out w2 hb2
              have HO2 := Lib.hid ((HOA.out.alloc (.cells #[.string y.nom, .string y.hol, .int .i64 y.ser, .int .i64 y.units] 41)).below hb2)
              have HB2 := Lib.hid ((HBL.out.alloc hsz (.cells #[.string y.nom, .string y.hol, .int .i64 y.ser, .int .i64 y.units] 41)).trans (hb2.mono (by simp; omega)))
              have hsz2 : w0.heap.size ≤ w2.heap.size := by omega
              have z0 := cell_up (cell_alloc x0 (.cells #[.string y.nom, .string y.hol, .int .i64 y.ser, .int .i64 y.units] 41)) hb2
              have z1 := cell_up (cell_alloc x1 (.cells #[.string y.nom, .string y.hol, .int .i64 y.ser, .int .i64 y.units] 41)) hb2
              have z2 := cell_up (cell_alloc x2 (.cells #[.string y.nom, .string y.hol, .int .i64 y.ser, .int .i64 y.units] 41)) hb2
              have z3 := cell_up (cell_alloc x3 (.cells #[.string y.nom, .string y.hol, .int .i64 y.ser, .int .i64 y.units] 41)) hb2
              clear hb2 hfz x0 x1 x2 x3 c0 c1 c2 c3
              have hne : u5.ownBlock ≠ some wr.heap.size := HOA.out.ne (.inl (Nat.le_refl _))
              have hol3 : (o ++ [x]).length ≤ 2001 := by simp; omega
              go_wp2_with (first
                | (at_builtin; refine wpList_append_lot rfl _ _ rfl _ w0.heap.size u5 o x rfl HO2.out _ rfl (by simp) (by omega) (by first | omega | (simp <;> omega)) ?_; intro v1 w1 ho1 hg1 hat1; have t0 := hg1.cell y0 hne.symm; have t1 := hg1.cell y1 hne.symm; have t2 := hg1.cell y2 hne.symm; have t3 := hg1.cell y3 hne.symm; have HO3 := Lib.hid ho1; have HB3 := Lib.hid (below_grown HB2.out HO2.out hg1 hsz2); have hsz3 : w0.heap.size ≤ w1.heap.size := HB3.out.size; clear ho1 hg1 hat1)
                | (at_builtin; refine wpList_append_lot rfl _ _ rfl _ w0.heap.size v1 (o ++ [x]) y rfl HO3.out _ rfl (by simp) (by omega) (by first | omega | (simp <;> omega)) ?_; intro v3 w3 ho3 hg3 hat3; have HO1 := Lib.hid ho3; have HB1 := Lib.hid (below_grown HB3.out HO3.out hg3 hsz3); clear ho3 hg3 hat3))
              go_roundg (gk - 1)
              case measure => omega
              case rel => exact ⟨k + 1, by omega, by omega, by go_num, by rw [HST.out], by rw [HST.out]; simpa using HO1.out, HB1.out⟩
            · rw [e1] at q1
              rw [e2] at q2
              clear e1 e2
              go_wp2_with fail
              refine (lessB_any x y _ HLX.out _).mono ?_
              rintro e w2 ⟨rfl, hb2⟩
              obtain ⟨⟨y0, y1, y2, y3⟩, hfz, hlt2⟩ := HYB.out w2 hb2
              have HO2 := Lib.hid ((HOA.out.alloc (.cells #[.string y.nom, .string y.hol, .int .i64 y.ser, .int .i64 y.units] 41)).below hb2)
              have HB2 := Lib.hid ((HBL.out.alloc hsz (.cells #[.string y.nom, .string y.hol, .int .i64 y.ser, .int .i64 y.units] 41)).trans (hb2.mono (by simp; omega)))
              have hsz2 : w0.heap.size ≤ w2.heap.size := by omega
              have z0 := cell_up (cell_alloc x0 (.cells #[.string y.nom, .string y.hol, .int .i64 y.ser, .int .i64 y.units] 41)) hb2
              have z1 := cell_up (cell_alloc x1 (.cells #[.string y.nom, .string y.hol, .int .i64 y.ser, .int .i64 y.units] 41)) hb2
              have z2 := cell_up (cell_alloc x2 (.cells #[.string y.nom, .string y.hol, .int .i64 y.ser, .int .i64 y.units] 41)) hb2
              have z3 := cell_up (cell_alloc x3 (.cells #[.string y.nom, .string y.hol, .int .i64 y.ser, .int .i64 y.units] 41)) hb2
              clear hb2 hfz x0 x1 x2 x3 c0 c1 c2 c3
              have hne : u5.ownBlock ≠ some wr.heap.size := HOA.out.ne (.inl (Nat.le_refl _))
              have hol3 : (o ++ [x]).length ≤ 2001 := by simp; omega
              go_wp2_with (first
                | (at_builtin; refine wpList_append_lot rfl _ _ rfl _ w0.heap.size u5 o x rfl HO2.out _ rfl (by simp) (by omega) (by first | omega | (simp <;> omega)) ?_; intro v1 w1 ho1 hg1 hat1; have t0 := hg1.cell y0 hne.symm; have t1 := hg1.cell y1 hne.symm; have t2 := hg1.cell y2 hne.symm; have t3 := hg1.cell y3 hne.symm; have HO3 := Lib.hid ho1; have HB3 := Lib.hid (below_grown HB2.out HO2.out hg1 hsz2); have hsz3 : w0.heap.size ≤ w1.heap.size := HB3.out.size; clear ho1 hg1 hat1)
                | (at_builtin; refine wpList_append_lot rfl _ _ rfl _ w0.heap.size v1 (o ++ [x]) y rfl HO3.out _ rfl (by simp) (by omega) (by first | omega | (simp <;> omega)) ?_; intro v3 w3 ho3 hg3 hat3; have HO1 := Lib.hid ho3; have HB1 := Lib.hid (below_grown HB3.out HO3.out hg3 hsz3); clear ho3 hg3 hat3))
              go_roundg (gk - 1)
              case measure => omega
              case rel => exact ⟨k + 1, by omega, by omega, by go_num, by rw [HST.out], by rw [HST.out]; simpa using HO1.out, HB1.out⟩
            · rw [e1] at q1
              rw [e2] at q2
              clear e1 e2
              go_wp2_with fail
              refine (lessB_any x y _ HLX.out _).mono ?_
              rintro e w2 ⟨rfl, hb2⟩
              obtain ⟨⟨y0, y1, y2, y3⟩, hfz, hlt2⟩ := HYB.out w2 hb2
              have HO2 := Lib.hid ((HOA.out.alloc (.cells #[.string y.nom, .string y.hol, .int .i64 y.ser, .int .i64 y.units] 41)).below hb2)
              have HB2 := Lib.hid ((HBL.out.alloc hsz (.cells #[.string y.nom, .string y.hol, .int .i64 y.ser, .int .i64 y.units] 41)).trans (hb2.mono (by simp; omega)))
              have hsz2 : w0.heap.size ≤ w2.heap.size := by omega
              have z0 := cell_up (cell_alloc x0 (.cells #[.string y.nom, .string y.hol, .int .i64 y.ser, .int .i64 y.units] 41)) hb2
              have z1 := cell_up (cell_alloc x1 (.cells #[.string y.nom, .string y.hol, .int .i64 y.ser, .int .i64 y.units] 41)) hb2
              have z2 := cell_up (cell_alloc x2 (.cells #[.string y.nom, .string y.hol, .int .i64 y.ser, .int .i64 y.units] 41)) hb2
              have z3 := cell_up (cell_alloc x3 (.cells #[.string y.nom, .string y.hol, .int .i64 y.ser, .int .i64 y.units] 41)) hb2
              clear hb2 hfz x0 x1 x2 x3 c0 c1 c2 c3
              have hne : u5.ownBlock ≠ some wr.heap.size := HOA.out.ne (.inl (Nat.le_refl _))
              have hol3 : (o ++ [x]).length ≤ 2001 := by simp; omega
              go_wp2_with (first
                | (at_builtin; refine wpList_append_lot rfl _ _ rfl _ w0.heap.size u5 o x rfl HO2.out _ rfl (by simp) (by omega) (by first | omega | (simp <;> omega)) ?_; intro v1 w1 ho1 hg1 hat1; have t0 := hg1.cell y0 hne.symm; have t1 := hg1.cell y1 hne.symm; have t2 := hg1.cell y2 hne.symm; have t3 := hg1.cell y3 hne.symm; have HO3 := Lib.hid ho1; have HB3 := Lib.hid (below_grown HB2.out HO2.out hg1 hsz2); have hsz3 : w0.heap.size ≤ w1.heap.size := HB3.out.size; clear ho1 hg1 hat1)
                | (at_builtin; refine wpList_append_lot rfl _ _ rfl _ w0.heap.size v1 (o ++ [x]) y rfl HO3.out _ rfl (by simp) (by omega) (by first | omega | (simp <;> omega)) ?_; intro v3 w3 ho3 hg3 hat3; have HO1 := Lib.hid ho3; have HB1 := Lib.hid (below_grown HB3.out HO3.out hg3 hsz3); clear ho3 hg3 hat3))
              go_roundg (gk - 1)
              case measure => omega
              case rel => exact ⟨k + 1, by omega, by omega, by go_num, by rw [HST.out], by rw [HST.out]; simpa using HO1.out, HB1.out⟩
          | false =>
            have HST := Lib.hid (show foldP x (l.take (k + 1)) = (o ++ [y], false) by rw [hst]; simp [stP, hk1, hlx])
            have HLX := Lib.hid hlx
            clear hst hk1 hlx
            rcases hcase with e1 | ⟨e1, e2⟩ | ⟨e1, e2, e3⟩
            · rw [e1] at q1
              clear e1 q2
              go_wp2_with fail
              refine (lessB_any x y _ HLX.out _).mono ?_
              rintro e w2 ⟨rfl, hb2⟩
              obtain ⟨⟨y0, y1, y2, y3⟩, hfz, hlt2⟩ := HYB.out w2 hb2
              have HO2 := Lib.hid ((HOA.out.alloc (.cells #[.string y.nom, .string y.hol, .int .i64 y.ser, .int .i64 y.units] 41)).below hb2)
              have HB2 := Lib.hid ((HBL.out.alloc hsz (.cells #[.string y.nom, .string y.hol, .int .i64 y.ser, .int .i64 y.units] 41)).trans (hb2.mono (by simp; omega)))
              have hsz2 : w0.heap.size ≤ w2.heap.size := by omega
              have z0 := cell_up (cell_alloc x0 (.cells #[.string y.nom, .string y.hol, .int .i64 y.ser, .int .i64 y.units] 41)) hb2
              have z1 := cell_up (cell_alloc x1 (.cells #[.string y.nom, .string y.hol, .int .i64 y.ser, .int .i64 y.units] 41)) hb2
              have z2 := cell_up (cell_alloc x2 (.cells #[.string y.nom, .string y.hol, .int .i64 y.ser, .int .i64 y.units] 41)) hb2
              have z3 := cell_up (cell_alloc x3 (.cells #[.string y.nom, .string y.hol, .int .i64 y.ser, .int .i64 y.units] 41)) hb2
              clear hb2 hfz x0 x1 x2 x3 c0 c1 c2 c3
              go_wp2_with (at_builtin; refine wpList_append_lot rfl _ _ rfl _ w0.heap.size u5 o y rfl HO2.out _ rfl (by simp) (by omega) (by first | omega | (simp <;> omega)) ?_; intro v' w1 ho1 hg1 hat1)
              have HO1 := Lib.hid ho1
              have HB1 := Lib.hid (below_grown HB2.out HO2.out hg1 hsz2)
              clear ho1 hg1 hat1 y0 y1 y2 y3 z0 z1 z2 z3
              go_roundg (gk - 1)
              case measure => omega
              case rel => exact ⟨k + 1, by omega, by omega, by go_num, by rw [HST.out], by rw [HST.out]; exact HO1.out, HB1.out⟩
            · rw [e1] at q1
              rw [e2] at q2
              clear e1 e2
              go_wp2_with fail
              refine (lessB_any x y _ HLX.out _).mono ?_
              rintro e w2 ⟨rfl, hb2⟩
              obtain ⟨⟨y0, y1, y2, y3⟩, hfz, hlt2⟩ := HYB.out w2 hb2
              have HO2 := Lib.hid ((HOA.out.alloc (.cells #[.string y.nom, .string y.hol, .int .i64 y.ser, .int .i64 y.units] 41)).below hb2)
              have HB2 := Lib.hid ((HBL.out.alloc hsz (.cells #[.string y.nom, .string y.hol, .int .i64 y.ser, .int .i64 y.units] 41)).trans (hb2.mono (by simp; omega)))
              have hsz2 : w0.heap.size ≤ w2.heap.size := by omega
              have z0 := cell_up (cell_alloc x0 (.cells #[.string y.nom, .string y.hol, .int .i64 y.ser, .int .i64 y.units] 41)) hb2
              have z1 := cell_up (cell_alloc x1 (.cells #[.string y.nom, .string y.hol, .int .i64 y.ser, .int .i64 y.units] 41)) hb2
              have z2 := cell_up (cell_alloc x2 (.cells #[.string y.nom, .string y.hol, .int .i64 y.ser, .int .i64 y.units] 41)) hb2
              have z3 := cell_up (cell_alloc x3 (.cells #[.string y.nom, .string y.hol, .int .i64 y.ser, .int .i64 y.units] 41)) hb2
              clear hb2 hfz x0 x1 x2 x3 c0 c1 c2 c3
              go_wp2_with (at_builtin; refine wpList_append_lot rfl _ _ rfl _ w0.heap.size u5 o y rfl HO2.out _ rfl (by simp) (by omega) (by first | omega | (simp <;> omega)) ?_; intro v' w1 ho1 hg1 hat1)
              have HO1 := Lib.hid ho1
              have HB1 := Lib.hid (below_grown HB2.out HO2.out hg1 hsz2)
              clear ho1 hg1 hat1 y0 y1 y2 y3 z0 z1 z2 z3
              go_roundg (gk - 1)
              case measure => omega
              case rel => exact ⟨k + 1, by omega, by omega, by go_num, by rw [HST.out], by rw [HST.out]; exact HO1.out, HB1.out⟩
            · rw [e1] at q1
              rw [e2] at q2
              clear e1 e2
              go_wp2_with fail
              refine (lessB_any x y _ HLX.out _).mono ?_
              rintro e w2 ⟨rfl, hb2⟩
              obtain ⟨⟨y0, y1, y2, y3⟩, hfz, hlt2⟩ := HYB.out w2 hb2
              have HO2 := Lib.hid ((HOA.out.alloc (.cells #[.string y.nom, .string y.hol, .int .i64 y.ser, .int .i64 y.units] 41)).below hb2)
              have HB2 := Lib.hid ((HBL.out.alloc hsz (.cells #[.string y.nom, .string y.hol, .int .i64 y.ser, .int .i64 y.units] 41)).trans (hb2.mono (by simp; omega)))
              have hsz2 : w0.heap.size ≤ w2.heap.size := by omega
              have z0 := cell_up (cell_alloc x0 (.cells #[.string y.nom, .string y.hol, .int .i64 y.ser, .int .i64 y.units] 41)) hb2
              have z1 := cell_up (cell_alloc x1 (.cells #[.string y.nom, .string y.hol, .int .i64 y.ser, .int .i64 y.units] 41)) hb2
              have z2 := cell_up (cell_alloc x2 (.cells #[.string y.nom, .string y.hol, .int .i64 y.ser, .int .i64 y.units] 41)) hb2
              have z3 := cell_up (cell_alloc x3 (.cells #[.string y.nom, .string y.hol, .int .i64 y.ser, .int .i64 y.units] 41)) hb2
              clear hb2 hfz x0 x1 x2 x3 c0 c1 c2 c3
              go_wp2_with (at_builtin; refine wpList_append_lot rfl _ _ rfl _ w0.heap.size u5 o y rfl HO2.out _ rfl (by simp) (by omega) (by first | omega | (simp <;> omega)) ?_; intro v' w1 ho1 hg1 hat1)
              have HO1 := Lib.hid ho1
              have HB1 := Lib.hid (below_grown HB2.out HO2.out hg1 hsz2)
              clear ho1 hg1 hat1 y0 y1 y2 y3 z0 z1 z2 z3
              go_roundg (gk - 1)
              case measure => omega
              case rel => exact ⟨k + 1, by omega, by omega, by go_num, by rw [HST.out], by rw [HST.out]; exact HO1.out, HB1.out⟩
    · have hfin : foldP x (l.take k) = foldP x l := by rw [List.take_of_length_le (by have := HN.out; omega)]
      have HFIN := Lib.hid hfin
      clear hfin
      cases d with
      | true =>
        go_wp2
        go_ret
        refine ⟨_, rfl, ?_, HB0.out.trans (HBL.out.mono HB0.out.size)⟩
        have h2 := HOD.out.2
        have h1 := HOD.out.1
        rw [HFIN.out] at h1 h2
        unfold putR
        rw [if_pos h2.symm, ← h1]
        exact HOA.out.base HB0.out.size
      | false =>
        go_wp2_with (at_builtin; refine wpList_append_lot rfl _ _ rfl _ w0.heap.size u5 o x rfl HOA.out _ rfl (by simp) (by omega) (by first | omega | (simp <;> omega)) ?_; intro v' w1 ho1 hg1 hat1)
        have HO1 := Lib.hid ho1
        have HB1 := Lib.hid (below_grown HBL.out HOA.out hg1 hsz)
        clear ho1 hg1 hat1
        go_wp2
        go_ret
        refine ⟨_, rfl, ?_, HB0.out.trans (HB1.out.mono HB0.out.size)⟩
        have h2 := HOD.out.2
        have h1 := HOD.out.1
        rw [HFIN.out] at h1 h2
        unfold putR
        rw [if_neg (by rw [← h2]; simp), ← h1]
        exact HO1.out.base HB0.out.size
end Go.Proofs.Ythhmpdjjfoplgaa
