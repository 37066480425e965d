/- The printer's strings.Builder: it lies in the printer's own block. copyCheck, WriteString, WriteByte, Len, String. -/
import Derived.Test.YtjnaeldaajckkaaSynJ
import Derived.Lib.Builder
import Derived.Lib.OthersKept
import Derived.Lib.UnsafeStr
import Derived.Lib.AppendStr
import Derived.Laws.Externs
set_option linter.unusedVariables false
set_option linter.unusedSimpArgs false
namespace Go.Proofs.Ytjnaeldaajckkaa
open Go.RowKit Tok Syn

/-- the printer, all good so far, holding the bytes l -/
def PrB (w : World) (bp : Nat) (l : List UInt8) : Prop := ∃ p v, (p = .pointer none ∨ p = .pointer (some ⟨bp, 0, none⟩)) ∧ w.heap[bp]? = some (.cells #[p, v, .bool true] 91 (0, 0)) ∧
  w.ownsRow (bp + 1) 5 1 v l.length (Lib.byteCells l) ∧ (l = [] → v = .slice none 0 0)
/-- what the printer's writing leaves alone: all that lay below it, and all other blocks that are no rows of bytes -/
def Wr (bp : Nat) (w w' : World) : Prop := Below bp w w' ∧ Lib.OthersKept 5 (some bp) w w'
theorem Wr.refl (bp : Nat) (w : World) : Wr bp w w := ⟨Below.refl _ _, Lib.OthersKept.refl _ _ _⟩
theorem Wr.trans {bp : Nat} {a b c : World} (h : Wr bp a b) (k : Wr bp b c) : Wr bp a c := ⟨h.1.trans k.1, h.2.trans k.2⟩
theorem Wr.drew {bp : Nat} {a b : World} (h : Wr bp a b) : Wr bp a b.drew := ⟨h.1.drew, h.2.drew⟩
theorem Wr.alloc {bp : Nat} {a b : World} (h : Wr bp a b) (hb : bp ≤ b.heap.size) (o : Obj) : Wr bp a (b.alloc o) := ⟨h.1.alloc hb o, h.2.alloc o⟩
theorem Wr.below {bp : Nat} {a b c : World} (h : Wr bp a b) (hb : bp ≤ b.heap.size) (k : Below b.heap.size b c) : Wr bp a c :=
  ⟨h.1.trans (k.mono hb), fun i o hi hn ho => by
    have := h.2 i o hi hn ho
    rw [k.block i (Array.getElem?_eq_some_iff.1 this).1]; exact this⟩
theorem PrB.lt {w : World} {bp : Nat} {l : List UInt8} (h : PrB w bp l) : bp < w.heap.size := by
  obtain ⟨p, v, _, hb, _⟩ := h
  exact (Array.getElem?_eq_some_iff.1 hb).1
theorem PrB.below {w w' : World} {bp : Nat} {l : List UInt8} (h : PrB w bp l) (hb : Below w.heap.size w w') : PrB w' bp l := by
  have hlt := h.lt
  obtain ⟨p, v, hp, hk, hown, hnil⟩ := h
  exact ⟨p, v, hp, by rw [hb.block bp hlt]; exact hk, ownsRow_below hown hb, hnil⟩
theorem kind_of {w : World} {b : Nat} {e : TypeId} {size : Nat} {v : Value} {n : Nat} {xs : List Value} (h : w.ownsRow b e size v n xs) : ∀ g, v.ownBlock = some g → ∃ c fz, w.heap[g]? = some (.cells c e fz) := by
  intro g hg
  rcases h.2 with ⟨rfl, _⟩ | ⟨g', cap, cur, rfl, _, hh, _⟩
  · cases hg
  · simp only [Value.ownBlock, Option.some.injEq] at hg
    subst hg
    exact ⟨_, _, hh⟩
theorem Try.infoB : (Try.prog.info? 89).map (·.size) = some 2 := by kernel_rfl
theorem Try.liesB : liesAt Try.prog Try.prog.depth 91 (3 / Try.prog.cellsOf 91) 0 89 1 = true := by kernel_rfl
set_option maxHeartbeats 2000000 in
set_option maxRecDepth 100000 in
theorem copyCheck_pr {bp : Nat} {l : List UInt8} {w : World} (h : PrB w bp l) :
    Calls Try.prog 83 #[.pointer (some ⟨bp, 0, none⟩)] w fun e w' => e = .returned (.tuple #[]) ∧ ∃ v, w'.heap[bp]? = some (.cells #[.pointer (some ⟨bp, 0, none⟩), v, .bool true] 91 (0, 0)) ∧
      w'.ownsRow (bp + 1) 5 1 v l.length (Lib.byteCells l) ∧ (l = [] → v = .slice none 0 0) ∧ Wr bp w w' := by
  have hlt := h.lt
  obtain ⟨p, v, hp, hk, hown, hnil⟩ := h
  obtain ⟨j, hj, hjs⟩ := Option.map_eq_some_iff.1 Try.infoB
  have hsh : w.shape? bp = some (91, 3) := by simp [World.shape?, hk]
  have hfz : w.frozen? ⟨bp, 0, none⟩ = false := by simp [World.frozen?, hk]
  have h0 : w.cell? ⟨bp, 0, none⟩ = some p := by rw [Lib.cell_of_heap hk]; rfl
  have HO := Lib.hid hown
  have HN := Lib.hid hnil
  have HK := Lib.hid hk
  clear hown hnil hk
  rcases hp with rfl | rfl
  · go_enter Try.func83, Try.ntmps83
    go_wp2
    rw [Lib.run_to_unsafe w ⟨bp, 0, none⟩ Try.underlying87 Try.underlying119 hj (by rw [hjs]; decide) hsh (Nat.zero_lt_succ 2)]
    simp only [Result.andThen]
    rw [Oper.upon_value]
    go_wp2
    rw [run_callFunc_extern Try.func92 (by kernel_rfl) (by kernel_rfl) (by kernel_rfl) (e := Extern.AbiNoEscape.same) (by kernel_rfl)]
    rw [Lib.run_noEscape]
    simp only [Result.andThen]
    rw [Oper.upon_value]
    go_wp2
    rw [Lib.run_from_unsafe w ⟨bp, 0, none⟩ Try.underlying119 Try.underlying87 hj hsh Try.liesB]
    simp only [Result.andThen]
    rw [Oper.upon_value]
    go_wp2
    go_end0
    refine ⟨rfl, v, ?_, ?_, HN.out, (Below.refl bp w).setCell (p := ⟨bp, 0, none⟩) (Nat.le_refl _) _, (Lib.OthersKept.refl _ _ w).setCell ⟨bp, 0, none⟩ rfl _⟩
    · simp [World.setCell, Array.getElem?_modify, HK.out]
    · exact ownsRow_setCell_below HO.out (by show bp < bp + 1; omega) _
  · go_enter Try.func83, Try.ntmps83
    go_wp2
    rw [Lib.run_neq_ptr_same w _ Try.underlying87 hj]
    go_wp2
    go_end0
    exact ⟨rfl, v, HK.out, HO.out, HN.out, Wr.refl _ _⟩
theorem put_pr {w : World} {bp : Nat} {l : List UInt8} {v v' : Value} (hk : w.heap[bp]? = some (.cells #[.pointer (some ⟨bp, 0, none⟩), v, .bool true] 91 (0, 0))) (ho : w.ownsRow (bp + 1) 5 1 v' l.length (Lib.byteCells l)) (hn : l = [] → v' = .slice none 0 0) :
    PrB (w.setCell ⟨bp, 1, none⟩ v') bp l :=
  ⟨_, v', .inr rfl, by simp [World.setCell, Array.getElem?_modify, hk], ownsRow_setCell_below ho (by show bp < bp + 1; omega) _, hn⟩
set_option maxHeartbeats 2000000 in
set_option maxRecDepth 100000 in
theorem write_pr {bp : Nat} {l : List UInt8} (s : ByteArray) {w : World} (h : PrB w bp l) (hlen : l.length + s.size ≤ 1000000) :
    Calls Try.prog 55 #[.pointer (some ⟨bp, 0, none⟩), .string s] w fun e w' => e = .returned (.tuple #[.int .i64 s.size, .nilIface]) ∧ PrB w' bp (l ++ s.data.toList) ∧ Wr bp w w' := by
  obtain ⟨i0, hi, hz0, hz1, hz2⟩ := info_parts Try.info5
  have hlt := h.lt
  go_enter Try.func55, Try.ntmps55
  go_wp2_with fail
  refine (copyCheck_pr h).mono ?_
  rintro e w1 ⟨rfl, v, hbk, hown, hnil, hwr⟩
  have c1 : w1.cell? ⟨bp, 1, none⟩ = some v := by rw [Lib.cell_of_heap hbk]; rfl
  have hs1 := hwr.1.size
  have HW := Lib.hid hwr
  have HNL := Lib.hid hnil
  clear hwr hnil h
  go_wp2_with (at_builtin; refine Lib.wpList_append_own_string w1 rfl _ _ 64 9 rfl (bp + 1) 5 i0 Try.underlying64 Try.underlying9 hi hz0 hz1 hz2 _ _ _ rfl hown s rfl ?c3 ?c4 ?c5 ?_)
  case c3 => unfold maxLen; omega
  case c4 => omega
  case c5 => omega
  intro v' w2 hown' hgrow hnil'
  have hlt1 : bp < w1.heap.size := (Array.getElem?_eq_some_iff.1 hbk).1
  have hb2 : w2.heap[bp]? = some (.cells #[.pointer (some ⟨bp, 0, none⟩), v, .bool true] 91 (0, 0)) := by
    rw [hgrow.block bp hlt1 (fun e => by have := (hown.lt bp e.symm).1; omega)]
    exact hbk
  have d0 : w2.cell? ⟨bp, 0, none⟩ = some (.pointer (some ⟨bp, 0, none⟩)) := by rw [Lib.cell_of_heap hb2]; rfl
  have d1 : w2.cell? ⟨bp, 1, none⟩ = some v := by rw [Lib.cell_of_heap hb2]; rfl
  have f1 : w2.frozen? ⟨bp, 1, none⟩ = false := Lib.frozen_of_heap hb2 1
  have HO := Lib.hid hown
  have HO2 := Lib.hid hown'
  have HG := Lib.hid hgrow
  have HNL2 := Lib.hid hnil'
  obtain ⟨ao, n', cap, rfl⟩ : ∃ ao n' cap, v' = .slice ao n' cap := by
    obtain ⟨A, c, h⟩ := own_form hown'
    exact ⟨_, _, _, h⟩
  clear hown hown' hgrow hnil'
  go_wp2
  go_ret2
  refine ⟨rfl, ?_, ?_⟩
  · refine put_pr hb2 ?_ ?_
    · have h1 := HO2.out
      have e1 : (l ++ s.data.toList).length = l.length + s.size := by rw [List.length_append, Array.length_toList]; rfl
      have e2 : Lib.byteCells (l ++ s.data.toList) = Lib.byteCells l ++ Lib.strCells s := by simp [Lib.byteCells, Lib.strCells]
      rw [e1, e2]; exact h1
    · intro e
      have e3 := List.append_eq_nil_iff.1 e
      have hemp : s = ByteArray.empty := by
        have h := e3.2
        cases s with
        | mk d => simp at h; subst h; rfl
      exact HNL2.out.2 ⟨HNL.out e3.1, hemp⟩
  · exact ⟨HW.out.1.trans ((((Below.refl bp w1).grown HG.out (by omega) (fun k hk => by have := (HO.out.lt k hk).1; omega))).setCell (p := ⟨bp, 1, none⟩) (Nat.le_refl _) _), (HW.out.2.grown HG.out (kind_of HO.out)).setCell ⟨bp, 1, none⟩ rfl _⟩
set_option maxHeartbeats 2000000 in
set_option maxRecDepth 100000 in
theorem wbyte_pr {bp : Nat} {l : List UInt8} (c : UInt8) {w : World} (h : PrB w bp l) (hlen : l.length + 1 ≤ 1000000) :
    Calls Try.prog 85 #[.pointer (some ⟨bp, 0, none⟩), .int .u8 c.toNat] w fun e w' => e = .returned .nilIface ∧ PrB w' bp (l ++ [c]) ∧ Wr bp w w' := by
  obtain ⟨i0, hi, hz0, hz1, hz2⟩ := info_parts Try.info5
  have hlt := h.lt
  go_enter Try.func85, Try.ntmps85
  go_wp2_with fail
  refine (copyCheck_pr h).mono ?_
  rintro e w1 ⟨rfl, v, hbk, hown, hnil, hwr⟩
  have c1 : w1.cell? ⟨bp, 1, none⟩ = some v := by rw [Lib.cell_of_heap hbk]; rfl
  have hs1 := hwr.1.size
  have HW := Lib.hid hwr
  have hlt1 : bp < w1.heap.size := (Array.getElem?_eq_some_iff.1 hbk).1
  clear hwr hnil h
  go_wp2_with (at_builtin; refine wpList_append_own _ rfl _ _ 64 rfl (bp + 1) 5 i0 _ 1 1 Try.underlying64 hi hz0 hz1 hz2 rfl (by decide) v _ _ rfl (hown.alloc _) ⟨w1.heap.size, 0, none⟩ 1 1 [.int .u8 c.toNat] rfl rfl ?c1 ?c2 ?c3 ?c4 ?c5 ?_)
  case c1 => exact cells_new _ _ _
  case c2 => simp [Value.oneCell']
  case c3 => unfold maxLen; omega
  case c4 => omega
  case c5 => simp; omega
  intro v' w2 hown' hgrow hnil'
  have hb2 : w2.heap[bp]? = some (.cells #[.pointer (some ⟨bp, 0, none⟩), v, .bool true] 91 (0, 0)) := by
    rw [hgrow.block bp (by simp; omega) (fun e => by have := (hown.lt bp e.symm).1; omega), ((Below.refl w1.heap.size w1).alloc (Nat.le_refl _) _).block bp hlt1]
    exact hbk
  have d0 : w2.cell? ⟨bp, 0, none⟩ = some (.pointer (some ⟨bp, 0, none⟩)) := by rw [Lib.cell_of_heap hb2]; rfl
  have d1 : w2.cell? ⟨bp, 1, none⟩ = some v := by rw [Lib.cell_of_heap hb2]; rfl
  have f1 : w2.frozen? ⟨bp, 1, none⟩ = false := Lib.frozen_of_heap hb2 1
  have HO := Lib.hid hown
  have HO2 := Lib.hid hown'
  have HG := Lib.hid hgrow
  obtain ⟨A, cp, rfl⟩ := own_form hown'
  clear hown hown' hgrow hnil'
  go_wp2
  go_ret
  refine ⟨rfl, ?_, ?_⟩
  · refine put_pr hb2 ?_ (fun e => by simp at e)
    have h1 := HO2.out
    have e1 : (l ++ [c]).length = l.length + 1 := by simp
    have e2 : Lib.byteCells (l ++ [c]) = Lib.byteCells l ++ [.int .u8 c.toNat] := by simp [Lib.byteCells]
    rw [e1, e2]; exact h1
  · exact ⟨HW.out.1.trans (((((Below.refl bp w1).alloc (by omega) _).grown HG.out (by simp; omega) (fun k hk => by have := (HO.out.lt k hk).1; omega))).setCell (p := ⟨bp, 1, none⟩) (Nat.le_refl _) _), ((HW.out.2.alloc _).grown HG.out (kind_of (HO.out.alloc _))).setCell ⟨bp, 1, none⟩ rfl _⟩
set_option maxHeartbeats 2000000 in
set_option maxRecDepth 100000 in
theorem len_pr {bp : Nat} {l : List UInt8} {w : World} (h : PrB w bp l) :
    Calls Try.prog 58 #[.pointer (some ⟨bp, 0, none⟩)] w fun e w' => e = .returned (.int .i64 l.length) ∧ w' = w := by
  obtain ⟨p, v, hp, hk, hown, hnil⟩ := h
  obtain ⟨A, cp, rfl⟩ := own_form hown
  have c1 : w.cell? ⟨bp, 1, none⟩ = some (.slice A l.length cp) := by rw [Lib.cell_of_heap hk]; rfl
  clear hp hk hown hnil
  go_enter Try.func58, Try.ntmps58
  go_wp2
  go_ret
  exact ⟨rfl, rfl⟩
set_option maxHeartbeats 2000000 in
set_option maxRecDepth 100000 in
theorem string_pr {bp : Nat} {l : List UInt8} {w : World} (h : PrB w bp l) :
    Calls Try.prog 59 #[.pointer (some ⟨bp, 0, none⟩)] w fun e w' => e = .returned (.string ⟨l.toArray⟩) ∧ Below bp w w' := by
  obtain ⟨p, v, hp, hk, hown, hnil⟩ := h
  by_cases h0 : l = []
  · subst h0
    obtain rfl := hnil rfl
    have c1 : w.drew.cell? ⟨bp, 1, none⟩ = some (.slice none 0 0) := by
      have : w.drew.heap[bp]? = some (.cells #[p, .slice none 0 0, .bool true] 91 (0, 0)) := hk
      rw [Lib.cell_of_heap this]; rfl
    have hSD : (Builtin.unsafeSliceData_ #[64] 115 #[.slice none 0 0]).run Try.prog w.drew = .ok (.pointer none) w.drew := rfl
    have hUS := fun W : World => Lib.run_unsafeString_none (P := Try.prog) W 115 3 9 none
    clear hp hk hown hnil
    go_enter Try.func59, Try.ntmps59
    go_wp2
    go_region
    all_goals (go_wp2; go_ret; exact ⟨rfl, Below.drew (Below.refl bp w)⟩)
  · have hl0 : l.length ≠ 0 := by simpa using h0
    obtain ⟨g, cap, cur, rfl, hbg, hg, hnc, hcm, hcs, htake⟩ : ∃ g cap cur, v = .slice (some ⟨g, 0, none⟩) l.length cap ∧ bp + 1 ≤ g ∧ w.heap[g]? = some (.cells cur 5 (0, 0)) ∧ l.length ≤ cap ∧ cap ≤ maxLen ∧ cur.size = cap * 1 ∧ cur.toList.take (l.length * 1) = Lib.byteCells l := by
      rcases hown.2 with ⟨_, hz⟩ | ⟨g, cap, cur, hv, r⟩
      · exact absurd hz hl0
      · exact ⟨g, cap, cur, hv, r⟩
    have c1 : w.drew.cell? ⟨bp, 1, none⟩ = some (.slice (some ⟨g, 0, none⟩) l.length cap) := by
      have : w.drew.heap[bp]? = some (.cells #[p, .slice (some ⟨g, 0, none⟩) l.length cap, .bool true] 91 (0, 0)) := hk
      rw [Lib.cell_of_heap this]; rfl
    have hSD : (Builtin.unsafeSliceData_ #[64] 115 #[.slice (some ⟨g, 0, none⟩) l.length cap]).run Try.prog w.drew = .ok (.pointer (some ⟨g, 0, none⟩)) w.drew :=
      Lib.run_unsafeSliceData_row _ _ _ _ _ _ (by omega)
    have hUS : (Builtin.unsafeString_ #[115, 3] 9 #[.pointer (some ⟨g, 0, none⟩), .int .i64 l.length]).run Try.prog w.drew = .ok (.string ⟨l.toArray⟩) (w.drew.freeze ⟨g, 0, none⟩ l.length) := by
      refine Lib.run_unsafeString_row w.drew 115 3 9 5 Try.underlying115 (by kernel_rfl) g cur.size (by have hg' : w.drew.heap[g]? = some (.cells cur 5 (0, 0)) := hg; simp [World.shape?, hg']) l h0 (by omega) (by unfold maxLen at hcm; omega) ?_
      intro j x hx
      have := hown.cells (g := g) rfl j (.int .u8 x.toNat) (by simp [Lib.byteCells, hx])
      exact this
    have HBG := Lib.hid hbg
    clear hp hk hown hnil htake hg hcs hbg
    go_enter Try.func59, Try.ntmps59
    go_wp2
    go_region
    all_goals (go_wp2; go_ret; exact ⟨rfl, Lib.below_freeze (Below.drew (Below.refl bp w)) (p := ⟨g, 0, none⟩) (by have := HBG.out; show bp ≤ g; omega) _⟩)
end Go.Proofs.Ytjnaeldaajckkaa
