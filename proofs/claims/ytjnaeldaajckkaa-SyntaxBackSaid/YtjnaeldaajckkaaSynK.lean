/- The program's printer: single, word, clause, at what has a text. -/
import Derived.Test.YtjnaeldaajckkaaSyB
import Derived.Test.YtjnaeldaajckkaaSyZ
import Derived.Test.YtjnaeldaajckkaaSyF
import Derived.BigQuiet
set_option linter.unusedVariables false
set_option linter.unusedSimpArgs false
namespace Go.Proofs.Ytjnaeldaajckkaa
open Go.RowKit Tok Syn

theorem wbyte_sp {bp : Nat} {l : List UInt8} {w : World} (h : PrB w bp l) (hlen : l.length + 1 ≤ 1000000) :
    Calls Try.prog 85 #[.pointer (some ⟨bp, 0, none⟩), .int .u8 32] w fun e w' => e = .returned .nilIface ∧ PrB w' bp (l ++ [32]) ∧ Wr bp w w' := by
  have h1 := wbyte_pr 32 h hlen
  have h2 : (((32 : UInt8).toNat : Nat) : Int) = 32 := rfl
  rw [h2] at h1
  exact h1
theorem str_app (a b : List UInt8) : (⟨a.toArray⟩ : ByteArray) ++ ⟨b.toArray⟩ = ⟨(a ++ b).toArray⟩ := by ext1; simp
theorem bsize (a : List UInt8) : (⟨a.toArray⟩ : ByteArray).size = a.length := by simp [ByteArray.size]
theorem scan_one {u : List UInt8} (hu : tokU u) (hn : u.length ≤ 65536) : scanR u = ⟨[⟨kindL u, u, 1, 1⟩], 0, 0, 0⟩ := by
  unfold scanR
  rw [if_neg (by omega)]
  obtain ⟨f', h1, h2⟩ := scan_tok u hu 1 1 (u.length + 1) [] [] neutral_nil (by simp)
  rw [List.append_nil] at h2
  rw [h2]
  cases f' <;> rfl
set_option maxRecDepth 100000 in
set_option maxHeartbeats 4000000 in
theorem single_good {u : List UInt8} (hu : tokU u) (hn : u.length ≤ 65536) (w : World) :
    Calls Try.prog 84 #[.string ⟨u.toArray⟩] w fun e w' => e = .returned (.tuple #[.int .i64 (kindL u), .bool true]) ∧ Below w.heap.size w w' := by
  have hsc := scan_one hu hn
  have hsz : (⟨u.toArray⟩ : ByteArray).size ≤ maxLen := by
    have : (⟨u.toArray⟩ : ByteArray).size = u.length := by simp [ByteArray.size]
    rw [this]; exact small_maxLen (by omega)
  have HSC := Lib.hid hsc
  have HSZ := Lib.hid hsz
  clear hsc hsz hu
  go_enter Try.func84, Try.ntmps84
  go_wp2_with fail
  refine (scan_any ⟨u.toArray⟩ w HSZ.out).mono ?_
  rintro e w1 ⟨v, r, hr, rfl, hown, hb1⟩
  have hr2 : r = ⟨[⟨kindL u, u, 1, 1⟩], 0, 0, 0⟩ := by rw [hr]; exact HSC.out
  clear hr
  subst hr2
  obtain ⟨g, cap, rfl, hg1, hg2⟩ := hown.form (by simp)
  have d0 := (ownsRow_below hown ((Below.refl _ _).alloc (Nat.le_refl _) (.cells #[.int .i64 0, .int .i64 0] 24))).cells (g := g) rfl 0 (.int .i64 (kindL u)) rfl
  have d1 := (ownsRow_below hown ((Below.refl _ _).alloc (Nat.le_refl _) (.cells #[.int .i64 0, .int .i64 0] 24))).cells (g := g) rfl 1 (.string ⟨u.toArray⟩) rfl
  have q0 : (⟨g, 0, none⟩ : Addr).add 0 = ⟨g, 0, none⟩ := by simp [Addr.add]
  have q1 : (⟨g, 0, none⟩ : Addr).add 1 = ⟨g, 1, none⟩ := by simp [Addr.add]
  rw [q0] at d0
  rw [q1] at d1
  have HB1 := Lib.hid hb1
  clear hown hb1
  simp only [List.length_cons, List.length_nil]
  go_wp2
  go_ret2
  exact ⟨rfl, HB1.out.alloc HB1.out.size _⟩
theorem PrB.ok {w : World} {bp : Nat} {l : List UInt8} (h : PrB w bp l) : w.cell? ⟨bp, 2, none⟩ = some (.bool true) ∧ w.frozen? ⟨bp, 2, none⟩ = false := by
  obtain ⟨p, v, _, hk, _⟩ := h
  exact ⟨by rw [Lib.cell_of_heap hk]; rfl, Lib.frozen_of_heap hk 2⟩
theorem PrB.setOk {w : World} {bp : Nat} {l : List UInt8} (h : PrB w bp l) : PrB (w.setCell ⟨bp, 2, none⟩ (.bool true)) bp l := by
  obtain ⟨p, v, hp, hk, hown, hnil⟩ := h
  exact ⟨p, v, hp, by simp [World.setCell, Array.getElem?_modify, hk], ownsRow_setCell_below hown (by show bp < bp + 1; omega) _, hnil⟩
theorem Wr.setOk {bp : Nat} {a b : World} (h : Wr bp a b) (u : Value) : Wr bp a (b.setCell ⟨bp, 2, none⟩ u) := ⟨h.1.setCell (p := ⟨bp, 2, none⟩) (Nat.le_refl _) u, h.2.setCell ⟨bp, 2, none⟩ rfl u⟩
theorem PrB.drew {w : World} {bp : Nat} {l : List UInt8} (h : PrB w bp l) : PrB w.drew bp l := h.below (Below.refl _ _).drew
set_option maxRecDepth 100000 in
set_option maxHeartbeats 4000000 in
theorem pword_good {bp : Nat} {l u : List UInt8} {w : World} (h : PrB w bp l) (hu : wordU u) (hn : u.length ≤ 65536) :
    Calls Try.prog 56 #[.pointer (some ⟨bp, 0, none⟩), .string ⟨u.toArray⟩] w fun e w' => e = .returned (.string ⟨u.toArray⟩) ∧ PrB w' bp l ∧ Wr bp w w' := by
  have hk := hu.2
  have HU := Lib.hid hu
  have HP := Lib.hid h
  clear hu h
  go_enter Try.func56, Try.ntmps56
  go_wp2_with fail
  refine (single_good HU.out.1 hn w).mono ?_
  rintro e w1 ⟨rfl, hb1⟩
  obtain ⟨c2, f2⟩ := (HP.out.below hb1).ok
  have HB1 := Lib.hid hb1
  clear hb1
  rw [hk]
  go_wp2
  go_ret
  exact ⟨rfl, (HP.out.below HB1.out).setOk, ((Wr.refl _ _).below (Nat.le_of_lt HP.out.lt) HB1.out).setOk _⟩
/-- a block of a struct's copy, kept by the printer -/
def BlkK (w : World) (b : Nat) (L : Array Value) (t : TypeId) : Prop := w.heap[b]? = some (.cells L t (0, 0))
theorem BlkK.new (w : World) (L : Array Value) (t : TypeId) : BlkK (w.alloc (.cells L t)) w.heap.size L t := by exact heap_alloc_new w _
theorem BlkK.wr {w w' : World} {bp b : Nat} {L : Array Value} {t : TypeId} (h : BlkK w b L t) (hw : Wr bp w w') (hb : b ≠ bp) (ht : t ≠ 5) : BlkK w' b L t :=
  hw.2 b _ h (fun e => hb (by injection e)) (fun c fz e => by injection e with _ e _; exact ht e)
theorem BlkK.below {w w' : World} {b : Nat} {L : Array Value} {t : TypeId} (h : BlkK w b L t) (hb : Below w.heap.size w w') : BlkK w' b L t := by
  have hlt : b < w.heap.size := (Array.getElem?_eq_some_iff.1 h).1
  unfold BlkK
  rw [hb.block b hlt]; exact h
theorem BlkK.cell {w : World} {b : Nat} {L : Array Value} {t : TypeId} (h : BlkK w b L t) (j : Nat) : w.cell? ⟨b, j, none⟩ = L[j]? := Lib.cell_of_heap h j
theorem KeepsD.wr {D : Nat → Prop} {w w' : World} {bp : Nat} (h : Wr bp w w') (hD : ∀ k, D k → k < bp) : KeepsD D w w' := fun k hk => h.1.block k (hD k hk)
theorem flat_le (l : List (List UInt8)) (k : Nat) : ((l.take k).flatMap valL).length ≤ (l.flatMap valL).length := by
  conv => rhs; rw [← List.take_append_drop k l]
  rw [List.flatMap_append, List.length_append]; omega
theorem valL_com : valL [44] = [44] := rfl
theorem valL_sp {v : List UInt8} (h : v ≠ [44]) : valL v = 32 :: v := if_neg h
theorem take_flat (l : List (List UInt8)) (k : Nat) (v : List UInt8) (h : l[k]? = some v) : (l.take (k + 1)).flatMap valL = (l.take k).flatMap valL ++ valL v := by
  rw [List.take_add_one, List.flatMap_append, h]; simp
set_option maxRecDepth 100000 in
set_option maxHeartbeats 4000000 in
theorem pclause_good {bp : Nat} {l ind : List UInt8} {c : Cl} {u : Value} {D : Nat → Prop} {w : World} (h : PrB w bp l) (hg : GoodT c) (hv : StrD w D u c.vals) (hD : ∀ k, D k → k < bp) (hn : l.length + ind.length + (clauseL c).length ≤ 65536) :
    Calls Try.prog 57 #[.pointer (some ⟨bp, 0, none⟩), .string ⟨ind.toArray⟩, .agg #[strV c.word, u, .int .i64 c.line, .int .i64 c.col]] w fun e w' => e = .returned (.tuple #[]) ∧ PrB w' bp (l ++ (ind ++ clauseL c)) ∧ Wr bp w w' := by
  obtain ⟨A, cp, rfl⟩ : ∃ A cp, u = .slice A c.vals.length cp := by
    obtain ⟨⟨_, _, h | ⟨g, off, cap, h, _⟩⟩, _⟩ := hv
    · exact ⟨none, 0, by rw [h.1, h.2]⟩
    · exact ⟨_, _, h⟩
  have hlt := h.lt
  have hlc : (clauseL c).length = c.word.length + ((c.vals.flatMap valL).length + 2) := by simp [clauseL]
  have HU := Lib.hid hg
  have HV := Lib.hid hv
  obtain ⟨w1, hw1⟩ : ∃ x, x = (w.setCell ⟨bp, 2, none⟩ (.bool true)).alloc (.cells #[.string ⟨c.word.toArray⟩, .slice A c.vals.length cp, .int .i64 c.line, .int .i64 c.col] 81) := ⟨_, rfl⟩
  have hsz : (w.setCell ⟨bp, 2, none⟩ (.bool true)).heap.size = w.heap.size := by simp [World.setCell]
  have hal := (Below.refl _ (w.setCell ⟨bp, 2, none⟩ (.bool true))).alloc (Nat.le_refl _) (.cells #[.string ⟨c.word.toArray⟩, .slice A c.vals.length cp, .int .i64 c.line, .int .i64 c.col] 81)
  have hk0 := BlkK.new (w.setCell ⟨bp, 2, none⟩ (.bool true)) #[.string ⟨c.word.toArray⟩, .slice A c.vals.length cp, .int .i64 c.line, .int .i64 c.col] 81
  rw [hsz, ← hw1] at hk0
  have hp1 := h.setOk.below hal
  rw [← hw1] at hp1
  have hr1 := ((Wr.refl bp w).setOk (.bool true)).below (by rw [hsz]; exact Nat.le_of_lt hlt) hal
  rw [← hw1] at hr1
  have hs1 := hr1.1.size
  have HK1 := Lib.hid hk0
  have HP1 := Lib.hid hp1
  have HR1 := Lib.hid hr1
  have HW1 := Lib.hid hw1
  have c2 := cell_alloc h.ok.1 (.cells #[.string ⟨c.word.toArray⟩, .slice A c.vals.length cp, .int .i64 c.line, .int .i64 c.col] 81)
  have f2 : (w.alloc (.cells #[.string ⟨c.word.toArray⟩, .slice A c.vals.length cp, .int .i64 c.line, .int .i64 c.col] 81)).frozen? ⟨bp, 2, none⟩ = false := by
    rw [((Below.refl _ w).alloc (Nat.le_refl _) _).frozen (p := ⟨bp, 2, none⟩) hlt]; exact h.ok.2
  have hne : (c.word == [99, 108, 97, 115, 115]) = false := by
    have := hg.2.1
    simp only [sClass] at this
    exact beq_false_of_ne this
  have hnb : ¬ w.heap.size = bp := by omega
  have hbd : ind.length + c.word.length ≤ 9223372036854775807 := by omega
  clear h hg hv hal hk0 hp1 hr1
  simp only [strV]
  go_enter Try.func57, Try.ntmps57
  go_wp2_with fail
  rw [← hw1]
  clear hw1 c2 f2
  refine wp_region_cc (P := Try.prog) [(0, 22, .pointer (some ⟨bp, 0, none⟩)), (1, 23, .pointer (some ⟨bp, 0, none⟩)), (2, 24, .pointer (some ⟨bp, 0, none⟩)), (3, 25, .string ⟨ind.toArray⟩), (4, 26, .pointer (some ⟨bp, 0, none⟩)), (5, 27, .pointer (some ⟨w.heap.size, 0, none⟩)), (6, 28, .string ⟨c.word.toArray⟩)] (fun _ => [(8, 30, .string ⟨(ind ++ c.word).toArray⟩)]) [8] 7 9 29 31 _ _ (fun W => W.cell? ⟨w.heap.size, 0, none⟩ = some (.string ⟨c.word.toArray⟩)) (fun u W => u = .string ⟨c.word.toArray⟩ ∧ PrB W bp l ∧ Wr bp w1.drew W) (fun u x W => u = .string ⟨c.word.toArray⟩ ∧ PrB W bp (l ++ (ind ++ c.word)) ∧ Wr bp w1.drew W) (by kernel_rfl) (by kernel_rfl) (by rfl) (by rfl) ⟨rfl, rfl⟩ ⟨rfl, rfl⟩ (fun _ => rfl) (by intros; simp only [putsA, List.foldl_cons, List.foldl_nil, Act.put, List.setIfInBounds_toArray, List.set_cons_zero, List.set_cons_succ] <;> rfl) (by intros; simp only [putsA, List.foldl_cons, List.foldl_nil, Act.put, List.setIfInBounds_toArray, List.set_cons_zero, List.set_cons_succ] <;> rfl) ?_ ?_ ?_ ?_ ?_ ?_ ?_ ?_
  · exact HK1.out.cell 0
  · rintro u W ⟨rfl, _, hr⟩
    exact ((show BlkK w1.drew _ _ _ from HK1.out).wr hr hnb (by decide)).cell 0
  · rintro u x W ⟨rfl, _, hr⟩
    exact ((show BlkK w1.drew _ _ _ from HK1.out).wr hr hnb (by decide)).cell 0
  · skip
    refine ⟨⟨_, rfl, rfl, .inl ⟨by rfl, fun _ _ => by rfl⟩⟩, ?_⟩
    simp only [Act.put, List.setIfInBounds_toArray, List.set_cons_zero, List.set_cons_succ]
    refine ⟨⟨_, rfl, rfl, .inl ⟨by rfl, fun _ _ => by rfl⟩⟩, ?_⟩
    simp only [Act.put, List.setIfInBounds_toArray, List.set_cons_zero, List.set_cons_succ]
    refine ⟨⟨_, rfl, rfl, .inl ⟨by rfl, fun _ _ => by rfl⟩⟩, ?_⟩
    simp only [Act.put, List.setIfInBounds_toArray, List.set_cons_zero, List.set_cons_succ]
    refine ⟨⟨_, rfl, rfl, .inl ⟨by rfl, fun _ _ => by rfl⟩⟩, ?_⟩
    simp only [Act.put, List.setIfInBounds_toArray, List.set_cons_zero, List.set_cons_succ]
    refine ⟨⟨_, rfl, rfl, .inl ⟨by rfl, fun _ _ => by rfl⟩⟩, ?_⟩
    simp only [Act.put, List.setIfInBounds_toArray, List.set_cons_zero, List.set_cons_succ]
    refine ⟨⟨_, rfl, rfl, .inl ⟨by rfl, fun _ _ => by rfl⟩⟩, ?_⟩
    simp only [Act.put, List.setIfInBounds_toArray, List.set_cons_zero, List.set_cons_succ]
    refine ⟨⟨_, rfl, rfl, .inl ⟨by rfl, fun W hW => by simp [execOp, Act.eval, go_sem, hW]⟩⟩, ?_⟩
    simp only [Act.put, List.setIfInBounds_toArray, List.set_cons_zero, List.set_cons_succ]
    exact trivial
  · rintro u W ⟨rfl, _⟩
    exact ⟨⟨_, rfl, rfl, .inl ⟨by rfl, fun W hW => by simp [execOp, Act.eval, go_sem, str_app, hbd]⟩⟩, trivial⟩
  · refine GY.call (by simp [execOp, Act.eval, go_sem]) ((pword_good HP1.out.drew HU.out.1 (by omega)).mono ?_)
    rintro e W ⟨rfl, hp, hr⟩
    exact ⟨_, rfl, rfl, hp, hr⟩
  · rintro u W ⟨rfl, hp, hr⟩
    refine GY.call (by simp [execOp, Act.eval, go_sem]) ((write_pr ⟨(ind ++ c.word).toArray⟩ hp (by rw [bsize, List.length_append]; omega)).mono ?_)
    rintro e W2 ⟨rfl, hp2, hr2⟩
    exact ⟨_, rfl, rfl, hp2, hr.trans hr2⟩
  rintro u x W ⟨rfl, hp2, hr2⟩
  simp only [putsA, List.foldl_cons, List.foldl_nil, Act.put, List.setIfInBounds_toArray, List.set_cons_zero, List.set_cons_succ]
  have hw2 := HR1.out.trans ((Wr.refl bp w1).drew.trans hr2)
  have d1 := (((show BlkK w1.drew _ _ _ from HK1.out).wr hr2 hnb (by decide))).cell 1
  simp only [List.getElem?_toArray, List.getElem?_cons_zero, List.getElem?_cons_succ] at d1
  have HP2 := Lib.hid hp2
  have HW2 := Lib.hid hw2
  clear hp2 hw2 hr2 hne HP1 HR1 HK1 HW1
  go_wp2_with fail
  go_loopg [35] c.vals.length (fun m i wr => ∃ k : Nat, k ≤ c.vals.length ∧ c.vals.length - k ≤ m ∧ i = .int .i64 (k : Int) ∧ PrB wr bp (l ++ (ind ++ c.word) ++ (c.vals.take k).flatMap valL) ∧ Wr bp w wr)
  case atStart => exact ⟨0, by omega, by omega, rfl, by rw [List.take_zero]; simpa using HP2.out, HW2.out⟩
  case round =>
    obtain ⟨k, hk, hm, rfl, hp3, hw3⟩ := hrel
    have HP3 := Lib.hid hp3
    have HW3 := Lib.hid hw3
    clear hp3 hw3
    by_cases hlt2 : k < c.vals.length
    · obtain ⟨⟨r1, r2, r3⟩, r4⟩ := HV.out.up (KeepsD.wr HW3.out hD) (fun _ h => h)
      obtain ⟨x, hx⟩ : ∃ x, c.vals[k]? = some x := ⟨_, List.getElem?_eq_getElem hlt2⟩
      obtain ⟨g, off, cap, hsl, hcs⟩ : ∃ g off cap, (.slice A c.vals.length cp : Value) = .slice (some ⟨g, off, none⟩) c.vals.length cap ∧ ∀ j u, (c.vals.map strV)[j]? = some u → wr.cell? ⟨g, off + j, none⟩ = some u := by
        rcases r3 with ⟨_, h0⟩ | ⟨g, off, cap, h1, h2⟩
        · omega
        · exact ⟨g, off, cap, h1, h2⟩
      injection hsl with hA _ hcp
      subst hA
      subst hcp
      have hxc : wr.cell? ⟨g, off + k, none⟩ = some (.string ⟨x.toArray⟩) := hcs k _ (by rw [List.getElem?_map, hx]; rfl)
      have hfl := flat_le c.vals (k + 1)
      rw [take_flat _ _ _ hx, List.length_append] at hfl
      have hgv := HU.out.2.2 x (List.mem_of_getElem? hx)
      have HX := Lib.hid hx
      have hsm : c.vals.length ≤ 9223372036854775807 := r2
      clear r1 r2 r3 r4 hcs hx
      by_cases hcom : x = [44]
      · subst hcom
        go_wp2_with fail
        refine (write_pr ⟨#[44]⟩ HP3.out (by have e1 : (⟨#[44]⟩ : ByteArray).size = 1 := rfl; rw [e1]; rw [valL_com] at hfl; simp only [List.length_append, List.length_cons, List.length_nil] at hfl ⊢; omega)).mono ?_
        rintro e W3 ⟨rfl, hp4, hw4⟩
        have HP4 := Lib.hid hp4
        have HW4 := Lib.hid (HW3.out.trans hw4)
        clear hp4 hw4
        go_wp2
        go_roundg (gk - 1)
        case rel => exact ⟨k + 1, by omega, by omega, by go_num, by rw [take_flat _ _ _ HX.out, valL_com, ← List.append_assoc]; exact HP4.out, HW4.out⟩
        case measure => omega
      · obtain ⟨ht, hk0, hk5⟩ := hgv.resolve_left hcom
        have hcb : (x == [44]) = false := beq_false_of_ne hcom
        have hk5b : (kindL x != 5) = true := bne_iff_ne.2 hk5
        have HT := Lib.hid ht
        have HCM := Lib.hid hcom
        rw [valL_sp hcom, List.length_cons] at hfl
        clear ht hgv hcom
        go_wp2_with fail
        refine (single_good HT.out (by omega) wr).mono ?_
        rintro e W3 ⟨rfl, hb3⟩
        obtain ⟨c2, f2⟩ := (HP3.out.below hb3).ok
        have HP4 := Lib.hid (HP3.out.below hb3).setOk
        have HW4 := Lib.hid ((HW3.out.below (Nat.le_of_lt HP3.out.lt) hb3).setOk (.bool true))
        clear hb3
        go_wp2_with fail
        refine (wbyte_sp HP4.out (by simp only [List.length_append] at hfl ⊢; omega)).mono ?_
        rintro e W4 ⟨rfl, hp5, hw5⟩
        have HP5 := Lib.hid hp5
        have HW5 := Lib.hid (HW4.out.trans hw5)
        clear hp5 hw5 c2 f2
        go_wp2_with fail
        refine (write_pr ⟨x.toArray⟩ HP5.out (by rw [bsize]; simp only [List.length_append, List.length_cons, List.length_nil] at hfl ⊢; omega)).mono ?_
        rintro e W5 ⟨rfl, hp6, hw6⟩
        have HP6 := Lib.hid hp6
        have HW6 := Lib.hid (HW5.out.trans hw6)
        clear hp6 hw6
        go_wp2
        go_roundg (gk - 1)
        case rel => exact ⟨k + 1, by omega, by omega, by go_num, by rw [take_flat _ _ _ HX.out, valL_sp HCM.out]; have := HP6.out; simpa using this, HW6.out⟩
        case measure => omega
    · have hke : k = c.vals.length := by omega
      go_wp2_with fail
      refine (write_pr ⟨#[59, 10]⟩ HP3.out (by have := flat_le c.vals k; simp only [List.length_append]; have e2 : (⟨#[59, 10]⟩ : ByteArray).size = 2 := rfl; rw [e2]; omega)).mono ?_
      rintro e W3 ⟨rfl, hp4, hw4⟩
      have HP4 := Lib.hid hp4
      have HW4 := Lib.hid (HW3.out.trans hw4)
      have HKE := Lib.hid hke
      clear hp4 hw4 hke
      go_wp2
      go_end0
      refine ⟨rfl, ?_, HW4.out⟩
      have := HP4.out
      rw [HKE.out, List.take_length] at this
      simpa [clauseL] using this
end Go.Proofs.Ytjnaeldaajckkaa
