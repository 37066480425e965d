/- TokenCovers: the walk. -/
import Derived.Test.YtjnaeldaajckkaaTokT
import Derived.BigQuiet
set_option linter.unusedVariables false
set_option linter.unusedSimpArgs false
namespace Go.Proofs.Ytjnaeldaajckkaa
open Go.RowKit Tok

theorem reads_all {w : World} {v : Value} {l : List T} (h : Reads w 4 v l.length (cellsOf l)) : ∃ a cap, v = .slice a l.length cap ∧ ∀ k t, l[k]? = some t → ∃ g off, a = some ⟨g, off, none⟩ ∧ w.cell? ⟨g, off + k * 4 + 1, none⟩ = some (.string ⟨t.text.toArray⟩) ∧ w.cell? ⟨g, off + k * 4 + 2, none⟩ = some (.int .i64 t.line) ∧ w.cell? ⟨g, off + k * 4 + 3, none⟩ = some (.int .i64 t.col) := by
  by_cases h0 : l.length = 0
  · obtain ⟨a, cap, hv⟩ := h.zero h0
    exact ⟨a, cap, by rw [hv, h0], fun k t ht => by have := (List.getElem?_eq_some_iff.1 ht).1; omega⟩
  · obtain ⟨g, off, cap, hv, hc⟩ := h.some h0
    refine ⟨_, cap, hv, fun k t ht => ⟨g, off, rfl, ?_⟩⟩
    have q := cellsOf_get _ k t ht
    exact ⟨hc _ _ q.2.1, hc _ _ q.2.2.1, hc _ _ q.2.2.2⟩
theorem Tok.ext_list (s : ByteArray) (i j : Nat) : (s.extract i j).data.toList = (s.data.toList.drop i).take (j - i) := by
  rw [ByteArray.data_extract, Array.toList_extract, List.extract_eq_take_drop]
theorem Tok.ext_text (s : ByteArray) (p : Nat) (x : ByteArray) (h : (s.data.toList.drop p).take x.data.toList.length = x.data.toList) : s.extract p (p + x.size) = x := by
  have : (s.extract p (p + x.size)).data.toList = x.data.toList := by
    rw [ext_list, Nat.add_sub_cancel_left, ← len_data]; exact h
  exact ByteArray.ext (Array.toList_inj.1 this)

set_option maxRecDepth 100000 in
set_option maxHeartbeats 4000000 in
theorem covers_any (a : Option Addr) (len cap : Nat) (z : List Int) (w : World) (hr : IsRow .i64 w a len cap z) :
    Calls Try.prog 6 #[.slice a len cap] w fun e w' => e = .returned (.bool true) ∧ Below w.heap.size w w' := by
  have ht0 := hr.tape 34
  clear hr
  go_enter Try.func6, Try.ntmps6
  go_wp2_with fail
  refine (text_any w.heap.size 0 _ ht0 (by omega)).mono ?_
  rintro e w1 ⟨s1, at1, hs1, rfl, ht1, ha1, hg1⟩
  have hB1 := ((Below.refl w.heap.size w).alloc (Nat.le_refl _) (.cells #[.slice a len cap, .int .i64 0] 34)).trans (below_grownBy hg1 (Nat.le_refl _) (by simp))
  clear ht0 ht1 hg1
  go_wp2_with fail
  refine (scan_any s1 _ (small_maxLen (by omega))).mono ?_
  rintro e w2 ⟨v, r, hr, rfl, hown, hb2⟩
  have hB2 := hB1.trans (hb2.mono hB1.size)
  have hg2 := hB2.size
  have hR2 := (Reads.of_own hown)
  clear hB1 hb2 hown
  have hlen := scanR_len s1.data.toList
  have hlay := scanR_lay s1.data.toList
  rw [← hr] at hlay hlen
  clear hr
  obtain ⟨av, capv, rfl, hc⟩ := reads_all hR2
  have HC := Lib.hid hc
  clear hR2 hc
  by_cases he : r.err = 0
  · have z0 : (r.err != 0) = false := by simp [he]
    have HL := Lib.hid (hlay he)
    clear hlay he
    have hU : Below w2.heap.size w2 (w2.alloc (.cells #[.int .i64 r.pl, .int .i64 r.pc] 24)) := (Below.refl _ _).alloc (Nat.le_refl _) _
    have hV := hB2.alloc hg2 (.cells #[.int .i64 r.pl, .int .i64 r.pc] 24)
    go_wp2
    go_loopg [8, 9, 10] (r.toks.length + 2) (fun n a i nx wr => ∃ (k e : Nat), k ≤ r.toks.length + 1 ∧ r.toks.length + 1 - k ≤ n ∧ e ≤ s1.size ∧ a = .int .i64 e ∧ i = .int .i64 k ∧ Below w2.heap.size w2 wr ∧ Below w.heap.size w wr ∧ (k ≤ r.toks.length → Lay s1.data.toList e (r.toks.drop k)))
    case atStart => exact ⟨0, 0, by omega, by omega, by omega, rfl, rfl, hU, hV, fun _ => HL.out⟩
    case round =>
      obtain ⟨k, e, hk, hm, hes, rfl, rfl, hu, hv, hlay⟩ := hrel
      clear hU hV
      by_cases hlt : k < r.toks.length
      · obtain ⟨t, ht⟩ : ∃ t, r.toks[k]? = some t := ⟨r.toks[k], by simp [hlt]⟩
        have hd : r.toks.drop k = t :: r.toks.drop (k + 1) := by
          rw [List.drop_eq_getElem_cons hlt]
          congr 1
          rw [List.getElem?_eq_getElem hlt] at ht
          injection ht
        have hl2 := hlay (by omega)
        rw [hd] at hl2
        obtain ⟨p, hp1, hp2, hp3, hp4, hp5, ⟨b, hp6⟩, hp7⟩ := hl2
        obtain ⟨g, off, rfl, c1, c2, c3⟩ := HC.out k t ht
        obtain ⟨x, hx⟩ : ∃ x : ByteArray, x = ⟨t.text.toArray⟩ := ⟨_, rfl⟩
        have hxl : x.data.toList = t.text := by rw [hx]
        rw [← hx] at c1
        rw [← hxl, len_data] at hp2 hp7
        rw [← hxl] at hp3 hp4
        rw [len_data] at hp2
        have hxe := ext_text s1 p x hp3
        have hx0 : 0 < x.size := by
          rw [← len_data]; exact List.length_pos_iff.2 hp4
        have HP := Lib.hid hp5
        have HB := Lib.hid hp6
        have HY := Lib.hid hp7
        clear hlay hd ht hx hxl hp3 hp4 hp5 hp6 hp7
        have a1 := cell_up c1 hu
        have a2 := cell_up c2 hu
        have a3 := cell_up c3 hu
        clear a1
        go_wp2_with fail
        refine (offset_any s1 t.line t.col _ (by have := hs1; omega)).mono ?_
        rintro ee w3 ⟨q, rfl, hb3, hq⟩
        have hq2 := hq p (by omega) HP.out
        subst hq2
        have hu3 := hu.trans (hb3.mono hu.size)
        have hv3 := hv.trans (hb3.mono hv.size)
        have d1 := cell_up c1 hu3
        clear hq a2 a3 c1 c2 c3 hu hv hb3
        have z1 : ((x.size : Int) == 0) = false := by rw [beq_eq_false_iff_ne]; omega
        have hsz : (s1.extract e p).size ≤ 1000000 := by rw [← len_data, ext_list, List.length_take, List.length_drop, len_data]; omega
        have HBS := Lib.hid (show (blankS false (s1.extract e p).data.toList).isSome = true by rw [ext_list, HB.out]; rfl)
        have n1 : ¬ p < e := by omega
        have n2 : ¬ s1.size < p + x.size := by omega
        have n3 : ¬ (s1.size : Int) < (p : Int) + x.size := by omega
        have f1 : decide ((p : Int) < e) = false := by simp; omega
        have f2 : decide ((s1.size : Int) < (p : Int) + x.size) = false := by simp; omega
        have f3 : decide ((p : Int) + x.size > s1.size) = false := by simp; omega
        clear HB
        go_wp2
        go_quiet (fail)
        go_wp2_with fail
        refine (blank_any (s1.extract e p) _ hsz).mono ?_
        rintro ee w4 ⟨rfl, rfl⟩
        rw [HBS.out]
        go_wp2
        go_roundg (gk - 1)
        case measure => omega
        case rel => exact ⟨k + 1, p + x.size, by omega, by omega, by omega, by go_num, by go_num, below_drewN hu3 _, below_drewN hv3 _, fun _ => HY.out⟩
      · by_cases hlt2 : k = r.toks.length
        · subst hlt2
          have hl2 := hlay (Nat.le_refl _)
          rw [List.drop_length] at hl2
          obtain ⟨b, hb⟩ := hl2
          have hsz : (s1.extract e s1.size).size ≤ 1000000 := by rw [ByteArray.size_extract]; omega
          have HBS := Lib.hid (show (blankS false (s1.extract e s1.size).data.toList).isSome = true by
            rw [ext_list, List.take_of_length_le (by rw [List.length_drop, len_data]; omega), hb]; rfl)
          clear hlay hb
          go_wp2_with fail
          refine (blank_any (s1.extract e s1.size) _ hsz).mono ?_
          rintro ee w4 ⟨rfl, rfl⟩
          rw [HBS.out]
          go_wp2
          go_roundg (gk - 1)
          case measure => omega
          case rel => exact ⟨r.toks.length + 1, e, by omega, by omega, hes, rfl, by go_num, hu, hv, fun h => by omega⟩
        · clear hlay
          go_wp2_with fail
          refine (known_any _).mono ?_
          rintro e w4 ⟨rfl, hb4⟩
          go_wp2
          go_ret
          exact ⟨rfl, hv.trans (hb4.mono hv.size)⟩
  · have z0 : (r.err != 0) = true := by simp [he]
    clear hlay he
    go_wp2_with fail
    refine (known_any _).mono ?_
    rintro e w4 ⟨rfl, hb4⟩
    go_wp2
    go_ret
    exact ⟨rfl, (hB2.alloc hg2 _).trans (hb4.mono (by simp; omega))⟩
end Go.Proofs.Ytjnaeldaajckkaa
