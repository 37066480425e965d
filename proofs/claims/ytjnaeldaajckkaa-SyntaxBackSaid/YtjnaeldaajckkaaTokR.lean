/- TokenJoins, walked. -/
import Derived.Test.YtjnaeldaajckkaaTokQ
import Derived.Test.YtjnaeldaajckkaaTokK
set_option linter.unusedVariables false
set_option linter.unusedSimpArgs false
namespace Go.Proofs.Ytjnaeldaajckkaa
open Go.RowKit Tok

namespace Tok
theorem scanF_err : ∀ (f : Nat) (l : List UInt8) (ln col : Nat) (acc : List T), (scanF f l ln col acc).err ≠ 0 → (scanF f l ln col acc).toks = []
  | 0, _, _, _, acc, h => absurd rfl h
  | f + 1, [], _, _, acc, h => absurd rfl h
  | f + 1, c :: t, ln, col, acc, h => by
    rw [scanF] at h ⊢
    split at h
    · rename_i q; rw [if_pos q]; exact scanF_err f t _ _ acc h
    · rename_i q
      rw [if_neg q]
      split at h
      · rename_i q; rw [if_pos q]; exact scanF_err f t _ _ acc h
      · rename_i q
        rw [if_neg q]
        split at h
        · rename_i q; rw [if_pos q]; exact scanF_err f _ _ _ acc h
        · rename_i q
          rw [if_neg q]
          split at h
          · rename_i q; rw [if_pos q]
          · rename_i q; rw [if_neg q]; exact scanF_err f _ _ _ _ h
theorem scanR_err (l : List UInt8) (h : (scanR l).err ≠ 0) : (scanR l).toks = [] := by
  unfold scanR at h ⊢
  split
  · rfl
  · rename_i q; rw [if_neg q] at h; exact scanF_err _ _ _ _ _ h
theorem scanR_join (l : List UInt8) (hl : l.length ≤ 1000) : ∃ l', scanR (joinL (scanR l).toks) = ⟨l', 0, 0, 0⟩ ∧ SameKT (scanR l).toks l' ∧ ∀ t ∈ l', t.line = 1 := by
  have hg := scanR_good l
  have hs : textSum (scanR l).toks ≤ l.length ∧ (scanR l).toks.length ≤ l.length := by
    unfold scanR; rw [if_neg (by omega)]
    have h1 := scanF_sum (l.length + 1) l 1 1 []
    have h2 := scanF_len (l.length + 1) l 1 1 []
    simp [textSum] at h1 h2 ⊢; omega
  have hj := joinL_len (scanR l).toks
  obtain ⟨l', e1, e2, e3⟩ := scanF_join (scanR l).toks ((joinL (scanR l).toks).length + 1) 1 1 [] hg (by omega)
  refine ⟨l', ?_, e2, e3⟩
  rw [scanR, if_neg (by omega), e1]; simp
theorem textSum_take (l : List T) (k : Nat) : textSum (l.take k) ≤ textSum l := by
  induction l generalizing k with
  | nil => simp
  | cons a l ih =>
    cases k with
    | zero => simp [textSum]
    | succ k => have := ih k; simp only [textSum, List.take_succ_cons, List.map_cons, List.sum_cons] at this ⊢; omega
theorem textSum_mem (l : List T) (t : T) (h : t ∈ l) : t.text.length ≤ textSum l := by
  induction l with
  | nil => cases h
  | cons a l ih =>
    rcases List.mem_cons.1 h with rfl | h
    · simp [textSum]
    · have := ih h; simp only [textSum, List.map_cons, List.sum_cons] at this ⊢; omega
theorem scanR_small (l : List UInt8) : textSum (scanR l).toks ≤ l.length ∧ (scanR l).toks.length ≤ l.length := by
  unfold scanR
  split
  · simp [textSum]
  · have h1 := scanF_sum (l.length + 1) l 1 1 []
    have h2 := scanF_len (l.length + 1) l 1 1 []
    simp [textSum] at h1 h2 ⊢; omega
theorem SameKT.len {a b : List T} (h : SameKT a b) : a.length = b.length := by
  have := congrArg List.length h; simpa using this
theorem SameKT.get {a b : List T} (h : SameKT a b) (k : Nat) (t : T) (ht : a[k]? = some t) : ∃ u, b[k]? = some u ∧ u.kind = t.kind ∧ u.text = t.text := by
  have h1 := congrArg (fun l => l[k]?) h
  simp only [List.getElem?_map, ht, Option.map_some] at h1
  cases hb : b[k]? with
  | none => rw [hb] at h1; cases h1
  | some u => rw [hb] at h1; simp at h1; exact ⟨u, rfl, h1.1.symm, h1.2.symm⟩
theorem joinL_take (l : List T) (k : Nat) (t : T) (h : l[k]? = some t) : joinL (l.take (k + 1)) = if k = 0 then t.text else joinL (l.take k) ++ 32 :: t.text := by
  have hk : k < l.length := (List.getElem?_eq_some_iff.1 h).1
  rw [List.take_add_one, h]
  show joinL (l.take k ++ [t]) = _
  rw [joinL_snoc]
  by_cases h0 : k = 0
  · subst h0; simp
  · rw [if_neg h0, if_neg]
    intro e
    have : (l.take k).length = 0 := by rw [e]; rfl
    rw [List.length_take] at this; omega
end Tok
/-- a slice of tokens that may be read, with one at least -/
theorem Reads.some {w : World} {size : Nat} {v : Value} {n : Nat} {xs : List Value} (h : Reads w size v n xs) (hn : n ≠ 0) : ∃ g off cap, v = .slice (some ⟨g, off, none⟩) n cap ∧ ∀ j u, xs[j]? = some u → w.cell? ⟨g, off + j, none⟩ = some u := by
  rcases h.2.2 with ⟨_, h⟩ | h
  · exact absurd h hn
  · exact h
theorem Reads.zero {w : World} {size : Nat} {v : Value} {n : Nat} {xs : List Value} (h : Reads w size v n xs) (hn : n = 0) : ∃ a cap, v = .slice a 0 cap := by
  rcases h.2.2 with ⟨h, _⟩ | ⟨g, off, cap, h, _⟩
  · exact ⟨_, _, h⟩
  · exact ⟨_, _, by rw [h, hn]⟩

set_option maxRecDepth 100000 in
set_option maxHeartbeats 4000000 in
theorem joins_any (a : Option Addr) (len cap : Nat) (z : List Int) (w : World) (hr : IsRow .i64 w a len cap z) :
    Calls Try.prog 5 #[.slice a len cap] w fun e w' => e = .returned (.bool true) ∧ Below w.heap.size w w' := by
  have ht0 := hr.tape 34
  clear hr
  go_enter Try.func5, Try.ntmps5
  go_wp2_with fail
  refine (text_any w.heap.size 0 _ ht0 (by omega)).mono ?_
  rintro e w1 ⟨s1, at1, hs1, rfl, ht1, ha1, hg1⟩
  have hB1 := ((Below.refl w.heap.size w).alloc (Nat.le_refl _) (.cells #[.slice a len cap, .int .i64 0] 34)).trans (below_grownBy hg1 (Nat.le_refl _) (by simp))
  clear ht0 ht1 hg1
  go_wp2_with fail
  refine (scan_any s1 _ (small_maxLen (by omega))).mono ?_
  rintro e w2 ⟨v, r, hr, rfl, hown, hb2⟩
  have hB2 := hB1.trans (hb2.mono hB1.size)
  have hg2 := hB2.size
  have hR2 := (Reads.of_own hown)
  clear hB1 hb2 hown
  have hlen := scanR_len s1.data.toList
  have herr := scanR_err s1.data.toList
  have hsmall := scanR_small s1.data.toList
  rw [len_data] at hsmall
  have hjoin := scanR_join s1.data.toList (by rw [len_data]; omega)
  rw [← hr] at hlen herr hjoin hsmall
  have HJ := Lib.hid hjoin
  clear hjoin hr
  by_cases he : r.err = 0
  · have z0 : (r.err != 0) = false := by simp [he]
    clear herr he
    by_cases h0 : r.toks.length = 0
    · obtain ⟨av, capv, rfl⟩ := hR2.zero h0
      have HE := Lib.hid (List.length_eq_zero_iff.1 h0)
      clear hR2 h0 hlen
      go_wp2
      go_loopg [7, 8] 1 (fun n s i wr => i = .int .i64 0 ∧ s = .string ⟨#[]⟩ ∧ wr = w2.alloc (.cells #[.int .i64 r.pl, .int .i64 r.pc] 24))
      case atStart => exact ⟨rfl, rfl, rfl⟩
      case round =>
        obtain ⟨rfl, rfl, rfl⟩ := hrel
        have hz : ¬ (0 : Int) < ((0 : Nat) : Int) := by omega
        go_wp2_with fail
        refine (scan_any ⟨#[]⟩ _ (by decide)).mono ?_
        rintro e w3 ⟨v3, r3, hr3, rfl, hown3, hb3⟩
        have e3 : r3 = ⟨[], 0, 0, 0⟩ := hr3.trans (by rfl)
        subst e3
        obtain ⟨bv, capb, rfl⟩ := (Reads.of_own hown3).zero rfl
        have hB3 : Below w.heap.size w w3 := (hB2.alloc hg2 _).trans (hb3.mono (by simp; omega))
        have hg3 := hB3.size
        clear hr3 hown3 hb3
        go_wp2
        go_loopg [12] 1 (fun n i wr => i = .int .i64 0 ∧ wr = w3.alloc (.cells #[.int .i64 0, .int .i64 0] 24))
        case atStart => exact ⟨rfl, rfl⟩
        case round =>
          obtain ⟨rfl, rfl⟩ := hrel
          go_wp2_with fail
          refine (known_any _).mono ?_
          rintro e w4 ⟨rfl, hb4⟩
          go_wp2
          go_ret
          exact ⟨rfl, (hB3.alloc hg3 _).trans (hb4.mono (by simp; omega))⟩
    · obtain ⟨g, off, capv, rfl, hc⟩ := hR2.some h0
      have HC := Lib.hid hc
      clear hR2 hc
      go_wp2
      go_loopg [7, 8] (r.toks.length + 1) (fun n s i wr => ∃ (k : Nat) (u : ByteArray), k ≤ r.toks.length ∧ r.toks.length - k ≤ n ∧ u.size ≤ 170 ∧ i = .int .i64 k ∧ s = .string u ∧ u.data.toList = joinL (r.toks.take k) ∧ wr = w2.alloc (.cells #[.int .i64 r.pl, .int .i64 r.pc] 24))
      case atStart => exact ⟨0, ⟨#[]⟩, by omega, by omega, by decide, rfl, rfl, rfl, rfl⟩
      case round =>
        obtain ⟨k, u, hk, hm, hu, rfl, rfl, hju, rfl⟩ := hrel
        have HU := Lib.hid hju
        clear hju
        by_cases hlt : k < r.toks.length
        · obtain ⟨t, ht⟩ : ∃ t, r.toks[k]? = some t := ⟨r.toks[k], by simp [hlt]⟩
          have hcell := HC.out _ _ (cellsOf_get _ k t ht).2.1
          have c1 : (w2.alloc (.cells #[.int .i64 r.pl, .int .i64 r.pc] 24)).cell? ⟨g, off + k * 4 + 1, none⟩ = some (.string ⟨t.text.toArray⟩) := by rw [Nat.add_assoc]; exact cell_alloc hcell _
          have hT := joinL_take _ k t ht
          have hts : t.text.length ≤ 84 := by have := textSum_mem _ t (List.mem_of_getElem? ht); omega
          have hjs : (joinL (r.toks.take (k + 1))).length ≤ 170 := by
            have h1 := joinL_len (r.toks.take (k + 1))
            have h2 := textSum_take r.toks (k + 1)
            have h3 : (r.toks.take (k + 1)).length ≤ r.toks.length := by rw [List.length_take]; omega
            omega
          obtain ⟨x, hx⟩ : ∃ x : ByteArray, x = ⟨t.text.toArray⟩ := ⟨_, rfl⟩
          have hxs : x.size ≤ 84 := by rw [hx]; show t.text.toArray.size ≤ 84; simpa using hts
          rw [← hx] at c1
          have HX := Lib.hid hx
          have HJS := Lib.hid hjs
          have HT := Lib.hid hT
          clear hcell ht hx hjs hT hts
          by_cases hk0 : k = 0
          · have HT2 := Lib.hid (show (u ++ x).data.toList = joinL (r.toks.take (k + 1)) by
              rw [HT.out, if_pos hk0, HX.out, ByteArray.data_append, Array.toList_append, HU.out, hk0]; simp [joinL])
            have HK := Lib.hid hk0
            have hkp : ¬ (0 : Int) < k := by omega
            clear hk0
            go_wp2
            go_roundg (gk - 1)
            case measure => omega
            case rel => exact ⟨k + 1, u ++ x, by omega, by omega, by have h := HJS.out; rw [← HT2.out, len_data] at h; exact h, by go_num, rfl, HT2.out, rfl⟩
          · have HT2 := Lib.hid (show (u ++ ⟨#[32]⟩ ++ x).data.toList = joinL (r.toks.take (k + 1)) by
              rw [HT.out, if_neg hk0, HX.out]; simp [ByteArray.data_append, HU.out])
            have HK := Lib.hid hk0
            have hkp : (0 : Int) < k := by omega
            clear hk0
            go_wp2
            go_roundg (gk - 1)
            case measure => omega
            case rel => exact ⟨k + 1, u ++ ⟨#[32]⟩ ++ x, by omega, by omega, by have h := HJS.out; rw [← HT2.out, len_data] at h; exact h, by go_num, rfl, HT2.out, rfl⟩
        · have HS := Lib.hid (show u.data.toList = joinL r.toks by rw [HU.out, List.take_of_length_le (by omega)])
          clear HU
          obtain ⟨l', hl1, hl2, hl3⟩ := HJ.out
          have HL1 := Lib.hid hl1
          have HL3 := Lib.hid hl3
          have HKT := Lib.hid hl2
          have hn := hl2.len
          clear hl1 hl2 hl3
          go_wp2_with fail
          refine (scan_any u _ (small_maxLen (by omega))).mono ?_
          rintro e w3 ⟨v3, r3, hr3, rfl, hown3, hb3⟩
          rw [HS.out, HL1.out] at hr3
          subst hr3
          have hR3 := Reads.of_own hown3
          obtain ⟨g3, o3, cap3, rfl, hc3⟩ := hR3.some (show l'.length ≠ 0 by omega)
          have HC3 := Lib.hid hc3
          have hB3 : Below w.heap.size w w3 := (hB2.alloc hg2 _).trans (hb3.mono (by simp; omega))
          have hg3 := hB3.size
          have HUP : Hid (∀ a v, w2.cell? a = some v → w3.cell? a = some v) := fun a v h => cell_up (cell_alloc h _) hb3
          clear hR3 hown3 hc3 hb3
          have zn : ((l'.length : Int) != r.toks.length) = false := by simp [hn]
          have HN := Lib.hid hn
          clear hn
          go_wp2
          go_loopg [12] (r.toks.length + 1) (fun n i wr => ∃ k d : Nat, k ≤ r.toks.length ∧ r.toks.length - k ≤ n ∧ i = .int .i64 k ∧ wr = (w3.alloc (.cells #[.int .i64 0, .int .i64 0] 24)).drewN d)
          case atStart => exact ⟨0, 0, by omega, by omega, rfl, rfl⟩
          case round =>
            obtain ⟨q, d, hq, hm2, rfl, rfl⟩ := hrel
            by_cases hlt2 : q < r.toks.length
            · obtain ⟨t, ht⟩ : ∃ t, r.toks[q]? = some t := ⟨r.toks[q], by simp [hlt2]⟩
              obtain ⟨t2, ht2, e1, e2⟩ := HKT.out.get q t ht
              have e3 := HL3.out t2 (List.mem_of_getElem? ht2)
              have q1 := cellsOf_get _ q t ht
              have q2 := cellsOf_get _ q t2 ht2
              rw [e1, e2, e3] at q2
              have hlt3 : q < l'.length := by rw [← HN.out]; exact hlt2
              have a0 := cell_alloc (HUP.out _ _ (HC.out _ _ q1.1)) (.cells #[.int .i64 0, .int .i64 0] 24)
              have a1 : (w3.alloc (.cells #[.int .i64 0, .int .i64 0] 24)).cell? ⟨g, off + q * 4 + 1, none⟩ = some (.string ⟨t.text.toArray⟩) := by rw [Nat.add_assoc]; exact cell_alloc (HUP.out _ _ (HC.out _ _ q1.2.1)) _
              have b0 := cell_alloc (HC3.out _ _ q2.1) (.cells #[.int .i64 0, .int .i64 0] 24)
              have b1 : (w3.alloc (.cells #[.int .i64 0, .int .i64 0] 24)).cell? ⟨g3, o3 + q * 4 + 1, none⟩ = some (.string ⟨t.text.toArray⟩) := by rw [Nat.add_assoc]; exact cell_alloc (HC3.out _ _ q2.2.1) _
              have b2 : (w3.alloc (.cells #[.int .i64 0, .int .i64 0] 24)).cell? ⟨g3, o3 + q * 4 + 2, none⟩ = some (.int .i64 1) := by rw [Nat.add_assoc]; exact cell_alloc (HC3.out _ _ q2.2.2.1) _
              clear q1 q2 ht ht2 e1 e2 e3
              go_wp2
              go_quiet (fail)
              go_wp2
              go_roundg (gk - 1)
              case measure => omega
              case rel => exact ⟨q + 1, d + nq, by omega, by omega, by go_num, rfl⟩
            · go_wp2_with fail
              refine (known_any _).mono ?_
              rintro e w4 ⟨rfl, hb4⟩
              go_wp2
              go_ret
              exact ⟨rfl, (below_drewN (hB3.alloc hg3 _) d).trans (hb4.mono (by simp; omega))⟩
  · have z0 : (r.err != 0) = true := by simp [he]
    have HE := Lib.hid (herr he)
    have h0 : r.toks.length = 0 := by rw [HE.out]; rfl
    obtain ⟨av, capv, rfl⟩ := hR2.zero h0
    clear hR2 h0 hlen herr he
    go_wp2_with fail
    refine (known_any _).mono ?_
    rintro e w4 ⟨rfl, hb4⟩
    go_wp2
    go_ret
    exact ⟨rfl, (hB2.alloc hg2 _).trans (hb4.mono (by simp; omega))⟩
end Go.Proofs.Ytjnaeldaajckkaa
