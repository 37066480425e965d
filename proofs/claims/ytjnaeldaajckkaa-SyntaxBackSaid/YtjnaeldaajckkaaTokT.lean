/- The walks of 'offset' and 'blank' of the law for the tokens' places. -/
import Derived.Test.YtjnaeldaajckkaaTokS
set_option linter.unusedVariables false
set_option linter.unusedSimpArgs false
namespace Go.Proofs.Ytjnaeldaajckkaa
open Go.RowKit Tok

theorem Tok.get_list (s : ByteArray) (k : Nat) (h : k < s.size) : s.data.toList[k]? = some s[k] := by
  have h2 : k < s.data.toList.length := by rw [len_data]; exact h
  rw [List.getElem?_eq_getElem h2]
  rfl
set_option maxRecDepth 100000 in
set_option maxHeartbeats 4000000 in
theorem offset_any (s : ByteArray) (ln col : Nat) (w : World) (hs : s.size ≤ 1000000) :
    Calls Try.prog 20 #[.string s, .agg #[.int .i64 ln, .int .i64 col]] w fun e w' => ∃ r : Int, e = .returned (.int .i64 r) ∧ Below w.heap.size w w' ∧ (∀ p, p < s.size → posOf s.data.toList p = (ln, col) → r = p) := by
  go_enter Try.func20, Try.ntmps20
  have hc0 : (w.alloc (.cells #[.int .i64 ln, .int .i64 col] 24)).cell? ⟨w.heap.size, 0, none⟩ = some (.int .i64 ln) := cells_new w [.int .i64 ln, .int .i64 col] 24 0 _ rfl
  have hc1 : (w.alloc (.cells #[.int .i64 ln, .int .i64 col] 24)).cell? ⟨w.heap.size, 1, none⟩ = some (.int .i64 col) := cells_new w [.int .i64 ln, .int .i64 col] 24 1 _ rfl
  have hB := (Below.refl w.heap.size w).alloc (Nat.le_refl _) (.cells #[.int .i64 ln, .int .i64 col] 24)
  go_wp2
  go_loopg [5, 6, 7] (s.size + 1) (fun n a b i wr => ∃ (k x y : Nat), k ≤ s.size ∧ s.size - k ≤ n ∧ a = .int .i64 x ∧ b = .int .i64 y ∧ i = .int .i64 k ∧ wr = w.alloc (.cells #[.int .i64 ln, .int .i64 col] 24) ∧ posOf s.data.toList k = (x, y) ∧ (∀ p, p < k → posOf s.data.toList p ≠ (ln, col)))
  case atStart => exact ⟨0, 1, 1, by omega, by omega, rfl, rfl, rfl, rfl, rfl, fun p h => by omega⟩
  case round =>
    obtain ⟨k, x, y, hk, hm, rfl, rfl, rfl, rfl, hp, hno⟩ := hrel
    have hge := posOf_ge s.data.toList k (by rw [len_data]; exact hk)
    rw [hp] at hge
    have hx1 : x ≤ k + 1 := hge.2.2.1
    have hy1 : y ≤ k + 1 := hge.2.2.2
    clear hge
    by_cases hlt : k < s.size
    · have hsu := posOf_succ s.data.toList k s[k] (get_list s k hlt)
      rw [hp] at hsu
      by_cases hq : (x, y) = (ln, col)
      · have h1 : x = ln := congrArg Prod.fst hq
        have h2 : y = col := congrArg Prod.snd hq
        subst h1; subst h2
        have HP := Lib.hid hp
        have HN := Lib.hid hno
        clear hp hno hsu hq
        go_wp2
        go_ret
        refine ⟨k, rfl, hB, fun p h1 h2 => ?_⟩
        rcases Nat.lt_trichotomy p k with h | h | h
        · exact absurd h2 (HN.out p h)
        · rw [h]
        · exact absurd (HP.out.trans h2.symm) (posOf_inj _ k p h (by rw [len_data]; omega))
      · have HN := Lib.hid (show ∀ p, p < k + 1 → posOf s.data.toList p ≠ (ln, col) by
          intro p h
          rcases Nat.lt_or_ge p k with h1 | h1
          · exact hno p h1
          · rw [show p = k by omega, hp]; exact hq)
        have e10 := u8b s[k] 10 10 rfl
        have hqx : ¬ x = ln ∨ (x = ln ∧ ¬ y = col) := by
          by_cases h1 : x = ln
          · right; refine ⟨h1, fun h2 => hq (by rw [h1, h2])⟩
          · exact .inl h1
        clear hp hno hq
        by_cases q10 : s[k] = 10
        · rw [if_pos q10] at hsu
          rw [decide_eq_true q10] at e10
          have HS := Lib.hid hsu
          clear hsu q10
          rcases hqx with h | ⟨h, h2⟩
          · have z1 : ((x : Int) == ln) = false := by simp; omega
            go_wp2
            go_roundg (gk - 1)
            case measure => omega
            case rel => exact ⟨k + 1, x + 1, 1, by omega, by omega, by go_num, rfl, by go_num, rfl, HS.out, HN.out⟩
          · subst h
            have z1 : ((x : Int) == x) = true := by simp
            have z2 : ((y : Int) == col) = false := by simp; omega
            go_wp2
            go_roundg (gk - 1)
            case measure => omega
            case rel => exact ⟨k + 1, x + 1, 1, by omega, by omega, by go_num, rfl, by go_num, rfl, HS.out, HN.out⟩
        · rw [if_neg q10] at hsu
          rw [decide_eq_false q10] at e10
          have HS := Lib.hid hsu
          clear hsu q10
          rcases hqx with h | ⟨h, h2⟩
          · have z1 : ((x : Int) == ln) = false := by simp; omega
            go_wp2
            go_roundg (gk - 1)
            case measure => omega
            case rel => exact ⟨k + 1, x, y + 1, by omega, by omega, rfl, by go_num, by go_num, rfl, HS.out, HN.out⟩
          · subst h
            have z1 : ((x : Int) == x) = true := by simp
            have z2 : ((y : Int) == col) = false := by simp; omega
            go_wp2
            go_roundg (gk - 1)
            case measure => omega
            case rel => exact ⟨k + 1, x, y + 1, by omega, by omega, rfl, by go_num, by go_num, rfl, HS.out, HN.out⟩
    · have HN := Lib.hid hno
      clear hp hno
      go_wp2
      go_ret
      exact ⟨-1, rfl, hB, fun p h1 h2 => absurd h2 (HN.out p (by omega))⟩

set_option maxRecDepth 100000 in
set_option maxHeartbeats 4000000 in
theorem blank_any (s : ByteArray) (w : World) (hs : s.size ≤ 1000000) :
    Calls Try.prog 21 #[.string s] w fun e w' => e = .returned (.bool (blankS false s.data.toList).isSome) ∧ w = w' := by
  obtain ⟨R, hR⟩ : ∃ R, R = blankS false s.data.toList := ⟨_, rfl⟩
  rw [← hR]
  have HR := Lib.hid hR
  clear hR
  go_enter Try.func21, Try.ntmps21
  go_wp2
  go_loopg [3, 4] (s.size + 1) (fun n c i wr => ∃ (k : Nat) (cm : Bool), k ≤ s.size ∧ s.size - k ≤ n ∧ c = .bool cm ∧ i = .int .i64 k ∧ wr = w ∧ blankS cm (dropD s k) = R)
  case atStart => exact ⟨0, false, by omega, by omega, rfl, rfl, rfl, by rw [HR.out]; rfl⟩
  case round =>
    obtain ⟨k, cm, hk, hm, rfl, rfl, rfl, hb⟩ := hrel
    by_cases hlt : k < s.size
    · rw [dropD_cons s k hlt, blankS] at hb
      have e35 := u8b s[k] 35 35 rfl
      have e10 := u8b s[k] 10 10 rfl
      have e32 := u8b s[k] 32 32 rfl
      have e9 := u8b s[k] 9 9 rfl
      have e13 := u8b s[k] 13 13 rfl
      by_cases q10 : s[k] = 10
      · have esp : spcI s[k].toNat = true := by
          unfold spcI; rw [e10]; simp [q10]
        have q35 : ¬ s[k] = 35 := by rw [q10]; decide
        rw [if_neg (fun h => h.2.2 q10), show blankC cm s[k] = false from if_pos q10] at hb
        rw [decide_eq_true q10] at e10
        rw [decide_eq_false q35] at e35
        have HB := Lib.hid hb
        clear hb q10 q35 e32 e9 e13
        go_wp2_with (go_at_call 43; refine (space_s _ _).mono ?_; rintro e w' ⟨rfl, rfl⟩)
        go_roundg (gk - 1)
        case measure => omega
        case rel => exact ⟨k + 1, false, by omega, by omega, rfl, by go_num, rfl, HB.out⟩
      · by_cases q35 : s[k] = 35
        · have hc : blankC cm s[k] = true := by unfold blankC; rw [if_neg q10, if_pos q35]
          rw [hc, if_neg (by simp)] at hb
          rw [decide_eq_false q10] at e10
          rw [decide_eq_true q35] at e35
          have HB := Lib.hid hb
          clear hb q10 q35 e32 e9 e13 hc
          go_wp2
          go_roundg (gk - 1)
          case measure => omega
          case rel => exact ⟨k + 1, true, by omega, by omega, rfl, by go_num, rfl, HB.out⟩
        · have hc : blankC cm s[k] = cm := by unfold blankC; rw [if_neg q10, if_neg q35]
          have esp : spcI s[k].toNat = isSp s[k] := by
            unfold spcI; rw [e32, e9, e13, e10, decide_eq_false q10]; unfold isSp; simp only [Bool.or_false]; rw [Bool.eq_iff_iff]; simp only [Bool.or_eq_true, decide_eq_true_eq, beq_iff_eq]
          rw [hc] at hb
          rw [decide_eq_false q35] at e35
          cases cm with
          | true =>
            rw [if_neg (by simp)] at hb
            rw [decide_eq_false q10] at e10
            have HB := Lib.hid hb
            clear hb q10 q35 e32 e9 e13 hc esp
            go_wp2
            go_roundg (gk - 1)
            case measure => omega
            case rel => exact ⟨k + 1, true, by omega, by omega, rfl, by go_num, rfl, HB.out⟩
          | false =>
            by_cases qs : isSp s[k] = true
            · rw [if_neg (by simp [qs])] at hb
              rw [decide_eq_false q10] at e10
              rw [qs] at esp
              have HB := Lib.hid hb
              clear hb q10 q35 e32 e9 e13 hc qs
              go_wp2_with (go_at_call 43; refine (space_s _ _).mono ?_; rintro e w' ⟨rfl, rfl⟩)
              go_roundg (gk - 1)
              case measure => omega
              case rel => exact ⟨k + 1, false, by omega, by omega, rfl, by go_num, rfl, HB.out⟩
            · have qs' : isSp s[k] = false := by simpa using qs
              rw [if_pos ⟨rfl, qs', q10⟩] at hb
              rw [decide_eq_false q10] at e10
              rw [qs'] at esp
              have HB := Lib.hid hb.symm
              clear hb q10 q35 e32 e9 e13 hc qs qs'
              go_wp2_with (go_at_call 43; refine (space_s _ _).mono ?_; rintro e w' ⟨rfl, rfl⟩)
              go_ret
              rw [HB.out]; exact ⟨rfl, rfl⟩
    · have hd : dropD s k = [] := List.drop_eq_nil_of_le (by rw [len_data]; omega)
      rw [hd] at hb
      have HB := Lib.hid hb.symm
      clear hb hd
      go_wp2
      go_ret
      rw [HB.out]; exact ⟨rfl, rfl⟩
end Go.Proofs.Ytjnaeldaajckkaa
