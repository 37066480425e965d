/- The functions time, number and first of package token, walked; and the two library functions that they call. -/
import Derived.Test.YtjnaeldaajckkaaTokA
import Derived.Deep.RegionWith
import Derived.Lib.Strings
import Derived.Lib.Slices
import Derived.Lib.Walk
import Derived.Lib.Bytealg
set_option linter.unusedVariables false
namespace Go.Proofs.Ytjnaeldaajckkaa
open Go.RowKit Tok

theorem ext_drop (s : ByteArray) (k : Nat) : (s.extract k s.size).data.toList = s.data.toList.drop k := by
  have : (s.extract k s.size).data.toList = (s.data.toList.drop k).take (s.size - k) := by
    simp [ByteArray.data_extract, List.take_drop]
  rw [this, List.take_of_length_le (by simp)]
theorem len_data (s : ByteArray) : s.data.toList.length = s.size := by simp

theorem prefix_any (s p : ByteArray) (w : World) :
    Calls Try.prog 64 #[.string s, .string p] w fun e w' => e = .returned (.bool (Lib.hasPrefix s.data.toList p.data.toList)) ∧ w = w' := by
  rw [← Lib.hasPrefix_of_take, ← Lib.size_eq, ← Lib.size_eq]
  go_enter Try.func64, Try.ntmps64
  go_wp2
  · rename_i h
    go_ret
    refine ⟨?_, rfl⟩
    show Ending.returned (Value.bool ((s.extract 0 p.size).toList == p.toList)) = _
    rw [Lib.extract_toList, Lib.toList_data]
    simp [h]
  · rename_i h
    go_ret
    refine ⟨?_, rfl⟩
    show Ending.returned (Value.bool false) = _
    simp [h]

theorem prefix_at (s : ByteArray) (k : Nat) (p : ByteArray) (w : World) :
    Calls Try.prog 64 #[.string (s.extract k s.size), .string p] w fun e w' => e = .returned (.bool (Lib.hasPrefix (s.data.toList.drop k) p.data.toList)) ∧ w = w' := by
  have := prefix_any (s.extract k s.size) p w
  rwa [ext_drop] at this

set_option maxHeartbeats 1000000 in
set_option maxRecDepth 100000 in
theorem index0_any (s : ByteArray) (c : Int) (w : World) :
    Calls Try.prog 61 #[.string s, .int .u8 c] w fun e w' => e = .returned (.int .i64 (Lib.indexByte s.data.toList c.toNat.toUInt8)) ∧ w = w' := by
  go_enter Try.func61, Try.ntmps61
  go_wp2
  rw [run_callFunc_extern Try.func87 (by kernel_rfl) (by kernel_rfl) (by kernel_rfl) (e := Extern.BytealgIndexByte.indexByte) (by kernel_rfl), Lib.run_indexByteString]
  simp only [Result.andThen]
  rw [Oper.upon_value]
  go_wp2
  go_ret
  exact ⟨rfl, rfl⟩
theorem index_any (s : ByteArray) (c : Int) (w : World) :
    Calls Try.prog 41 #[.string s, .int .u8 c] w fun e w' => e = .returned (.int .i64 (Lib.indexByte s.data.toList c.toNat.toUInt8)) ∧ w = w' := by
  go_enter Try.func41, Try.ntmps41
  go_wp2_with (go_at_call 61; refine (index0_any _ _ _).mono ?_; rintro e w' ⟨rfl, rfl⟩)
  go_ret
  exact ⟨rfl, rfl⟩
theorem index_at (s : ByteArray) (k : Nat) (c : Int) (w : World) :
    Calls Try.prog 41 #[.string (s.extract k s.size), .int .u8 c] w fun e w' => e = .returned (.int .i64 (Lib.indexByte (s.data.toList.drop k) c.toNat.toUInt8)) ∧ w = w' := by
  have := index_any (s.extract k s.size) c w
  rwa [ext_drop] at this
/-- the number of digits from place k on: behind a name that simp does not open -/
def Tok.runAt (s : ByteArray) (k : Nat) : Nat := runL (s.data.toList.drop k)
theorem run_at (s : ByteArray) (k : Nat) (w : World) (hs : s.size ≤ maxLen) :
    Calls Try.prog 69 #[.string (s.extract k s.size)] w fun e w' => e = .returned (.int .i64 (runAt s k)) ∧ w = w' := by
  have := run_any (s.extract k s.size) w (by simp; omega)
  rwa [ext_drop] at this

theorem run_any0 (s : ByteArray) (w : World) (hs : s.size ≤ maxLen) :
    Calls Try.prog 69 #[.string s] w fun e w' => e = .returned (.int .i64 (runAt s 0)) ∧ w = w' := run_any s w hs

namespace Tok
def timeB (l : List UInt8) : Bool := runL l == 2 && l[2]? == some 58 && runL (l.drop 3) == 2
theorem at_data (s : ByteArray) (k : Nat) (h : k < s.size) : s.data.toList[k]? = some s[k] := by
  rw [List.getElem?_eq_getElem (by simpa using h)]; rfl
end Tok

set_option maxHeartbeats 1000000 in
theorem time_any (s : ByteArray) (w : World) (hs : s.size ≤ maxLen) :
    Calls Try.prog 45 #[.string s] w fun e w' => e = .returned (.bool (timeB s.data.toList)) ∧ w = w' := by
  have hs' := hs
  unfold maxLen at hs
  have hT : timeB s.data.toList = (runL s.data.toList == 2 && s.data.toList[2]? == some 58 && runL (s.data.toList.drop 3) == 2) := rfl
  by_cases h1 : runL s.data.toList = 2
  · have b1 : ((runL s.data.toList : Int) == 2) = true := by simp [h1]
    rw [h1] at hT
    clear h1
    by_cases h2 : 2 < s.size
    · have h3 : 3 ≤ s.size := h2
      have b2 : (2 : Int) < s.size := by omega
      rw [at_data s 2 h2] at hT
      by_cases h4 : s[2] = 58
      · have b4 : ((s[2].toNat : Int) == 58) = true := by simp [h4]
        rw [h4] at hT
        clear h4
        have HT := Lib.hid hT
        clear hT
        go_enter Try.func45, Try.ntmps45
        go_wp2_with (first | (go_at_call_of 69 (Value.string s); refine (run_any _ _ hs').mono ?_; rintro e w' ⟨rfl, rfl⟩) | (go_at_call 69; refine (run_at _ _ _ hs').mono ?_; rintro e w' ⟨rfl, rfl⟩))
        go_ret
        exact ⟨ret_bool (by rw [HT.out]; simp [runAt]; rw [Bool.eq_iff_iff]; simp; omega), rfl⟩
      · have b4 : ((s[2].toNat : Int) == 58) = false := by
          simp; intro h; apply h4; apply UInt8.toNat_inj.1; simp; omega
        have HT := Lib.hid (show timeB s.data.toList = false by rw [hT]; simp [h4])
        clear hT h4
        go_enter Try.func45, Try.ntmps45
        go_wp2_with (go_at_call 69; refine (run_any _ _ hs').mono ?_; rintro e w' ⟨rfl, rfl⟩)
        go_ret
        exact ⟨ret_bool HT.out.symm, rfl⟩
    · have HT := Lib.hid (show timeB s.data.toList = false by rw [hT, List.getElem?_eq_none (by simp; omega)]; simp)
      clear hT
      go_enter Try.func45, Try.ntmps45
      go_wp2_with (go_at_call 69; refine (run_any _ _ hs').mono ?_; rintro e w' ⟨rfl, rfl⟩)
      go_ret
      exact ⟨ret_bool HT.out.symm, rfl⟩
  · have b1 : ((runL s.data.toList : Int) == 2) = false := by simp; omega
    have HT := Lib.hid (show timeB s.data.toList = false by rw [hT]; simp [h1])
    clear hT h1
    go_enter Try.func45, Try.ntmps45
    go_wp2_with (go_at_call 69; refine (run_any _ _ hs').mono ?_; rintro e w' ⟨rfl, rfl⟩)
    go_ret
    exact ⟨ret_bool HT.out.symm, rfl⟩


namespace Tok
def isMin (l : List UInt8) : Bool := Lib.hasPrefix l [45]
def numN0 (l : List UInt8) : Nat := if isMin l then 1 else 0
def numN1 (l : List UInt8) : Nat := numN0 l + runL (l.drop (numN0 l))
def numD2 (l : List UInt8) : Nat := if l[numN1 l]? = some 46 then runL (l.drop (numN1 l + 1)) else 0
def numberL (l : List UInt8) : Nat := if runL (l.drop (numN0 l)) = 0 then 0 else if numD2 l = 0 then numN1 l else numN1 l + (1 + numD2 l)
theorem numN0_le (l : List UInt8) : numN0 l ≤ l.length := by
  unfold numN0 isMin; split
  · rename_i h; cases l with
    | nil => simp [Lib.hasPrefix] at h
    | cons a t => simp
  · omega
theorem runL_drop_le (l : List UInt8) (k : Nat) (h : k ≤ l.length) : k + runL (l.drop k) ≤ l.length := by
  have := runL_le (l.drop k); simp at this; omega
theorem numN1_le (l : List UInt8) : numN1 l ≤ l.length := runL_drop_le l _ (numN0_le l)
end Tok

set_option maxHeartbeats 1000000 in
theorem number_any (s : ByteArray) (w : World) (hs : s.size ≤ maxLen) :
    Calls Try.prog 63 #[.string s] w fun e w' => e = .returned (.int .i64 (numberL s.data.toList)) ∧ w = w' := by
  have hs' := hs
  unfold maxLen at hs
  have l0 := numN0_le s.data.toList
  have l1 := numN1_le s.data.toList
  rw [len_data] at l0 l1
  have hP : Lib.hasPrefix s.data.toList [45] = isMin s.data.toList := rfl
  have hN : numN1 s.data.toList = numN0 s.data.toList + runAt s (numN0 s.data.toList) := rfl
  have hF : numberL s.data.toList = if runAt s (numN0 s.data.toList) = 0 then 0 else if numD2 s.data.toList = 0 then numN1 s.data.toList else numN1 s.data.toList + (1 + numD2 s.data.toList) := rfl
  have hD : numD2 s.data.toList = if s.data.toList[numN1 s.data.toList]? = some 46 then runAt s (numN1 s.data.toList + 1) else 0 := rfl
  have hL : numN1 s.data.toList < s.size → numN1 s.data.toList + 1 + runAt s (numN1 s.data.toList + 1) ≤ s.size := fun h => by
    have := runL_drop_le s.data.toList (numN1 s.data.toList + 1) (by simp; omega)
    rwa [len_data] at this
  generalize numD2 s.data.toList = d2 at *
  generalize numN1 s.data.toList = n1 at *
  generalize hA : numberL s.data.toList = A at *
  have hm : (isMin s.data.toList = true ∧ numN0 s.data.toList = 1) ∨ (isMin s.data.toList = false ∧ numN0 s.data.toList = 0) := by
    unfold numN0; cases isMin s.data.toList <;> simp
  generalize isMin s.data.toList = b at *
  generalize numN0 s.data.toList = n0 at *
  obtain ⟨d, hd⟩ : ∃ d, runAt s n0 = d := ⟨_, rfl⟩
  rw [hd] at hN hF
  rcases hm with ⟨rfl, rfl⟩ | ⟨rfl, rfl⟩
  · obtain ⟨x, hx⟩ : ∃ x, runAt s (n1 + 1) = x := ⟨_, rfl⟩
    rw [hx] at hD hL
    try rw [Nat.zero_add] at hN
    subst n1
    by_cases hz : d = 0
    · rw [if_pos hz] at hF
      have b0 : ((d : Int) == 0) = true := by simp [hz]
      have HF := Lib.hid hF
      clear hF hD hz hA hx hL
      go_enter Try.func63, Try.ntmps63
      go_wp2_with (first | (go_at_call 64; refine (prefix_any _ _ _).mono ?_; rintro e w' ⟨rfl, rfl⟩) | (go_at_call_of 69 (Value.string s); refine (run_any0 _ _ hs').mono ?_; rintro e w' ⟨rfl, rfl⟩) | (go_at_call 69; refine (run_at _ _ _ hs').mono ?_; rintro e w' ⟨rfl, rfl⟩))
      go_ret
      exact ⟨ret_int (by rw [HF.out]; rfl), rfl⟩
    · rw [if_neg hz] at hF
      have b0 : ((d : Int) == 0) = false := by simp [hz]
      clear hz hA
      by_cases hlt : 1 + d < s.size
      · have hL := hL hlt
        rw [at_data s _ hlt] at hD
        by_cases h46 : s[1 + d] = 46
        · have b2 : ((s[1 + d].toNat : Int) == 46) = true := by simp [h46]
          rw [h46, if_pos rfl] at hD
          subst hD
          clear h46
          by_cases hx0 : d2 = 0
          · have b3 : ¬ (0 : Int) < d2 := by omega
            rw [if_pos hx0] at hF
            have HF := Lib.hid hF
            clear hF hx0
            go_enter Try.func63, Try.ntmps63
            go_wp2_with (first | (go_at_call 64; refine (prefix_any _ _ _).mono ?_; rintro e w' ⟨rfl, rfl⟩) | (go_at_call_of 69 (Value.string s); refine (run_any0 _ _ hs').mono ?_; rintro e w' ⟨rfl, rfl⟩) | (go_at_call 69; refine (run_at _ _ _ hs').mono ?_; rintro e w' ⟨rfl, rfl⟩))
            go_ret
            exact ⟨ret_int (by first | (have := HF.out; omega) | (have := HF.out; simp at this; omega)), rfl⟩
          · have b3 : (0 : Int) < d2 := by omega
            rw [if_neg hx0] at hF
            have HF := Lib.hid hF
            clear hF hx0
            go_enter Try.func63, Try.ntmps63
            go_wp2_with (first | (go_at_call 64; refine (prefix_any _ _ _).mono ?_; rintro e w' ⟨rfl, rfl⟩) | (go_at_call_of 69 (Value.string s); refine (run_any0 _ _ hs').mono ?_; rintro e w' ⟨rfl, rfl⟩) | (go_at_call 69; refine (run_at _ _ _ hs').mono ?_; rintro e w' ⟨rfl, rfl⟩))
            go_ret
            exact ⟨ret_int (by first | (have := HF.out; omega) | (have := HF.out; simp at this; omega)), rfl⟩
        · have b2 : ((s[1 + d].toNat : Int) == 46) = false := by
            simp; intro h; apply h46; apply UInt8.toNat_inj.1; simp; omega
          rw [if_neg (by simpa using h46)] at hD
          subst hD
          have HF := Lib.hid hF
          clear hF h46 hx hL
          go_enter Try.func63, Try.ntmps63
          go_wp2_with (first | (go_at_call 64; refine (prefix_any _ _ _).mono ?_; rintro e w' ⟨rfl, rfl⟩) | (go_at_call_of 69 (Value.string s); refine (run_any0 _ _ hs').mono ?_; rintro e w' ⟨rfl, rfl⟩) | (go_at_call 69; refine (run_at _ _ _ hs').mono ?_; rintro e w' ⟨rfl, rfl⟩))
          go_ret
          exact ⟨ret_int (by first | (have := HF.out; omega) | (have := HF.out; simp at this; omega)), rfl⟩
      · rw [List.getElem?_eq_none (by simp; omega), if_neg (by simp)] at hD
        subst hD
        have HF := Lib.hid hF
        clear hF hx hL
        go_enter Try.func63, Try.ntmps63
        go_wp2_with (first | (go_at_call 64; refine (prefix_any _ _ _).mono ?_; rintro e w' ⟨rfl, rfl⟩) | (go_at_call_of 69 (Value.string s); refine (run_any0 _ _ hs').mono ?_; rintro e w' ⟨rfl, rfl⟩) | (go_at_call 69; refine (run_at _ _ _ hs').mono ?_; rintro e w' ⟨rfl, rfl⟩))
        go_ret
        exact ⟨ret_int (by first | (have := HF.out; omega) | (have := HF.out; simp at this; omega)), rfl⟩
  · obtain ⟨x, hx⟩ : ∃ x, runAt s (n1 + 1) = x := ⟨_, rfl⟩
    rw [hx] at hD hL
    try rw [Nat.zero_add] at hN
    subst n1
    by_cases hz : d = 0
    · rw [if_pos hz] at hF
      have b0 : ((d : Int) == 0) = true := by simp [hz]
      have HF := Lib.hid hF
      clear hF hD hz hA hx hL
      go_enter Try.func63, Try.ntmps63
      go_wp2_with (first | (go_at_call 64; refine (prefix_any _ _ _).mono ?_; rintro e w' ⟨rfl, rfl⟩) | (go_at_call_of 69 (Value.string s); refine (run_any0 _ _ hs').mono ?_; rintro e w' ⟨rfl, rfl⟩) | (go_at_call 69; refine (run_at _ _ _ hs').mono ?_; rintro e w' ⟨rfl, rfl⟩))
      go_ret
      exact ⟨ret_int (by rw [HF.out]; rfl), rfl⟩
    · rw [if_neg hz] at hF
      have b0 : ((d : Int) == 0) = false := by simp [hz]
      clear hz hA
      by_cases hlt : d < s.size
      · have hL := hL hlt
        rw [at_data s _ hlt] at hD
        by_cases h46 : s[d] = 46
        · have b2 : ((s[d].toNat : Int) == 46) = true := by simp [h46]
          rw [h46, if_pos rfl] at hD
          subst hD
          clear h46
          by_cases hx0 : d2 = 0
          · have b3 : ¬ (0 : Int) < d2 := by omega
            rw [if_pos hx0] at hF
            have HF := Lib.hid hF
            clear hF hx0
            go_enter Try.func63, Try.ntmps63
            go_wp2_with (first | (go_at_call 64; refine (prefix_any _ _ _).mono ?_; rintro e w' ⟨rfl, rfl⟩) | (go_at_call_of 69 (Value.string s); refine (run_any0 _ _ hs').mono ?_; rintro e w' ⟨rfl, rfl⟩) | (go_at_call 69; refine (run_at _ _ _ hs').mono ?_; rintro e w' ⟨rfl, rfl⟩))
            go_ret
            exact ⟨ret_int (by first | (have := HF.out; omega) | (have := HF.out; simp at this; omega)), rfl⟩
          · have b3 : (0 : Int) < d2 := by omega
            rw [if_neg hx0] at hF
            have HF := Lib.hid hF
            clear hF hx0
            go_enter Try.func63, Try.ntmps63
            go_wp2_with (first | (go_at_call 64; refine (prefix_any _ _ _).mono ?_; rintro e w' ⟨rfl, rfl⟩) | (go_at_call_of 69 (Value.string s); refine (run_any0 _ _ hs').mono ?_; rintro e w' ⟨rfl, rfl⟩) | (go_at_call 69; refine (run_at _ _ _ hs').mono ?_; rintro e w' ⟨rfl, rfl⟩))
            go_ret
            exact ⟨ret_int (by first | (have := HF.out; omega) | (have := HF.out; simp at this; omega)), rfl⟩
        · have b2 : ((s[d].toNat : Int) == 46) = false := by
            simp; intro h; apply h46; apply UInt8.toNat_inj.1; simp; omega
          rw [if_neg (by simpa using h46)] at hD
          subst hD
          have HF := Lib.hid hF
          clear hF h46 hx hL
          go_enter Try.func63, Try.ntmps63
          go_wp2_with (first | (go_at_call 64; refine (prefix_any _ _ _).mono ?_; rintro e w' ⟨rfl, rfl⟩) | (go_at_call_of 69 (Value.string s); refine (run_any0 _ _ hs').mono ?_; rintro e w' ⟨rfl, rfl⟩) | (go_at_call 69; refine (run_at _ _ _ hs').mono ?_; rintro e w' ⟨rfl, rfl⟩))
          go_ret
          exact ⟨ret_int (by first | (have := HF.out; omega) | (have := HF.out; simp at this; omega)), rfl⟩
      · rw [List.getElem?_eq_none (by simp; omega), if_neg (by simp)] at hD
        subst hD
        have HF := Lib.hid hF
        clear hF hx hL
        go_enter Try.func63, Try.ntmps63
        go_wp2_with (first | (go_at_call 64; refine (prefix_any _ _ _).mono ?_; rintro e w' ⟨rfl, rfl⟩) | (go_at_call_of 69 (Value.string s); refine (run_any0 _ _ hs').mono ?_; rintro e w' ⟨rfl, rfl⟩) | (go_at_call 69; refine (run_at _ _ _ hs').mono ?_; rintro e w' ⟨rfl, rfl⟩))
        go_ret
        exact ⟨ret_int (by first | (have := HF.out; omega) | (have := HF.out; simp at this; omega)), rfl⟩


theorem number_le (l : List UInt8) : numberL l ≤ l.length := by
  have h1 := numN1_le l
  unfold numberL
  split
  · omega
  · split
    · omega
    · rename_i h
      unfold numD2 at h ⊢
      by_cases h2 : l[numN1 l]? = some 46
      · rw [if_pos h2]
        have hlt : numN1 l < l.length := by
          by_cases hh : numN1 l < l.length
          · exact hh
          · rw [List.getElem?_eq_none (by omega)] at h2; cases h2
        have := runL_drop_le l (numN1 l + 1) (by omega)
        omega
      · rw [if_neg h2] at h; exact absurd rfl h

namespace Tok
/-- does '%' stand at place k -/
def pctAt (s : ByteArray) (k : Nat) : Bool := Lib.hasPrefix (s.data.toList.drop k) [37]
def signI (c : Int) : Int := Lib.indexByte [123, 125, 44, 59] c.toNat.toUInt8
/-- the kind and the length of the token at the beginning -/
def firstK (s : ByteArray) (c0 : Int) : Int :=
  if 0 < wordL s.data.toList then 1 else if timeB s.data.toList then 4 else if 0 < numberL s.data.toList then (if c0 ≠ 45 ∧ pctAt s (numberL s.data.toList) = true then 3 else 2)
  else if 0 ≤ signI c0 then 5 else 0
def firstN (s : ByteArray) (c0 : Int) : Nat :=
  if 0 < wordL s.data.toList then wordL s.data.toList else if timeB s.data.toList then 5 else if 0 < numberL s.data.toList then (if c0 ≠ 45 ∧ pctAt s (numberL s.data.toList) = true then numberL s.data.toList + 1 else numberL s.data.toList)
  else if 0 ≤ signI c0 then 1 else 0
end Tok
theorem sign_any (c : Int) (w : World) :
    Calls Try.prog 41 #[.string ⟨#[123, 125, 44, 59]⟩, .int .u8 c] w fun e w' => e = .returned (.int .i64 (signI c)) ∧ w = w' := index_any _ c w
theorem pct_at (s : ByteArray) (k : Nat) (w : World) :
    Calls Try.prog 64 #[.string (s.extract k s.size), .string ⟨#[37]⟩] w fun e w' => e = .returned (.bool (pctAt s k)) ∧ w = w' := prefix_at s k _ w

theorem ret2_int {a b c d : Int} (h : a = c) (g : b = d) : Ending.returned (.tuple #[.int .i64 a, .int .i64 b]) = .returned (.tuple #[.int .i64 c, .int .i64 d]) := by rw [h, g]

set_option maxHeartbeats 1000000 in
theorem first_any (s : ByteArray) (w : World) (hs : s.size ≤ maxLen) (h0 : 0 < s.size) :
    Calls Try.prog 42 #[.string s] w fun e w' => e = .returned (.tuple #[.int .i64 (firstK s s[0].toNat), .int .i64 (firstN s s[0].toNat)]) ∧ Below w.heap.size w w' := by
  have hs' := hs
  unfold maxLen at hs
  have hK := firstK.eq_1 s s[0].toNat
  have hN := firstN.eq_1 s s[0].toNat
  have nl := number_le s.data.toList
  rw [len_data] at nl
  generalize firstK s s[0].toNat = K at *
  generalize firstN s s[0].toNat = N at *
  generalize hw : wordL s.data.toList = wl at *
  by_cases c1 : 0 < wl
  · rw [if_pos c1] at hK hN
    have HK := Lib.hid hK
    have HN := Lib.hid hN
    clear hK hN
    go_enter Try.func42, Try.ntmps42
    go_wp2_with (first | (go_at_call 62; refine (word_any _ _).mono ?_; rintro e w' ⟨rfl, hb⟩) | (go_at_call 45; refine (time_any _ _ hs').mono ?_; rintro e w' ⟨rfl, rfl⟩) | (go_at_call 63; refine (number_any _ _ hs').mono ?_; rintro e w' ⟨rfl, rfl⟩) | (go_at_call 64; refine (pct_at _ _ _).mono ?_; rintro e w' ⟨rfl, rfl⟩) | (go_at_call 41; refine (sign_any _ _).mono ?_; rintro e w' ⟨rfl, rfl⟩))
    go_ret2
    exact ⟨ret2_int (by have := HK.out; omega) (by have := HN.out; omega), by assumption⟩
  · rw [if_neg c1] at hK hN
    generalize ht : timeB s.data.toList = tb at *
    cases tb with
    | true =>
      rw [if_pos rfl] at hK hN
      have HK := Lib.hid hK
      have HN := Lib.hid hN
      clear hK hN
      go_enter Try.func42, Try.ntmps42
      go_wp2_with (first | (go_at_call 62; refine (word_any _ _).mono ?_; rintro e w' ⟨rfl, hb⟩) | (go_at_call 45; refine (time_any _ _ hs').mono ?_; rintro e w' ⟨rfl, rfl⟩) | (go_at_call 63; refine (number_any _ _ hs').mono ?_; rintro e w' ⟨rfl, rfl⟩) | (go_at_call 64; refine (pct_at _ _ _).mono ?_; rintro e w' ⟨rfl, rfl⟩) | (go_at_call 41; refine (sign_any _ _).mono ?_; rintro e w' ⟨rfl, rfl⟩))
      go_ret2
      exact ⟨ret2_int (by have := HK.out; omega) (by have := HN.out; omega), by assumption⟩
    | false =>
      rw [if_neg (by simp)] at hK hN
      generalize hn : numberL s.data.toList = n at *
      by_cases c3 : 0 < n
      · rw [if_pos c3] at hK hN
        by_cases c4 : (s[0].toNat : Int) = 45
        · rw [if_neg (by simp [c4])] at hK hN
          have b4 : ((s[0].toNat : Int) != 45) = false := by simp [c4]
          clear c4
          have HK := Lib.hid hK
          have HN := Lib.hid hN
          clear hK hN
          go_enter Try.func42, Try.ntmps42
          go_wp2_with (first | (go_at_call 62; refine (word_any _ _).mono ?_; rintro e w' ⟨rfl, hb⟩) | (go_at_call 45; refine (time_any _ _ hs').mono ?_; rintro e w' ⟨rfl, rfl⟩) | (go_at_call 63; refine (number_any _ _ hs').mono ?_; rintro e w' ⟨rfl, rfl⟩) | (go_at_call 64; refine (pct_at _ _ _).mono ?_; rintro e w' ⟨rfl, rfl⟩) | (go_at_call 41; refine (sign_any _ _).mono ?_; rintro e w' ⟨rfl, rfl⟩))
          go_ret2
          exact ⟨ret2_int (by have := HK.out; omega) (by have := HN.out; omega), by assumption⟩
        · have b4 : ((s[0].toNat : Int) != 45) = true := by simpa using c4
          generalize hp : pctAt s n = pb at *
          cases pb with
          | true =>
            rw [if_pos ⟨c4, rfl⟩] at hK hN
            have hlt : n < s.size := by
              by_cases hh : n < s.size
              · exact hh
              · unfold pctAt at hp
                rw [List.drop_eq_nil_of_le (by simp; omega)] at hp
                simp [Lib.hasPrefix] at hp
            clear c4
            have HK := Lib.hid hK
            have HN := Lib.hid hN
            clear hK hN
            go_enter Try.func42, Try.ntmps42
            go_wp2_with (first | (go_at_call 62; refine (word_any _ _).mono ?_; rintro e w' ⟨rfl, hb⟩) | (go_at_call 45; refine (time_any _ _ hs').mono ?_; rintro e w' ⟨rfl, rfl⟩) | (go_at_call 63; refine (number_any _ _ hs').mono ?_; rintro e w' ⟨rfl, rfl⟩) | (go_at_call 64; refine (pct_at _ _ _).mono ?_; rintro e w' ⟨rfl, rfl⟩) | (go_at_call 41; refine (sign_any _ _).mono ?_; rintro e w' ⟨rfl, rfl⟩))
            go_ret2
            exact ⟨ret2_int (by have := HK.out; omega) (by have := HN.out; omega), by assumption⟩
          | false =>
            rw [if_neg (by simp)] at hK hN
            clear c4
            have HK := Lib.hid hK
            have HN := Lib.hid hN
            clear hK hN
            go_enter Try.func42, Try.ntmps42
            go_wp2_with (first | (go_at_call 62; refine (word_any _ _).mono ?_; rintro e w' ⟨rfl, hb⟩) | (go_at_call 45; refine (time_any _ _ hs').mono ?_; rintro e w' ⟨rfl, rfl⟩) | (go_at_call 63; refine (number_any _ _ hs').mono ?_; rintro e w' ⟨rfl, rfl⟩) | (go_at_call 64; refine (pct_at _ _ _).mono ?_; rintro e w' ⟨rfl, rfl⟩) | (go_at_call 41; refine (sign_any _ _).mono ?_; rintro e w' ⟨rfl, rfl⟩))
            go_ret2
            exact ⟨ret2_int (by have := HK.out; omega) (by have := HN.out; omega), by assumption⟩
      · rw [if_neg c3] at hK hN
        generalize hg : signI s[0].toNat = sg at *
        by_cases c5 : 0 ≤ sg
        · rw [if_pos c5] at hK hN
          have HK := Lib.hid hK
          have HN := Lib.hid hN
          clear hK hN
          go_enter Try.func42, Try.ntmps42
          go_wp2_with (first | (go_at_call 62; refine (word_any _ _).mono ?_; rintro e w' ⟨rfl, hb⟩) | (go_at_call 45; refine (time_any _ _ hs').mono ?_; rintro e w' ⟨rfl, rfl⟩) | (go_at_call 63; refine (number_any _ _ hs').mono ?_; rintro e w' ⟨rfl, rfl⟩) | (go_at_call 64; refine (pct_at _ _ _).mono ?_; rintro e w' ⟨rfl, rfl⟩) | (go_at_call 41; refine (sign_any _ _).mono ?_; rintro e w' ⟨rfl, rfl⟩))
          go_ret2
          exact ⟨ret2_int (by have := HK.out; omega) (by have := HN.out; omega), by assumption⟩
        · rw [if_neg c5] at hK hN
          have HK := Lib.hid hK
          have HN := Lib.hid hN
          clear hK hN
          go_enter Try.func42, Try.ntmps42
          go_wp2_with (first | (go_at_call 62; refine (word_any _ _).mono ?_; rintro e w' ⟨rfl, hb⟩) | (go_at_call 45; refine (time_any _ _ hs').mono ?_; rintro e w' ⟨rfl, rfl⟩) | (go_at_call 63; refine (number_any _ _ hs').mono ?_; rintro e w' ⟨rfl, rfl⟩) | (go_at_call 64; refine (pct_at _ _ _).mono ?_; rintro e w' ⟨rfl, rfl⟩) | (go_at_call 41; refine (sign_any _ _).mono ?_; rintro e w' ⟨rfl, rfl⟩))
          go_ret2
          exact ⟨ret2_int (by have := HK.out; omega) (by have := HN.out; omega), by assumption⟩

end Go.Proofs.Ytjnaeldaajckkaa
