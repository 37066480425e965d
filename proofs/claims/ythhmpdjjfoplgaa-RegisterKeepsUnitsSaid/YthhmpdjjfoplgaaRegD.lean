/- Lots compared: strings.Compare, cmp.Compare, cmp.Or, register.place, the reference's less: walked. -/
import Derived.Test.YthhmpdjjfoplgaaRegC
import Derived.Lib.Strings
import Derived.Lib.Slices
import Derived.Lib.Walk
import Derived.Lib.Bytealg
set_option linter.unusedVariables false
set_option linter.unusedSimpArgs false
namespace Go.Proofs.Ythhmpdjjfoplgaa
open Go.RowKit Reg

set_option maxHeartbeats 1000000 in
set_option maxRecDepth 100000 in
theorem bcmp_any (a b : ByteArray) (w : World) :
    Calls Try.prog 68 #[.string a, .string b] w fun e w' => e = .returned (.int .i64 (sCmp a b)) ∧ w' = w := by
  go_enter Try.func68, Try.ntmps68
  go_wp2
  rw [run_callFunc_extern Try.func84 (by kernel_rfl) (by kernel_rfl) (by kernel_rfl) (e := Extern.BytealgCompare.compare) (by kernel_rfl), Lib.run_compareString]
  simp only [Result.andThen]
  rw [Oper.upon_value]
  go_wp2
  go_ret
  exact ⟨rfl, rfl⟩
theorem scmp_any (a b : ByteArray) (w : World) :
    Calls Try.prog 54 #[.string a, .string b] w fun e w' => e = .returned (.int .i64 (sCmp a b)) ∧ w' = w := by
  go_enter Try.func54, Try.ntmps54
  go_wp2_with (go_at_call 68; refine (bcmp_any _ _ _).mono ?_; rintro e w' ⟨rfl, rfl⟩)
  go_ret
  exact ⟨rfl, rfl⟩
namespace Reg
def iCmp (x y : Int) : Int := if x < y then -1 else if y < x then 1 else 0
def nz (l : List Int) : Int := (l.find? (fun x => decide (x ≠ 0))).getD 0
theorem nz_cons (x : Int) (l : List Int) : nz (x :: l) = if x = 0 then nz l else x := by
  unfold nz; rw [List.find?_cons]; by_cases h : x = 0 <;> simp [h]
theorem place_nz (a b : Lot) : nz [sCmp a.nom b.nom, sCmp a.hol b.hol, iCmp a.ser b.ser] = place a b := by
  rw [nz_cons, nz_cons, nz_cons]
  rcases s_tri a.nom b.nom with h | h | h
  · have hne := sLt_ne h
    rw [sCmp_lt h, if_neg (by omega), place_lt (by simp [lotLt, hne, h])]
  · rw [h, sCmp_same, if_pos rfl]
    rcases s_tri a.hol b.hol with k | k | k
    · have hne := sLt_ne k
      rw [sCmp_lt k, if_neg (by omega), place_lt (by simp [lotLt, h, hne, k])]
    · rw [k, sCmp_same, if_pos rfl]
      unfold iCmp
      by_cases h1 : a.ser < b.ser
      · rw [if_pos h1, if_neg (by omega), place_lt (by simp [lotLt, h, k, h1])]
      · by_cases h2 : b.ser < a.ser
        · rw [if_neg h1, if_pos h2, if_neg (by omega), place_gt (by simp [lotLt, h, k, h2])]
        · rw [if_neg h1, if_neg h2, if_pos rfl, place_same ⟨h, k, by omega⟩]; rfl
    · have hne := sLt_ne k
      rw [sCmp_gt k, if_neg (by omega), place_gt (by simp [lotLt, h, hne, k])]
  · have hne := sLt_ne h
    rw [sCmp_gt h, if_neg (by omega), place_gt (by simp [lotLt, hne, h])]
end Reg
set_option maxHeartbeats 1000000 in
theorem icmp_any (x y : Int) (w : World) :
    Calls Try.prog 65 #[.int .i64 x, .int .i64 y] w fun e w' => e = .returned (.int .i64 (iCmp x y)) ∧ w' = w := by
  go_enter Try.func65, Try.ntmps65
  go_wp2
  all_goals (go_ret; refine ⟨?_, rfl⟩; unfold iCmp; (repeat' split) <;> first | rfl | (exfalso; omega))
set_option maxHeartbeats 1000000 in
theorem or_any (g cap n : Nat) (zs : List Int) (w : World) (hn : zs.length = n) (hs : n ≤ 1000) (hc : ∀ j u, zs[j]? = some u → w.cell? ⟨g, j, none⟩ = some (.int .i64 u)) :
    Calls Try.prog 64 #[.slice (some ⟨g, 0, none⟩) n cap] w fun e w' => e = .returned (.int .i64 (nz zs)) ∧ w = w' := by
  have HC := Lib.hid hc
  have HN := Lib.hid hn
  clear hc hn
  go_enter Try.func64, Try.ntmps64
  go_wp2
  go_loopg [8] n (fun m i wr => ∃ k : Nat, k ≤ n ∧ n - k ≤ m ∧ i = .int .i64 k ∧ wr = w ∧ nz zs = nz (zs.drop k))
  case atStart => exact ⟨0, by omega, by omega, rfl, rfl, rfl⟩
  case round =>
    obtain ⟨k, hk, hm, rfl, rfl, hz⟩ := hrel
    by_cases hlt : k < n
    · obtain ⟨x, hx⟩ : ∃ x, zs[k]? = some x := ⟨zs[k]'(by rw [HN.out]; exact hlt), by simp [HN.out, hlt]⟩
      have hc := HC.out k x hx
      have hd : zs.drop k = x :: zs.drop (k + 1) := by
        rw [List.drop_eq_getElem_cons (by rw [HN.out]; exact hlt)]
        have := (List.getElem?_eq_some_iff.1 hx).2
        rw [this]
      rw [hd, nz_cons] at hz
      clear hd hx
      by_cases h0 : x = 0
      · rw [if_pos h0] at hz
        subst h0
        have HZ := Lib.hid hz
        clear hz
        go_wp2
        go_roundg (gk - 1)
        case measure => omega
        case rel => exact ⟨k + 1, by omega, by omega, by go_num, rfl, HZ.out⟩
      · rw [if_neg h0] at hz
        have HZ := Lib.hid hz
        have h0' : (x == 0) = false := beq_eq_false_iff_ne.2 h0
        clear hz
        go_wp2
        go_ret
        exact ⟨ret_int HZ.out.symm, rfl⟩
    · have hz' : nz zs = 0 := by rw [hz, List.drop_eq_nil_of_le (by have := HN.out; omega)]; rfl
      have HZ := Lib.hid hz'
      clear hz hz'
      go_wp2
      go_ret
      exact ⟨ret_int HZ.out.symm, rfl⟩
theorem ints_new (w : World) (l : List Int) (t : TypeId) : ∀ j u, l[j]? = some u → (w.alloc (.cells (l.map (Value.int .i64)).toArray t)).cell? ⟨w.heap.size, j, none⟩ = some (.int .i64 u) := by
  intro j u hu
  rw [cell_of_row _ w.heap.size j _ t (0, 0) (heap_alloc_new w _)]
  simp [hu]
def lotV (x : Lot) : Value := .agg #[.string x.nom, .string x.hol, .int .i64 x.ser, .int .i64 x.units]
set_option maxRecDepth 100000 in
set_option maxHeartbeats 2000000 in
theorem place_any (a b : Lot) (w : World) :
    Calls Try.prog 50 #[lotV a, lotV b] w fun e w' => e = .returned (.int .i64 (place a b)) ∧ Below w.heap.size w w' := by
  have HP := Lib.hid (place_nz a b)
  unfold lotV
  go_enter Try.func50, Try.ntmps50
  go_wp2
  refine wp_region_still_tail 19 (by kernel_rfl) (by kernel_rfl) ?_
  simp only [List.take_succ_cons, List.take_zero, List.drop_succ_cons, List.drop_zero]
  change wpStill _ _ (World.drew _) _ _ _
  repeat still_step
  still_call (scmp_any _ _ _)
  repeat still_step
  still_call (scmp_any _ _ _)
  repeat still_step
  still_call (icmp_any _ _ _)
  refine wpStill_nil ?_
  change wpList _ _ _ _ _ (World.drew _)
  obtain ⟨w2, hw2⟩ : ∃ w2 : World, w2 = World.drew ((w.alloc (.cells #[.string a.nom, .string a.hol, .int .i64 a.ser, .int .i64 a.units] 41)).alloc (.cells #[.string b.nom, .string b.hol, .int .i64 b.ser, .int .i64 b.units] 41)) := ⟨_, rfl⟩
  have hb : Below w.heap.size w w2 := by rw [hw2]; exact below_drew (((Below.refl _ _).alloc (Nat.le_refl _) _).alloc (by simp) _)
  rw [← hw2]
  clear hw2
  go_wp2_with (go_at_call 64; refine (or_any w2.heap.size 3 3 [sCmp a.nom b.nom, sCmp a.hol b.hol, iCmp a.ser b.ser] _ rfl (by omega) (ints_new w2 [sCmp a.nom b.nom, sCmp a.hol b.hol, iCmp a.ser b.ser] _)).mono ?_; rintro e w' ⟨rfl, rfl⟩)
  go_ret
  exact ⟨ret_int HP.out, hb.alloc hb.size _⟩

/-! ### The reference's order -/
set_option maxRecDepth 100000 in
set_option maxHeartbeats 2000000 in
theorem less_any (a b : Lot) (w : World) :
    Calls Try.prog 57 #[lotV a, lotV b] w fun e w' => e = .returned (.bool (lotLt a b)) ∧ Below w.heap.size w w' := by
  have hL := lotLt.eq_1 a b
  have q1 : (a.nom.toList == b.nom.toList) = decide (a.nom = b.nom) := by
    rw [Bool.eq_iff_iff]; exact (sEq_iff a.nom b.nom).trans (by simp)
  have q2 : (a.hol.toList == b.hol.toList) = decide (a.hol = b.hol) := by
    rw [Bool.eq_iff_iff]; exact (sEq_iff a.hol b.hol).trans (by simp)
  unfold lotV
  by_cases h1 : a.nom = b.nom
  · rw [if_pos h1] at hL
    rw [decide_eq_true h1] at q1
    by_cases h2 : a.hol = b.hol
    · rw [if_pos h2] at hL
      rw [decide_eq_true h2] at q2
      have HL := Lib.hid hL
      clear hL h1 h2
      go_enter Try.func57, Try.ntmps57
      go_wp2
      go_ret
      exact ⟨ret_bool HL.out.symm, ((Below.refl _ _).alloc (Nat.le_refl _) _).alloc (by simp) _⟩
    · rw [if_neg h2] at hL
      rw [decide_eq_false h2] at q2
      have HL := Lib.hid hL
      clear hL h1 h2
      go_enter Try.func57, Try.ntmps57
      go_wp2
      go_ret
      exact ⟨ret_bool HL.out.symm, ((Below.refl _ _).alloc (Nat.le_refl _) _).alloc (by simp) _⟩
  · rw [if_neg h1] at hL
    rw [decide_eq_false h1] at q1
    have HL := Lib.hid hL
    clear hL h1 q2
    go_enter Try.func57, Try.ntmps57
    go_wp2
    go_ret
    exact ⟨ret_bool HL.out.symm, ((Below.refl _ _).alloc (Nat.le_refl _) _).alloc (by simp) _⟩
end Go.Proofs.Ythhmpdjjfoplgaa
