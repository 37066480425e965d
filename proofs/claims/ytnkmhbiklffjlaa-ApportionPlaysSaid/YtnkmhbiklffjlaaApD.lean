/- apportion.share and apportion.check, walked. -/
import Derived.Test.YtnkmhbiklffjlaaApC
set_option linter.unusedVariables false
set_option linter.unusedSimpArgs false
namespace Go.Proofs.Ytnkmhbiklffjlaa
open Go.RowKit Ap

set_option maxRecDepth 100000 in
set_option maxHeartbeats 2000000 in
theorem share_any (t v s : Nat) (w : World) (ht : t ≤ 1000000000000000) (hv : v ≤ s) (hs : 0 < s) (hs2 : s ≤ 4000000000000000000) :
    Calls Try.prog 28 #[.int .i64 t, .int .i64 v, .int .i64 s] w fun e w' => e = .returned (.tuple #[.int .i64 ((t * v / s : Nat) : Int), .int .i64 ((t * v % s : Nat) : Int)]) ∧ ∃ n, w' = w.drewN n := by
  have hle : t * v ≤ t * s := Nat.mul_le_mul_left _ hv
  have hq : t * v / s ≤ t := Nat.div_le_of_le_mul (by rw [Nat.mul_comm s t]; exact hle)
  have hr : t * v % s < s := Nat.mod_lt _ hs
  have hhi : t * v / 18446744073709551616 < s := by
    refine Nat.div_lt_of_lt_mul ?_
    have : t * s ≤ 1000000000000000 * s := Nat.mul_le_mul_right _ ht
    omega
  have hsum : t * v / 18446744073709551616 * 18446744073709551616 + t * v % 18446744073709551616 = t * v := Nat.div_add_mod' _ _
  obtain ⟨p, hp⟩ : ∃ p, p = t * v := ⟨_, rfl⟩
  have HD := div64_any (p / 18446744073709551616) (p % 18446744073709551616) s
  rw [← hp] at hq hr hhi hsum ⊢
  rw [hsum] at HD
  obtain ⟨a, ha⟩ : ∃ a, a = p / 18446744073709551616 := ⟨_, rfl⟩
  obtain ⟨b, hb⟩ : ∃ b, b = p % 18446744073709551616 := ⟨_, rfl⟩
  have HM := mul64_any t v
  rw [← hp, ← ha, ← hb] at HM
  rw [← ha, ← hb] at HD
  rw [← ha] at hhi
  have hb2 : b < 18446744073709551616 := by omega
  have w1 : IntKind.u64.wrap (t : Int) = (t : Int) := wrapN _ (by omega)
  have w2 : IntKind.u64.wrap (v : Int) = (v : Int) := wrapN _ (by omega)
  have w3 : IntKind.u64.wrap (s : Int) = (s : Int) := wrapN _ (by omega)
  obtain ⟨x, hx⟩ : ∃ x, x = p / s := ⟨_, rfl⟩
  obtain ⟨y, hy⟩ : ∃ y, y = p % s := ⟨_, rfl⟩
  rw [← hx, ← hy] at HD ⊢
  rw [← hx] at hq
  rw [← hy] at hr
  have w4 : IntKind.i64.wrap (x : Int) = (x : Int) := IntWalk.i64_in _ (by omega)
  have w5 : IntKind.i64.wrap (y : Int) = (y : Int) := IntWalk.i64_in _ (by omega)
  have HH := Lib.hid (And.intro hhi (And.intro hb2 hs2))
  have HT := Lib.hid (show t < 18446744073709551616 ∧ v < 18446744073709551616 by omega)
  clear hle hp ha hb hx hy hhi hb2 hsum hq hr ht hv hs hs2
  go_enter Try.func28, Try.ntmps28
  go_wp2_with (go_at_call 43; refine (HM HT.out.1 HT.out.2 _).mono ?_; rintro e w' ⟨rfl, rfl⟩)
  go_wp2_with (go_at_call 44; refine (HD _ HH.out.1 HH.out.2.1 (by have := HH.out; omega)).mono ?_; rintro e w' ⟨rfl, n, rfl⟩)
  go_ret2
  exact ⟨rfl, _, rfl⟩

/-- the sum of weights, or the first error -/
def checkL : List Int → Int → Option Int
  | [], a => some a
  | x :: l, a => if x < 0 ∨ 1000000000000000 < x then none else checkL l (a + x)
def checkR (l : List Int) : Int × Int := if l.length = 0 ∨ 512 < l.length then (0, 40) else match checkL l 0 with | none => (0, 41) | some a => (a, 0)

set_option maxRecDepth 100000 in
set_option maxHeartbeats 2000000 in
theorem check_any (l : List Int) (v : Value) (w : World) (h : Reads w 1 v l.length (l.map (Value.int .i64))) :
    Calls Try.prog 25 #[v] w fun e w' => e = .returned (.tuple #[.int .i64 (checkR l).1, .int .i64 (checkR l).2]) ∧ w = w' := by
  by_cases h0 : l.length = 0
  · obtain ⟨a, cap, rfl⟩ := h.zero h0
    have HE := Lib.hid (show checkR l = (0, 40) by unfold checkR; rw [if_pos (.inl h0)])
    clear h
    go_enter Try.func25, Try.ntmps25
    go_wp2
    go_ret2
    rw [HE.out]; exact ⟨rfl, rfl⟩
  · obtain ⟨g, off, cap, rfl, hc⟩ := h.some h0
    have hmx := h.2.1
    have h00 : ((l.length : Int) == 0) = false := beq_eq_false_iff_ne.2 (by omega)
    by_cases h1 : 512 < l.length
    · have h1' : (512 : Int) < l.length := by omega
      have HE := Lib.hid (show checkR l = (0, 40) by unfold checkR; rw [if_pos (.inr h1)])
      clear h hc h0 h1
      go_enter Try.func25, Try.ntmps25
      go_wp2
      go_ret2
      rw [HE.out]; exact ⟨rfl, rfl⟩
    · have h1' : ¬ (512 : Int) < l.length := by omega
      have HE := Lib.hid (show checkR l = match checkL l 0 with | none => (0, 41) | some a => (a, 0) by unfold checkR; rw [if_neg (by omega)])
      have HC := Lib.hid hc
      have HL := Lib.hid h1
      clear h hc h0 h1
      go_enter Try.func25, Try.ntmps25
      go_wp2
      go_loopg [4, 17] l.length (fun n sv iv wr => ∃ (k : Nat) (s : Int), sv = .int .i64 s ∧ iv = .int .i64 k ∧ w = wr ∧ k ≤ l.length ∧ l.length - k ≤ n ∧ 0 ≤ s ∧ s ≤ 1000000000000000 * k ∧ checkL (l.drop k) s = checkL l 0)
      case atStart => exact ⟨0, 0, rfl, rfl, rfl, by omega, by omega, by omega, by omega, rfl⟩
      case round =>
        obtain ⟨k, s, rfl, rfl, rfl, hk, hm, hs0, hs1, hck⟩ := hrel
        have HK := Lib.hid hck
        clear hck
        have hl512 := HL.out
        by_cases hlt : k < l.length
        · obtain ⟨x, hx⟩ : ∃ x, l[k]? = some x := ⟨l[k], by simp [hlt]⟩
          have hcx : w.cell? ⟨g, off + k, none⟩ = some (.int .i64 x) := HC.out k _ (by simp [hx])
          have HD := Lib.hid (show l.drop k = x :: l.drop (k + 1) by
            rw [List.drop_eq_getElem_cons hlt]; congr 1
            rw [List.getElem?_eq_getElem hlt] at hx; exact Option.some.inj hx)
          clear hx
          by_cases p1 : x < 0
          · have HF := Lib.hid (show checkR l = (0, 41) by rw [HE.out, ← HK.out, HD.out, checkL, if_pos (.inl p1)])
            go_wp2
            go_ret2
            rw [HF.out]; exact ⟨rfl, rfl⟩
          · by_cases p2 : 1000000000000000 < x
            · have HF := Lib.hid (show checkR l = (0, 41) by rw [HE.out, ← HK.out, HD.out, checkL, if_pos (.inr p2)])
              go_wp2
              go_ret2
              rw [HF.out]; exact ⟨rfl, rfl⟩
            · have HF := Lib.hid (show checkL (l.drop (k + 1)) (s + x) = checkL l 0 by rw [← HK.out, HD.out, checkL, if_neg (by omega)])
              have w1 : IntKind.i64.wrap (s + x) = s + x := IntWalk.i64_in _ (by omega)
              go_wp2
              go_roundg (gk - 1)
              case measure => omega
              case rel => exact ⟨k + 1, s + x, by go_num, by go_num, rfl, by omega, by omega, by omega, by omega, HF.out⟩
        · have HF := Lib.hid (show checkR l = (s, 0) by
            have := HK.out
            rw [List.drop_eq_nil_of_le (by omega), checkL] at this
            rw [HE.out, ← this])
          go_wp2
          go_ret2
          rw [HF.out]; exact ⟨rfl, rfl⟩
end Go.Proofs.Ytnkmhbiklffjlaa
