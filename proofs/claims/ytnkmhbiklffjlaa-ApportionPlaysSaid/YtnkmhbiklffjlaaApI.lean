/- Cap, slices.Clone; Total, SameInts, Chance: walked. -/
import Derived.Test.YtnkmhbiklffjlaaApH
import Derived.Lib.Slices
set_option linter.unusedVariables false
set_option linter.unusedSimpArgs false
namespace Go.Proofs.Ytnkmhbiklffjlaa
open Go.RowKit Ap

def cellsN (ws : List Nat) : List Value := ws.map (fun (x : Nat) => Value.int .i64 (x : Int))

set_option maxRecDepth 100000 in
set_option maxHeartbeats 1000000 in
theorem clone_any (n : Nat) (xs : List Value) (v : Value) (w : World) (hr : Reads w 1 v n xs) (h0 : 1 ≤ n) (hbig : n ≤ 1000) (h1 : ∀ u ∈ xs, u.oneCell' = true) :
    Calls Try.prog 26 #[v] w fun e w' => ∃ v', e = .returned v' ∧ w'.ownsRow w.heap.size 3 1 v' n xs ∧ Below w.heap.size w w' := by
  obtain ⟨g, off, cap, rfl, hc⟩ := hr.some (by omega)
  have hlen : xs.length = n := by have := hr.1; omega
  obtain ⟨i0, hi, hz0, hz1, hz2⟩ := info_parts Try.info3
  have q22 : ∀ (w : World) (a : Option Addr) (n c n' c' : Nat), (binOp .eql 22 (.slice a n c) (.slice none n' c')).run Try.prog w = .ok (.bool a.isNone) w := fun w a n c n' c' => Lib.run_eql_slice_nil w _ _ a n c n' c' Try.underlying22
  have HC := Lib.hid hc
  have HL := Lib.hid hlen
  have H1 := Lib.hid h1
  clear hr hc hlen h1
  go_enter Try.func26, Try.ntmps26
  go_wp2_with (at_builtin; refine wpList_append_own _ rfl _ _ 22 rfl w.heap.size 3 i0 (.int .i64 0) 1 8 Try.underlying22 hi hz0 hz1 hz2 rfl (by decide) _ _ _ rfl (World.ownsRow_made w #[] 0 (Nat.le_refl _) (Nat.zero_le _) rfl) ⟨g, off, none⟩ n cap xs rfl ?qc1 ?qc2 ?qc3 ?qc4 ?qc5 ?qc6 ?_)
  case qc1 => rw [HL.out]; omega
  case qc2 =>
    intro j u hj
    have hadd : (⟨g, off, none⟩ : Addr).add j = ⟨g, off + j, none⟩ := by unfold Addr.add; split <;> simp_all
    rw [hadd]
    exact cell_alloc (HC.out j u hj) _
  case qc3 => exact H1.out
  case qc4 => exact small_maxLen (by omega)
  case qc5 => omega
  case qc6 => simp
  intro v' w1 hown hgrow hnil
  have HH := Lib.hid (show w1.ownsRow w.heap.size 3 1 v' n xs by simpa using hown)
  have HG := Lib.hid hgrow
  clear hown hgrow hnil
  go_wp2
  go_ret
  exact ⟨v', rfl, HH.out, ((Below.refl _ w).alloc (Nat.le_refl _) _).grown HG.out (by simp) (by intro k hk; simp [Value.ownBlock] at hk; omega)⟩

/-- what Cap hands back -/
def CapP (T n : Nat) (ws : List Nat) (w : World) (e : Ending) (w' : World) : Prop :=
  ∃ (v : Value) (p : List Nat), e = .returned (.tuple #[v, .int .i64 0]) ∧ Reads w' 1 v n (cellsN p) ∧ Below w.heap.size w w' ∧ p.length = n ∧ ((sumL ws ≤ T ∧ p = ws) ∨ (T < sumL ws ∧ Parts T ws p))
theorem reads_rowN {w : World} {g n cap : Nat} {p : List Nat} (h : Row w g 0 (p.map Int.ofNat)) (hl : p.length = n) (hn : n ≤ 1000000) : Reads w 1 (.slice (some ⟨g, 0, none⟩) n cap) n (cellsN p) := by
  have := reads_row (cap := cap) h (by rw [List.length_map]; exact hl) hn
  rw [List.map_map] at this
  exact this

set_option maxRecDepth 100000 in
set_option maxHeartbeats 2000000 in
theorem cap_any (T n : Nat) (ws : List Nat) (v : Value) (w : World) (h : Valid w v n ws) (hT : T ≤ 1000000000000000) :
    Calls Try.prog 11 #[.int .i64 T, v] w (CapP T n ws w) := by
  have q1 : ¬ (T : Int) < 0 := by omega
  have q2 : ¬ (1000000000000000 : Int) < T := by omega
  have hsb := h.sum
  have hn19 := h.small
  have hn1 := h.pos
  have HV := Lib.hid h
  have HCK := Lib.hid (check_ok n ws v w h)
  clear h
  by_cases hle : sumL ws ≤ T
  · obtain ⟨s, hs⟩ : ∃ s, s = sumL ws := ⟨_, rfl⟩
    rw [← hs] at HCK hsb hle
    have hle' : (s : Int) ≤ T := by omega
    have HS := Lib.hid hs
    clear hs hle
    go_enter Try.func11, Try.ntmps11
    go_wp2_with (go_at_call 25; refine HCK.out.mono ?_; rintro e w' ⟨rfl, rfl⟩)
    refine (clone_any n (cellsN ws) v w HV.out.reads HV.out.pos (by omega) (by intro u hu; obtain ⟨x, _, rfl⟩ := List.mem_map.1 hu; rfl)).mono ?_
    rintro e w' ⟨v', rfl, hown, hb⟩
    have HH := Lib.hid (And.intro hown hb)
    clear hown hb
    go_wp2
    go_ret2
    exact ⟨v', ws, rfl, Reads.of_own HH.out.1, HH.out.2, HV.out.len, .inl ⟨by rw [← HS.out]; omega, rfl⟩⟩
  · have HD := Lib.hid (divide_good T n ws v w HV.out (by omega) hT)
    have HLT := Lib.hid (show T < sumL ws by omega)
    obtain ⟨s, hs⟩ : ∃ s, s = sumL ws := ⟨_, rfl⟩
    rw [← hs] at HCK HD hsb hle
    have hle' : ¬ (s : Int) ≤ T := by omega
    clear hs hle
    go_enter Try.func11, Try.ntmps11
    go_wp2_with (go_at_call 25; refine HCK.out.mono ?_; rintro e w' ⟨rfl, rfl⟩)
    refine HD.out.mono ?_
    rintro e w' ⟨g, l, h1, h2, rfl, h4, ⟨p, hp, rfl⟩, h6⟩
    have HH := Lib.hid (And.intro h4 (And.intro hp h6))
    clear h1 h2 h4 hp h6
    go_wp2
    go_ret2
    have hl : p.length = n := by obtain ⟨o, _, _, h, _⟩ := HH.out.2.1; rw [h]; exact HV.out.len
    exact ⟨_, p, rfl, reads_rowN HH.out.1 hl (by omega), HH.out.2.2, hl, .inr ⟨HLT.out, HH.out.2.1⟩⟩

theorem sumZ_bd (l : List Int) (h : ∀ x ∈ l, -10000000000000000 ≤ x ∧ x ≤ 10000000000000000) : -10000000000000000 * (l.length : Int) ≤ sumZ l ∧ sumZ l ≤ 10000000000000000 * (l.length : Int) := by
  induction l with
  | nil => simp [sumZ]
  | cons x l ih =>
    have h1 := ih (fun y hy => h y (by simp [hy]))
    have h2 := h x (by simp)
    simp only [sumZ, List.length_cons]
    omega
theorem sumZ_app (a b : List Int) : sumZ (a ++ b) = sumZ a + sumZ b := by
  induction a with
  | nil => simp [sumZ]
  | cons x a ih => simp only [List.cons_append, sumZ, ih]; omega
theorem sumZ_nat (p : List Nat) : sumZ (p.map Int.ofNat) = (sumL p : Nat) := by
  induction p with
  | nil => rfl
  | cons x p ih => simp only [List.map_cons, sumZ, sumL, ih]; simp
theorem sumZ_neg (l : List Int) : sumZ (l.map (- ·)) = - sumZ l := by
  induction l with
  | nil => rfl
  | cons x p ih => simp only [List.map_cons, sumZ, ih]; omega

set_option maxRecDepth 100000 in
set_option maxHeartbeats 1000000 in
theorem total_any (n : Nat) (l : List Int) (v : Value) (w : World) (h : Reads w 1 v n (l.map (Value.int .i64))) (hn : n ≤ 500) (hb : ∀ x ∈ l, -10000000000000000 ≤ x ∧ x ≤ 10000000000000000) :
    Calls Try.prog 19 #[v] w fun e w' => e = .returned (.int .i64 (sumZ l)) ∧ w = w' := by
  have hlen : l.length = n := by have := h.1; simpa using this
  have HL := Lib.hid hlen
  have HB := Lib.hid hb
  have hv : ∃ a cap, v = .slice a n cap ∧ ∀ k x, l[k]? = some x → ∃ g off, a = some ⟨g, off, none⟩ ∧ w.cell? ⟨g, off + k, none⟩ = some (.int .i64 x) := by
    by_cases h0 : n = 0
    · obtain ⟨a, cap, hv⟩ := h.zero h0
      exact ⟨a, cap, by rw [hv, h0], fun k x hx => by have := (List.getElem?_eq_some_iff.1 hx).1; omega⟩
    · obtain ⟨g, off, cap, hv, hc⟩ := h.some h0
      exact ⟨_, cap, hv, fun k x hx => ⟨g, off, rfl, hc k _ (by rw [List.getElem?_map, hx]; rfl)⟩⟩
  obtain ⟨a, cap, rfl, hc⟩ := hv
  have HC := Lib.hid hc
  clear h hlen hb hc
  go_enter Try.func19, Try.ntmps19
  go_wp2
  go_loopg [3, 4] n (fun m sv iv wr => ∃ k : Nat, sv = .int .i64 (sumZ (l.take k)) ∧ iv = .int .i64 k ∧ w = wr ∧ k ≤ n ∧ n ≤ m + k)
  case atStart => exact ⟨0, rfl, rfl, rfl, by omega, by omega⟩
  case round =>
    obtain ⟨k, rfl, rfl, rfl, hk, hm⟩ := hrel
    by_cases hkn : k < n
    · obtain ⟨x, hx⟩ : ∃ x, l[k]? = some x := ⟨l[k]'(by have := HL.out; omega), by have := HL.out; simp [this, hkn]⟩
      obtain ⟨g, off, rfl, hcx⟩ := HC.out k x hx
      obtain ⟨s, hs⟩ : ∃ s, s = sumZ (l.take k) := ⟨_, rfl⟩
      have hs2 : sumZ (l.take (k + 1)) = s + x := by rw [List.take_add_one, hx, sumZ_app, hs]; simp [sumZ]
      have hb1 := sumZ_bd (l.take k) (fun y hy => HB.out y (List.mem_of_mem_take hy))
      have hb2 := HB.out x (List.mem_of_getElem? hx)
      rw [← hs, List.length_take] at hb1
      have hw : IntKind.i64.wrap (s + x) = s + x := IntWalk.i64_in _ (by omega)
      rw [← hs]
      have HS := Lib.hid hs2
      clear hx hs hs2 hb1 hb2
      go_wp2
      go_roundg (gk - 1)
      case measure => omega
      case rel => exact ⟨k + 1, by rw [HS.out], by go_num, rfl, by omega, by omega⟩
    · have HF := Lib.hid (show sumZ (l.take k) = sumZ l by rw [List.take_of_length_le (by have := HL.out; omega)])
      go_wp2
      go_ret
      exact ⟨ret_int HF.out, rfl⟩

set_option maxRecDepth 100000 in
set_option maxHeartbeats 1000000 in
theorem sameints_eq (n : Nat) (l : List Int) (va vb : Value) (w : World) (ha : Reads w 1 va n (l.map (Value.int .i64))) (hb : Reads w 1 vb n (l.map (Value.int .i64))) (hn : n ≤ 1000000) :
    Calls Try.prog 17 #[va, vb] w fun e w' => e = .returned (.bool true) ∧ ∃ n, w' = w.drewN n := by
  have hlen : l.length = n := by have := ha.1; simpa using this
  by_cases h0 : n = 0
  · obtain ⟨a, c1, rfl⟩ := ha.zero h0
    obtain ⟨b, c2, rfl⟩ := hb.zero h0
    clear ha hb
    go_enter Try.func17, Try.ntmps17
    go_wp2
    go_loopg [5] 1 (fun m iv wr => iv = .int .i64 0 ∧ w = wr)
    case atStart => exact ⟨rfl, rfl⟩
    case round =>
      obtain ⟨rfl, rfl⟩ := hrel
      go_wp2
      go_ret
      exact ⟨rfl, 0, by cases w; rfl⟩
  · obtain ⟨g1, o1, c1, rfl, hc1⟩ := ha.some h0
    obtain ⟨g2, o2, c2, rfl, hc2⟩ := hb.some h0
    have HL := Lib.hid hlen
    have H1 := Lib.hid hc1
    have H2 := Lib.hid hc2
    clear ha hb hlen hc1 hc2 h0
    go_enter Try.func17, Try.ntmps17
    go_wp2
    go_loopg [5] n (fun m iv wr => ∃ k : Nat, iv = .int .i64 k ∧ k ≤ n ∧ n ≤ m + k ∧ ∃ q, wr = w.drewN q)
    case atStart => exact ⟨0, rfl, by omega, by omega, 0, by cases w; rfl⟩
    case round =>
      obtain ⟨k, rfl, hk, hm, q, rfl⟩ := hrel
      by_cases hkn : k < n
      · obtain ⟨x, hx⟩ : ∃ x, l[k]? = some x := ⟨l[k]'(by have := HL.out; omega), by have := HL.out; simp [this, hkn]⟩
        have d1 : w.cell? ⟨g1, o1 + k, none⟩ = some (.int .i64 x) := H1.out k _ (by rw [List.getElem?_map, hx]; rfl)
        have d2 : w.cell? ⟨g2, o2 + k, none⟩ = some (.int .i64 x) := H2.out k _ (by rw [List.getElem?_map, hx]; rfl)
        clear hx
        go_wp2
        go_quiet (fail)
        go_wp2
        go_roundg (gk - 1)
        case measure => omega
        case rel => exact ⟨k + 1, by go_num, by omega, by omega, _, rfl⟩
      · go_wp2
        go_ret
        exact ⟨rfl, _, rfl⟩

set_option maxHeartbeats 1000000 in
theorem chance_any (bt at_ : Nat) (n m : Int) (w : World) (ht : IsTape w bt at_) (hat : at_ < 1000000000000000000) (hm : m ≤ 9223372036854775807) :
    Calls Try.prog 21 #[.pointer (some ⟨bt, 0, none⟩), .int .i64 n, .int .i64 m] w fun e w' => ∃ b : Bool, e = .returned (.bool b) ∧ IsTape w' bt (at_ + 1) ∧ w.grownBy w' (some bt) := by
  go_enter Try.func21, Try.ntmps21
  go_wp2_with fail
  refine (next_any bt at_ m w ht hat hm).mono ?_
  rintro e w1 ⟨v, rfl, ht1, hg1⟩
  go_wp2
  all_goals go_ret
  all_goals exact ⟨_, rfl, ht1, hg1⟩
end Go.Proofs.Ytnkmhbiklffjlaa
