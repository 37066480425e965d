/- fundadminref04.check, far, Split, Cap of valid weights: walked. -/
import Derived.Test.YtnkmhbiklffjlaaBiR
set_option linter.unusedVariables false
set_option linter.unusedSimpArgs false
namespace Go.Proofs.Ytnkmhbiklffjlaa
open Go.RowKit Ap

theorem take_sum {ws : List Nat} {k x : Nat} (hx : ws[k]? = some x) : sumL (ws.take (k + 1)) = sumL (ws.take k) + x := by
  rw [List.take_add_one, hx, sumL_app]; simp [sumL]
set_option maxRecDepth 100000 in
set_option maxHeartbeats 4000000 in
theorem check4_ok (n : Nat) (ws : List Nat) (v : Value) (w : World) (h : Valid w v n ws) :
    Calls Try.prog 29 #[v] w fun e w' => e = .returned (.tuple #[.int .i64 (sumL ws : Nat), .int .i64 0]) ∧ w = w' := by
  obtain ⟨g, off, cap, rfl, hc⟩ := h.reads.some (by have := h.pos; omega)
  have hsb := h.sum
  have h1 := h.pos
  have h2 := h.small
  have h00 : ((n : Int) == 0) = false := beq_eq_false_iff_ne.2 (by omega)
  have h1' : ¬ (512 : Int) < n := by omega
  have HV := Lib.hid h
  have HC := Lib.hid hc
  have HSB := Lib.hid hsb
  clear h hc hsb
  go_enter Try.func29, Try.ntmps29
  go_wp2
  go_loopg [4, 5] n (fun m sv iv wr => ∃ k : Nat, sv = .int .i64 ((sumL (ws.take k) : Nat) : Int) ∧ iv = .int .i64 k ∧ k ≤ n ∧ n ≤ m + k ∧ w = wr)
  case atStart => exact ⟨0, by simp [sumL], rfl, by omega, by omega, rfl⟩
  case round =>
    obtain ⟨k, rfl, rfl, hk, hm, rfl⟩ := hrel
    by_cases hkn : k < n
    · obtain ⟨x, hx⟩ : ∃ x, ws[k]? = some x := ⟨ws[k]'(by have := HV.out.len; omega), List.getElem?_eq_getElem _⟩
      have hcx : w.cell? ⟨g, off + k, none⟩ = some (.int .i64 (x : Int)) := HC.out k _ (by simp [hx])
      have hxb : x ≤ 1000000000000000 := HV.out.all x (List.mem_of_getElem? hx)
      have p1 : ¬ (x : Int) < 0 := by omega
      have p2 : ¬ (1000000000000000 : Int) < (x : Int) := by omega
      obtain ⟨s, hs⟩ : ∃ s, s = sumL (ws.take k) := ⟨_, rfl⟩
      obtain ⟨s2, hs2⟩ : ∃ s2, s2 = sumL (ws.take (k + 1)) := ⟨_, rfl⟩
      have hss : s2 = s + x := by rw [hs2, hs]; exact take_sum hx
      have hle : s2 ≤ 19000000000000000 := by rw [hs2]; exact Nat.le_trans (sumL_take_le ws (k + 1)) HSB.out
      have wq : IntKind.i64.wrap ((s : Int) + (x : Int)) = (s2 : Int) := by rw [IntWalk.i64_in _ (by omega)]; omega
      rw [← hs]
      have HS := Lib.hid hs2
      clear hx hxb hs hs2 hss hle
      go_wp2
      go_roundg (gk - 1)
      case measure => omega
      case rel => exact ⟨k + 1, by rw [← HS.out], by go_num, by omega, by omega, rfl⟩
    · have HE := Lib.hid (show sumL (ws.take k) = sumL ws by rw [List.take_of_length_le (by have := HV.out.len; omega)])
      go_wp2
      go_ret2
      exact ⟨by rw [HE.out]; rfl, rfl⟩
set_option maxRecDepth 100000 in
theorem far_ok (t : Int) (w : World) (h1 : -1000000000000000 ≤ t) (h2 : t ≤ 1000000000000000) : Calls Try.prog 30 #[.int .i64 t] w fun e w' => e = .returned (.bool false) ∧ w = w' := by
  have p1 : ¬ (1000000000000000 : Int) < t := by omega
  have p2 : ¬ t < -1000000000000000 := by omega
  clear h1 h2
  go_enter Try.func30, Try.ntmps30
  go_wp2
  go_ret
  exact ⟨rfl, rfl⟩
/-- what the reference's functions give: a row of their own -/
def OutR (n : Nat) (l : List Int) (w : World) (e : Ending) (w' : World) : Prop :=
  ∃ g, w.heap.size ≤ g ∧ g < w'.heap.size ∧ e = .returned (.tuple #[.slice (some ⟨g, 0, none⟩) n n, .int .i64 0]) ∧ Row w' g 0 l ∧ Below w.heap.size w w'
set_option maxRecDepth 100000 in
set_option maxHeartbeats 4000000 in
theorem split4_any (t : Int) (n : Nat) (ws p : List Nat) (L : List Int) (v : Value) (w : World) (hL : L = if t < 0 then (p.map Int.ofNat).map (- ·) else p.map Int.ofNat) (h : Valid w v n ws) (hpos : 0 < sumL ws) (ht1 : -1000000000000000 ≤ t) (ht2 : t ≤ 1000000000000000) (hp : Parts t.natAbs ws p) :
    Calls Try.prog 14 #[.int .i64 t, v] w (OutR n L w) := by
  have HLD := Lib.hid hL
  clear hL
  have hsb := h.sum
  have hn19 := h.small
  have HV := Lib.hid h
  have HP := Lib.hid hpos
  have hpl : p.length = n := by obtain ⟨o, _, _, h2, _⟩ := hp; rw [h2]; exact h.len
  have hpb : ∀ x ∈ p.map Int.ofNat, -10000000000000000 ≤ x ∧ x ≤ 10000000000000000 := (GoodD.bd (ws := ws) (t := t.natAbs) ⟨p, hp, rfl⟩ hpos (by omega)).2
  obtain ⟨s, hs⟩ : ∃ s, s = sumL ws := ⟨_, rfl⟩
  have HCK := Lib.hid (check4_ok n ws v w h)
  have HF := Lib.hid (fun W => far_ok t W ht1 ht2)
  have HD := Lib.hid (fun (T : Nat) (hT : t.natAbs = T) => divide4_any T s n ws p v w h.reads h.len h.pos h.small hs (by rw [hs]; exact hpos) (by rw [hs]; omega) (by omega) (hT ▸ hp))
  rw [← hs] at HCK hsb
  have hs0 : ((s : Int) == 0) = false := beq_eq_false_iff_ne.2 (by have := HP.out; omega)
  have HPL := Lib.hid hpl
  have HPB := Lib.hid hpb
  clear h hpos hs hp hpl hpb
  by_cases ht : 0 ≤ t
  · obtain ⟨T, rfl⟩ := Int.eq_ofNat_of_zero_le ht
    go_enter Try.func14, Try.ntmps14
    go_wp2_with fail
    refine HCK.out.mono ?_
    rintro e w' ⟨rfl, rfl⟩
    go_wp2_with fail
    refine (HF.out _).mono ?_
    rintro e w' ⟨rfl, rfl⟩
    go_wp2_with fail
    refine (HD.out T (by simp)).mono ?_
    rintro e w' ⟨g, h1, h2, rfl, h4, h5⟩
    have HH := Lib.hid (And.intro h1 (And.intro h2 (And.intro h4 h5)))
    clear h1 h2 h4 h5
    go_wp2
    go_ret2
    exact ⟨g, HH.out.1, HH.out.2.1, rfl, by rw [HLD.out, if_neg (by omega)]; exact HH.out.2.2.1, HH.out.2.2.2⟩
  · obtain ⟨T, hT0⟩ : ∃ T : Nat, -t = T := ⟨(-t).toNat, by omega⟩
    have hneg : IntKind.i64.wrap (-t) = (T : Int) := by rw [IntWalk.i64_in _ (by omega)]; exact hT0
    have HT := Lib.hid (show t.natAbs = T ∧ t < 0 by omega)
    clear hT0
    obtain ⟨l, hl⟩ : ∃ l, l = p.map Int.ofNat := ⟨_, rfl⟩
    rw [← hl] at HD HPB
    have HLL := Lib.hid (show l.length = n by rw [hl, List.length_map]; exact HPL.out)
    have HLE := Lib.hid hl
    clear hl
    go_enter Try.func14, Try.ntmps14
    go_wp2_with fail
    refine HCK.out.mono ?_
    rintro e w' ⟨rfl, rfl⟩
    go_wp2_with fail
    refine (HF.out _).mono ?_
    rintro e w' ⟨rfl, rfl⟩
    go_wp2_with fail
    refine (HD.out T HT.out.1).mono ?_
    rintro e w' ⟨g, h1, h2, rfl, h4, h5⟩
    have HH := Lib.hid (And.intro h1 (And.intro h2 (And.intro h4 h5)))
    clear h1 h2 h4 h5
    go_wp2
    go_loopg [9] n (fun m kv wr => ∃ k : Nat, kv = .int .i64 k ∧ k ≤ n ∧ n ≤ m + k ∧ Row wr g 0 ((l.take k).map (- ·) ++ l.drop k) ∧ g < wr.heap.size ∧ Below w.heap.size w wr)
    case atStart => exact ⟨0, rfl, by omega, by omega, by simpa using HH.out.2.2.1, HH.out.2.1, HH.out.2.2.2⟩
    case round =>
      obtain ⟨k, rfl, hk, hm, hrow, hsz, hbel⟩ := hrel
      have HR := Lib.hid (And.intro hrow (And.intro hsz hbel))
      clear hrow hsz hbel
      by_cases hkn : k < n
      · obtain ⟨x, hx⟩ : ∃ x, l[k]? = some x := ⟨l[k]'(by have := HLL.out; omega), by have := HLL.out; simp [this, hkn]⟩
        have hdk : l.drop k = x :: l.drop (k + 1) := by
          have hl : k < l.length := by have := HLL.out; omega
          rw [List.drop_eq_getElem_cons hl]; congr 1
          rw [List.getElem?_eq_getElem hl] at hx; exact Option.some.inj hx
        have hlk : k = ((l.take k).map (- ·)).length := by rw [List.length_map, List.length_take]; have := HLL.out; omega
        have hrow := HR.out.1
        rw [hdk] at hrow
        have hcx : wr.cell? ⟨g, k, none⟩ = some (.int .i64 x) := by have := hrow.1 k x (get_mid _ _ _ _ hlk); simpa using this
        have f7 := hrow.2
        have hb := HPB.out x (List.mem_of_getElem? hx)
        have wn : IntKind.i64.wrap (-x) = -x := IntWalk.i64_in _ (by omega)
        have hset := hrow.set0 k (-x)
        rw [set_mid _ _ _ _ _ hlk] at hset
        have HN := Lib.hid (show (l.take (k + 1)).map (- ·) ++ l.drop (k + 1) = (l.take k).map (- ·) ++ (-x) :: l.drop (k + 1) by
          rw [List.take_add_one, hx]; simp)
        have HSET := Lib.hid hset
        clear hx hdk hlk hrow hset hb
        go_wp2
        go_roundg (gk - 1)
        case measure => omega
        case rel => exact ⟨k + 1, by go_num, by omega, by omega, by rw [HN.out]; exact HSET.out, by have := HR.out.2.1; simpa using this, below_set HR.out.2.2 _ _ HH.out.1⟩
      · have HK := Lib.hid (show (l.take k).map (- ·) ++ l.drop k = l.map (- ·) by
          have := HLL.out
          rw [List.take_of_length_le (by omega), List.drop_eq_nil_of_le (by omega)]; simp)
        go_wp2
        go_ret2
        exact ⟨g, HH.out.1, HR.out.2.1, rfl, by rw [HLD.out, if_pos HT.out.2, ← HLE.out, ← HK.out]; exact HR.out.1, HR.out.2.2⟩

theorem parts_self (ws : List Nat) (hpos : 0 < sumL ws) : Parts (sumL ws) ws ws := by
  have hq : ∀ i, quo (sumL ws) ws i = ws.getD i 0 := fun i => by unfold quo; rw [Nat.mul_div_cancel_left _ hpos]
  have hr : ∀ i, Ap.rest (sumL ws) ws i = 0 := fun i => by unfold Ap.rest; rw [Nat.mul_mod_right]
  have hm : miss (sumL ws) ws = 0 := by
    have h := (miss_eq (sumL ws) ws hpos).2
    rw [show (List.range ws.length).map (Ap.rest (sumL ws) ws) = (List.range ws.length).map (fun _ => 0) from List.map_congr_left fun i _ => hr i] at h
    have h0 : sumL ((List.range ws.length).map fun _ => 0) = 0 := by
      rw [sumL_const (l := (List.range ws.length).map fun _ => 0) (c := 0) (fun x hx => by obtain ⟨_, _, rfl⟩ := List.mem_map.1 hx; rfl), Nat.mul_zero]
    rw [h0] at h
    rcases Nat.mul_eq_zero.1 h with h | h
    · exact h
    · omega
  refine ⟨List.range ws.length, List.Perm.refl _, ?_, rfl, fun i hi => by rw [hq, hm]; simp⟩
  refine List.pairwise_lt_range.imp fun h => .inr ⟨by rw [hr, hr], h⟩
set_option maxRecDepth 100000 in
set_option maxHeartbeats 4000000 in
theorem cap4_any (T n : Nat) (ws p : List Nat) (v : Value) (w : World) (h : Valid w v n ws) (hpos : 0 < sumL ws) (hT : T ≤ 1000000000000000) (hp : (sumL ws ≤ T ∧ p = ws) ∨ (T < sumL ws ∧ Parts T ws p)) :
    Calls Try.prog 15 #[.int .i64 (T : Int), v] w (OutR n (p.map Int.ofNat) w) := by
  have hsb := h.sum
  obtain ⟨s, hs⟩ : ∃ s, s = sumL ws := ⟨_, rfl⟩
  have HCK := Lib.hid (check4_ok n ws v w h)
  have HF := Lib.hid (fun W => far_ok (T : Int) W (by omega) (by omega))
  obtain ⟨M, hM⟩ : ∃ M, M = min T s := ⟨_, rfl⟩
  have hpm : Parts M ws p := by
    rcases hp with ⟨h1, rfl⟩ | ⟨h1, h2⟩
    · rw [hM, hs, Nat.min_eq_right h1]; exact parts_self p hpos
    · rw [hM, hs, Nat.min_eq_left (by omega)]; exact h2
  have HD := Lib.hid (divide4_any M s n ws p v w h.reads h.len h.pos h.small hs (by rw [hs]; exact hpos) (by rw [hs]; omega) (by omega) hpm)
  rw [← hs] at HCK hsb
  have hs0 : ((s : Int) == 0) = false := beq_eq_false_iff_ne.2 (by omega)
  have hmin : min (T : Int) (s : Int) = (M : Int) := by omega
  have q1 : ¬ (T : Int) < 0 := by omega
  have h1 := h.pos
  have h2 := h.small
  clear h hpos hs hp hpm hM
  go_enter Try.func15, Try.ntmps15
  go_wp2_with fail
  refine HCK.out.mono ?_
  rintro e w' ⟨rfl, rfl⟩
  go_wp2_with fail
  refine (HF.out _).mono ?_
  rintro e w' ⟨rfl, rfl⟩
  go_wp2_with fail
  refine HD.out.mono ?_
  rintro e w' ⟨g, h1, h2, rfl, h4, h5⟩
  have HH := Lib.hid (And.intro h1 (And.intro h2 (And.intro h4 h5)))
  clear h1 h2 h4 h5
  go_wp2
  go_ret2
  exact ⟨g, HH.out.1, HH.out.2.1, rfl, HH.out.2.2.1, HH.out.2.2.2⟩
set_option maxRecDepth 100000 in
theorem cap4_neg (t : Int) (n : Nat) (ws : List Nat) (v : Value) (w : World) (h : Valid w v n ws) (ht : t < 0) :
    Calls Try.prog 15 #[.int .i64 t, v] w fun e w' => e = .returned (.tuple #[.slice none 0 0, .int .i64 42]) ∧ w = w' := by
  have HCK := Lib.hid (check4_ok n ws v w h)
  clear h
  go_enter Try.func15, Try.ntmps15
  go_wp2_with fail
  refine HCK.out.mono ?_
  rintro e w' ⟨rfl, rfl⟩
  go_wp2
  go_ret2
  exact ⟨rfl, rfl⟩
set_option maxRecDepth 100000 in
theorem cap_neg (t : Int) (n : Nat) (ws : List Nat) (v : Value) (w : World) (h : Valid w v n ws) (ht : t < 0) :
    Calls Try.prog 11 #[.int .i64 t, v] w fun e w' => e = .returned (.tuple #[.slice none 0 0, .int .i64 42]) ∧ w = w' := by
  have HCK := Lib.hid (check_ok n ws v w h)
  clear h
  go_enter Try.func11, Try.ntmps11
  go_wp2_with fail
  refine HCK.out.mono ?_
  rintro e w' ⟨rfl, rfl⟩
  go_wp2
  go_ret2
  exact ⟨rfl, rfl⟩
end Go.Proofs.Ytnkmhbiklffjlaa
