/- apportion.mirrored, Split, Spread, Cap, walked. -/
import Derived.Test.YtnkmhbiklffjlaaApG
set_option linter.unusedVariables false
set_option linter.unusedSimpArgs false
namespace Go.Proofs.Ytnkmhbiklffjlaa
open Go.RowKit Ap

theorem checkL_ok (ws : List Nat) (hall : ∀ x ∈ ws, x ≤ 1000000000000000) : ∀ a : Int, checkL (ws.map Int.ofNat) a = some (a + (sumL ws : Nat)) := by
  induction ws with
  | nil => intro a; simp [checkL, sumL]
  | cons x ws ih =>
    intro a
    have hx := hall x (by simp)
    simp only [List.map_cons, checkL]
    rw [if_neg (by simp; omega), ih (fun y hy => hall y (by simp [hy]))]
    simp only [sumL]
    congr 1
    simp; omega
/-- valid weights in memory -/
structure Valid (w : World) (v : Value) (n : Nat) (ws : List Nat) : Prop where
  reads : Reads w 1 v n (ws.map (fun (x : Nat) => Value.int .i64 (x : Int)))
  len : ws.length = n
  pos : 1 ≤ n
  small : n ≤ 19
  all : ∀ x ∈ ws, x ≤ 1000000000000000
theorem Valid.below {w w' : World} {v : Value} {n : Nat} {ws : List Nat} (h : Valid w v n ws) (hb : Below w.heap.size w w') : Valid w' v n ws := ⟨h.reads.below hb, h.len, h.pos, h.small, h.all⟩
theorem Valid.sum {w : World} {v : Value} {n : Nat} {ws : List Nat} (h : Valid w v n ws) : sumL ws ≤ 19000000000000000 := by
  have := sumL_le h.all
  have := h.len
  have := h.small
  have : ws.length * 1000000000000000 ≤ 19 * 1000000000000000 := Nat.mul_le_mul_right _ (by omega)
  omega
theorem check_ok (n : Nat) (ws : List Nat) (v : Value) (w : World) (h : Valid w v n ws) :
    Calls Try.prog 25 #[v] w fun e w' => e = .returned (.tuple #[.int .i64 (sumL ws : Nat), .int .i64 0]) ∧ w = w' := by
  have hr : Reads w 1 v (ws.map Int.ofNat).length ((ws.map Int.ofNat).map (Value.int .i64)) := by
    have := h.reads
    rw [List.length_map, h.len, List.map_map]; exact this
  have he : checkR (ws.map Int.ofNat) = (((sumL ws : Nat) : Int), (0 : Int)) := by
    unfold checkR
    rw [List.length_map, h.len, if_neg (by have := h.pos; have := h.small; omega), checkL_ok ws h.all]
    simp
  have := check_any (ws.map Int.ofNat) v w hr
  rw [he] at this
  exact this

/-- what a division hands back: a new row, and no error -/
def OutP (good : Nat → List Nat → List Int → Prop) (t : Int) (n : Nat) (ws : List Nat) (w : World) (e : Ending) (w' : World) : Prop :=
  ∃ (g : Nat) (l : List Int), w.heap.size ≤ g ∧ g < w'.heap.size ∧ e = .returned (.tuple #[.slice (some ⟨g, 0, none⟩) n n, .int .i64 0]) ∧ good t.natAbs ws l ∧ Row w' g 0 (if t < 0 then l.map (- ·) else l) ∧ Below w.heap.size w w'
def GoodD (t : Nat) (ws : List Nat) (l : List Int) : Prop := ∃ p, Parts t ws p ∧ l = p.map Int.ofNat
def GoodS (t : Nat) (ws : List Nat) (l : List Int) : Prop := l = spreadL t (sumL ws) 0 0 ws
theorem GoodD.bd {t : Nat} {ws : List Nat} {l : List Int} (h : GoodD t ws l) (hs : 0 < sumL ws) (ht : t ≤ 1000000000000000) : l.length = ws.length ∧ ∀ x ∈ l, -10000000000000000 ≤ x ∧ x ≤ 10000000000000000 := by
  obtain ⟨p, hp, rfl⟩ := h
  have hsum := parts_sum hs hp
  obtain ⟨o, _, _, hl, _⟩ := hp
  refine ⟨by simp [hl], fun x hx => ?_⟩
  obtain ⟨y, hy, rfl⟩ := List.mem_map.1 hx
  have := sumL_mem hy
  constructor
  · have : (0 : Int) ≤ Int.ofNat y := Int.natCast_nonneg y
    omega
  · show (y : Int) ≤ _
    omega
theorem rnd_bd (t s c : Nat) (hc : c ≤ s) (hs : 0 < s) : rnd t s c ≤ t + 1 := by
  have h := (rnd_le t s c).2
  have : t * c / s ≤ t := Nat.div_le_of_le_mul (by rw [Nat.mul_comm s]; exact Nat.mul_le_mul_left _ hc)
  omega
theorem spreadL_bd (t s : Nat) (hs : 0 < s) (ht : t ≤ 1000000000000000) : ∀ (ws : List Nat) (b c : Nat), c + sumL ws ≤ s → b ≤ 1000000000000001 → ∀ x ∈ spreadL t s b c ws, -10000000000000000 ≤ x ∧ x ≤ 10000000000000000 := by
  intro ws
  induction ws with
  | nil => intro b c _ _ x hx; simp [spreadL] at hx
  | cons w ws ih =>
    intro b c hc hb x hx
    simp only [sumL] at hc
    have h1 := rnd_bd t s (c + w) (by omega) hs
    rcases List.mem_cons.1 hx with rfl | hx
    · omega
    · exact ih _ _ (by omega) (by omega) x hx
theorem GoodS.bd {t : Nat} {ws : List Nat} {l : List Int} (h : GoodS t ws l) (hs : 0 < sumL ws) (ht : t ≤ 1000000000000000) : l.length = ws.length ∧ ∀ x ∈ l, -10000000000000000 ≤ x ∧ x ≤ 10000000000000000 := by
  unfold GoodS at h
  subst h
  exact ⟨spread_len _ _ _ _ _, spreadL_bd t _ hs ht ws 0 0 (by omega) (by omega)⟩
theorem reads_row {w : World} {g n cap : Nat} {l : List Int} (h : Row w g 0 l) (hl : l.length = n) (hn : n ≤ 1000000) : Reads w 1 (.slice (some ⟨g, 0, none⟩) n cap) n (l.map (Value.int .i64)) := by
  refine ⟨by simp [hl], by omega, .inr ⟨g, 0, cap, rfl, fun j u hu => ?_⟩⟩
  rw [List.getElem?_map] at hu
  cases hx : l[j]? with
  | none => rw [hx] at hu; simp at hu
  | some x => rw [hx] at hu; have : u = .int .i64 x := by simpa using hu.symm
              rw [this]; exact h.1 j x hx

theorem divide_good (t n : Nat) (ws : List Nat) (v : Value) (w : World) (h : Valid w v n ws) (hpos : 0 < sumL ws) (ht : t ≤ 1000000000000000) :
    Calls Try.prog 24 #[.int .i64 t, v, .int .i64 (sumL ws : Nat)] w fun e w' => ∃ (g : Nat) (l : List Int), w.heap.size ≤ g ∧ g < w'.heap.size ∧ e = .returned (.slice (some ⟨g, 0, none⟩) n n) ∧ Row w' g 0 l ∧ GoodD t ws l ∧ Below w.heap.size w w' := by
  refine (divide_any t (sumL ws) n ws v w h.reads h.len h.pos h.small rfl hpos (by have := h.sum; omega) ht).mono ?_
  rintro e w' ⟨g, p, h1, h2, h3, h4, h5, h6⟩
  exact ⟨g, _, h1, h2, h3, h4, ⟨p, h5, rfl⟩, h6⟩
theorem spread_good (t n : Nat) (ws : List Nat) (v : Value) (w : World) (h : Valid w v n ws) (hpos : 0 < sumL ws) (ht : t ≤ 1000000000000000) :
    Calls Try.prog 27 #[.int .i64 t, v, .int .i64 (sumL ws : Nat)] w fun e w' => ∃ (g : Nat) (l : List Int), w.heap.size ≤ g ∧ g < w'.heap.size ∧ e = .returned (.slice (some ⟨g, 0, none⟩) n n) ∧ Row w' g 0 l ∧ GoodS t ws l ∧ Below w.heap.size w w' := by
  refine (spread1_any t (sumL ws) n ws v w h.reads h.len h.pos (by have := h.small; omega) rfl hpos (by have := h.sum; omega) ht).mono ?_
  rintro e w' ⟨g, h1, h2, h3, h4, h6⟩
  exact ⟨g, _, h1, h2, h3, h4, rfl, h6⟩

set_option maxRecDepth 100000 in
set_option maxHeartbeats 4000000 in
theorem mirD_any (t : Int) (n : Nat) (ws : List Nat) (v : Value) (w : World) (h : Valid w v n ws) (hpos : 0 < sumL ws) (ht1 : -1000000000000000 ≤ t) (ht2 : t ≤ 1000000000000000) :
    Calls Try.prog 23 #[.int .i64 t, v, .func (.func 24) #[] #[]] w (OutP GoodD t n ws w) := by
  have q1 : ¬ t < -1000000000000000 := by omega
  have q2 : ¬ 1000000000000000 < t := by omega
  have hsb := h.sum
  have hn19 := h.small
  have HV := Lib.hid h
  have HP := Lib.hid hpos
  have hlen := h.len
  have HLEN := Lib.hid hlen
  clear hlen h hpos
  obtain ⟨s, hs⟩ : ∃ s, s = sumL ws := ⟨_, rfl⟩
  have HCK := Lib.hid (check_ok n ws v w HV.out)
  have HD := Lib.hid (fun T hT => divide_good T n ws v w HV.out HP.out hT)
  rw [← hs] at HCK HD hsb
  have hs0 : ((s : Int) == 0) = false := beq_eq_false_iff_ne.2 (by have := HP.out; omega)
  have HS := Lib.hid hs
  clear hs
  by_cases ht : 0 ≤ t
  · obtain ⟨T, rfl⟩ := Int.eq_ofNat_of_zero_le ht
    have hT : T ≤ 1000000000000000 := by omega
    go_enter Try.func23, Try.ntmps23
    go_wp2_with (go_at_call 25; refine HCK.out.mono ?_; rintro e w' ⟨rfl, rfl⟩)
    refine (HD.out T hT).mono ?_
    rintro e w' ⟨g, l, h1, h2, rfl, h4, h5, h6⟩
    have HH := Lib.hid (And.intro h1 (And.intro h2 (And.intro h4 (And.intro h5 h6))))
    clear h1 h2 h4 h5 h6
    go_wp2
    go_ret2
    exact ⟨g, l, HH.out.1, HH.out.2.1, rfl, by have := HH.out.2.2.2.1; simpa using this, by rw [if_neg (by omega)]; exact HH.out.2.2.1, HH.out.2.2.2.2⟩
  · obtain ⟨T, hT0⟩ : ∃ T : Nat, -t = T := ⟨(-t).toNat, by omega⟩
    have hT : T ≤ 1000000000000000 := by omega
    have hneg : IntKind.i64.wrap (-t) = (T : Int) := by rw [IntWalk.i64_in _ (by omega)]; exact hT0
    have HT := Lib.hid (show t.natAbs = T ∧ t < 0 by omega)
    clear hT0
    go_enter Try.func23, Try.ntmps23
    go_wp2_with (go_at_call 25; refine HCK.out.mono ?_; rintro e w' ⟨rfl, rfl⟩)
    refine (HD.out T hT).mono ?_
    rintro e w' ⟨g, l, h1, h2, rfl, h4, h5, h6⟩
    have hbd := h5.bd HP.out hT
    have HH := Lib.hid (And.intro h1 (And.intro h2 (And.intro h4 (And.intro h5 h6))))
    have HB := Lib.hid hbd
    have HLL := Lib.hid (show l.length = n by rw [hbd.1]; exact HLEN.out)
    clear h1 h2 h4 h5 h6 hbd
    go_wp2
    go_loopg [11, 47] n (fun m iv kv wr => ∃ k : Nat, kv = .int .i64 k ∧ k ≤ n ∧ n ≤ m + k ∧ Row wr g 0 ((l.take k).map (- ·) ++ l.drop k) ∧ g < wr.heap.size ∧ Below w.heap.size w wr)
    case atStart => exact ⟨0, rfl, by omega, by omega, by simpa using HH.out.2.2.1, HH.out.2.1, HH.out.2.2.2.2⟩
    case round =>
      obtain ⟨k, rfl, hk, hm, hrow, hsz, hbel⟩ := hrel
      have HR := Lib.hid (And.intro hrow (And.intro hsz hbel))
      clear hrow hsz hbel
      by_cases hkn : k < n
      · obtain ⟨x, hx⟩ : ∃ x, l[k]? = some x := ⟨l[k]'(by have := HLL.out; omega), by have := HLL.out; simp [this, hkn]⟩
        have hdk : l.drop k = x :: l.drop (k + 1) := by
          have hl : k < l.length := by have := HLL.out; omega
          rw [List.drop_eq_getElem_cons hl]; congr 1
          rw [List.getElem?_eq_getElem hl] at hx; exact Option.some.inj hx
        have hlk : k = ((l.take k).map (- ·)).length := by rw [List.length_map, List.length_take]; have := HLL.out; omega
        have hrow := HR.out.1
        rw [hdk] at hrow
        have hcx : wr.cell? ⟨g, k, none⟩ = some (.int .i64 x) := by have := hrow.1 k x (get_mid _ _ _ _ hlk); simpa using this
        have f7 := hrow.2
        have hb := HB.out.2 x (List.mem_of_getElem? hx)
        have wn : IntKind.i64.wrap (-x) = -x := IntWalk.i64_in _ (by omega)
        have hset := hrow.set0 k (-x)
        rw [set_mid _ _ _ _ _ hlk] at hset
        have HN := Lib.hid (show (l.take (k + 1)).map (- ·) ++ l.drop (k + 1) = (l.take k).map (- ·) ++ (-x) :: l.drop (k + 1) by
          rw [List.take_add_one, hx]; simp)
        have HSET := Lib.hid hset
        clear hx hdk hlk hrow hset hb
        go_wp2
        go_roundg (gk - 1)
        case measure => omega
        case rel => exact ⟨k + 1, by go_num, by omega, by omega, by rw [HN.out]; exact HSET.out, by have := HR.out.2.1; simpa using this, below_set HR.out.2.2 _ _ HH.out.1⟩
      · have HK := Lib.hid (show (l.take k).map (- ·) ++ l.drop k = l.map (- ·) by
          have := HLL.out
          rw [List.take_of_length_le (by omega), List.drop_eq_nil_of_le (by omega)]; simp)
        go_wp2
        go_ret2
        exact ⟨g, l, HH.out.1, HR.out.2.1, rfl, by rw [HT.out.1]; exact HH.out.2.2.2.1, by rw [if_pos HT.out.2, ← HK.out]; exact HR.out.1, HR.out.2.2⟩

set_option maxRecDepth 100000 in
set_option maxHeartbeats 1000000 in
theorem split_any (t : Int) (n : Nat) (ws : List Nat) (v : Value) (w : World) (h : Valid w v n ws) (hpos : 0 < sumL ws) (ht1 : -1000000000000000 ≤ t) (ht2 : t ≤ 1000000000000000) :
    Calls Try.prog 10 #[.int .i64 t, v] w (OutP GoodD t n ws w) := by
  have HM := Lib.hid (mirD_any t n ws v w h hpos ht1 ht2)
  clear h hpos
  go_enter Try.func10, Try.ntmps10
  go_wp2_with fail
  refine HM.out.mono ?_
  rintro e w' ⟨g, l, h1, h2, rfl, h4, h5, h6⟩
  have HH := Lib.hid (show OutP GoodD t n ws w (.returned (.tuple #[.slice (some ⟨g, 0, none⟩) n n, .int .i64 0])) w' from ⟨g, l, h1, h2, rfl, h4, h5, h6⟩)
  clear h1 h2 h4 h5 h6
  go_wp2
  go_ret2
  exact HH.out

set_option maxRecDepth 100000 in
set_option maxHeartbeats 4000000 in
theorem mirS_any (t : Int) (n : Nat) (ws : List Nat) (v : Value) (w : World) (h : Valid w v n ws) (hpos : 0 < sumL ws) (ht1 : -1000000000000000 ≤ t) (ht2 : t ≤ 1000000000000000) :
    Calls Try.prog 23 #[.int .i64 t, v, .func (.func 27) #[] #[]] w (OutP GoodS t n ws w) := by
  have q1 : ¬ t < -1000000000000000 := by omega
  have q2 : ¬ 1000000000000000 < t := by omega
  have hsb := h.sum
  have hn19 := h.small
  have HV := Lib.hid h
  have HP := Lib.hid hpos
  have hlen := h.len
  have HLEN := Lib.hid hlen
  clear hlen h hpos
  obtain ⟨s, hs⟩ : ∃ s, s = sumL ws := ⟨_, rfl⟩
  have HCK := Lib.hid (check_ok n ws v w HV.out)
  have HD := Lib.hid (fun T hT => spread_good T n ws v w HV.out HP.out hT)
  rw [← hs] at HCK HD hsb
  have hs0 : ((s : Int) == 0) = false := beq_eq_false_iff_ne.2 (by have := HP.out; omega)
  have HS := Lib.hid hs
  clear hs
  by_cases ht : 0 ≤ t
  · obtain ⟨T, rfl⟩ := Int.eq_ofNat_of_zero_le ht
    have hT : T ≤ 1000000000000000 := by omega
    go_enter Try.func23, Try.ntmps23
    go_wp2_with (go_at_call 25; refine HCK.out.mono ?_; rintro e w' ⟨rfl, rfl⟩)
    refine (HD.out T hT).mono ?_
    rintro e w' ⟨g, l, h1, h2, rfl, h4, h5, h6⟩
    have HH := Lib.hid (And.intro h1 (And.intro h2 (And.intro h4 (And.intro h5 h6))))
    clear h1 h2 h4 h5 h6
    go_wp2
    go_ret2
    exact ⟨g, l, HH.out.1, HH.out.2.1, rfl, by have := HH.out.2.2.2.1; simpa using this, by rw [if_neg (by omega)]; exact HH.out.2.2.1, HH.out.2.2.2.2⟩
  · obtain ⟨T, hT0⟩ : ∃ T : Nat, -t = T := ⟨(-t).toNat, by omega⟩
    have hT : T ≤ 1000000000000000 := by omega
    have hneg : IntKind.i64.wrap (-t) = (T : Int) := by rw [IntWalk.i64_in _ (by omega)]; exact hT0
    have HT := Lib.hid (show t.natAbs = T ∧ t < 0 by omega)
    clear hT0
    go_enter Try.func23, Try.ntmps23
    go_wp2_with (go_at_call 25; refine HCK.out.mono ?_; rintro e w' ⟨rfl, rfl⟩)
    refine (HD.out T hT).mono ?_
    rintro e w' ⟨g, l, h1, h2, rfl, h4, h5, h6⟩
    have hbd := h5.bd HP.out hT
    have HH := Lib.hid (And.intro h1 (And.intro h2 (And.intro h4 (And.intro h5 h6))))
    have HB := Lib.hid hbd
    have HLL := Lib.hid (show l.length = n by rw [hbd.1]; exact HLEN.out)
    clear h1 h2 h4 h5 h6 hbd
    go_wp2
    go_loopg [11, 47] n (fun m iv kv wr => ∃ k : Nat, kv = .int .i64 k ∧ k ≤ n ∧ n ≤ m + k ∧ Row wr g 0 ((l.take k).map (- ·) ++ l.drop k) ∧ g < wr.heap.size ∧ Below w.heap.size w wr)
    case atStart => exact ⟨0, rfl, by omega, by omega, by simpa using HH.out.2.2.1, HH.out.2.1, HH.out.2.2.2.2⟩
    case round =>
      obtain ⟨k, rfl, hk, hm, hrow, hsz, hbel⟩ := hrel
      have HR := Lib.hid (And.intro hrow (And.intro hsz hbel))
      clear hrow hsz hbel
      by_cases hkn : k < n
      · obtain ⟨x, hx⟩ : ∃ x, l[k]? = some x := ⟨l[k]'(by have := HLL.out; omega), by have := HLL.out; simp [this, hkn]⟩
        have hdk : l.drop k = x :: l.drop (k + 1) := by
          have hl : k < l.length := by have := HLL.out; omega
          rw [List.drop_eq_getElem_cons hl]; congr 1
          rw [List.getElem?_eq_getElem hl] at hx; exact Option.some.inj hx
        have hlk : k = ((l.take k).map (- ·)).length := by rw [List.length_map, List.length_take]; have := HLL.out; omega
        have hrow := HR.out.1
        rw [hdk] at hrow
        have hcx : wr.cell? ⟨g, k, none⟩ = some (.int .i64 x) := by have := hrow.1 k x (get_mid _ _ _ _ hlk); simpa using this
        have f7 := hrow.2
        have hb := HB.out.2 x (List.mem_of_getElem? hx)
        have wn : IntKind.i64.wrap (-x) = -x := IntWalk.i64_in _ (by omega)
        have hset := hrow.set0 k (-x)
        rw [set_mid _ _ _ _ _ hlk] at hset
        have HN := Lib.hid (show (l.take (k + 1)).map (- ·) ++ l.drop (k + 1) = (l.take k).map (- ·) ++ (-x) :: l.drop (k + 1) by
          rw [List.take_add_one, hx]; simp)
        have HSET := Lib.hid hset
        clear hx hdk hlk hrow hset hb
        go_wp2
        go_roundg (gk - 1)
        case measure => omega
        case rel => exact ⟨k + 1, by go_num, by omega, by omega, by rw [HN.out]; exact HSET.out, by have := HR.out.2.1; simpa using this, below_set HR.out.2.2 _ _ HH.out.1⟩
      · have HK := Lib.hid (show (l.take k).map (- ·) ++ l.drop k = l.map (- ·) by
          have := HLL.out
          rw [List.take_of_length_le (by omega), List.drop_eq_nil_of_le (by omega)]; simp)
        go_wp2
        go_ret2
        exact ⟨g, l, HH.out.1, HR.out.2.1, rfl, by rw [HT.out.1]; exact HH.out.2.2.2.1, by rw [if_pos HT.out.2, ← HK.out]; exact HR.out.1, HR.out.2.2⟩

set_option maxRecDepth 100000 in
set_option maxHeartbeats 1000000 in
theorem spread_any (t : Int) (n : Nat) (ws : List Nat) (v : Value) (w : World) (h : Valid w v n ws) (hpos : 0 < sumL ws) (ht1 : -1000000000000000 ≤ t) (ht2 : t ≤ 1000000000000000) :
    Calls Try.prog 12 #[.int .i64 t, v] w (OutP GoodS t n ws w) := by
  have HM := Lib.hid (mirS_any t n ws v w h hpos ht1 ht2)
  clear h hpos
  go_enter Try.func12, Try.ntmps12
  go_wp2_with fail
  refine HM.out.mono ?_
  rintro e w' ⟨g, l, h1, h2, rfl, h4, h5, h6⟩
  have HH := Lib.hid (show OutP GoodS t n ws w (.returned (.tuple #[.slice (some ⟨g, 0, none⟩) n n, .int .i64 0])) w' from ⟨g, l, h1, h2, rfl, h4, h5, h6⟩)
  clear h1 h2 h4 h5 h6
  go_wp2
  go_ret2
  exact HH.out
end Go.Proofs.Ytnkmhbiklffjlaa
