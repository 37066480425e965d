/- fundadminref04.check, far, divide: walked. -/
import Derived.Test.YtnkmhbiklffjlaaApN
import Derived.Test.YtnkmhbiklffjlaaBiQ
import Derived.Test.YtnkmhbiklffjlaaBiH
set_option linter.unusedVariables false
set_option linter.unusedSimpArgs false
namespace Go.Proofs.Ytnkmhbiklffjlaa
open Go.RowKit Ap

theorem Row.below {w w' : World} {d off : Nat} {l : List Int} (h : Row w d off l) (hb : Below w.heap.size w w') (hd : d < w.heap.size) : Row w' d off l :=
  ⟨fun k x hk => cell_up (h.1 k x hk) hb, fun o => by rw [hb.frozen (by simpa using hd)]; exact h.2 o⟩
/-! ### the parts and the rests when the first j of the order have got theirs -/
def partJ (t : Nat) (ws o : List Nat) (j i : Nat) : Nat := quo t ws i + if i ∈ o.take j then 1 else 0
def restJ (t : Nat) (ws o : List Nat) (j i : Nat) : Int := if i ∈ o.take j then -1 else (Ap.rest t ws i : Int)
def partsJ (n t : Nat) (ws o : List Nat) (j : Nat) : List Int := (List.range n).map fun i => (partJ t ws o j i : Int)
def restsJ (n t : Nat) (ws o : List Nat) (j : Nat) : List Int := (List.range n).map fun i => restJ t ws o j i
theorem partsJ_get {n t i : Nat} {ws o : List Nat} {j : Nat} (h : i < n) : (partsJ n t ws o j)[i]? = some (partJ t ws o j i : Int) := by unfold partsJ; simp [h]
theorem restsJ_get {n t i : Nat} {ws o : List Nat} {j : Nat} (h : i < n) : (restsJ n t ws o j)[i]? = some (restJ t ws o j i) := by unfold restsJ; simp [h]
theorem partsJ_zero (n t : Nat) (ws o : List Nat) : partsJ n t ws o 0 = fillL n (quo t ws) n := by
  unfold partsJ fillL
  apply List.map_congr_left
  intro i hi
  have := List.mem_range.1 hi
  simp [partJ, this]
theorem restsJ_zero (n t : Nat) (ws o : List Nat) : restsJ n t ws o 0 = fillL n (Ap.rest t ws) n := by
  unfold restsJ fillL
  apply List.map_congr_left
  intro i hi
  have := List.mem_range.1 hi
  simp [restJ, this]
theorem mem_take_succ {o : List Nat} {j x i : Nat} (hx : o[j]? = some x) : i ∈ o.take (j + 1) ↔ i ∈ o.take j ∨ i = x := by
  rw [List.take_add_one, hx]; simp
theorem not_in_take {o : List Nat} (hn : o.Nodup) {j x : Nat} (hx : o[j]? = some x) : x ∉ o.take j := by
  intro h
  obtain ⟨k, hk, he⟩ := List.getElem_of_mem h
  have hkj : k < j := by simp at hk; omega
  have hj := (List.getElem?_eq_some_iff.1 hx).1
  rw [List.getElem_take] at he
  have := (List.getElem?_eq_some_iff.1 hx).2
  exact List.pairwise_iff_getElem.1 hn k j (by omega) hj hkj (by rw [he, this])
theorem partJ_at {t : Nat} {ws o : List Nat} (hn : o.Nodup) {j x : Nat} (hx : o[j]? = some x) : partJ t ws o j x = quo t ws x := by
  unfold partJ; rw [if_neg (not_in_take hn hx)]; rfl
theorem partsJ_set {n t : Nat} {ws o : List Nat} (hn : o.Nodup) {j x : Nat} (hx : o[j]? = some x) : (partsJ n t ws o j).set x ((quo t ws x : Int) + 1) = partsJ n t ws o (j + 1) := by
  apply List.ext_getElem?
  intro i
  by_cases hi : i < n
  · rw [partsJ_get hi]
    by_cases e : x = i
    · subst e
      rw [List.getElem?_set_self (by unfold partsJ; simpa using hi)]
      unfold partJ; rw [if_pos ((mem_take_succ hx).2 (.inr rfl))]; simp
    · rw [List.getElem?_set_ne e, partsJ_get hi]
      unfold partJ
      congr 3
      simp only [mem_take_succ hx, eq_iff_iff]
      by_cases h : i ∈ o.take j <;> simp [h]; omega
  · rw [List.getElem?_eq_none (by unfold partsJ; simp; omega), List.getElem?_eq_none (by unfold partsJ; simp; omega)]
theorem restsJ_set {n t : Nat} {ws o : List Nat} {j x : Nat} (hx : o[j]? = some x) : (restsJ n t ws o j).set x (-1) = restsJ n t ws o (j + 1) := by
  apply List.ext_getElem?
  intro i
  by_cases hi : i < n
  · rw [restsJ_get hi]
    by_cases e : x = i
    · subst e
      rw [List.getElem?_set_self (by unfold restsJ; simpa using hi)]
      unfold restJ; rw [if_pos ((mem_take_succ hx).2 (.inr rfl))]
    · rw [List.getElem?_set_ne e, restsJ_get hi]
      unfold restJ
      have : (i ∈ o.take (j + 1)) = (i ∈ o.take j) := by
        simp only [mem_take_succ hx, eq_iff_iff]
        exact ⟨fun h => h.resolve_right (fun h => e h.symm), .inl⟩
      simp only [this]
  · rw [List.getElem?_eq_none (by unfold restsJ; simp; omega), List.getElem?_eq_none (by unfold restsJ; simp; omega)]
/-- the first greatest rest is the next of the order -/
theorem best_is {n t : Nat} {ws o : List Nat} (hp : o.Perm (List.range n)) (ho : o.Pairwise (R (Ap.rest t ws))) {j x b : Nat} (hx : o[j]? = some x) (hb : b < n) (h1 : ∀ i, i < n → restJ t ws o j i ≤ restJ t ws o j b) (h2 : ∀ i, i < b → restJ t ws o j i < restJ t ws o j b) : b = x := by
  have hn : o.Nodup := hp.nodup_iff.2 List.nodup_range
  have hxn : x < n := List.mem_range.1 (hp.mem_iff.1 (List.mem_of_getElem? hx))
  have hxr : restJ t ws o j x = (Ap.rest t ws x : Int) := by unfold restJ; rw [if_neg (not_in_take hn hx)]
  have hbt : b ∉ o.take j := fun hc => by
    have := h1 x hxn
    rw [hxr] at this
    unfold restJ at this
    rw [if_pos hc] at this
    omega
  have hbr : restJ t ws o j b = (Ap.rest t ws b : Int) := by unfold restJ; rw [if_neg hbt]
  have hbo : b ∈ o := hp.mem_iff.2 (List.mem_range.2 hb)
  obtain ⟨k, hk, hke⟩ := List.getElem_of_mem hbo
  have hj := (List.getElem?_eq_some_iff.1 hx).1
  have hjx := (List.getElem?_eq_some_iff.1 hx).2
  have hkj : j ≤ k := by
    rcases Nat.lt_or_ge k j with h | h
    · exact absurd (by rw [← hke]; exact List.mem_take_iff_getElem.2 ⟨k, by omega, rfl⟩) hbt
    · exact h
  rcases Nat.lt_or_ge j k with h | h
  · have hR := List.pairwise_iff_getElem.1 ho j k hj hk h
    rw [hjx, hke] at hR
    have e1 := h1 x hxn
    rw [hxr, hbr] at e1
    rcases hR with hR | ⟨hR1, hR2⟩
    · omega
    · have := h2 x hR2
      rw [hxr, hbr] at this
      omega
  · have : j = k := by omega
    subst this
    rw [← hke, hjx]
theorem partsJ_full {n t : Nat} {ws o p : List Nat} (hl : p.length = n) (hv : ∀ i, i < n → p.getD i 0 = quo t ws i + if i ∈ o.take (miss t ws) then 1 else 0) : partsJ n t ws o (miss t ws) = p.map Int.ofNat := by
  apply List.ext_getElem?
  intro i
  by_cases hi : i < n
  · rw [partsJ_get hi, List.getElem?_map, List.getElem?_eq_getElem (by omega)]
    have := hv i hi
    unfold partJ
    rw [← this]
    simp [List.getD, List.getElem?_eq_getElem (show i < p.length by omega)]
  · rw [List.getElem?_eq_none (by unfold partsJ; simp; omega), List.getElem?_eq_none (by simp; omega)]

/-- what divide has laid: the parts, the rests -/
def Laid2 (w wx : World) (b7 bR : Nat) (l7 lR : List Int) : Prop := Row wx b7 0 l7 ∧ Row wx bR 0 lR ∧ b7 ≠ bR ∧ w.heap.size ≤ b7 ∧ w.heap.size ≤ bR ∧ b7 < wx.heap.size ∧ bR < wx.heap.size ∧ Below w.heap.size w wx
section
variable {w wx : World} {b7 bR : Nat} {l7 lR : List Int}
theorem Laid2.set7 (h : Laid2 w wx b7 bR l7 lR) (k : Nat) (x : Int) : Laid2 w (wx.setCell ⟨b7, k, none⟩ (.int .i64 x)) b7 bR (l7.set k x) lR := by
  obtain ⟨h1, h2, h3, h4, h5, h6, h7, h8⟩ := h
  exact ⟨h1.set0 k x, h2.setOther _ _ (by simpa using h3), h3, h4, h5, by simpa using h6, by simpa using h7, below_set h8 _ _ (by simpa using h4)⟩
theorem Laid2.setR (h : Laid2 w wx b7 bR l7 lR) (k : Nat) (x : Int) : Laid2 w (wx.setCell ⟨bR, k, none⟩ (.int .i64 x)) b7 bR l7 (lR.set k x) := by
  obtain ⟨h1, h2, h3, h4, h5, h6, h7, h8⟩ := h
  exact ⟨h1.setOther _ _ (by simpa using Ne.symm h3), h2.set0 k x, h3, h4, h5, by simpa using h6, by simpa using h7, below_set h8 _ _ (by simpa using h5)⟩
theorem Laid2.below {wy : World} (h : Laid2 w wx b7 bR l7 lR) (hb : Below wx.heap.size wx wy) : Laid2 w wy b7 bR l7 lR := by
  obtain ⟨h1, h2, h3, h4, h5, h6, h7, h8⟩ := h
  exact ⟨h1.below hb h6, h2.below hb h7, h3, h4, h5, Nat.lt_of_lt_of_le h6 hb.size, Nat.lt_of_lt_of_le h7 hb.size, h8.trans (hb.mono h8.size)⟩
theorem Laid2.drewN (h : Laid2 w wx b7 bR l7 lR) (q : Nat) : Laid2 w (wx.drewN q) b7 bR l7 lR := h.below (below_drewN (Below.refl _ _) q)
end
set_option maxRecDepth 100000 in
set_option maxHeartbeats 8000000 in
theorem divide4_any (t s n : Nat) (ws p : List Nat) (v : Value) (w : World) (hv : Reads w 1 v n (cellsN ws)) (hn : ws.length = n) (h0 : 1 ≤ n) (hbig : n ≤ 19) (hs : s = sumL ws) (hpos : 0 < s) (hs2 : s ≤ 4000000000000000000) (ht : t ≤ 4000000000000000000) (hp : Parts t ws p) :
    Calls Try.prog 31 #[.int .i64 t, v, .int .i64 s] w fun e w' => ∃ g, w.heap.size ≤ g ∧ g < w'.heap.size ∧ e = .returned (.slice (some ⟨g, 0, none⟩) n n) ∧ Row w' g 0 (p.map Int.ofNat) ∧ Below w.heap.size w w' := by
  obtain ⟨gv, off, cap, rfl, hc⟩ := hv.some (by omega)
  obtain ⟨o, hperm, hord, hpl, hpv⟩ := hp
  have hmk := run_make_row' (P := Try.prog) 22 3 (.int .i64 0) 8 Try.underlying22 Try.info3 rfl .i64 .i64 n (by omega) (by omega)
  have HC := Lib.hid hc
  have HS := Lib.hid (And.intro hs (And.intro hpos (And.intro hs2 ht)))
  have HN := Lib.hid hn
  have HP := Lib.hid (And.intro hperm (And.intro hord (And.intro hpl hpv)))
  clear hv hc hs hpos hs2 ht hn hperm hord hpl hpv
  obtain ⟨B0, hB0⟩ : ∃ B, B = w.heap.size := ⟨_, rfl⟩
  obtain ⟨B1, hB1⟩ : ∃ B, B = w.heap.size + 1 := ⟨_, rfl⟩
  obtain ⟨w0, hw0⟩ : ∃ w0, w0 = (w.alloc (.cells (madeCells #[.int .i64 0] n) 3)).alloc (.cells (madeCells #[.int .i64 0] n) 3) := ⟨_, rfl⟩
  have HL0 := Lib.hid (show Laid2 w w0 B0 B1 (List.replicate n 0) (List.replicate n 0) by
    rw [hw0]
    refine ⟨(row_made _ _ _ _ hB0).alloc _ (by rw [hB0]; simp), row_made _ _ _ _ (by simp [hB1]), by omega, by omega, by omega, by simp; omega, by simp; omega, ((Below.refl _ _).alloc (Nat.le_refl _) _).alloc (by simp) _⟩)
  go_enter Try.func31, Try.ntmps31
  go_wp2
  rw [← hw0, ← hB1, ← hB0]
  have HBE := Lib.hid (And.intro hB0 hB1)
  clear hw0 hB0 hB1
  go_loopg [9, 10] n (fun m mv kv wr => ∃ k : Nat, kv = .int .i64 k ∧ k ≤ n ∧ n ≤ m + k ∧ mv = .int .i64 ((t - sumL ((List.range k).map (quo t ws)) : Nat) : Int) ∧ Laid2 w wr B0 B1 (fillL n (quo t ws) k) (fillL n (Ap.rest t ws) k))
  case atStart => exact ⟨0, rfl, by omega, by omega, by simp [sumL], by rw [fillL_zero, fillL_zero]; exact HL0.out⟩
  case round =>
    obtain ⟨k, rfl, hk, hm, rfl, hlaid⟩ := hrel
    have HL := Lib.hid hlaid
    clear hlaid
    by_cases hkn : k < n
    · obtain ⟨x, hx⟩ : ∃ x, x = ws.getD k 0 := ⟨_, rfl⟩
      have hxl : ws[k]? = some x := by rw [hx]; have := HN.out; simp [List.getD, this, hkn]
      have hgv : gv < w.heap.size := World.block_lt_of_cell? w _ (HC.out k (.int .i64 (x : Int)) (by simp [cellsN, hxl]))
      have hcx : wr.cell? ⟨gv, off + k, none⟩ = some (.int .i64 (x : Int)) := by
        rw [HL.out.2.2.2.2.2.2.2.cell (p := ⟨gv, off + k, none⟩) hgv]
        exact HC.out k _ (by simp [cellsN, hxl])
      have hxs : x ≤ s := by have := HS.out.1; rw [this]; exact sumL_mem (List.mem_of_getElem? hxl)
      obtain ⟨qk, hqk⟩ : ∃ qk, qk = quo t ws k := ⟨_, rfl⟩
      obtain ⟨rk, hrk⟩ : ∃ rk, rk = Ap.rest t ws k := ⟨_, rfl⟩
      have eq1 : qk = t * x / s := by rw [hqk]; unfold quo; rw [HS.out.1, hx]
      have eq2 : rk = t * x % s := by rw [hrk]; unfold Ap.rest; rw [HS.out.1, hx]
      have hqt : qk ≤ t := by rw [eq1]; exact Nat.div_le_of_le_mul (by rw [Nat.mul_comm s]; exact Nat.mul_le_mul_left _ hxs)
      have HSH := Lib.hid (fun W => quota4_is t x s qk rk W (by have := HS.out; omega) (by have := HS.out; omega) (by have := HS.out; omega) (by have := HS.out; omega) (by have := HS.out; omega) eq1 eq2)
      have HQ := Lib.hid (And.intro hqk (And.intro hrk hqt))
      clear hx hxl hgv hxs hqk hrk eq1 eq2 hqt
      go_wp2_with fail
      refine (HSH.out _).mono ?_
      rintro e w5 ⟨rfl, hb5⟩
      have HL5 := Lib.hid (HL.out.below hb5)
      have c7 : w5.cell? ⟨B0, k, none⟩ = some (.int .i64 0) := by have := HL5.out.1.1 k 0 (by rw [fillL_get _ _ _ _ hkn]; simp); simpa using this
      have cR : w5.cell? ⟨B1, k, none⟩ = some (.int .i64 0) := by have := HL5.out.2.1.1 k 0 (by rw [fillL_get _ _ _ _ hkn]; simp); simpa using this
      have f7 := HL5.out.1.2
      have fR := HL5.out.2.1.2
      have n7R : ¬ B0 = B1 := HL5.out.2.2.1
      obtain ⟨M, hM⟩ : ∃ M, M = t - sumL ((List.range k).map (quo t ws)) := ⟨_, rfl⟩
      obtain ⟨M2, hM2⟩ : ∃ M2, M2 = t - sumL ((List.range (k + 1)).map (quo t ws)) := ⟨_, rfl⟩
      have hMM : M = M2 + qk ∧ M ≤ 4000000000000000000 := by
        have h1 := sum_range_succ (quo t ws) k
        have h2 := sum_range_le (quo t ws) n (k + 1) (by omega)
        have h3 := (miss_eq t ws (by have := HS.out; omega)).1
        rw [HN.out] at h3
        have := HQ.out.1
        have := HS.out
        omega
      rw [← hM]
      have w1 : IntKind.i64.wrap ((M : Int) - (qk : Int)) = (M2 : Int) := by rw [IntWalk.i64_in _ (by omega)]; omega
      have HMM := Lib.hid (And.intro hM2 hMM)
      have HNX := Lib.hid (show Laid2 w ((w5.setCell ⟨B0, k, none⟩ (.int .i64 (qk : Int))).setCell ⟨B1, k, none⟩ (.int .i64 (rk : Int))) B0 B1 (fillL n (quo t ws) (k + 1)) (fillL n (Ap.rest t ws) (k + 1)) by
        have h := (HL5.out.set7 k (qk : Int)).setR k (rk : Int)
        rw [HQ.out.1, HQ.out.2.1, fillL_set, fillL_set] at h
        rw [HQ.out.1, HQ.out.2.1]
        exact h)
      clear hb5 hcx hM hM2 hMM
      go_wp2
      go_roundg (gk - 1)
      case measure => omega
      case rel => exact ⟨k + 1, by go_num, by omega, by omega, by rw [← HMM.out.1], HNX.out⟩
    · have hk2 : k = n := by omega
      subst hk2
      obtain ⟨M, hM⟩ : ∃ M, M = t - sumL ((List.range k).map (quo t ws)) := ⟨_, rfl⟩
      have hM1 : M = miss t ws ∧ M ≤ k := by
        have e : M = miss t ws := by rw [hM]; unfold miss; rw [HN.out]
        refine ⟨e, ?_⟩
        have := miss_le t ws (by have := HS.out; omega)
        rw [HN.out] at this; omega
      rw [← hM]
      have HM := Lib.hid hM1
      have hMk := hM1.2
      clear hM hM1
      rw [← partsJ_zero k t ws o, ← restsJ_zero k t ws o] at HL
      go_wp2
      have HNE := Lib.hid (show o.length = k by rw [HP.out.1.length_eq, List.length_range]; exact HN.out)
      have HND := Lib.hid (show o.Nodup from HP.out.1.nodup_iff.2 List.nodup_range)
      go_loopg [9] M (fun m mv wq => ∃ j : Nat, j ≤ M ∧ M ≤ m + j ∧ mv = .int .i64 ((M - j : Nat) : Int) ∧ Laid2 w wq B0 B1 (partsJ k t ws o j) (restsJ k t ws o j))
      case atStart => exact ⟨0, by omega, by omega, rfl, HL.out⟩
      case round =>
        obtain ⟨j, hj, hmj, rfl, hlaid⟩ := hrel
        have HJ := Lib.hid hlaid
        clear hlaid
        by_cases hjM : j < M
        · obtain ⟨x, hx⟩ : ∃ x, o[j]? = some x := ⟨o[j]'(by have := HNE.out; omega), List.getElem?_eq_getElem _⟩
          have HX := Lib.hid hx
          have hxk : x < k := by
            have := List.mem_range.1 (HP.out.1.mem_iff.1 (List.mem_of_getElem? hx)); rw [HN.out] at this; exact this
          obtain ⟨D, hD⟩ : ∃ D, D = M - j := ⟨_, rfl⟩
          have hD0 : 0 < D := by omega
          have HD := Lib.hid hD
          rw [← hD]
          clear hx hD
          go_wp2
          obtain ⟨gk0, rfl⟩ : ∃ g, g = gk := ⟨gk, rfl⟩
          obtain ⟨w2, hw2⟩ : ∃ w2, w2 = wr := ⟨_, rfl⟩
          rw [← hw2] at HJ ⊢
          clear hw2
          have HDD := Lib.hid (And.intro hD0 (And.intro hmj hjM))
          clear hD0 hmj hjM hj
          go_loopg [11, 12] k (fun m bv iv wq => ∃ (b i : Nat), bv = .int .i64 (b : Int) ∧ iv = .int .i64 (i : Int) ∧ 1 ≤ i ∧ i ≤ k ∧ k ≤ m + i ∧ b < i ∧ (∀ a, a < i → restJ t ws o j a ≤ restJ t ws o j b) ∧ (∀ a, a < b → restJ t ws o j a < restJ t ws o j b) ∧ ∃ q, wq = w2.drewN q)
          case atStart => exact ⟨0, 1, rfl, rfl, by omega, by omega, by omega, by omega, fun a ha => by rw [show a = 0 by omega]; exact Int.le_refl _, fun a ha => by omega, 0, by cases w2; rfl⟩
          case round =>
            obtain ⟨b, i, rfl, rfl, hi1, hik, hmi, hbi, hb1, hb2, q, rfl⟩ := hrel
            have HBB := Lib.hid (And.intro hb1 hb2)
            clear hb1 hb2
            by_cases hin : i < k
            · obtain ⟨rb, hrb⟩ : ∃ r, r = restJ t ws o j b := ⟨_, rfl⟩
              obtain ⟨ri, hri⟩ : ∃ r, r = restJ t ws o j i := ⟨_, rfl⟩
              have cb : w2.cell? ⟨B1, b, none⟩ = some (.int .i64 rb) := by have := HJ.out.2.1.1 b rb (by rw [restsJ_get (by omega), hrb]); simpa using this
              have ci : w2.cell? ⟨B1, i, none⟩ = some (.int .i64 ri) := by have := HJ.out.2.1.1 i ri (by rw [restsJ_get hin, hri]); simpa using this
              have HRR := Lib.hid (And.intro hrb hri)
              clear hrb hri
              have hbk : b < k := by omega
              by_cases hlt : rb < ri
              · have HLT := Lib.hid hlt
                go_wp2
                go_quiet (fail)
                go_wp2
                go_roundg (gk - 1)
                case measure => omega
                case rel =>
                  refine ⟨i, i + 1, rfl, by go_num, by omega, by omega, by omega, by omega, fun a ha => ?_, fun a ha => ?_, _, rfl⟩
                  · rcases Nat.lt_or_ge a i with h | h
                    · have h1 := HBB.out.1 a h
                      have h2 := HLT.out
                      rw [HRR.out.1, HRR.out.2] at h2
                      omega
                    · rw [show a = i by omega]; exact Int.le_refl _
                  · have h1 := HBB.out.1 a ha
                    have h2 := HLT.out
                    rw [HRR.out.1, HRR.out.2] at h2
                    omega
              · have HLT := Lib.hid hlt
                go_wp2
                go_quiet (fail)
                go_wp2
                go_roundg (gk - 1)
                case measure => omega
                case rel =>
                  refine ⟨b, i + 1, rfl, by go_num, by omega, by omega, by omega, by omega, fun a ha => ?_, HBB.out.2, _, rfl⟩
                  rcases Nat.lt_or_ge a i with h | h
                  · exact HBB.out.1 a h
                  · rw [show a = i by omega]
                    have h2 := HLT.out
                    rw [HRR.out.1, HRR.out.2] at h2
                    omega
            · have hik2 : i = k := by omega
              have hbx : b = x := best_is (by have := HP.out.1; rwa [HN.out] at this) HP.out.2.1 HX.out (by omega) (fun a ha => HBB.out.1 a (by omega)) HBB.out.2
              subst hbx
              clear hik2 hi1 hik hmi hbi
              obtain ⟨qx, hqx⟩ : ∃ q, q = quo t ws b := ⟨_, rfl⟩
              have c7 : w2.cell? ⟨B0, b, none⟩ = some (.int .i64 (qx : Int)) := by
                have := HJ.out.1.1 b (qx : Int) (by rw [partsJ_get hxk, partJ_at HND.out HX.out, hqx]); simpa using this
              have cR : w2.cell? ⟨B1, b, none⟩ = some (.int .i64 (restJ t ws o j b)) := by
                have := HJ.out.2.1.1 b _ (restsJ_get hxk); simpa using this
              have f7 := HJ.out.1.2
              have fR := HJ.out.2.1.2
              have n7R : ¬ B0 = B1 := HJ.out.2.2.1
              have hqb : qx ≤ 4000000000000000000 := by
                have hb : quo t ws b ≤ t := by
                  unfold quo
                  refine Nat.div_le_of_le_mul ?_
                  rw [Nat.mul_comm (sumL ws)]
                  exact Nat.mul_le_mul_left _ (sumL_mem (getD_mem (by rw [HN.out]; exact hxk)))
                have := HS.out
                omega
              have wq1 : IntKind.i64.wrap ((qx : Int) + 1) = (qx : Int) + 1 := IntWalk.i64_in _ (by omega)
              obtain ⟨D2, hD2⟩ : ∃ D2, D = D2 + 1 := ⟨D - 1, by have := HDD.out; omega⟩
              have HD2 := Lib.hid hD2
              have hDb : D ≤ 19 := by have := HD.out; omega
              have wd : IntKind.i64.wrap ((D : Int) - 1) = (D2 : Int) := by rw [IntWalk.i64_in _ (by omega)]; omega
              have HNX := Lib.hid (show Laid2 w (((w2.drewN q).setCell ⟨B0, b, none⟩ (.int .i64 ((qx : Int) + 1))).setCell ⟨B1, b, none⟩ (.int .i64 (-1))) B0 B1 (partsJ k t ws o (j + 1)) (restsJ k t ws o (j + 1)) by
                have h := ((HJ.out.drewN q).set7 b ((qx : Int) + 1)).setR b (-1)
                rw [hqx, partsJ_set HND.out HX.out, restsJ_set HX.out] at h
                rw [hqx]; exact h)
              have HDX := Lib.hid (And.intro hqb hDb)
              clear hqx hqb hDb hD2
              go_wp2
              go_roundg (gk0 - 1)
              case measure => have := HDD.out; have := HD.out; omega
              case rel => exact ⟨j + 1, by have := HDD.out; omega, by have := HDD.out; omega, by rw [show M - (j + 1) = D2 by have := HD.out; have := HD2.out; omega], HNX.out⟩
        · have hjM2 : j = M := by omega
          subst hjM2
          have h0D : ¬ (0 : Int) < ((j - j : Nat) : Int) := by simp
          have HF := Lib.hid (show Row wr B0 0 (p.map Int.ofNat) by
            have := HJ.out.1
            rw [HM.out.1, partsJ_full (by rw [HP.out.2.2.1]; exact HN.out) (fun i hi => HP.out.2.2.2 i (by rw [HN.out]; exact hi))] at this
            exact this)
          rw [Nat.sub_self]
          go_wp2
          go_ret
          exact ⟨B0, by have := HBE.out; omega, HJ.out.2.2.2.2.2.1, rfl, HF.out, HJ.out.2.2.2.2.2.2.2⟩
end Go.Proofs.Ytnkmhbiklffjlaa
