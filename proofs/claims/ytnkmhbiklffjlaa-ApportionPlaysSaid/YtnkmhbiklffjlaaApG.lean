/- apportion.Spread's own division, apportion.mirrored, Split, Spread, Cap, walked. -/
import Derived.Test.YtnkmhbiklffjlaaApF
set_option linter.unusedVariables false
set_option linter.unusedSimpArgs false
namespace Go.Proofs.Ytnkmhbiklffjlaa
open Go.RowKit Ap

/-- a row of which the first k places are filled -/
def prefL (res : List Int) (n k : Nat) : List Int := res.take k ++ List.replicate (n - k) 0
theorem prefL_zero (res : List Int) (n : Nat) : prefL res n 0 = List.replicate n 0 := by simp [prefL]
theorem prefL_full (res : List Int) (n : Nat) (h : res.length = n) : prefL res n n = res := by unfold prefL; rw [← h, List.take_length]; simp
theorem prefL_set {res : List Int} {n k : Nat} {y : Int} (hk : k < n) (hy : res[k]? = some y) : (prefL res n k).set k y = prefL res n (k + 1) := by
  have hl := (List.getElem?_eq_some_iff.1 hy).1
  unfold prefL
  rw [show n - k = (n - (k + 1)) + 1 by omega, List.replicate_succ, set_mid _ _ _ _ _ (by rw [List.length_take]; omega), List.take_add_one, hy]
  simp
theorem prefL_get {res : List Int} {n k : Nat} (hk : k < n) (hl : res.length = n) : (prefL res n k)[k]? = some 0 := by
  unfold prefL
  rw [show n - k = (n - (k + 1)) + 1 by omega, List.replicate_succ, get_mid _ _ _ _ (by rw [List.length_take]; omega)]
theorem sumL_take_le (ws : List Nat) (k : Nat) : sumL (ws.take k) ≤ sumL ws := by
  conv => rhs; rw [← List.take_append_drop k ws]
  rw [sumL_app]; omega

set_option maxRecDepth 100000 in
set_option maxHeartbeats 4000000 in
theorem spread1_any (t s n : Nat) (ws : List Nat) (v : Value) (w : World) (hv : Reads w 1 v n (ws.map (fun (x : Nat) => Value.int .i64 (x : Int)))) (hn : ws.length = n) (h0 : 1 ≤ n) (hbig : n ≤ 1000) (hs : s = sumL ws) (hpos : 0 < s) (hs2 : s ≤ 4000000000000000000) (ht : t ≤ 1000000000000000) :
    Calls Try.prog 27 #[.int .i64 t, v, .int .i64 s] w fun e w' => ∃ g : Nat, w.heap.size ≤ g ∧ g < w'.heap.size ∧ e = .returned (.slice (some ⟨g, 0, none⟩) n n) ∧ Row w' g 0 (spreadL t s 0 0 ws) ∧ Below w.heap.size w w' := by
  obtain ⟨gv, off, cap, rfl, hc⟩ := hv.some (by omega)
  have hmk := run_make_row' (P := Try.prog) 22 3 (.int .i64 0) 8 Try.underlying22 Try.info3 rfl .i64 .i64 n (by omega) (by omega)
  have HC := Lib.hid hc
  have HS := Lib.hid (And.intro hs (And.intro hpos (And.intro hs2 ht)))
  have HN := Lib.hid hn
  obtain ⟨res, hres⟩ : ∃ res, res = spreadL t s 0 0 ws := ⟨_, rfl⟩
  have HRES := Lib.hid (show res = spreadL t s 0 0 ws ∧ res.length = n from ⟨hres, by rw [hres, spread_len, hn]⟩)
  rw [← hres]
  clear hv hc hs hpos hs2 ht hn hres
  go_enter Try.func27, Try.ntmps27
  go_wp2
  go_loopg [8, 9, 10, 11, 12, 13, 19] n (fun m cv bv iv xv sv rv kv wr => ∃ (k b c : Nat), kv = .int .i64 k ∧ cv = .int .i64 c ∧ bv = .int .i64 b ∧ k ≤ n ∧ n ≤ m + k ∧ c = sumL (ws.take k) ∧ b ≤ 1000000000000001 ∧ res.drop k = spreadL t s b c (ws.drop k) ∧ Row wr w.heap.size 0 (prefL res n k) ∧ w.heap.size < wr.heap.size ∧ Below w.heap.size w wr)
  case atStart => exact ⟨0, 0, 0, rfl, rfl, rfl, by omega, by omega, by simp [sumL], by omega, HRES.out.1, by rw [prefL_zero]; exact row_made _ _ _ _ rfl, by simp, (Below.refl _ _).alloc (Nat.le_refl _) _⟩
  case round =>
    obtain ⟨k, b, c, rfl, rfl, rfl, hk, hm, hcs, hb, hdrop, hrow, hsz, hbel⟩ := hrel
    have HR := Lib.hid (And.intro hcs (And.intro hdrop (And.intro hrow (And.intro hsz hbel))))
    clear hcs hdrop hrow hsz hbel
    by_cases hkn : k < n
    · obtain ⟨x, hxl⟩ : ∃ x, ws[k]? = some x := ⟨ws[k]'(by have := HN.out; omega), by have := HN.out; simp [this, hkn]⟩
      have hgv : gv < w.heap.size := World.block_lt_of_cell? w _ (HC.out k (.int .i64 (x : Int)) (by simp [hxl]))
      have hcx : wr.cell? ⟨gv, off + k, none⟩ = some (.int .i64 (x : Int)) := by
        rw [HR.out.2.2.2.2.cell (p := ⟨gv, off + k, none⟩) hgv]
        exact HC.out k _ (by simp [hxl])
      have htk : sumL (ws.take (k + 1)) = c + x := by rw [List.take_add_one, hxl, sumL_app, HR.out.1]; simp [sumL]
      have hcx2 : c + x ≤ s := by have := sumL_take_le ws (k + 1); rw [HS.out.1]; omega
      have hdk : ws.drop k = x :: ws.drop (k + 1) := by
        have hl : k < ws.length := by have := HN.out; omega
        rw [List.drop_eq_getElem_cons hl]; congr 1
        rw [List.getElem?_eq_getElem hl] at hxl; exact Option.some.inj hxl
      have hd := HR.out.2.1
      rw [hdk, spreadL] at hd
      have hrk : res[k]? = some (((rnd t s (c + x) : Nat) : Int) - (b : Int)) := by
        have : (res.drop k)[0]? = some (((rnd t s (c + x) : Nat) : Int) - (b : Int)) := by rw [hd]; rfl
        simpa using this
      have hdk1 : res.drop (k + 1) = spreadL t s (rnd t s (c + x)) (c + x) (ws.drop (k + 1)) := by
        have : (res.drop k).drop 1 = spreadL t s (rnd t s (c + x)) (c + x) (ws.drop (k + 1)) := by rw [hd]; rfl
        rw [List.drop_drop] at this; exact this
      have hsh := fun w2 => share_any t (c + x) s w2 HS.out.2.2.2 hcx2 HS.out.2.1 HS.out.2.2.1
      obtain ⟨so, hso⟩ : ∃ so, so = rnd t s (c + x) := ⟨_, rfl⟩
      obtain ⟨q, hq⟩ : ∃ q, q = t * (c + x) / s := ⟨_, rfl⟩
      obtain ⟨r, hr⟩ : ∃ r, r = t * (c + x) % s := ⟨_, rfl⟩
      rw [← hq, ← hr] at hsh
      rw [← hso] at hrk hdk1
      have hso2 : so = if s - r < r ∨ (r = s - r ∧ q % 2 = 1) then q + 1 else q := by rw [hso, hq, hr]; rfl
      have hqb : q ≤ 1000000000000000 := by
        have h1 : q ≤ t := by rw [hq]; exact Nat.div_le_of_le_mul (by rw [Nat.mul_comm s]; exact Nat.mul_le_mul_left _ hcx2)
        have := HS.out; omega
      have hrs : r < s := by rw [hr]; exact Nat.mod_lt _ HS.out.2.1
      have hs3 := HS.out.2.2.1
      obtain ⟨c2, hc2⟩ : ∃ c2, c2 = c + x := ⟨_, rfl⟩
      rw [← hc2] at hsh hdk1 htk hcx2
      have wc : IntKind.i64.wrap ((c : Int) + (x : Int)) = (c2 : Int) := by rw [IntWalk.i64_in _ (by omega)]; omega
      have HSH := Lib.hid hsh
      have HD := Lib.hid (And.intro hrk (And.intro hdk1 htk))
      have c7 : wr.cell? ⟨w.heap.size, k, none⟩ = some (.int .i64 0) := by have := HR.out.2.2.1.1 k 0 (prefL_get hkn HRES.out.2); simpa using this
      have f7 := HR.out.2.2.1.2
      obtain ⟨sr, hsr⟩ : ∃ sr, sr = s - r := ⟨_, rfl⟩
      have wsr : IntKind.i64.wrap ((s : Int) - (r : Int)) = (sr : Int) := by rw [IntWalk.i64_in _ (by omega)]; omega
      have wq : IntKind.i64.wrap ((q : Int) + 1) = ((q + 1 : Nat) : Int) := by rw [IntWalk.i64_in _ (by omega)]; omega
      rw [← hsr] at hso2
      have hq2 : (q : Int).tmod 2 = ((q % 2 : Nat) : Int) := by rw [Int.tmod_eq_emod_of_nonneg (by omega)]; omega
      have HSO := Lib.hid hso2
      have hsrb : sr ≤ 4000000000000000000 := by omega
      clear hxl hgv htk hcx2 hdk hd hrk hdk1 hsh hso hq hr hso2 hrs hs3 hc2 hsr
      by_cases p1 : sr < r
      · have p1' : (sr : Int) < r := by omega
        have hres : so = q + 1 := by rw [HSO.out]; rw [if_pos (.inl p1)]
        have wd : IntKind.i64.wrap (((q + 1 : Nat) : Int) - (b : Int)) = ((q + 1 : Nat) : Int) - (b : Int) := IntWalk.i64_in _ (by omega)
        have HRS := Lib.hid hres
        clear hres
        go_wp2_with (go_at_call 28; refine (HSH.out _).mono ?_; rintro e w' ⟨rfl, nn, rfl⟩)
        go_roundg (gk - 1)
        case measure => omega
        case rel =>
          refine ⟨k + 1, q + 1, c2, by go_num, by go_num, by go_num, by omega, by omega, HD.out.2.2.symm, by omega, by have := HD.out.2.1; rw [HRS.out] at this; exact this, ?_, by have := HR.out.2.2.2.1; simpa using this, ?_⟩
          · have h := (HR.out.2.2.1.drewN nn).set0 k (((q + 1 : Nat) : Int) - (b : Int))
            have hr2 := HD.out.1
            rw [HRS.out] at hr2
            rw [prefL_set hkn hr2] at h
            exact h
          · exact below_set (below_drewN HR.out.2.2.2.2 _) _ _ (Nat.le_refl _)
      · have p1' : ¬ (sr : Int) < r := by omega
        by_cases p2 : r = sr
        · subst p2
          by_cases p3 : q % 2 = 1
          · have p3' : (((q % 2 : Nat) : Int) == 1) = true := by rw [p3]; rfl
            have hres : so = q + 1 := by rw [HSO.out]; rw [if_pos (.inr ⟨rfl, p3⟩)]
            have wd : IntKind.i64.wrap (((q + 1 : Nat) : Int) - (b : Int)) = ((q + 1 : Nat) : Int) - (b : Int) := IntWalk.i64_in _ (by omega)
            have HRS := Lib.hid hres
            clear hres
            go_wp2_with (go_at_call 28; refine (HSH.out _).mono ?_; rintro e w' ⟨rfl, nn, rfl⟩)
            go_roundg (gk - 1)
            case measure => omega
            case rel =>
              refine ⟨k + 1, q + 1, c2, by go_num, by go_num, by go_num, by omega, by omega, HD.out.2.2.symm, by omega, by have := HD.out.2.1; rw [HRS.out] at this; exact this, ?_, by have := HR.out.2.2.2.1; simpa using this, ?_⟩
              · have h := (HR.out.2.2.1.drewN nn).set0 k (((q + 1 : Nat) : Int) - (b : Int))
                have hr2 := HD.out.1
                rw [HRS.out] at hr2
                rw [prefL_set hkn hr2] at h
                exact h
              · exact below_set (below_drewN HR.out.2.2.2.2 _) _ _ (Nat.le_refl _)
          · have p3' : (((q % 2 : Nat) : Int) == 1) = false := beq_eq_false_iff_ne.2 (by omega)
            have hres : so = q := by rw [HSO.out]; rw [if_neg (by omega)]
            have wd : IntKind.i64.wrap (((q : Nat) : Int) - (b : Int)) = ((q : Nat) : Int) - (b : Int) := IntWalk.i64_in _ (by omega)
            have HRS := Lib.hid hres
            clear hres
            go_wp2_with (go_at_call 28; refine (HSH.out _).mono ?_; rintro e w' ⟨rfl, nn, rfl⟩)
            go_roundg (gk - 1)
            case measure => omega
            case rel =>
              refine ⟨k + 1, q, c2, by go_num, by go_num, by go_num, by omega, by omega, HD.out.2.2.symm, by omega, by have := HD.out.2.1; rw [HRS.out] at this; exact this, ?_, by have := HR.out.2.2.2.1; simpa using this, ?_⟩
              · have h := (HR.out.2.2.1.drewN nn).set0 k (((q : Nat) : Int) - (b : Int))
                have hr2 := HD.out.1
                rw [HRS.out] at hr2
                rw [prefL_set hkn hr2] at h
                exact h
              · exact below_set (below_drewN HR.out.2.2.2.2 _) _ _ (Nat.le_refl _)
        · have p2' : ((r : Int) == (sr : Int)) = false := beq_eq_false_iff_ne.2 (by omega)
          have hres : so = q := by rw [HSO.out]; rw [if_neg (by omega)]
          have wd : IntKind.i64.wrap (((q : Nat) : Int) - (b : Int)) = ((q : Nat) : Int) - (b : Int) := IntWalk.i64_in _ (by omega)
          have HRS := Lib.hid hres
          clear hres
          go_wp2_with (go_at_call 28; refine (HSH.out _).mono ?_; rintro e w' ⟨rfl, nn, rfl⟩)
          go_roundg (gk - 1)
          case measure => omega
          case rel =>
            refine ⟨k + 1, q, c2, by go_num, by go_num, by go_num, by omega, by omega, HD.out.2.2.symm, by omega, by have := HD.out.2.1; rw [HRS.out] at this; exact this, ?_, by have := HR.out.2.2.2.1; simpa using this, ?_⟩
            · have h := (HR.out.2.2.1.drewN nn).set0 k (((q : Nat) : Int) - (b : Int))
              have hr2 := HD.out.1
              rw [HRS.out] at hr2
              rw [prefL_set hkn hr2] at h
              exact h
            · exact below_set (below_drewN HR.out.2.2.2.2 _) _ _ (Nat.le_refl _)
    · have hk2 : k = n := by omega
      have HP := Lib.hid (show prefL res n k = res by rw [hk2]; exact prefL_full _ _ HRES.out.2)
      go_wp2
      go_ret
      exact ⟨w.heap.size, Nat.le_refl _, HR.out.2.2.2.1, rfl, by have := HR.out.2.2.1; rw [HP.out] at this; exact this, HR.out.2.2.2.2⟩
end Go.Proofs.Ytnkmhbiklffjlaa
