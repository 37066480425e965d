/- ApportionFair, walked. -/
import Derived.Test.YtnkmhbiklffjlaaApK
set_option linter.unusedVariables false
set_option linter.unusedSimpArgs false
namespace Go.Proofs.Ytnkmhbiklffjlaa
open Go.RowKit Ap

/-- what the laws hold after their draws: a total, weights in memory -/
theorem wp_valid {w0 w : World} {v : Value} {ws : List Nat} (h1 : 1 ≤ ws.length) (h2 : ws.length ≤ 8) (h3 : ∀ x ∈ ws, x ≤ 1000000000000000) (h4 : w.ownsRow w0.heap.size 3 1 v ws.length (cellsN ws)) : Valid w v ws.length ws :=
  ⟨Reads.of_own h4, rfl, h1, by omega, h3⟩
theorem max_abs (T : Int) : max T (-T) = (T.natAbs : Int) := by omega
theorem reads_at {w : World} {v : Value} {n : Nat} {ws : List Nat} (h : Reads w 1 v n (cellsN ws)) (hn : 1 ≤ n) : ∃ g off cap, v = .slice (some ⟨g, off, none⟩) n cap ∧ ∀ (j x : Nat), ws[j]? = some x → w.cell? ⟨g, off + j, none⟩ = some (.int .i64 (x : Int)) := by
  obtain ⟨g, off, cap, hv, hc⟩ := h.some (by omega)
  exact ⟨g, off, cap, hv, fun j x hx => hc j _ (by unfold cellsN; rw [List.getElem?_map, hx]; rfl)⟩
theorem get_of {ws : List Nat} {i : Nat} (h : i < ws.length) : ws[i]? = some (ws.getD i 0) := by simp [List.getD, h]

set_option maxRecDepth 100000 in
set_option maxHeartbeats 4000000 in
theorem fair_any (a : Option Addr) (len cap : Nat) (z : List Int) (w : World) (hr : IsRow .i64 w a len cap z) :
    Calls Try.prog 6 #[.slice a len cap] w fun e w' => e = .returned (.bool true) ∧ Below w.heap.size w w' := by
  have ht0 := hr.tape 31
  clear hr
  go_enter Try.func6, Try.ntmps6
  go_wp2_with fail
  refine (weights_any w.heap.size 0 _ ht0 (by omega)).mono ?_
  rintro e w1 ⟨T, v, ws, at1, rfl, hl1, hl8, hall, hpos, hT1, hT2, hown, ht1, ha1, hg1⟩
  have hB1 := ((Below.refl w.heap.size w).alloc (Nat.le_refl _) (.cells #[.slice a len cap, .int .i64 0] 31)).trans (below_grownBy hg1 (Nat.le_refl _) (by simp))
  have HV := Lib.hid (wp_valid hl1 hl8 hall hown)
  have HB1 := Lib.hid hB1
  obtain ⟨N, hN⟩ : ∃ N : Nat, N = T.natAbs := ⟨_, rfl⟩
  have hmx := max_abs T
  rw [← hN] at hmx
  have hwn : IntKind.i64.wrap (-T) = -T := IntWalk.i64_in _ (by omega)
  have hNb : N ≤ 1000000000000000 := by omega
  have HPOS := Lib.hid hpos
  clear hT1 hT2 hown ht1 ha1 hg1 ht0 hB1 hN hall hpos
  go_wp2_with fail
  refine (split_any (N : Int) ws.length ws v w1 HV.out HPOS.out (by omega) (by omega)).mono ?_
  rintro e w2 ⟨g, l, k1, k2, rfl, ⟨p, hp, rfl⟩, k5, k6⟩
  rw [if_neg (by omega)] at k5
  rw [Int.natAbs_natCast] at hp
  have hpl : p.length = ws.length := by obtain ⟨o, _, _, h, _⟩ := hp; exact h
  have hps := parts_sum HPOS.out hp
  have HP := Lib.hid hp
  have HB2 := Lib.hid (HB1.out.trans (k6.mono HB1.out.size))
  obtain ⟨gl, ol, cl, rfl, hcl⟩ := reads_at (HV.out.reads.below k6) (by omega)
  have hca : ∀ j (x : Nat), p[j]? = some x → w2.cell? ⟨g, j, none⟩ = some (.int .i64 (x : Int)) := fun j x hx => by
    have := k5.1 j (Int.ofNat x) (by rw [List.getElem?_map, hx]; rfl); simpa using this
  have HPB := Lib.hid (show ∀ i, i < ws.length → p.getD i 0 ≤ N from fun i hi => by rw [← hps]; exact sumL_mem (getD_mem (by omega)))
  have HCL := Lib.hid hcl
  have HCA := Lib.hid hca
  have HPL := Lib.hid hpl
  clear k1 k2 hp k5 k6 hpl hps hcl hca
  obtain ⟨n, hn⟩ : ∃ n, n = ws.length := ⟨_, rfl⟩
  rw [← hn] at hl1 hl8 HPL ⊢
  have HN := Lib.hid hn
  clear hn
  go_wp2
  go_loopg [8, 9] n (fun m iv kv wr => ∃ i : Nat, iv = .int .i64 i ∧ i ≤ n ∧ n ≤ m + i ∧ ∃ q, wr = w2.drewN q)
  case atStart => exact ⟨0, rfl, by omega, by omega, 0, by cases w2; rfl⟩
  case round =>
    obtain ⟨i, rfl, hi, hm, q, rfl⟩ := hrel
    by_cases hin : i < n
    · obtain ⟨wi, hwi⟩ : ∃ wi, wi = ws.getD i 0 := ⟨_, rfl⟩
      obtain ⟨ai, hai⟩ : ∃ ai, ai = p.getD i 0 := ⟨_, rfl⟩
      have ci : w2.cell? ⟨gl, ol + i, none⟩ = some (.int .i64 (wi : Int)) := HCL.out i wi (by rw [hwi]; exact get_of (by rw [← HN.out]; exact hin))
      have di : w2.cell? ⟨g, i, none⟩ = some (.int .i64 (ai : Int)) := HCA.out i ai (by rw [hai]; exact get_of (by rw [HPL.out]; exact hin))
      have hz := fun (h : wi = 0) => parts_zero HPOS.out HP.out (i := i) (by rw [← HN.out]; exact hin) (by rw [← hwi]; exact h)
      rw [← hai] at hz
      have HWI := Lib.hid (And.intro hwi hai)
      have na : ¬ (ai : Int) < 0 := by omega
      by_cases hw0 : wi = 0
      · have haz : ((ai : Int) != 0) = false := by simp [hz hw0]
        have hwz : ((wi : Int) == 0) = true := by simp [hw0]
        clear hz hwi hai hw0
        go_wp2
        obtain ⟨gk0, rfl⟩ : ∃ m, m = gk := ⟨gk, rfl⟩
        go_loopg [9] n (fun m kv wr => ∃ k : Nat, kv = .int .i64 k ∧ k ≤ n ∧ n ≤ m + k ∧ ∃ q, wr = w2.drewN q)
        case atStart => exact ⟨0, rfl, by omega, by omega, _, rfl⟩
        case round =>
          obtain ⟨k, rfl, hk, hm2, q2, rfl⟩ := hrel
          by_cases hkn : k < n
          · obtain ⟨wk, hwk⟩ : ∃ wk, wk = ws.getD k 0 := ⟨_, rfl⟩
            obtain ⟨ak, hak⟩ : ∃ ak, ak = p.getD k 0 := ⟨_, rfl⟩
            have ck : w2.cell? ⟨gl, ol + k, none⟩ = some (.int .i64 (wk : Int)) := HCL.out k wk (by rw [hwk]; exact get_of (by rw [← HN.out]; exact hkn))
            have dk : w2.cell? ⟨g, k, none⟩ = some (.int .i64 (ak : Int)) := HCA.out k ak (by rw [hak]; exact get_of (by rw [HPL.out]; exact hkn))
            have hmono : wk < wi → ak ≤ ai := fun h => by
              have := parts_mono HPOS.out HP.out (i := i) (k := k) (by rw [← HN.out]; exact hin) (by rw [← HN.out]; exact hkn) (by rw [← hwk, ← HWI.out.1]; exact h)
              rw [← hak, ← HWI.out.2] at this; exact this
            have heq : wi = wk → ai ≤ ak + 1 := fun h => by
              have := parts_equal HPOS.out HP.out (i := i) (k := k) (by rw [← HN.out]; exact hin) (by rw [← HN.out]; exact hkn) (by rw [← hwk, ← HWI.out.1]; exact h)
              rw [← hak, ← HWI.out.2] at this; exact this
            have hakb : ak ≤ 1000000000000000 := by have := HPB.out k (by rw [← HN.out]; exact hkn); rw [← hak] at this; omega
            have wak : IntKind.i64.wrap ((ak : Int) + 1) = (ak : Int) + 1 := IntWalk.i64_in _ (by omega)
            clear hwk hak
            by_cases c1 : wk < wi
            · have hn1 : ¬ ai < ak := by have := hmono c1; omega
              have hn2 : ((wi : Int) == (wk : Int)) = false := beq_eq_false_iff_ne.2 (by omega)
              clear hmono heq
              go_wp2
              go_quiet (fail)
              go_wp2
              go_roundg (gk - 1)
              case measure => omega
              case rel => exact ⟨k + 1, by go_num, by omega, by omega, _, rfl⟩
            · by_cases c2 : wi = wk
              · have hn1 : ¬ (ak : Int) + 1 < ai := by have := heq c2; omega
                clear hmono heq c1
                subst c2
                go_wp2
                go_quiet (fail)
                go_wp2
                go_roundg (gk - 1)
                case measure => omega
                case rel => exact ⟨k + 1, by go_num, by omega, by omega, _, rfl⟩
              · have hn2 : ((wi : Int) == (wk : Int)) = false := beq_eq_false_iff_ne.2 (by omega)
                clear hmono heq c2
                go_wp2
                go_quiet (fail)
                go_wp2
                go_roundg (gk - 1)
                case measure => omega
                case rel => exact ⟨k + 1, by go_num, by omega, by omega, _, rfl⟩
          · go_wp2
            go_roundg (gk0 - 1)
            case measure => omega
            case rel => exact ⟨i + 1, by go_num, by omega, by omega, _, rfl⟩
      · have hwz : ((wi : Int) == 0) = false := beq_eq_false_iff_ne.2 (by omega)
        clear hz hwi hai hw0
        go_wp2
        obtain ⟨gk0, rfl⟩ : ∃ m, m = gk := ⟨gk, rfl⟩
        go_loopg [9] n (fun m kv wr => ∃ k : Nat, kv = .int .i64 k ∧ k ≤ n ∧ n ≤ m + k ∧ ∃ q, wr = w2.drewN q)
        case atStart => exact ⟨0, rfl, by omega, by omega, _, rfl⟩
        case round =>
          obtain ⟨k, rfl, hk, hm2, q2, rfl⟩ := hrel
          by_cases hkn : k < n
          · obtain ⟨wk, hwk⟩ : ∃ wk, wk = ws.getD k 0 := ⟨_, rfl⟩
            obtain ⟨ak, hak⟩ : ∃ ak, ak = p.getD k 0 := ⟨_, rfl⟩
            have ck : w2.cell? ⟨gl, ol + k, none⟩ = some (.int .i64 (wk : Int)) := HCL.out k wk (by rw [hwk]; exact get_of (by rw [← HN.out]; exact hkn))
            have dk : w2.cell? ⟨g, k, none⟩ = some (.int .i64 (ak : Int)) := HCA.out k ak (by rw [hak]; exact get_of (by rw [HPL.out]; exact hkn))
            have hmono : wk < wi → ak ≤ ai := fun h => by
              have := parts_mono HPOS.out HP.out (i := i) (k := k) (by rw [← HN.out]; exact hin) (by rw [← HN.out]; exact hkn) (by rw [← hwk, ← HWI.out.1]; exact h)
              rw [← hak, ← HWI.out.2] at this; exact this
            have heq : wi = wk → ai ≤ ak + 1 := fun h => by
              have := parts_equal HPOS.out HP.out (i := i) (k := k) (by rw [← HN.out]; exact hin) (by rw [← HN.out]; exact hkn) (by rw [← hwk, ← HWI.out.1]; exact h)
              rw [← hak, ← HWI.out.2] at this; exact this
            have hakb : ak ≤ 1000000000000000 := by have := HPB.out k (by rw [← HN.out]; exact hkn); rw [← hak] at this; omega
            have wak : IntKind.i64.wrap ((ak : Int) + 1) = (ak : Int) + 1 := IntWalk.i64_in _ (by omega)
            clear hwk hak
            by_cases c1 : wk < wi
            · have hn1 : ¬ ai < ak := by have := hmono c1; omega
              have hn2 : ((wi : Int) == (wk : Int)) = false := beq_eq_false_iff_ne.2 (by omega)
              clear hmono heq
              go_wp2
              go_quiet (fail)
              go_wp2
              go_roundg (gk - 1)
              case measure => omega
              case rel => exact ⟨k + 1, by go_num, by omega, by omega, _, rfl⟩
            · by_cases c2 : wi = wk
              · have hn1 : ¬ (ak : Int) + 1 < ai := by have := heq c2; omega
                clear hmono heq c1
                subst c2
                go_wp2
                go_quiet (fail)
                go_wp2
                go_roundg (gk - 1)
                case measure => omega
                case rel => exact ⟨k + 1, by go_num, by omega, by omega, _, rfl⟩
              · have hn2 : ((wi : Int) == (wk : Int)) = false := beq_eq_false_iff_ne.2 (by omega)
                clear hmono heq c2
                go_wp2
                go_quiet (fail)
                go_wp2
                go_roundg (gk - 1)
                case measure => omega
                case rel => exact ⟨k + 1, by go_num, by omega, by omega, _, rfl⟩
          · go_wp2
            go_roundg (gk0 - 1)
            case measure => omega
            case rel => exact ⟨i + 1, by go_num, by omega, by omega, _, rfl⟩
    · have hin2 : i = n := by omega
      clear hm
      go_wp2_with fail
      refine (known_any _).mono ?_
      rintro e w3 ⟨rfl, hb3⟩
      have HB3 := Lib.hid hb3
      clear hb3
      go_wp2
      go_ret
      exact ⟨rfl, (below_drewN HB2.out q).trans (HB3.out.mono HB2.out.size)⟩
end Go.Proofs.Ytnkmhbiklffjlaa
