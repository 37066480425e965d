/- ApportionCaps, walked. -/
import Derived.Test.YtnkmhbiklffjlaaApL
set_option linter.unusedVariables false
set_option linter.unusedSimpArgs false
namespace Go.Proofs.Ytnkmhbiklffjlaa
open Go.RowKit Ap

theorem capP_facts {T n : Nat} {ws p : List Nat} (hw : ws.length = n) (h : p.length = n ∧ ((sumL ws ≤ T ∧ p = ws) ∨ (T < sumL ws ∧ Parts T ws p))) : min (T : Int) (sumL ws : Nat) = ((sumL p : Nat) : Int) ∧ sumL p ≤ sumL ws ∧ ∀ i, i < n → p.getD i 0 ≤ ws.getD i 0 := by
  obtain ⟨hl, h⟩ := h
  rcases h with ⟨h1, rfl⟩ | ⟨h1, h2⟩
  · exact ⟨by omega, Nat.le_refl _, fun i hi => Nat.le_refl _⟩
  · have h3 := parts_sum (by omega) h2
    exact ⟨by omega, by omega, fun i hi => parts_cap (by omega) h2 h1 (by omega)⟩
theorem reads_cellsZ {w : World} {v : Value} {n : Nat} {ws : List Nat} (h : Reads w 1 v n (cellsN ws)) : Reads w 1 v n ((ws.map Int.ofNat).map (Value.int .i64)) := by
  unfold cellsN at h; rw [List.map_map]; exact h
theorem natbd {ws : List Nat} (h : ∀ x ∈ ws, x ≤ 1000000000000000) : ∀ x ∈ ws.map Int.ofNat, -10000000000000000 ≤ x ∧ x ≤ 10000000000000000 := by
  intro y hy
  obtain ⟨z, hz, rfl⟩ := List.mem_map.1 hy
  have := h z hz
  constructor
  · have : (0 : Int) ≤ Int.ofNat z := Int.natCast_nonneg z
    omega
  · show (z : Int) ≤ _
    omega
theorem totalN (n : Nat) (ws : List Nat) (v : Value) (w : World) (h : Reads w 1 v n (cellsN ws)) (hn : n ≤ 500) (hb : ∀ x ∈ ws, x ≤ 1000000000000000) :
    Calls Try.prog 19 #[v] w fun e w' => e = .returned (.int .i64 (sumL ws : Nat)) ∧ w = w' := by
  have := total_any n (ws.map Int.ofNat) v w (reads_cellsZ h) hn (natbd hb)
  rw [sumZ_nat] at this
  exact this

set_option maxRecDepth 100000 in
set_option maxHeartbeats 8000000 in
theorem caps_any (a : Option Addr) (len cap : Nat) (z : List Int) (w : World) (hr : IsRow .i64 w a len cap z) :
    Calls Try.prog 7 #[.slice a len cap] w fun e w' => e = .returned (.bool true) ∧ Below w.heap.size w w' := by
  have ht0 := hr.tape 31
  clear hr
  go_enter Try.func7, Try.ntmps7
  go_wp2_with fail
  refine (weights_any w.heap.size 0 _ ht0 (by omega)).mono ?_
  rintro e w1 ⟨T, v, ws, at1, rfl, hl1, hl8, hall, hpos, hT1, hT2, hown, ht1, ha1, hg1⟩
  have hB1 := ((Below.refl w.heap.size w).alloc (Nat.le_refl _) (.cells #[.slice a len cap, .int .i64 0] 31)).trans (below_grownBy hg1 (Nat.le_refl _) (by simp))
  obtain ⟨N, hN⟩ : ∃ N : Nat, N = T.natAbs := ⟨_, rfl⟩
  have hmx := max_abs T
  rw [← hN] at hmx
  have hwn : IntKind.i64.wrap (-T) = -T := IntWalk.i64_in _ (by omega)
  have hNb : N ≤ 1000000000000000 := by omega
  have HOWN := Lib.hid hown
  have HALL := Lib.hid hall
  clear hT1 hT2 hown hg1 ht0 hN hall hpos
  go_wp2_with fail
  refine (chance_any w.heap.size at1 1 5 _ ht1 (by omega) (by omega)).mono ?_
  rintro e w2 ⟨b, rfl, ht2, hg2⟩
  have HV := Lib.hid (wp_valid hl1 hl8 HALL.out (own_kept HOWN.out hg2 (by simp)))
  have HB1 := Lib.hid (hB1.trans (below_grownBy hg2 (Nat.le_refl _) hB1.size))
  clear hB1 hg2 ht1 ht2 ha1
  obtain ⟨gl, ol, cl, rfl, hcl⟩ := reads_at HV.out.reads (by omega)
  have HCL := Lib.hid hcl
  obtain ⟨n, hn⟩ : ∃ n, n = ws.length := ⟨_, rfl⟩
  rw [← hn] at hl1 hl8 HV ⊢
  have HN := Lib.hid hn
  clear hcl hn HOWN
  cases b
  case false =>
    have HVV := HV
    have HBB := HB1
    go_wp2_with fail
    refine (cap_any N n ws _ _ HVV.out hNb).mono ?_
    rintro e w3 ⟨vp, p, rfl, hrp, hb3, hcp⟩
    obtain ⟨hmin, hsle, hcap⟩ := capP_facts HVV.out.len hcp
    have hpl : p.length = n := hcp.1
    have HRP := Lib.hid hrp
    have HB3 := Lib.hid (HBB.out.trans (hb3.mono HBB.out.size))
    have hrl := HVV.out.reads.below hb3
    have HTP := Lib.hid (fun W h => totalN n p vp W h (by omega) (by
      intro x hx
      obtain ⟨i, hi, rfl⟩ := List.getElem_of_mem hx
      have h1 := hcap i (by omega)
      have h2 := HVV.out.all _ (getD_mem (l := ws) (i := i) (by rw [HVV.out.len]; omega))
      have h3 : p.getD i 0 = p[i] := by simp [List.getD, hi]
      omega))
    have HTL := Lib.hid (fun W h => totalN n ws (.slice (some ⟨gl, ol, none⟩) n cl) W h (by omega) HVV.out.all)
    have HRL := Lib.hid hrl
    obtain ⟨gp, op', cp, rfl, hcpc⟩ := reads_at hrp (by omega)
    obtain ⟨gq, oq, cq, hveq, hcq⟩ := reads_at hrl (by omega)
    have HCP := Lib.hid hcpc
    have HCQ := Lib.hid (And.intro hveq hcq)
    have HCAP := Lib.hid hcap
    have HPL := Lib.hid hpl
    obtain ⟨sp, hsp⟩ : ∃ sp, sp = sumL p := ⟨_, rfl⟩
    obtain ⟨sw, hsw⟩ : ∃ sw, sw = sumL ws := ⟨_, rfl⟩
    rw [← hsp, ← hsw] at hmin
    rw [← hsp] at HTP
    rw [← hsw] at HTL
    clear hrp hb3 hcp hsle hcap hpl hrl hcpc hcq hveq hsp hsw
    go_wp2_with fail
    refine (HTP.out _ HRP.out).mono ?_
    rintro e w4 ⟨rfl, rfl⟩
    go_wp2_with fail
    refine (HTL.out _ HRL.out).mono ?_
    rintro e w5 ⟨rfl, rfl⟩
    go_wp2
    go_loopg [8] n (fun m kv wr => ∃ i : Nat, kv = .int .i64 i ∧ i ≤ n ∧ n ≤ m + i ∧ ∃ q, wr = w3.drewN q)
    case atStart => exact ⟨0, rfl, by omega, by omega, 0, by cases w3; rfl⟩
    case round =>
      obtain ⟨i, rfl, hi, hm, q, rfl⟩ := hrel
      by_cases hin : i < n
      · obtain ⟨wi, hwi⟩ : ∃ wi, wi = (ws).getD i 0 := ⟨_, rfl⟩
        obtain ⟨ai, hai⟩ : ∃ ai, ai = p.getD i 0 := ⟨_, rfl⟩
        have di : w3.cell? ⟨gp, op' + i, none⟩ = some (.int .i64 (ai : Int)) := HCP.out i ai (by rw [hai]; exact get_of (by rw [HPL.out]; exact hin))
        have ci0 := HCQ.out.2 i wi (by rw [hwi]; exact get_of (by rw [HVV.out.len]; exact hin))
        have hvq := HCQ.out.1
        injection hvq with hv1 hv2 hv3
        injection hv1 with hv1
        injection hv1 with hv4 hv5
        rw [← hv4, ← hv5] at ci0
        have ci : w3.cell? ⟨gl, ol + i, none⟩ = some (.int .i64 (wi : Int)) := by simpa using ci0
        have hle := HCAP.out i hin
        rw [← hwi, ← hai] at hle
        have na : ¬ (ai : Int) < 0 := by omega
        have nb : ¬ wi < ai := by omega
        clear hwi hai ci0 hle hv2 hv3 hv4 hv5
        go_wp2
        go_quiet (fail)
        go_wp2
        go_roundg (gk - 1)
        case measure => omega
        case rel => exact ⟨i + 1, by go_num, by omega, by omega, _, rfl⟩
      · go_wp2_with fail
        refine (known_any _).mono ?_
        rintro e w6 ⟨rfl, hb6⟩
        have HB6 := Lib.hid hb6
        clear hb6
        go_wp2
        go_ret
        exact ⟨rfl, (below_drewN HB3.out q).trans (HB6.out.mono HB3.out.size)⟩
  case true =>
    have hmk := run_make_row' (P := Try.prog) 22 3 (.int .i64 0) 8 Try.underlying22 Try.info3 rfl .i64 .i64 n (by omega) (by omega)
    have hrow := row_made w2 n w2.heap.size 3 rfl
    have hrow2 : Row (w2.alloc (.cells (madeCells #[.int .i64 0] n) 3)) w2.heap.size 0 ((List.replicate n 0).map Int.ofNat) := by simpa using hrow
    have HVV := Lib.hid (show Valid (w2.alloc (.cells (madeCells #[.int .i64 0] n) 3)) (.slice (some ⟨w2.heap.size, 0, none⟩) n n) n (List.replicate n 0) from ⟨reads_rowN hrow2 (by simp) (by omega), by simp, hl1, by omega, by intro x hx; have := (List.mem_replicate.1 hx).2; omega⟩)
    have HBB := Lib.hid (HB1.out.alloc HB1.out.size (.cells (madeCells #[.int .i64 0] n) 3))
    clear hrow hrow2
    go_wp2_with fail
    refine (cap_any N n (List.replicate n 0) _ _ HVV.out hNb).mono ?_
    rintro e w3 ⟨vp, p, rfl, hrp, hb3, hcp⟩
    obtain ⟨hmin, hsle, hcap⟩ := capP_facts HVV.out.len hcp
    have hpl : p.length = n := hcp.1
    have HRP := Lib.hid hrp
    have HB3 := Lib.hid (HBB.out.trans (hb3.mono HBB.out.size))
    have hrl := HVV.out.reads.below hb3
    have HTP := Lib.hid (fun W h => totalN n p vp W h (by omega) (by
      intro x hx
      obtain ⟨i, hi, rfl⟩ := List.getElem_of_mem hx
      have h1 := hcap i (by omega)
      have h2 := HVV.out.all _ (getD_mem (l := (List.replicate n 0)) (i := i) (by rw [HVV.out.len]; omega))
      have h3 : p.getD i 0 = p[i] := by simp [List.getD, hi]
      omega))
    have HTL := Lib.hid (fun W h => totalN n (List.replicate n 0) (.slice (some ⟨w2.heap.size, 0, none⟩) n n) W h (by omega) HVV.out.all)
    have HRL := Lib.hid hrl
    obtain ⟨gp, op', cp, rfl, hcpc⟩ := reads_at hrp (by omega)
    obtain ⟨gq, oq, cq, hveq, hcq⟩ := reads_at hrl (by omega)
    have HCP := Lib.hid hcpc
    have HCQ := Lib.hid (And.intro hveq hcq)
    have HCAP := Lib.hid hcap
    have HPL := Lib.hid hpl
    obtain ⟨sp, hsp⟩ : ∃ sp, sp = sumL p := ⟨_, rfl⟩
    obtain ⟨sw, hsw⟩ : ∃ sw, sw = sumL (List.replicate n 0) := ⟨_, rfl⟩
    rw [← hsp, ← hsw] at hmin
    rw [← hsp] at HTP
    rw [← hsw] at HTL
    clear hrp hb3 hcp hsle hcap hpl hrl hcpc hcq hveq hsp hsw
    go_wp2_with fail
    refine (HTP.out _ HRP.out).mono ?_
    rintro e w4 ⟨rfl, rfl⟩
    go_wp2_with fail
    refine (HTL.out _ HRL.out).mono ?_
    rintro e w5 ⟨rfl, rfl⟩
    go_wp2
    go_loopg [8] n (fun m kv wr => ∃ i : Nat, kv = .int .i64 i ∧ i ≤ n ∧ n ≤ m + i ∧ ∃ q, wr = w3.drewN q)
    case atStart => exact ⟨0, rfl, by omega, by omega, 0, by cases w3; rfl⟩
    case round =>
      obtain ⟨i, rfl, hi, hm, q, rfl⟩ := hrel
      by_cases hin : i < n
      · obtain ⟨wi, hwi⟩ : ∃ wi, wi = ((List.replicate n 0)).getD i 0 := ⟨_, rfl⟩
        obtain ⟨ai, hai⟩ : ∃ ai, ai = p.getD i 0 := ⟨_, rfl⟩
        have di : w3.cell? ⟨gp, op' + i, none⟩ = some (.int .i64 (ai : Int)) := HCP.out i ai (by rw [hai]; exact get_of (by rw [HPL.out]; exact hin))
        have ci0 := HCQ.out.2 i wi (by rw [hwi]; exact get_of (by rw [HVV.out.len]; exact hin))
        have hvq := HCQ.out.1
        injection hvq with hv1 hv2 hv3
        injection hv1 with hv1
        injection hv1 with hv4 hv5
        rw [← hv4, ← hv5] at ci0
        have ci : w3.cell? ⟨w2.heap.size, i, none⟩ = some (.int .i64 (wi : Int)) := by simpa using ci0
        have hle := HCAP.out i hin
        rw [← hwi, ← hai] at hle
        have na : ¬ (ai : Int) < 0 := by omega
        have nb : ¬ wi < ai := by omega
        clear hwi hai ci0 hle hv2 hv3 hv4 hv5
        go_wp2
        go_quiet (fail)
        go_wp2
        go_roundg (gk - 1)
        case measure => omega
        case rel => exact ⟨i + 1, by go_num, by omega, by omega, _, rfl⟩
      · go_wp2_with fail
        refine (known_any _).mono ?_
        rintro e w6 ⟨rfl, hb6⟩
        have HB6 := Lib.hid hb6
        clear hb6
        go_wp2
        go_ret
        exact ⟨rfl, (below_drewN HB3.out q).trans (HB6.out.mono HB3.out.size)⟩
end Go.Proofs.Ytnkmhbiklffjlaa
