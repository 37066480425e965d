/- ApportionSums, walked. -/
import Derived.Test.YtnkmhbiklffjlaaApM
import Derived.Test.YtnkmhbiklffjlaaBiG
set_option linter.unusedVariables false
set_option linter.unusedSimpArgs false
namespace Go.Proofs.Ytnkmhbiklffjlaa
open Go.RowKit Ap

/-- a part with the total's sign -/
def sgnd (T : Int) (x : Int) : Int := if T < 0 then -x else x
theorem sgnd_map (T : Int) (l : List Int) : (if T < 0 then l.map (- ·) else l) = l.map (sgnd T) := by
  unfold sgnd
  by_cases h : T < 0
  · simp [h]
  · simp [h]
theorem sgnd_sum (T : Int) (l : List Int) (h : sumZ l = (T.natAbs : Int)) : sumZ (l.map (sgnd T)) = T := by
  rw [← sgnd_map]
  by_cases h0 : T < 0
  · rw [if_pos h0, sumZ_neg, h]; omega
  · rw [if_neg h0, h]; omega
theorem sgnd_bd {T : Int} {l : List Int} (h : ∀ x ∈ l, -10000000000000000 ≤ x ∧ x ≤ 10000000000000000) : ∀ x ∈ l.map (sgnd T), -10000000000000000 ≤ x ∧ x ≤ 10000000000000000 := by
  intro x hx
  obtain ⟨y, hy, rfl⟩ := List.mem_map.1 hx
  have := h y hy
  unfold sgnd; split <;> omega

set_option maxRecDepth 100000 in
set_option maxHeartbeats 8000000 in
theorem sums_any (a : Option Addr) (len cap : Nat) (z : List Int) (w : World) (hr : IsRow .i64 w a len cap z) :
    Calls Try.prog 5 #[.slice a len cap] w fun e w' => e = .returned (.bool true) ∧ Below w.heap.size w w' := by
  have ht0 := hr.tape 31
  clear hr
  go_enter Try.func5, Try.ntmps5
  go_wp2_with fail
  refine (weights_any w.heap.size 0 _ ht0 (by omega)).mono ?_
  rintro e w1 ⟨T, v, ws, at1, rfl, hl1, hl8, hall, hpos, hT1, hT2, hown, ht1, ha1, hg1⟩
  have hB1 := ((Below.refl w.heap.size w).alloc (Nat.le_refl _) (.cells #[.slice a len cap, .int .i64 0] 31)).trans (below_grownBy hg1 (Nat.le_refl _) (by simp))
  have HV := Lib.hid (wp_valid hl1 hl8 hall hown)
  have HB1 := Lib.hid hB1
  obtain ⟨N, hN⟩ : ∃ N : Nat, N = T.natAbs := ⟨_, rfl⟩
  have hmx := max_abs T
  rw [← hN] at hmx
  have hwn : IntKind.i64.wrap (-T) = -T := IntWalk.i64_in _ (by omega)
  have hNb : N ≤ 1000000000000000 := by omega
  have HPOS := Lib.hid hpos
  have HT := Lib.hid (And.intro hT1 hT2)
  have HNN := Lib.hid hN
  clear hT1 hT2 hown ht1 ha1 hg1 ht0 hB1 hN hall hpos
  go_wp2_with fail
  refine (split_any T ws.length ws v w1 HV.out HPOS.out HT.out.1 HT.out.2).mono ?_
  rintro e w2 ⟨g, la, k1, k2, rfl, hgd, k5, k6⟩
  have hbda := hgd.bd HPOS.out (by have := HT.out; omega)
  obtain ⟨p, hp, rfl⟩ := hgd
  rw [sgnd_map] at k5
  rw [← HNN.out] at hp
  have hpl : p.length = ws.length := by obtain ⟨o, _, _, h, _⟩ := hp; exact h
  have hps := parts_sum HPOS.out hp
  have HP := Lib.hid hp
  have HB2 := Lib.hid (HB1.out.trans (k6.mono HB1.out.size))
  have HV2 := Lib.hid (HV.out.below k6)
  have hsa := sgnd_sum T (p.map Int.ofNat) (by rw [sumZ_nat, hps, HNN.out])
  obtain ⟨va, hva⟩ : ∃ va, va = Value.slice (some ⟨g, 0, none⟩) ws.length ws.length := ⟨_, rfl⟩
  have HRA := Lib.hid (show Reads w2 1 (.slice (some ⟨g, 0, none⟩) ws.length ws.length) ws.length (((p.map Int.ofNat).map (sgnd T)).map (Value.int .i64)) from reads_row k5 (by simp [hpl]) (by omega))
  have HBD := Lib.hid (sgnd_bd (T := T) hbda.2)
  have HCA := Lib.hid (show ∀ j (x : Nat), p[j]? = some x → w2.cell? ⟨g, j, none⟩ = some (.int .i64 (sgnd T (x : Int))) from fun j x hx => by
    have := k5.1 j (sgnd T (Int.ofNat x)) (by rw [List.getElem?_map, List.getElem?_map, hx]; rfl); simpa using this)
  have HPL := Lib.hid hpl
  have HPB := Lib.hid (show ∀ i, i < ws.length → p.getD i 0 ≤ N from fun i hi => by rw [← hps]; exact sumL_mem (getD_mem (by omega)))
  have HSA := Lib.hid hsa
  clear k1 k2 hp k5 k6 hpl hps hbda hsa hva
  go_wp2_with fail
  refine (spread_any T ws.length ws v w2 HV2.out HPOS.out HT.out.1 HT.out.2).mono ?_
  rintro e w3 ⟨g2, lc, c1, c2, rfl, hgs, c5, c6⟩
  have hbdc := hgs.bd HPOS.out (by have := HT.out; omega)
  rw [sgnd_map] at c5
  have hsc := sgnd_sum T lc (by
    unfold GoodS at hgs
    rw [hgs, spread_sum _ _ _ _ _ (by intro h; rw [h] at hl1; simp at hl1), Nat.zero_add, rnd_full _ _ HPOS.out]; simp)
  have HRC := Lib.hid (show Reads w3 1 (.slice (some ⟨g2, 0, none⟩) ws.length ws.length) ws.length ((lc.map (sgnd T)).map (Value.int .i64)) from reads_row c5 (by simp [hbdc.1]) (by omega))
  have HBC := Lib.hid (sgnd_bd (T := T) hbdc.2)
  have HRA3 := Lib.hid (HRA.out.below c6)
  have HV3 := Lib.hid (HV2.out.below c6)
  have HCA3 := Lib.hid (show ∀ j (x : Nat), p[j]? = some x → w3.cell? ⟨g, j, none⟩ = some (.int .i64 (sgnd T (x : Int))) from fun j x hx => cell_up (HCA.out j x hx) c6)
  have HB3 := Lib.hid (HB2.out.trans (c6.mono HB2.out.size))
  have HTA := Lib.hid (fun W h => total_any ws.length ((p.map Int.ofNat).map (sgnd T)) (.slice (some ⟨g, 0, none⟩) ws.length ws.length) W h (by omega) HBD.out)
  have HTC := Lib.hid (fun W h => total_any ws.length (lc.map (sgnd T)) (.slice (some ⟨g2, 0, none⟩) ws.length ws.length) W h (by omega) HBC.out)
  have HTL := Lib.hid (fun W h => totalN ws.length ws v W h (by omega) HV.out.all)
  rw [HSA.out] at HTA
  rw [hsc] at HTC
  obtain ⟨sw, hsw⟩ : ∃ sw, sw = sumL ws := ⟨_, rfl⟩
  rw [← hsw] at HTL
  have HSW := Lib.hid hsw
  obtain ⟨n, hn⟩ : ∃ n, n = ws.length := ⟨_, rfl⟩
  obtain ⟨gl, ol, cl, hvv, hcl⟩ := reads_at HV3.out.reads (by omega)
  have HRL := Lib.hid HV3.out.reads
  have HCL := Lib.hid hcl
  rw [← hn] at hl1 hl8 hvv HPL HRA3 HRC HTA HTC HTL HRL
  rw [← hn]
  have HN := Lib.hid hn
  clear c1 c2 c5 c6 hgs hbdc hsc hsw hn hcl HV HV2 HBD HBC HRA HCA HSA
  subst hvv
  go_wp2_with fail
  refine (HTA.out _ HRA3.out).mono ?_
  rintro e w4 ⟨rfl, rfl⟩
  go_wp2_with fail
  refine (HTC.out _ HRC.out).mono ?_
  rintro e w4 ⟨rfl, rfl⟩
  go_wp2_with fail
  refine (HTL.out _ HRL.out).mono ?_
  rintro e w4 ⟨rfl, rfl⟩
  go_wp2
  go_loopg [11] n (fun m iv wr => ∃ i : Nat, iv = .int .i64 i ∧ i ≤ n ∧ n ≤ m + i ∧ Below w3.heap.size w3 wr)
  case atStart => exact ⟨0, rfl, by omega, by omega, Below.refl _ _⟩
  case round =>
    obtain ⟨i, rfl, hi, hm, hbr⟩ := hrel
    have HBR := Lib.hid hbr
    by_cases hin : i < n
    · obtain ⟨wi, hwi⟩ : ∃ wi, wi = ws.getD i 0 := ⟨_, rfl⟩
      obtain ⟨ai, hai⟩ : ∃ ai, ai = p.getD i 0 := ⟨_, rfl⟩
      have ci : wr.cell? ⟨gl, ol + i, none⟩ = some (.int .i64 (wi : Int)) := cell_up (HCL.out i wi (by rw [hwi]; exact get_of (by rw [← HN.out]; exact hin))) hbr
      have di : wr.cell? ⟨g, i, none⟩ = some (.int .i64 (sgnd T (ai : Int))) := cell_up (HCA3.out i ai (by rw [hai]; exact get_of (by rw [HPL.out]; exact hin))) hbr
      obtain ⟨q, hq⟩ : ∃ q, q = N * wi / sw := ⟨_, rfl⟩
      obtain ⟨rs, hrs⟩ : ∃ rs, rs = !decide (N * wi % sw = 0) := ⟨_, rfl⟩
      have hnear : ai = q ∨ (ai = q + 1 ∧ rs = true) := by
        have := parts_near HPOS.out HP.out (i := i) (by rw [← HN.out]; exact hin)
        unfold quo rest at this
        rw [← hai, ← hwi, ← HSW.out, ← hq] at this
        rcases this with h | ⟨h1, h2⟩
        · exact .inl h
        · exact .inr ⟨h1, by rw [hrs]; simp; omega⟩
      have hab : ai ≤ N := by rw [hai]; exact HPB.out i (by rw [← HN.out]; exact hin)
      have hwb : wi ≤ 1000000000000000 := by rw [hwi]; exact HV3.out.all _ (getD_mem (by rw [← HN.out]; exact hin))
      have hsb : sw < 9223372036854775808 := by rw [HSW.out]; have := HV3.out.sum; omega
      have hs0 : sw ≠ 0 := by rw [HSW.out]; have := HPOS.out; omega
      have hqb : q ≤ ai := by omega
      have HQ := Lib.hid (fun W => quota_is N wi sw q rs W (by omega) (by omega) hsb hs0 (by omega) hq hrs)
      clear hq hrs hwi hai hwb hsb hs0 hbr
      go_wp2_with fail
      refine (HQ.out _).mono ?_
      rintro e w5 ⟨rfl, hb5⟩
      have di5 := cell_up di hb5
      have HB5 := Lib.hid (HBR.out.trans (hb5.mono HBR.out.size))
      clear di ci hb5
      have hT : T < 0 ∧ sgnd T (ai : Int) = -(ai : Int) ∨ ¬ T < 0 ∧ sgnd T (ai : Int) = (ai : Int) := by
        unfold sgnd
        by_cases h : T < 0
        · exact .inl ⟨h, by rw [if_pos h]⟩
        · exact .inr ⟨h, by rw [if_neg h]⟩
      have wn2 : IntKind.i64.wrap (-(-(ai : Int))) = (ai : Int) := by rw [Int.neg_neg]; exact IntWalk.i64_in _ (by omega)
      have wn3 : IntKind.i64.wrap (ai : Int) = (ai : Int) := IntWalk.i64_in _ (by omega)
      rcases hnear with rfl | ⟨h1, rfl⟩
      · have hne : ((ai : Int) != (ai : Int)) = false := by simp
        rcases hT with ⟨hT0, hsg⟩ | ⟨hT0, hsg⟩
        · rw [hsg] at di5
          clear hsg
          go_wp2
          go_roundg (gk - 1)
          case measure => omega
          case rel => exact ⟨i + 1, by go_num, by omega, by omega, HB5.out⟩
        · rw [hsg] at di5
          clear hsg wn2
          go_wp2
          go_roundg (gk - 1)
          case measure => omega
          case rel => exact ⟨i + 1, by go_num, by omega, by omega, HB5.out⟩
      · have hne : ((ai : Int) != (q : Int)) = true := by simp; omega
        have wq : IntKind.i64.wrap ((q : Int) + 1) = (ai : Int) := by rw [IntWalk.i64_in _ (by omega)]; omega
        have hne2 : ((ai : Int) != (ai : Int)) = false := by simp
        clear h1
        rcases hT with ⟨hT0, hsg⟩ | ⟨hT0, hsg⟩
        · rw [hsg] at di5
          clear hsg
          go_wp2
          go_roundg (gk - 1)
          case measure => omega
          case rel => exact ⟨i + 1, by go_num, by omega, by omega, HB5.out⟩
        · rw [hsg] at di5
          clear hsg wn2
          go_wp2
          go_roundg (gk - 1)
          case measure => omega
          case rel => exact ⟨i + 1, by go_num, by omega, by omega, HB5.out⟩
    · have hin2 : i = n := by omega
      clear hm hbr
      go_wp2_with fail
      refine (known_any _).mono ?_
      rintro e w5 ⟨rfl, hb5⟩
      have HB5 := Lib.hid (HB3.out.trans ((HBR.out.trans (hb5.mono HBR.out.size)).mono HB3.out.size))
      clear hb5
      go_wp2
      go_ret
      exact ⟨rfl, HB5.out⟩
end Go.Proofs.Ytnkmhbiklffjlaa
