/- fundadminref01.sum, walked. -/
import Derived.Test.YtnkmhbiklffjlaaBigT
set_option linter.unusedVariables false
set_option linter.unusedSimpArgs false
namespace Go.Proofs.Ytnkmhbiklffjlaa
open Go.RowKit Big

/-- a sum of limbs in 64 bits -/
theorem sum_num {x y c : Nat} (hx : x < BB) (hy : y < BB) (hc : c ≤ 1) : ∃ d c' V : Nat, d < BB ∧ c' ≤ 1 ∧ x + y + c = d + c' * BB ∧ IntKind.u64.wrap (IntKind.u64.wrap ((x : Int) + y) + c) = (V : Int) ∧
    IntKind.u32.wrap (V : Int) = (d : Int) ∧ (V : Int) / 4294967296 = (c' : Int) := by
  unfold BB at *
  refine ⟨(x + y + c) % 4294967296, (x + y + c) / 4294967296, x + y + c, by omega, by omega, by omega, ?_, ?_, by omega⟩
  · rw [IntKind.wrap_u64, IntKind.wrap_u64]; omega
  · rw [IntKind.wrap_u32]; omega
theorem sum_end {v P c c2 : Nat} {t : Nat} (hv : v < t) (hP : P < t) (hc : c ≤ 1) (h : P + c * t = v + c2 * t) : P = v ∧ c = c2 := by
  rcases c2 with _ | _ | c2
  · rcases c with _ | _ | c
    · simp at h; exact ⟨h, rfl⟩
    · simp at h; omega
    · omega
  · rcases c with _ | _ | c
    · simp at h; omega
    · simp at h; exact ⟨by omega, rfl⟩
    · omega
  · have : 2 * t ≤ (c2 + 1 + 1) * t := Nat.mul_le_mul_right _ (by omega)
    have : c * t ≤ 1 * t := Nat.mul_le_mul_right _ hc
    omega
set_option maxRecDepth 100000 in
set_option maxHeartbeats 4000000 in
theorem sum_is (a b v c2 : Nat) (w : World) (ha : a < BB ^ 32) (hb : b < BB ^ 32) (hv : v < BB ^ 32) (hd : a + b = v + c2 * BB ^ 32) :
    Calls Try.prog 55 #[mV a, mV b] w fun e w' => e = .returned (.tuple #[mV v, .bool (decide (c2 = 0))]) ∧ Below w.heap.size w w' := by
  obtain ⟨w0, hw0, hb0, hs0, hA, hB⟩ := box_two w a b 49
  obtain ⟨w1, hw1⟩ : ∃ w1, w1 = (w0.alloc (.cells (lv 32 0).toArray 49)).alloc (.cells (lv 32 0).toArray 49) := ⟨_, rfl⟩
  have hb1 : Below w0.heap.size w0 w1 := by rw [hw1]; exact ((Below.refl _ _).alloc (Nat.le_refl _) _).alloc (by simp) _
  have hR : MagOwn w1 (w.heap.size + 1 + 1) 0 32 0 := by
    rw [hw1, ← hs0]; exact (MagOwn.new w0 32 0 _).up ((Below.refl _ _).alloc (Nat.le_refl _) _) (by simp)
  have hO : MagOwn w1 (w.heap.size + 1 + 1 + 1) 0 32 0 := by
    rw [hw1, ← hs0]
    have := MagOwn.new (w0.alloc (.cells (lv 32 0).toArray 49)) 32 0 49
    rwa [World.size_alloc] at this
  have HA := Lib.hid (hA.up hb1)
  have HB := Lib.hid (hB.up hb1)
  have HR := Lib.hid hR
  have HO := Lib.hid hO
  have HW := Lib.hid (hb0.trans (hb1.mono hb0.size))
  rw [hw0] at hw1
  have HV := Lib.hid (And.intro ha (And.intro hb (And.intro hv hd)))
  rw [lv_zero] at hw1
  unfold mV
  obtain ⟨va, hva⟩ : ∃ va, va = (lv 32 a).toArray := ⟨_, rfl⟩
  obtain ⟨vb, hvb⟩ : ∃ vb, vb = (lv 32 b).toArray := ⟨_, rfl⟩
  obtain ⟨vv, hvv⟩ : ∃ vv, vv = (lv 32 v).toArray := ⟨_, rfl⟩
  have HVV := Lib.hid hvv
  rw [← hva, ← hvb] at hw1 ⊢
  rw [← hvv]
  clear ha hb hv hd hb0 hs0 hA hB hva hvb hw0 hb1 hR hO hvv
  go_enter Try.func55, Try.ntmps55
  go_wp2_with fail
  rw [← hw1]
  clear hw1
  obtain ⟨B0, hB0⟩ : ∃ B0, B0 = w.heap.size := ⟨_, rfl⟩
  have hB1 : B0 < w1.heap.size := by rw [hB0]; exact World.block_lt_of_cell? w1 _ (HA.out.get (k := 0) (by omega))
  have hB4 : B0 + 1 + 1 + 1 < w1.heap.size := by rw [hB0]; exact World.block_lt_of_cell? w1 _ (HO.out.1.get (k := 0) (by omega))
  have HBE := Lib.hid hB0
  rw [← hB0] at HA HB HR HO ⊢
  clear hB0
  go_loopg [7, 8] 32 (fun g bw iv wr => ∃ (i P c : Nat), i ≤ 32 ∧ 32 - i ≤ g ∧ c ≤ 1 ∧ P < BB ^ i ∧ P + c * BB ^ i = a % BB ^ i + b % BB ^ i ∧ bw = .int .u64 c ∧ iv = .int .i64 i ∧ MagAt wr B0 0 32 a ∧ MagAt wr (B0 + 1) 0 32 b ∧ MagOwn wr (B0 + 1 + 1) 0 32 0 ∧ MagOwn wr (B0 + 1 + 1 + 1) 0 32 P ∧ Below w.heap.size w wr)
  case atStart => exact ⟨0, 0, 0, by omega, by omega, by omega, BP 0, by simp [Nat.mod_one], rfl, rfl, HA.out, HB.out, HR.out, HO.out, HW.out⟩
  case round =>
    obtain ⟨i, P, c, hi, hg, hc, hP, he, rfl, rfl, hA, hB, hR, hO, hW⟩ := hrel
    have HE := Lib.hid he
    have HP := Lib.hid hP
    have HA1 := Lib.hid hA
    have HB1 := Lib.hid hB
    have HR1 := Lib.hid hR
    have HO1 := Lib.hid hO
    have HW1 := Lib.hid hW
    clear he hP hA hB hR hO hW
    by_cases hlt : i < 32
    · have ca := HA1.out.get hlt
      have cb := HB1.out.get hlt
      have co := HO1.out.1.get hlt
      have fo := HO1.out.2 i hlt
      rw [Nat.zero_add] at ca cb co fo
      obtain ⟨x, hx⟩ : ∃ x, x = lim a i := ⟨_, rfl⟩
      obtain ⟨y, hy⟩ : ∃ y, y = lim b i := ⟨_, rfl⟩
      have hxl : x < BB := hx ▸ lim_lt a i
      have hyl : y < BB := hy ▸ lim_lt b i
      obtain ⟨d, c', V, hd, hc', hn, e1, e2, e4⟩ := sum_num hxl hyl hc
      rw [← hx] at ca
      rw [← hy] at cb
      have HS := Lib.hid (sum_step HE.out (by rw [← hx, ← hy]; exact hn))
      have HPL := Lib.hid (lt_succ HP.out hd)
      have HU := Lib.hid (upd_top (d := d) HP.out)
      have HO2 := Lib.hid (HO1.out.set hlt hd)
      have hw1' : IntKind.u64.wrap (x : Int) = (x : Int) := by unfold BB at hxl; rw [IntKind.wrap_u64]; omega
      have hw2' : IntKind.u64.wrap (y : Int) = (y : Int) := by unfold BB at hyl; rw [IntKind.wrap_u64]; omega
      have HDD := Lib.hid hd
      clear hx hy hxl hyl hn hd
      go_wp2
      go_quiet (fail)
      go_wp2
      have HU2 := Lib.hid (show MagOwn (wr.setCell ⟨B0 + 1 + 1 + 1, i, none⟩ (.int .u32 (d : Nat))) (B0 + 1 + 1 + 1) 0 32 (P + d * BB ^ i) by
        have := HO2.out; rwa [HU.out, Nat.zero_add] at this)
      have hR2 := HR1.out.setOther ⟨B0 + 1 + 1 + 1, i, none⟩ (.int .u32 (d : Nat)) (show B0 + 1 + 1 + 1 ≠ B0 + 1 + 1 by omega)
      have hA2 := HA1.out.setOther ⟨B0 + 1 + 1 + 1, i, none⟩ (.int .u32 (d : Nat)) (show B0 + 1 + 1 + 1 ≠ B0 by omega)
      have hB2 := HB1.out.setOther ⟨B0 + 1 + 1 + 1, i, none⟩ (.int .u32 (d : Nat)) (show B0 + 1 + 1 + 1 ≠ B0 + 1 by omega)
      have hW2 := below_set1 HW1.out ⟨B0 + 1 + 1 + 1, i, none⟩ (.int .u32 (d : Nat)) (show w.heap.size ≤ B0 + 1 + 1 + 1 by rw [← HBE.out]; omega)
      go_roundg (gk - 1)
      case measure => omega
      case rel => exact ⟨i + 1, P + d * BB ^ i, c', by omega, by omega, hc', HPL.out, HS.out, rfl, by go_num, hA2, hB2, hR2, HU2.out, ⟨hW2.os, hW2.tape, hW2.output, hW2.size, hW2.block⟩⟩
    · have hi32 : i = 32 := by omega
      subst hi32
      have hPv : P = v ∧ c = c2 := by
        obtain ⟨h1, h2, h3, h4⟩ := HV.out
        have h5 := HE.out
        rw [Nat.mod_eq_of_lt h1, Nat.mod_eq_of_lt h2, h4] at h5
        exact sum_end h3 HP.out hc h5
      obtain ⟨hPv, hcc⟩ := hPv
      have hcb : ((c : Int) == 0) = decide (c2 = 0) := by rw [hcc, Bool.eq_iff_iff]; simp only [beq_iff_eq, decide_eq_true_eq]; omega
      subst hPv
      obtain ⟨cs, hcs⟩ : ∃ cs, cs = lv 32 P := ⟨_, rfl⟩
      have HST := Lib.hid (stored_mag (v := P) HR1.out)
      have HBS := Lib.hid (below_sets (show w.heap.size ≤ B0 + 1 + 1 by rw [← HBE.out]; omega) (lv 32 P) 0 wr HW1.out)
      have HTH := Lib.hid (show wr.there (B0 + 1 + 1) 0 (lv 32 P).toArray.size by rw [List.size_toArray, lv_len]; exact HR1.out.there)
      have HLD := Lib.hid (show wr.rangeAt (B0 + 1 + 1 + 1) 0 (lv 32 P) from HO1.out.1)
      have HSZ := Lib.hid (infoMlv P)
      have HSA := Lib.hid (show (Try.prog.info? 49).map (·.size) = some (lv 32 P).toArray.size by rw [List.size_toArray]; exact infoMlv P)
      have HONE := Lib.hid (all_oneCell_toArray (lv_one 32 P))
      have HCS := Lib.hid hcs
      have hvc : vv = cs.toArray := by rw [HVV.out, hcs]
      rw [← hcs] at HBS HTH HLD HSZ HSA HONE
      have HVC := Lib.hid hvc
      clear hcs hvc
      clear hcc
      go_wp2_with (first
        | (refine wpList_load_mid rfl _ _ rfl (B0 + 1 + 1 + 1) 0 rfl cs _ HLD.out Try.underlying49 rfl HSZ.out ?_)
        | (refine wpList_store_mid rfl _ _ _ rfl (B0 + 1 + 1) 0 _ rfl rfl HTH.out HSA.out HONE.out ?_))
      have hld := run_loadVar_mid (P := Try.prog) _ _ _ _ _ _ (show World.rangeAt (wr.setCells (B0 + 1 + 1) 0 cs) (B0 + 1 + 1) 0 cs by have := HST.out; rw [← HCS.out] at this; unfold MagAt at this; rwa [← HCS.out] at this) Try.underlying49 rfl HSZ.out
      try simp only [Act.put, List.setIfInBounds_toArray, List.set_cons_zero, List.set_cons_succ]
      refine bodyPost_ret (v := .tuple #[.agg cs.toArray, .bool (decide (c2 = 0))]) (by simp [results, Try.results55, asAddr, hld]) rfl ?_
      exact ⟨by rw [HVC.out], HBS.out⟩
end Go.Proofs.Ytnkmhbiklffjlaa
