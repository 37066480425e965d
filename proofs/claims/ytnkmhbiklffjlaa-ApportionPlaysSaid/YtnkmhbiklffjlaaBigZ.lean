/- fundadminref01.Mul, walked. -/
import Derived.Test.YtnkmhbiklffjlaaBigG
import Derived.Deep.RegionHeld3
import Derived.Deep.CutRange
set_option linter.unusedVariables false
set_option linter.unusedSimpArgs false
namespace Go.Proofs.Ytnkmhbiklffjlaa
open Go.RowKit Big

set_option maxRecDepth 100000 in
theorem lv64_zero : lv 64 0 = [.int .u32 0, .int .u32 0, .int .u32 0, .int .u32 0, .int .u32 0, .int .u32 0, .int .u32 0, .int .u32 0, .int .u32 0, .int .u32 0, .int .u32 0, .int .u32 0, .int .u32 0, .int .u32 0, .int .u32 0, .int .u32 0, .int .u32 0, .int .u32 0, .int .u32 0, .int .u32 0, .int .u32 0, .int .u32 0, .int .u32 0, .int .u32 0, .int .u32 0, .int .u32 0, .int .u32 0, .int .u32 0, .int .u32 0, .int .u32 0, .int .u32 0, .int .u32 0, .int .u32 0, .int .u32 0, .int .u32 0, .int .u32 0, .int .u32 0, .int .u32 0, .int .u32 0, .int .u32 0, .int .u32 0, .int .u32 0, .int .u32 0, .int .u32 0, .int .u32 0, .int .u32 0, .int .u32 0, .int .u32 0, .int .u32 0, .int .u32 0, .int .u32 0, .int .u32 0, .int .u32 0, .int .u32 0, .int .u32 0, .int .u32 0, .int .u32 0, .int .u32 0, .int .u32 0, .int .u32 0, .int .u32 0, .int .u32 0, .int .u32 0, .int .u32 0] := by
  unfold lv cells dg
  simp [List.range, List.range.loop, lim_zero]
/-- one product of limbs with what is there and a carry, in 64 bits -/
theorem mul_num {x y z c : Nat} (hx : x < BB) (hy : y < BB) (hz : z < BB) (hc : c < BB) : ∃ d c' V : Nat, d < BB ∧ c' < BB ∧ x * y + z + c = d + c' * BB ∧ IntKind.u64.wrap (IntKind.u64.wrap (IntKind.u64.wrap ((x : Int) * y) + z) + c) = (V : Int) ∧
    IntKind.u32.wrap (V : Int) = (d : Int) ∧ (V : Int) / 4294967296 = (c' : Int) := by
  have h1 : x * y ≤ (BB - 1) * (BB - 1) := Nat.mul_le_mul (by omega) (by omega)
  have h2 : (BB - 1) * (BB - 1) = 18446744065119617025 := by unfold BB; decide
  obtain ⟨p, hp⟩ : ∃ p, p = x * y := ⟨_, rfl⟩
  have hpi : (x : Int) * y = (p : Int) := by rw [hp]; simp
  rw [← hp] at h1 ⊢
  rw [hpi]
  rw [h2] at h1
  unfold BB at *
  refine ⟨(p + z + c) % 4294967296, (p + z + c) / 4294967296, p + z + c, by omega, by omega, by omega, ?_, ?_, by omega⟩
  · rw [IntKind.wrap_u64, IntKind.wrap_u64, IntKind.wrap_u64]; omega
  · rw [IntKind.wrap_u32]; omega
theorem there_up {w w' : World} {b o n : Nat} (h : w.there b o n) (hb : Below w.heap.size w w') (hl : b < w.heap.size) : w'.there b o n := fun j hj => by
  obtain ⟨h1, h2⟩ := h j hj
  obtain ⟨v, hv⟩ := Option.isSome_iff_exists.1 h1
  exact ⟨by rw [cell_up hv hb]; rfl, by rw [hb.frozen (by simpa using hl)]; exact h2⟩
theorem cell_other {w : World} {a : Addr} {v : Value} (h : w.cell? a = some v) (p : Addr) (u : Value) (hp : p.block ≠ a.block) : (w.setCell p u).cell? a = some v := by
  rw [World.cell?_setCell_other _ _ _ _ (fun e => by subst e; exact hp rfl)]; exact h
theorem there_set {w : World} {b o n : Nat} (h : w.there b o n) (p : Addr) (u : Value) (hp : p.block ≠ b) : (w.setCell p u).there b o n := fun j hj => by
  obtain ⟨h1, h2⟩ := h j hj
  refine ⟨?_, by rw [World.frozen?_setCell]; exact h2⟩
  rw [World.cell?_setCell_other _ _ _ _ (fun e => by subst e; exact hp rfl)]; exact h1
theorem unbel {a b c : World} (h : Below a.heap.size a b) (hh : a.heap = c.heap) (ho : a.os = c.os) (ht : a.tape = c.tape) (hp : a.output = c.output) : Below c.heap.size c b :=
  ⟨h.os.trans ho, h.tape.trans ht, h.output.trans hp, by rw [← hh]; exact h.size, fun k hk => by rw [← hh] at hk ⊢; exact h.block k hk⟩
set_option maxRecDepth 100000 in
set_option maxHeartbeats 8000000 in
theorem mul_is (na nb : Bool) (a b : Nat) (R : Value) (nR : Bool) (vR : Nat) (w : World) (ha : a < BB ^ 32) (hb : b < BB ^ 32) (hab : a * b < BB ^ 32) (hR : R = iV nR vR)
    (hcan : ∀ W, Calls Try.prog 47 #[.bool (na != nb), mV (a * b)] W fun e w' => e = .returned R ∧ Below W.heap.size W w') :
    Calls Try.prog 32 #[iV na a, iV nb b] w fun e w' => e = .returned (.tuple #[R, .int .i64 0]) ∧ Below w.heap.size w w' := by
  obtain ⟨N, hN32, hN⟩ := is_limbs_exists a 32 ha
  obtain ⟨K, hK32, hK⟩ := is_limbs_exists b 32 hb
  obtain ⟨w0, hw0, hb0, hs0, hcA, hA⟩ := box_int w na a 51
  obtain ⟨w1, hw1, hb1, hs1, hcB, hB⟩ := box_int w0 nb b 51
  obtain ⟨w2, hw2⟩ : ∃ w2, w2 = (w1.alloc (.cells (Value.bool false :: lv 32 0).toArray 51)).alloc (.cells (lv 64 0).toArray 71) := ⟨_, rfl⟩
  have hb2 : Below w1.heap.size w1 w2 := by rw [hw2]; exact ((Below.refl _ _).alloc (Nat.le_refl _) _).alloc (by simp) _
  have hs2 : w2.heap.size = w1.heap.size + 1 + 1 := by rw [hw2]; simp
  have hT : w2.there w1.heap.size 0 33 := by rw [hw2]; exact World.there_alloc (there33 w1 _) _
  have hO : MagOwn w2 (w1.heap.size + 1) 0 64 0 := by
    rw [hw2]
    have := MagOwn.new (w1.alloc (.cells (Value.bool false :: lv 32 0).toArray 51)) 64 0 71
    rwa [World.size_alloc] at this
  have hb02 : Below w0.heap.size w0 w2 := hb1.trans (hb2.mono hb1.size)
  have HA := Lib.hid (hA.up hb02)
  have HB := Lib.hid (hB.up hb2)
  have hcA2 := cell_up hcA hb02
  have hcB2 := cell_up hcB hb2
  have HW := Lib.hid (hb0.trans (hb02.mono hb0.size))
  obtain ⟨B0, hB0⟩ : ∃ B0, B0 = w.heap.size := ⟨_, rfl⟩
  have hz1 : w1.heap.size = B0 + 1 + 1 := by rw [hs1, hs0, hB0]
  have hz0 : w0.heap.size = B0 + 1 := by rw [hs0, hB0]
  rw [hz1] at hT hO hs2
  rw [← hB0] at HA hcA2
  rw [hz0] at HB hcB2
  have HT := Lib.hid hT
  have HO := Lib.hid hO
  have HBE := Lib.hid hB0
  rw [hw1, hw0, lv33_zero, lv64_zero] at hw2
  have HNK := Lib.hid (And.intro hN hK)
  have HBD := Lib.hid (And.intro ha (And.intro hb hab))
  have HLA := Lib.hid (fun W => limbs_is a N W ha hN)
  have HLB := Lib.hid (fun W => limbs_is b K W hb hK)
  have HCAN := Lib.hid hcan
  have HSZ := Lib.hid (infoMlv a)
  unfold iV
  obtain ⟨va, hva⟩ : ∃ va, va = (Value.bool na :: lv 32 a).toArray := ⟨_, rfl⟩
  obtain ⟨vb, hvb⟩ : ∃ vb, vb = (Value.bool nb :: lv 32 b).toArray := ⟨_, rfl⟩
  rw [← hva, ← hvb] at hw2 ⊢
  clear ha hb hab hN hK hw0 hb0 hs0 hcA hA hw1 hb1 hs1 hcB hB hb2 hT hO hb02 hz1 hz0 hva hvb hcan
  go_enter Try.func32, Try.ntmps32
  go_upto_region 2 with fail
  rw [← hw2, ← hB0]
  clear hw2 hB0
  obtain ⟨ca, hca⟩ : ∃ ca, ca = lv 32 a := ⟨_, rfl⟩
  obtain ⟨cb, hcb⟩ : ∃ cb, cb = lv 32 b := ⟨_, rfl⟩
  have HLX := Lib.hid (fun W (cs : List Value) (n : Nat) (h : (cs = ca ∧ n = N) ∨ (cs = cb ∧ n = K)) => show Calls Try.prog 46 #[.agg cs.toArray] W (fun e w' => e = .returned (.int .i64 n) ∧ Below W.heap.size W w') by
    rcases h with ⟨h1, h2⟩ | ⟨h1, h2⟩
    · rw [h1, h2, hca]; exact HLA.out W
    · rw [h1, h2, hcb]; exact HLB.out W)
  have ra : w2.rangeAt B0 1 ca := by rw [hca]; exact HA.out
  have rb : w2.rangeAt (B0 + 1) 1 cb := by rw [hcb]; exact HB.out
  have sa : (Try.prog.info? 49).map (·.size) = some ca.length := by rw [hca]; exact infoMlv a
  have sb : (Try.prog.info? 49).map (·.size) = some cb.length := by rw [hcb]; exact infoMlv b
  have HCAB := Lib.hid (And.intro hca hcb)
  have u49 := Try.underlying49
  clear hca hcb
  go_cut [7, 8] from 15 to 20 (fun p q wx => p = .int .i64 N ∧ q = .int .i64 K ∧ Below w2.heap.size w2 wx)
  case first =>
    refine wp_region_below (by kernel_rfl) (by kernel_rfl) ?_
    repeat (first
      | (refine wpQuiet_load_mid rfl _ _ rfl B0 1 rfl ca _ ra u49 rfl sa ?_; try simp only [Act.put, List.setIfInBounds_toArray, List.set_cons_zero, List.set_cons_succ])
      | (refine wpQuiet_load_mid rfl _ _ rfl (B0 + 1) 1 rfl cb _ rb u49 rfl sb ?_; try simp only [Act.put, List.setIfInBounds_toArray, List.set_cons_zero, List.set_cons_succ])
      | go_big_quiet_step ((go_at_call 46; exact Calls.below_of (HLX.out _ _ _ (by first | exact .inl ⟨rfl, rfl⟩ | exact .inr ⟨rfl, rfl⟩)))))
    refine wpQuiet_nil ?_
    intro w' hw'
    obtain ⟨p, rfl⟩ := hw'
    go_wp2_with fail
    go_meet
    exact ⟨rfl, rfl, below_gw _ _ _⟩
  case rest =>
    obtain ⟨rfl, rfl, hbc⟩ := hcut
    have hNN := HNK.out
    obtain ⟨B3, hB3⟩ : ∃ B3, B3 = B0 + 1 + 1 + 1 := ⟨_, rfl⟩
    have hszc : B3 < wc.heap.size := by have := hbc.size; omega
    have HA2 := Lib.hid (HA.out.up hbc)
    have HB2 := Lib.hid (HB.out.up hbc)
    have hO2 := HO.out.up hbc (by omega)
    rw [← hB3] at hO2
    have HO2 := Lib.hid hO2
    have HT2 := Lib.hid (there_up HT.out hbc (by omega))
    have HW2 := Lib.hid (HW.out.trans (hbc.mono HW.out.size))
    have HS := Lib.hid (And.intro (cell_up hcA2 hbc) (cell_up hcB2 hbc))
    have HB3 := Lib.hid hB3
    rw [← hB3]
    clear hNN hbc ra rb hB3 hO2 hcA2 hcB2 hs2 u49 sa sb
    go_wp2
    go_loopg [9, 10, 11] N (fun g iv c0 j0 wr => ∃ (i P : Nat), i ≤ N ∧ N - i ≤ g ∧ iv = .int .i64 i ∧ P = (a % BB ^ i) * b ∧ MagAt wr B0 1 32 a ∧ MagAt wr (B0 + 1) 1 32 b ∧ MagOwn wr B3 0 64 P ∧ wr.there (B0 + 1 + 1) 0 33 ∧ wr.cell? ⟨B0, 0, none⟩ = some (.bool na) ∧ wr.cell? ⟨B0 + 1, 0, none⟩ = some (.bool nb) ∧ Below w.heap.size w wr ∧ B3 < wr.heap.size)
    case atStart => exact ⟨0, 0, by omega, by omega, rfl, by simp [Nat.mod_one], HA2.out, HB2.out, HO2.out, HT2.out, HS.out.1, HS.out.2, HW2.out, hszc⟩
    case round =>
      obtain ⟨i, P, hi, hg, rfl, hP, hA, hB, hO, hT, hcA, hcB, hW, hsz⟩ := hrel
      have HP := Lib.hid hP
      have HA3 := Lib.hid hA
      have HB3' := Lib.hid hB
      have HO3 := Lib.hid hO
      have HT3 := Lib.hid hT
      have HW3 := Lib.hid hW
      have HCS3 := Lib.hid (And.intro hcA hcB)
      have HPB := Lib.hid (show P < BB ^ (i + K) by
        rw [hP, Nat.pow_add]
        exact Nat.mul_lt_mul'' (Nat.mod_lt _ (BP i)) HNK.out.2.1)
      clear hP hA hB hO hT hW hcA hcB
      by_cases hlt : i < N
      · have ca' := HA3.out.get (show i < 32 by omega)
        obtain ⟨x, hx⟩ : ∃ x, x = lim a i := ⟨_, rfl⟩
        rw [← hx] at ca'
        have hxl : x < BB := hx ▸ lim_lt a i
        have HX := Lib.hid (And.intro hx hxl)
        clear hx hxl ca'
        obtain ⟨G, hG⟩ : ∃ G, G = gk := ⟨_, rfl⟩
        rw [← hG] at hg
        have HGG := Lib.hid hG
        clear hG
        go_wp2
        go_loopg [10, 11] K (fun g2 cv jv wr2 => ∃ (j P2 c : Nat), j ≤ K ∧ K - j ≤ g2 ∧ jv = .int .i64 j ∧ cv = .int .u64 c ∧ c < BB ∧ P2 < BB ^ (i + K) ∧ P2 + c * BB ^ (i + j) = (a % BB ^ i) * b + x * (b % BB ^ j) * BB ^ i ∧ MagAt wr2 B0 1 32 a ∧ MagAt wr2 (B0 + 1) 1 32 b ∧ MagOwn wr2 B3 0 64 P2 ∧ wr2.there (B0 + 1 + 1) 0 33 ∧ wr2.cell? ⟨B0, 0, none⟩ = some (.bool na) ∧ wr2.cell? ⟨B0 + 1, 0, none⟩ = some (.bool nb) ∧ Below w.heap.size w wr2 ∧ B3 < wr2.heap.size)
        case atStart => exact ⟨0, P, 0, by omega, by omega, rfl, rfl, BB_pos, HPB.out, by rw [HP.out]; simp [Nat.mod_one], HA3.out, HB3'.out, HO3.out, HT3.out, HCS3.out.1, HCS3.out.2, HW3.out, hsz⟩
        case round =>
          obtain ⟨j, P2, c, hj, hg2, rfl, rfl, hc, hP2, he, hA, hB, hO, hT, hcA, hcB, hW, hsz2⟩ := hrel
          have HE := Lib.hid he
          have HP2 := Lib.hid hP2
          have HA4 := Lib.hid hA
          have HB4 := Lib.hid hB
          have HO4 := Lib.hid hO
          have HT4 := Lib.hid hT
          have HW4 := Lib.hid hW
          have HCS4 := Lib.hid (And.intro hcA hcB)
          have HC4 := Lib.hid hc
          have hNN := HNK.out
          clear he hP2 hA hB hO hT hW hcA hcB hc
          by_cases hlt2 : j < K
          · obtain ⟨t, ht⟩ : ∃ t, t = i + j := ⟨_, rfl⟩
            have ht64 : t < 64 := by omega
            have hij : IntKind.i64.wrap ((i : Int) + (j : Int)) = (t : Int) := by rw [show (i : Int) + (j : Int) = (t : Int) by omega]; exact IntWalk.i64_in _ (by omega)
            have ca' := HA4.out.get (show i < 32 by omega)
            have cb' := HB4.out.get (show j < 32 by omega)
            have co' := HO4.out.1.get ht64
            have fo' := HO4.out.2 t ht64
            rw [Nat.zero_add] at co' fo'
            rw [← HX.out.1] at ca'
            obtain ⟨y, hy⟩ : ∃ y, y = lim b j := ⟨_, rfl⟩
            obtain ⟨zz, hzz⟩ : ∃ zz, zz = lim P2 t := ⟨_, rfl⟩
            rw [← hy] at cb'
            rw [← hzz] at co'
            have hyl : y < BB := hy ▸ lim_lt b j
            have hzl : zz < BB := hzz ▸ lim_lt P2 t
            obtain ⟨d, c', V, hd, hc', hn, e1, e2, e4⟩ := mul_num HX.out.2 hyl hzl HC4.out
            have HSTEP := Lib.hid (mul_step HE.out HX.out.1 hy (by rw [← ht, ← hzz]; exact hn))
            have HUB := Lib.hid (show upd P2 t d < BB ^ (i + K) from upd_lt HP2.out (by omega) hd)
            have hset := HO4.out.set ht64 hd
            rw [Nat.zero_add] at hset
            have HSET := Lib.hid hset
            have HD := Lib.hid (And.intro hd hc')
            have hw1' : IntKind.u64.wrap (x : Int) = (x : Int) := by have := HX.out.2; unfold BB at this; rw [IntKind.wrap_u64]; omega
            have hw2' : IntKind.u64.wrap (y : Int) = (y : Int) := by unfold BB at hyl; rw [IntKind.wrap_u64]; omega
            have hw3' : IntKind.u64.wrap (zz : Int) = (zz : Int) := by unfold BB at hzl; rw [IntKind.wrap_u64]; omega
            have HT' := Lib.hid ht
            have hi32 : i < 32 := by omega
            have hj32 : j < 32 := by omega
            clear ht hy hzz hyl hzl hd hc' hn hset hNN
            have hne0 : B3 ≠ B0 := by have := HB3.out; omega
            have hne1 : B3 ≠ B0 + 1 := by have := HB3.out; omega
            have hne2 : B3 ≠ B0 + 1 + 1 := by have := HB3.out; omega
            have HA5 := Lib.hid (HA4.out.setOther ⟨B3, t, none⟩ (.int .u32 (d : Nat)) hne0)
            have HB5 := Lib.hid (HB4.out.setOther ⟨B3, t, none⟩ (.int .u32 (d : Nat)) hne1)
            have HT5 := Lib.hid (there_set HT4.out ⟨B3, t, none⟩ (.int .u32 (d : Nat)) hne2)
            have HW5 := Lib.hid (below_set1 HW4.out ⟨B3, t, none⟩ (.int .u32 (d : Nat)) (show w.heap.size ≤ B3 by have := HB3.out; have := HBE.out; omega))
            have HCS5 := Lib.hid (And.intro (cell_other HCS4.out.1 ⟨B3, t, none⟩ (.int .u32 (d : Nat)) hne0) (cell_other HCS4.out.2 ⟨B3, t, none⟩ (.int .u32 (d : Nat)) hne1))
            go_wp2
            go_quiet (fail)
            go_wp2
            go_roundg (gk - 1)
            case measure => omega
            case rel => exact ⟨j + 1, upd P2 t d, c', by omega, by omega, by go_num, rfl, HD.out.2, HUB.out, by have := HSTEP.out; rwa [← HT'.out] at this, HA5.out, HB5.out, HSET.out, HT5.out, HCS5.out.1, HCS5.out.2, ⟨HW5.out.os, HW5.out.tape, HW5.out.output, HW5.out.size, HW5.out.block⟩, by simpa [World.setCell] using hsz2⟩
          · have hjK : j = K := by omega
            obtain ⟨t, ht⟩ : ∃ t, t = i + K := ⟨_, rfl⟩
            have ht64 : t < 64 := by omega
            have hij : IntKind.i64.wrap ((i : Int) + (K : Int)) = (t : Int) := by rw [show (i : Int) + (K : Int) = (t : Int) by omega]; exact IntWalk.i64_in _ (by omega)
            have hwc : IntKind.u32.wrap (c : Int) = (c : Int) := by have := HC4.out; unfold BB at this; rw [IntKind.wrap_u32]; omega
            have co' := HO4.out.1.get ht64
            have fo' := HO4.out.2 t ht64
            rw [Nat.zero_add] at co' fo'
            have hset := HO4.out.set ht64 HC4.out
            rw [Nat.zero_add, ht, upd_top HP2.out, ← ht] at hset
            have HSET := Lib.hid hset
            have HROW := Lib.hid (show P2 + c * BB ^ (i + K) = (a % BB ^ (i + 1)) * b by
              have h := HE.out
              rw [hjK, Nat.mod_eq_of_lt hNN.2.1] at h
              exact mul_row h HX.out.1)
            have hne0 : B3 ≠ B0 := by have := HB3.out; omega
            have hne1 : B3 ≠ B0 + 1 := by have := HB3.out; omega
            have hne2 : B3 ≠ B0 + 1 + 1 := by have := HB3.out; omega
            have HA5 := Lib.hid (HA4.out.setOther ⟨B3, t, none⟩ (.int .u32 (c : Nat)) hne0)
            have HB5 := Lib.hid (HB4.out.setOther ⟨B3, t, none⟩ (.int .u32 (c : Nat)) hne1)
            have HT5 := Lib.hid (there_set HT4.out ⟨B3, t, none⟩ (.int .u32 (c : Nat)) hne2)
            have HW5 := Lib.hid (below_set1 HW4.out ⟨B3, t, none⟩ (.int .u32 (c : Nat)) (show w.heap.size ≤ B3 by have := HB3.out; have := HBE.out; omega))
            have HCS5 := Lib.hid (And.intro (cell_other HCS4.out.1 ⟨B3, t, none⟩ (.int .u32 (c : Nat)) hne0) (cell_other HCS4.out.2 ⟨B3, t, none⟩ (.int .u32 (c : Nat)) hne1))
            have HT' := Lib.hid ht
            clear ht hset hjK hNN
            go_wp2
            go_roundg (G - 1)
            case measure => have := HGG.out; omega
            case rel => exact ⟨i + 1, P2 + c * BB ^ (i + K), by omega, by have := HGG.out; omega, by go_num, HROW.out, HA5.out, HB5.out, by have h := HSET.out; have h2 := HT'.out; subst h2; exact h, HT5.out, HCS5.out.1, HCS5.out.2, HW5.out, by simpa [World.setCell] using hsz2⟩
      · have hPv : P = a * b := by
          have h := HP.out
          rw [show i = N by omega, Nat.mod_eq_of_lt HNK.out.1.1] at h
          exact h
        obtain ⟨v, hv⟩ : ∃ v, v = a * b := ⟨_, rfl⟩
        rw [← hv] at hPv
        subst hPv
        have HPV := Lib.hid hv
        obtain ⟨w4, hw4⟩ : ∃ w4, w4 = wr.alloc (.cells (lv 32 0).toArray 49) := ⟨_, rfl⟩
        have hb4 : Below wr.heap.size wr w4 := by rw [hw4]; exact (Below.refl _ _).alloc (Nat.le_refl _) _
        obtain ⟨Q, hQ⟩ : ∃ Q, Q = wr.heap.size := ⟨_, rfl⟩
        have hM : MagOwn w4 Q 0 32 0 := by rw [hw4, hQ]; exact MagOwn.new wr 32 0 _
        have HM := Lib.hid hM
        have HO4 := Lib.hid (HO3.out.1.up hb4)
        have HT4 := Lib.hid (there_up HT3.out hb4 (by have := HB3.out; omega))
        have HW4 := Lib.hid (HW3.out.trans (hb4.mono HW3.out.size))
        have HCS4 := Lib.hid (And.intro (cell_up HCS3.out.1 hb4) (cell_up HCS3.out.2 hb4))
        have hqs : Q < w4.heap.size := by rw [hw4, hQ]; simp
        have hq3 : B3 < Q := by rw [hQ]; exact hsz
        have HQ := Lib.hid hQ
        rw [lv_zero] at hw4
        have HVB := Lib.hid (show P < BB ^ 32 by rw [hv]; exact HBD.out.2.2)
        clear hM hb4 hv
        go_upto_region 15 with fail
        rw [← hw4, ← HQ.out]
        clear hw4 hQ
        go_wp2
        go_loopg [14] 32 (fun g3 tv wr3 => ∃ (t M : Nat), t ≤ 32 ∧ 32 - t ≤ g3 ∧ tv = .int .i64 t ∧ M = P % BB ^ t ∧ MagAt wr3 B3 0 64 P ∧ MagOwn wr3 Q 0 32 M ∧ wr3.there (B0 + 1 + 1) 0 33 ∧ wr3.cell? ⟨B0, 0, none⟩ = some (.bool na) ∧ wr3.cell? ⟨B0 + 1, 0, none⟩ = some (.bool nb) ∧ Below w.heap.size w wr3 ∧ Q < wr3.heap.size)
        case atStart => exact ⟨0, 0, by omega, by omega, rfl, by simp [Nat.mod_one], HO4.out, HM.out, HT4.out, HCS4.out.1, HCS4.out.2, HW4.out, hqs⟩
        case round =>
          obtain ⟨t, M, ht, hg3, rfl, hMe, hO, hM, hT, hcA, hcB, hW, hsz5⟩ := hrel
          have HO5 := Lib.hid hO
          have HM5 := Lib.hid hM
          have HT5 := Lib.hid hT
          have HW5 := Lib.hid hW
          have HME := Lib.hid hMe
          have HCS5 := Lib.hid (And.intro hcA hcB)
          clear hO hM hT hW hMe hcA hcB
          by_cases hlt3 : t < 32
          · have co' := HO5.out.get (show t < 64 by omega)
            have ch' := HO5.out.get (show 32 + t < 64 by omega)
            have cm' := HM5.out.1.get hlt3
            have fm' := HM5.out.2 t hlt3
            rw [Nat.zero_add] at co' cm' fm' ch'
            rw [lim_big (k := 32 + t) (i := 32) HVB.out (by omega)] at ch'
            obtain ⟨d, hd⟩ : ∃ d, d = lim P t := ⟨_, rfl⟩
            rw [← hd] at co'
            have hdl : d < BB := hd ▸ lim_lt P t
            have HMB := Lib.hid (show M < BB ^ t by rw [HME.out]; exact Nat.mod_lt _ (BP t))
            have hset := HM5.out.set hlt3 hdl
            rw [Nat.zero_add, upd_top HMB.out] at hset
            have HSET := Lib.hid hset
            have HNX := Lib.hid (show M + d * BB ^ t = P % BB ^ (t + 1) by rw [mod_succ, HME.out, hd])
            obtain ⟨u, hu⟩ : ∃ u, u = 32 + t := ⟨_, rfl⟩
            rw [← hu] at ch'
            have hut : (32 : Int) + (t : Int) = (u : Int) := by omega
            have hwu : IntKind.i64.wrap (u : Int) = (u : Int) := IntWalk.i64_in _ (by omega)
            have hu64 : u < 64 := by omega
            have hne0 : Q ≠ B0 := by have := HB3.out; omega
            have hne1 : Q ≠ B0 + 1 := by have := HB3.out; omega
            have hne2 : Q ≠ B0 + 1 + 1 := by have := HB3.out; omega
            have hne3 : Q ≠ B3 := by omega
            have HO6 := Lib.hid (HO5.out.setOther ⟨Q, t, none⟩ (.int .u32 (d : Nat)) hne3)
            have HT6 := Lib.hid (there_set HT5.out ⟨Q, t, none⟩ (.int .u32 (d : Nat)) hne2)
            have HW6 := Lib.hid (below_set1 HW5.out ⟨Q, t, none⟩ (.int .u32 (d : Nat)) (show w.heap.size ≤ Q by have := HB3.out; have := HBE.out; omega))
            have HCS6 := Lib.hid (And.intro (cell_other HCS5.out.1 ⟨Q, t, none⟩ (.int .u32 (d : Nat)) hne0) (cell_other HCS5.out.2 ⟨Q, t, none⟩ (.int .u32 (d : Nat)) hne1))
            clear hd hdl hset hu
            go_wp2
            go_roundg (gk - 1)
            case measure => omega
            case rel => exact ⟨t + 1, M + d * BB ^ t, by omega, by omega, by go_num, HNX.out, HO6.out, HSET.out, HT6.out, HCS6.out.1, HCS6.out.2, HW6.out, by simpa [World.setCell] using hsz5⟩
          · have hMv : M = P := by
              have h := HME.out
              rw [show t = 32 by omega, Nat.mod_eq_of_lt HVB.out] at h
              exact h
            subst hMv
            obtain ⟨cs, hcs⟩ : ∃ cs, cs = lv 32 M := ⟨_, rfl⟩
            have HLD := Lib.hid (show wr.rangeAt Q 0 (lv 32 M) from HM5.out.1)
            have HSZ2 := Lib.hid (infoMlv M)
            obtain ⟨rs, hrs⟩ : ∃ rs, rs = Value.bool nR :: lv 32 vR := ⟨_, rfl⟩
            have HC2 := Lib.hid (fun W => show Calls Try.prog 47 #[.bool (na != nb), .agg cs.toArray] W (fun e w' => e = .returned (.agg rs.toArray) ∧ Below W.heap.size W w') by
              rw [hcs, hrs]
              have := HCAN.out W
              rw [← HPV.out, hR] at this
              exact this)
            have HRR := Lib.hid (show R = .agg rs.toArray by rw [hR, hrs]; rfl)
            have HRS := Lib.hid hrs
            rw [← hcs] at HLD HSZ2
            have c0 := HCS5.out.1
            have c1 := HCS5.out.2
            clear hcs hrs hR
            go_wp2_with (refine wpList_load_mid rfl _ _ rfl Q 0 rfl cs _ HLD.out Try.underlying49 rfl HSZ2.out ?_)
            refine (HC2.out _).mono ?_
            rintro e w6 ⟨rfl, hb6⟩
            have hTH := there_up HT5.out hb6 (by have := HB3.out; omega)
            have HTH := Lib.hid (show w6.there (B0 + 1 + 1) 0 rs.toArray.size by rw [HRS.out, int_size]; exact hTH)
            have HSA := Lib.hid (show (Try.prog.info? 51).map (·.size) = some rs.toArray.size by rw [HRS.out, int_size]; exact Try.infoI)
            have HSI := Lib.hid (show (Try.prog.info? 51).map (·.size) = some rs.length by rw [HRS.out]; exact infoI33 nR vR)
            have HONE := Lib.hid (show rs.toArray.all (·.oneCell') = true by rw [HRS.out]; exact all_oneCell_toArray (int_one nR vR))
            have HST := Lib.hid (World.rangeAt_setCells_same w6 (B0 + 1 + 1) 0 rs (by rw [HRS.out, List.length_cons, lv_len]; exact hTH))
            have HBS := Lib.hid (below_sets (show w.heap.size ≤ B0 + 1 + 1 by have := HBE.out; omega) rs 0 w6 (HW5.out.trans (hb6.mono HW5.out.size)))
            clear hb6 hTH c0 c1
            go_wp2_with (refine wpList_store_mid rfl _ _ _ rfl (B0 + 1 + 1) 0 _ rfl rfl HTH.out HSA.out HONE.out ?_)
            have hld := run_loadVar_mid (P := Try.prog) _ _ _ _ _ _ HST.out Try.underlying51 rfl HSI.out
            try simp only [Act.put, List.setIfInBounds_toArray, List.set_cons_zero, List.set_cons_succ]
            refine bodyPost_ret (v := .tuple #[.agg rs.toArray, .int .i64 0]) (by simp [results, Try.results32, asAddr, hld]) rfl ?_
            exact ⟨by rw [HRR.out], HBS.out⟩
end Go.Proofs.Ytnkmhbiklffjlaa
