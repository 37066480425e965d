/- The reference's Scan, walked: it returns what the plain scanner says, in new memory. -/
import Derived.Test.YtjnaeldaajckkaaTokF
set_option linter.unusedVariables false
set_option linter.unusedSimpArgs false
namespace Go.Proofs.Ytjnaeldaajckkaa
open Go.RowKit Tok

def Tok.spcI (n : Int) : Bool := n == 32 || n == 9 || n == 13 || n == 10
theorem space_s (n : Int) (w : World) :
    Calls Try.prog 43 #[.int .u8 n] w fun e w' => e = .returned (.bool (spcI n)) ∧ w = w' := space_any n w

theorem rnext_b (s : ByteArray) (k : Nat) (w : World) (hs : s.size ≤ 1000000000) (hk : k < s.size) :
    Calls Try.prog 44 #[.string s, .int .i64 k] w fun e w' => e = .returned (.tuple #[.int .i64 (kindL (dropD s k)), .int .i64 (lenL (dropD s k))]) ∧ Below w.heap.size w w' :=
  (rnext_at s k w hs hk).mono fun e w' ⟨h1, h2⟩ => ⟨h1, by rw [← h2]; exact Below.refl _ _⟩
theorem Tok.kind_zero (l : List UInt8) : kindL l = 0 ↔ lenL l = 0 := by
  unfold kindL lenL firstK firstN
  split
  · constructor <;> (intro h; omega)
  · split
    · constructor <;> (intro h; omega)
    · split
      · split <;> constructor <;> (intro h; omega)
      · split <;> constructor <;> (intro h; omega)

set_option maxRecDepth 100000 in
set_option maxHeartbeats 2000000 in
theorem rscan_any (s : ByteArray) (w : World) (hs : s.size ≤ maxLen) :
    Calls Try.prog 16 #[.string s] w fun e w' => ∃ v r, r = scanR s.data.toList ∧ e = .returned (.tuple #[v, .agg #[.int .i64 r.pl, .int .i64 r.pc], .int .i64 r.err]) ∧
      w'.ownsRow w.heap.size 38 4 v r.toks.length (cellsOf r.toks) ∧ Below w.heap.size w w' := by
  have hs' := hs
  unfold maxLen at hs
  obtain ⟨r, hr⟩ : ∃ r, scanR s.data.toList = r := ⟨_, rfl⟩
  have HR := Lib.hid hr
  by_cases hbig : 65536 < s.size
  · have h' : (65536 : Int) < s.size := by omega
    have HE := Lib.hid (show r = ⟨[], 0, 0, 101⟩ by rw [← hr, scanR, if_pos (by simpa using hbig)])
    clear hr
    go_enter Try.func16, Try.ntmps16
    go_wp2
    refine bodyPost_ret (v := .tuple #[.slice none 0 0, .agg #[.int .i64 0, .int .i64 0], .int .i64 101]) (by simp [results, Try.results16, go_sem]) rfl ?_
    refine ⟨_, r, HR.out.symm, by rw [HE.out]; rfl, by rw [HE.out]; exact World.ownsRow_nil _ _ _ _, ?_⟩
    exact (Below.refl _ _).alloc (Nat.le_refl _) _
  · have h' : ¬ (65536 : Int) < s.size := by omega
    have hsz : s.size ≤ 65536 := by omega
    have HE := Lib.hid (show scanF (s.size + 1) (dropD s 0) 1 1 [] = r by rw [← hr, scanR, if_neg (by simpa using hbig), len_data]; rfl)
    clear hr hbig
    go_enter Try.func16, Try.ntmps16
    go_wp2
    go_loopg [5, 6, 7, 8] (s.size) (fun n v ln st i wr => ∃ (k l t f : Nat) (acc : List T), s.size - k ≤ n ∧ k ≤ s.size ∧ t ≤ k ∧ l ≤ k + 1 ∧ s.size - k < f ∧ acc.length ≤ k ∧ ln = .int .i64 l ∧ st = .int .i64 t ∧ i = .int .i64 k ∧
        scanF f (dropD s k) l (k - t + 1) acc = r ∧ wr.ownsRow (w.heap.size + 1) 38 4 v acc.length (cellsOf acc) ∧ Below (w.heap.size + 1) (w.alloc (.cells #[.int .i64 0, .int .i64 0] 24)) wr)
    case atStart => exact ⟨0, 1, 0, s.size + 1, [], by omega, by omega, by omega, by omega, by omega, by simp, rfl, rfl, rfl, HE.out, World.ownsRow_nil _ _ _ _, Below.refl _ _⟩
    case round =>
      obtain ⟨k, l, t, f, acc, hm, hk, ht, hl, hf, ha, rfl, rfl, rfl, hsc, hown, hb⟩ := hrel
      have hc0 : wr.cell? ⟨w.heap.size, 0, none⟩ = some (.int .i64 0) := by rw [(bcell hb).1 _ _ (by omega)]; go_cell
      have hc1 : wr.cell? ⟨w.heap.size, 1, none⟩ = some (.int .i64 0) := by rw [(bcell hb).1 _ _ (by omega)]; go_cell
      have hz0 : ∀ o, wr.frozen? ⟨w.heap.size, o, none⟩ = false := fun o => by rw [(bcell hb).2 _ _ (by omega)]; simp
      have hsize : w.heap.size + 1 ≤ wr.heap.size := by have := hb.size; simpa using this
      by_cases hlt : k < s.size
      · rw [dropD_cons s k hlt] at hsc
        obtain ⟨f', rfl⟩ : ∃ f', f = f' + 1 := ⟨f - 1, by omega⟩
        rw [scanF] at hsc
        have e10 := u8b s[k] 10 10 rfl
        have e32 := u8b s[k] 32 32 rfl
        have e9 := u8b s[k] 9 9 rfl
        have e13 := u8b s[k] 13 13 rfl
        have e35 := u8b s[k] 35 35 rfl
        by_cases q10 : s[k] = 10
        · rw [if_pos q10] at hsc
          have HS := Lib.hid hsc
          have HO := Lib.hid hown
          clear hsc hown e32 e9 e13 e35
          rw [decide_eq_true q10] at e10
          clear q10
          go_wp2
          go_roundg (gk - 1)
          case rel => exact ⟨k + 1, l + 1, k + 1, f', acc, by omega, by omega, by omega, by omega, by omega, by omega, by go_num, by go_num, by go_num, by rw [Nat.sub_self]; exact HS.out, HO.out, hb⟩
          case measure => omega
        · rw [if_neg q10] at hsc
          rw [decide_eq_false q10] at e10
          clear q10
          have esp : spcI s[k].toNat = isSp s[k] := by
            unfold spcI; rw [e32, e9, e13, e10]; unfold isSp; simp only [Bool.or_false]; rw [Bool.eq_iff_iff]; simp only [Bool.or_eq_true, decide_eq_true_eq, beq_iff_eq]
          clear e32 e9 e13
          by_cases qs : isSp s[k] = true
          · rw [if_pos qs] at hsc
            rw [qs] at esp
            have HS := Lib.hid hsc
            have HO := Lib.hid hown
            clear hsc hown e35 qs
            go_wp2_with (go_at_call 43; refine (space_s _ _).mono ?_; rintro e w' ⟨rfl, rfl⟩)
            go_roundg (gk - 1)
            case rel => exact ⟨k + 1, l, t, f', acc, by omega, by omega, by omega, by omega, by omega, by omega, rfl, rfl, by go_num, by rw [show k + 1 - t + 1 = k - t + 1 + 1 by omega]; exact HS.out, HO.out, hb⟩
            case measure => omega
          · rw [if_neg qs] at hsc
            have qs' : isSp s[k] = false := by simpa using qs
            rw [qs'] at esp
            clear qs qs'
            rw [← dropD_cons s k hlt, dropD_drop, dropD_drop] at hsc
            by_cases q35 : s[k] = 35
            · rw [if_pos q35] at hsc
              rw [decide_eq_true q35] at e35
              have hcm : 1 ≤ cmt (dropD s k) := by rw [dropD_cons s k hlt, cmt_cons, if_neg (by rw [q35]; decide)]; omega
              have hcl := cmt_le (dropD s k)
              rw [dropD_len] at hcl
              clear q35
              have HS := Lib.hid hsc
              have HO := Lib.hid hown
              clear hsc hown
              go_wp2_with (go_at_call 43; refine (space_s _ _).mono ?_; rintro e w' ⟨rfl, rfl⟩)
              obtain ⟨g1, rfl⟩ : ∃ g1 : Nat, g1 = gk := ⟨_, rfl⟩
              go_loopg [8] (s.size) (fun p i wq => ∃ m : Nat, k + m ≤ s.size ∧ s.size - m ≤ p ∧ i = .int .i64 ((k : Int) + m) ∧ wq = wr ∧ m + cmt (dropD s (k + m)) = cmt (dropD s k))
              case atStart => exact ⟨0, by omega, by omega, by simp, rfl, by simp⟩
              case round =>
                obtain ⟨m, hm1, hm2, rfl, rfl, hcm2⟩ := hrel
                have HC2 := Lib.hid hcm2
                clear hcm2
                by_cases hlt2 : k + m < s.size
                · have e2 := u8b s[k + m] 10 10 rfl
                  have hcc : cmt (dropD s (k + m)) = if s[k + m] = 10 then 0 else cmt (dropD s (k + m + 1)) + 1 := by rw [dropD_cons s _ hlt2, cmt_cons]
                  by_cases q2 : s[k + m] = 10
                  · rw [if_pos q2] at hcc
                    have HD := Lib.hid hcc
                    rw [decide_eq_true q2] at e2
                    have e3 : ((s[k + m].toNat : Int) != 10) = false := by simp only [bne, e2]; rfl
                    clear hcc q2 e2
                    go_wp2
                    go_roundg (g1 - 1)
                    case rel => exact ⟨k + m, l, t, f', acc, by have h1 := HC2.out; have h2 := HD.out; omega, by omega, by omega, by omega, by have h1 := HC2.out; have h2 := HD.out; omega, by omega, rfl, rfl, by go_num, by have h1 := HC2.out; rw [HD.out] at h1; have h2 := HS.out; rw [← h1] at h2; rw [show k + m - t + 1 = k - t + 1 + m by omega]; exact h2, HO.out, hb⟩
                    case measure => have h1 := HC2.out; have h2 := HD.out; omega
                  · rw [if_neg q2] at hcc
                    have HD := Lib.hid hcc
                    rw [decide_eq_false q2] at e2
                    have e3 : ((s[k + m].toNat : Int) != 10) = true := by simp only [bne, e2]; rfl
                    clear hcc q2 e2
                    go_wp2
                    go_roundg (gk - 1)
                    case rel => exact ⟨m + 1, by omega, by omega, by go_num, rfl, by have h1 := HC2.out; have h2 := HD.out; rw [← Nat.add_assoc]; omega⟩
                    case measure => omega
                · have HD := Lib.hid (show cmt (dropD s (k + m)) = 0 by rw [dropD_end s _ (by omega)]; rfl)
                  go_wp2
                  go_roundg (g1 - 1)
                  case rel => exact ⟨k + m, l, t, f', acc, by have h1 := HC2.out; have h2 := HD.out; omega, by omega, by omega, by omega, by have h1 := HC2.out; have h2 := HD.out; omega, by omega, rfl, rfl, by go_num, by have h1 := HC2.out; rw [HD.out] at h1; have h2 := HS.out; rw [← h1] at h2; rw [show k + m - t + 1 = k - t + 1 + m by omega]; exact h2, HO.out, hb⟩
                  case measure => have h1 := HC2.out; have h2 := HD.out; omega
            · rw [if_neg q35] at hsc
              rw [decide_eq_false q35] at e35
              clear q35
              have hnl : lenL (dropD s k) ≤ s.size - k := by
                rcases lenL_le (dropD s k) with h | h
                · rwa [dropD_len] at h
                · rw [dropD_cons s k hlt] at h; cases h
              have HS := Lib.hid hsc
              have HO := Lib.hid hown
              clear hsc hown
              have hcol : (k : Int) - (t : Int) + 1 = ((k - t + 1 : Nat) : Int) := by omega
              have HC := Lib.hid hcol
              clear hcol
              go_wp2_with (go_at_call 43; refine (space_s _ _).mono ?_; rintro e w' ⟨rfl, rfl⟩)
              refine (rnext_b _ _ _ (by omega) hlt).mono ?_
              rintro e w2 ⟨rfl, hb2⟩
              have hsize2 : wr.heap.size + 1 ≤ w2.heap.size := by have := hb2.size; simpa using this
              have hb2' : Below wr.heap.size wr w2 := ((Below.refl _ _).alloc (Nat.le_refl _) _).trans (hb2.mono (by simp))
              have cp0 : w2.cell? ⟨wr.heap.size, 0, none⟩ = some (.int .i64 l) := by rw [(bcell hb2).1 _ _ (by simp)]; go_cell
              have cp1 : w2.cell? ⟨wr.heap.size, 1, none⟩ = some (.int .i64 (k - t + 1)) := by rw [(bcell hb2).1 _ _ (by simp)]; go_cell
              have hd0 : w2.cell? ⟨w.heap.size, 0, none⟩ = some (.int .i64 0) := by rw [(bcell hb2').1 _ _ (by omega)]; exact hc0
              have hd1 : w2.cell? ⟨w.heap.size, 1, none⟩ = some (.int .i64 0) := by rw [(bcell hb2').1 _ _ (by omega)]; exact hc1
              have hz2 : ∀ o, w2.frozen? ⟨w.heap.size, o, none⟩ = false := fun o => by rw [(bcell hb2').2 _ _ (by omega)]; exact hz0 o
              have HO2 := Lib.hid (ownsRow_below HO.out hb2')
              have hB := hb.trans (hb2'.mono (by omega))
              have hne : some wr.heap.size ≠ u5.ownBlock := fun h => by have := (HO.out.lt _ h.symm).2; omega
              clear HO hb hc0 hc1 hz0 hb2 hb2'
              have hkz := kind_zero (dropD s k)
              generalize lenL (dropD s k) = n at *
              generalize kindL (dropD s k) = kd at *
              by_cases hn0 : n = 0
              · have HS2 := Lib.hid (show r = ⟨[], l, k - t + 1, 100⟩ by rw [← HS.out, if_pos hn0])
                have e0 : (kd == 0) = true := by simp [hkz.2 hn0]
                clear HS hn0 hkz
                go_wp2
                go_region
                go_wp2
                refine bodyPost_ret (v := .tuple #[.slice none 0 0, .agg #[.int .i64 l, .int .i64 (k - t + 1)], .int .i64 100]) (by simp [results, Try.results16, go_sem, hd0, hd1]) rfl ?_
                refine ⟨_, r, HR.out.symm, by rw [HS2.out, HC.out], ?_, ?_⟩
                · rw [HS2.out]
                  exact World.ownsRow_nil _ _ _ _
                · exact (((((Below.refl _ _).alloc (Nat.le_refl _) _).trans (hB.mono (by omega))).setCell (Nat.le_refl _) _).setCell (Nat.le_refl _) _).drew
              · have HS2 := Lib.hid (show _ = r by rw [← HS.out, if_neg hn0])
                have e0 : (kd == 0) = false := by simp [hkz, hn0]
                have hn1 : 1 ≤ n := by omega
                have hkn : k + n ≤ s.size := by omega
                clear HS hn0 hkz
                go_wp2
                have ws0 : IntKind.i64.wrap ((k : Int) + n) = (k : Int) + n := IntWalk.i64_in _ (by omega)
                have ws1 : 0 ≤ (k : Int) + n ∧ (k : Int) + n ≤ s.size := by omega
                have ws2 : (k : Int) ≤ (k : Int) + n := by omega
                have ws3 : ((k : Int) + n).toNat = k + n := by omega
                obtain ⟨i0, hi, hz0, hz1, hz2⟩ := info_parts Try.info38
                go_region_held3 (fun w' : World => w'.cell? ⟨wr.heap.size, 0, none⟩ = some (.int .i64 l) ∧ w'.cell? ⟨wr.heap.size, 1, none⟩ = some (.int .i64 (k - t + 1))) (first | exact ⟨cp0, cp1⟩ | exact ⟨cell_alloc cp0 _, cell_alloc cp1 _⟩ | exact ⟨hgrow.cell (cell_alloc cp0 _) hne, hgrow.cell (cell_alloc cp1 _) hne⟩) (first | (refine step_append_own rfl _ _ 22 rfl (w.heap.size + 1) 38 i0 _ 4 40 Try.underlying22 hi hz0 hz1 hz2 rfl (by decide) u5 _ _ rfl (HO2.out.alloc _) ⟨w2.heap.size, 0, none⟩ 1 1 [.int .i64 kd, .string (s.extract k (k + n)), .int .i64 l, .int .i64 (k - t + 1)] rfl rfl ?_ ?_ ?_ ?_ ?_ ?_; exact cells_new _ _ _; (simp [Value.oneCell']); exact small_maxLen (by omega); omega; (simp; omega); intro v' w3 hown' hgrow _))
                have hB3 : Below (w.heap.size + 1) (w.alloc (.cells #[.int .i64 0, .int .i64 0] 24)) w3 := ((hB.alloc (by omega) _).drew).grown hgrow (by simp; omega) (fun k hk => (HO2.out.lt k hk).1)
                have hn3 : (acc ++ [(⟨kd, (dropD s k).take n, l, k - t + 1⟩ : T)]).length = acc.length + 1 := by simp
                have HW := Lib.hid (show w3.ownsRow (w.heap.size + 1) 38 4 v' (acc ++ [(⟨kd, (dropD s k).take n, l, k - t + 1⟩ : T)]).length (cellsOf (acc ++ [(⟨kd, (dropD s k).take n, l, k - t + 1⟩ : T)])) by
                  rw [hn3, cellsOf_snoc]
                  rw [HC.out, ext_take] at hown'
                  exact hown')
                clear hown' hgrow hn3
                go_wp2
                go_roundg (gk - 1)
                case rel => exact ⟨k + n, l, t, f', _, by omega, by omega, by omega, by omega, by omega, by simp; omega, rfl, rfl, by go_num, by rw [show k + n - t + 1 = k - t + 1 + n by omega]; exact HS2.out, HW.out, hB3⟩
                case measure => omega
      · rw [dropD_end s k (by omega)] at hsc
        obtain ⟨f', rfl⟩ : ∃ f', f = f' + 1 := ⟨f - 1, by omega⟩
        have HS := Lib.hid (show r = ⟨acc, 0, 0, 0⟩ from hsc.symm)
        clear hsc
        have HO := Lib.hid hown
        clear hown
        go_wp2
        refine bodyPost_ret (v := .tuple #[u5, .agg #[.int .i64 0, .int .i64 0], .int .i64 0]) (by simp [results, Try.results16, go_sem, hc0, hc1]) rfl ?_
        refine ⟨_, r, HR.out.symm, by rw [HS.out]; rfl, ?_, ?_⟩
        · rw [HS.out]
          exact ownsRow_base (ownsRow_setCell_below (ownsRow_setCell_below HO.out (by simp) _) (by simp) _) (by omega)
        · exact ((((Below.refl _ _).alloc (Nat.le_refl _) _).trans (hb.mono (by omega))).setCell (Nat.le_refl _) _).setCell (Nat.le_refl _) _

end Go.Proofs.Ytjnaeldaajckkaa
