/- token.Scan, walked: it returns what the plain scanner says, in new memory. -/
import Derived.Test.YtjnaeldaajckkaaTokP
import Derived.Deep.RegionHeld3
import Derived.Handy
set_option linter.unusedVariables false
namespace Go.Proofs.Ytjnaeldaajckkaa
open Go.RowKit Tok

/-- the text from place k on, behind a name that simp does not open -/
def Tok.dropD (s : ByteArray) (k : Nat) : List UInt8 := s.data.toList.drop k
theorem dropD_cons (s : ByteArray) (k : Nat) (h : k < s.size) : dropD s k = s[k] :: dropD s (k + 1) := drop_cons s k h
theorem dropD_end (s : ByteArray) (k : Nat) (h : s.size ≤ k) : dropD s k = [] := List.drop_eq_nil_of_le (by simp; omega)
theorem dropD_len (s : ByteArray) (k : Nat) : (dropD s k).length = s.size - k := by simp [dropD]
theorem dropD_drop (s : ByteArray) (k n : Nat) : (dropD s k).drop n = dropD s (k + n) := by simp [dropD]
theorem ext_take (s : ByteArray) (k n : Nat) : s.extract k (k + n) = ⟨((dropD s k).take n).toArray⟩ := by
  apply ByteArray.ext
  apply Array.ext'
  simp [ByteArray.data_extract, dropD, List.take_drop]
theorem idx_at (s : ByteArray) (k : Nat) (w : World) :
    Calls Try.prog 41 #[.string (s.extract k s.size), .int .u8 10] w fun e w' => e = .returned (.int .i64 (Lib.indexByte (dropD s k) 10)) ∧ w = w' := index_at s k 10 w
theorem first_at (s : ByteArray) (k : Nat) (w : World) (hs : s.size ≤ maxLen) (hk : k < s.size) :
    Calls Try.prog 42 #[.string (s.extract k s.size)] w fun e w' => e = .returned (.tuple #[.int .i64 (kindL (dropD s k)), .int .i64 (lenL (dropD s k))]) ∧ Below w.heap.size w w' := by
  have h0 : 0 < (s.extract k s.size).size := by simp; omega
  have h := first_any (s.extract k s.size) w (by simp; omega) h0
  have e1 : (s.extract k s.size)[0].toNat = ((dropD s k).headD 0).toNat := by
    rw [dropD_cons s k hk]; simp [ByteArray.getElem_extract]
  have e2 : s.extract k s.size = ⟨(dropD s k).toArray⟩ := ext_mk s k
  rw [e1] at h
  unfold kindL lenL
  rw [← e2]
  exact h
theorem bcell {W w1 : World} {B : Nat} (hb : Below B W w1) : (∀ b o, b < B → w1.cell? ⟨b, o, none⟩ = W.cell? ⟨b, o, none⟩) ∧ (∀ b o, b < B → w1.frozen? ⟨b, o, none⟩ = W.frozen? ⟨b, o, none⟩) :=
  ⟨fun b o h => hb.cell (p := ⟨b, o, none⟩) h, fun b o h => hb.frozen (p := ⟨b, o, none⟩) h⟩

theorem ownsRow_base {w : World} {b b' : Nat} {e : TypeId} {size : Nat} {v : Value} {n : Nat} {xs : List Value} (h : w.ownsRow b e size v n xs) (hb : b' ≤ b) : w.ownsRow b' e size v n xs := by
  obtain ⟨h1, h2⟩ := h
  refine ⟨h1, ?_⟩
  rcases h2 with h2 | ⟨g, cap, cur, hv, hg, r⟩
  · exact .inl h2
  · exact .inr ⟨g, cap, cur, hv, Nat.le_trans hb hg, r⟩
theorem ownsRow_below {w w' : World} {b : Nat} {e : TypeId} {size : Nat} {v : Value} {n : Nat} {xs : List Value} (h : w.ownsRow b e size v n xs) (hb : Below w.heap.size w w') : w'.ownsRow b e size v n xs :=
  h.kept (row := none) ⟨hb.os, hb.tape, hb.output, hb.size, fun k h _ => hb.block k h⟩ (by cases v.ownBlock <;> simp)
theorem cell_alloc {w : World} {a : Addr} {v : Value} (h : w.cell? a = some v) (o : Obj) : (w.alloc o).cell? a = some v := by
  have hlt : a.block < w.heap.size := World.block_lt_of_cell? w a h
  rw [← h]
  exact World.cell?_of_block (Below.heap_alloc w o a.block hlt)
theorem cells_new (w : World) (l : List Value) (t : TypeId) : ∀ j u, l[j]? = some u → (w.alloc (.cells l.toArray t)).cell? ((⟨w.heap.size, 0, none⟩ : Addr).add j) = some u := by
  intro j u hu
  have hadd : (⟨w.heap.size, 0, none⟩ : Addr).add j = ⟨w.heap.size, j, none⟩ := by unfold Addr.add; split <;> simp_all
  rw [hadd, cell_of_row _ w.heap.size j l.toArray t (0, 0) (heap_alloc_new w _)]
  simpa using hu
theorem small_maxLen {n : Nat} (h : n ≤ 1000000000) : n ≤ maxLen := by unfold maxLen; omega
/-- append to an owned row, as one step of a region that draws its order -/
theorem step_append_own {P : Program} {ops : Array Oper} {o : Oper} {a : Act} {w : World} {K : Act → World → Prop} {Q : Exit → Act → World → Prop} {E : Prop} (hgd : o.guard = none) (s x : Operand) (t : TypeId)
    (ho : o.op = .call { callee := .builtin .append, args := #[s, x], argTypes := #[t, t] })
    (base : Nat) (e : TypeId) (i : TypeInfo) (z : Value) (size bytes : Nat) (ht : P.underlying t = some (.slice e)) (hi : P.info? e = some i) (hz : i.zero = some z)
    (hsize : i.size = size) (hby : i.bytes = bytes) (hzs : z.cells.size = size) (hsz : 0 < size)
    (v : Value) (n : Nat) (xs : List Value) (hs : a.eval s = v) (hown : w.ownsRow base e size v n xs)
    (ad : Addr) (m c : Nat) (news : List Value) (hx : a.eval x = .slice (some ad) m c) (hl : news.length = m * size) (hnews : ∀ j u, news[j]? = some u → w.cell? (ad.add j) = some u) (h1 : ∀ u ∈ news, u.oneCell' = true)
    (h63 : n + m ≤ maxLen) (hbytes : (n + m) * bytes ≤ 140737488355328) (hbase : base ≤ w.heap.size)
    (h : ∀ v' w', w'.ownsRow base e size v' (n + m) (xs ++ news) → w.grownBy w' v.ownBlock → (v' = .slice none 0 0 ↔ v = .slice none 0 0 ∧ m = 0) → K (a.put o.dst v') w') :
    if Region.wanted o (yielded ops a.tmps) = true then Oper.wp P o a w K Q else E := by
  rw [if_pos (by simp [Region.wanted, hgd])]
  exact wp_append_own w s x t ho base e i z size bytes ht hi hz hsize hby hzs hsz v n xs hs hown ad m c news hx hl hnews h1 h63 hbytes hbase h
theorem cell_drewS {w : World} {a : Addr} {v : Option Value} (h : w.cell? a = v) : World.cell? { heap := w.heap, tape := w.tape, drawn := w.drawn + 1, os := w.os, output := w.output } a = v := h
/-- a byte held against a constant, in the walk's own form -/
theorem u8b (c n : UInt8) (m : Int) (hm : (n.toNat : Int) = m) : ((c.toNat : Int) == m) = decide (c = n) := by
  rw [← hm, Bool.eq_iff_iff]; simp only [beq_iff_eq, decide_eq_true_eq]
  exact ⟨fun h => UInt8.toNat_inj.1 (by omega), fun h => by rw [h]⟩

theorem Tok.isSp_yes {c : UInt8} (h : isSp c = true) : c = 32 ∨ (c ≠ 32 ∧ c = 9) ∨ (c ≠ 32 ∧ c ≠ 9 ∧ c = 13) := by
  simp only [isSp, Bool.or_eq_true, beq_iff_eq] at h
  by_cases a : c = 32
  · exact .inl a
  · by_cases b : c = 9
    · exact .inr (.inl ⟨a, b⟩)
    · rcases h with (h | h) | h
      · exact absurd h a
      · exact absurd h b
      · exact .inr (.inr ⟨a, b, h⟩)
theorem Tok.isSp_no {c : UInt8} (h : ¬ isSp c = true) : c ≠ 32 ∧ c ≠ 9 ∧ c ≠ 13 := by
  simp only [isSp, Bool.or_eq_true, beq_iff_eq, not_or] at h
  exact ⟨h.1.1, h.1.2, h.2⟩

theorem Try.info38 : (Try.prog.info? 38).map (fun i => (i.zero, i.size, i.bytes)) = some (some (.agg #[.int .i64 0, .string ByteArray.empty, .int .i64 0, .int .i64 0]), 4, 40) := by kernel_rfl

set_option maxRecDepth 100000 in
set_option maxHeartbeats 2000000 in
theorem scan_any (s : ByteArray) (w : World) (hs : s.size ≤ maxLen) :
    Calls Try.prog 15 #[.string s] w fun e w' => ∃ v r, r = scanR s.data.toList ∧ e = .returned (.tuple #[v, .agg #[.int .i64 r.pl, .int .i64 r.pc], .int .i64 r.err]) ∧
      w'.ownsRow w.heap.size 38 4 v r.toks.length (cellsOf r.toks) ∧ Below w.heap.size w w' := by
  have hs' := hs
  unfold maxLen at hs
  obtain ⟨r, hr⟩ : ∃ r, scanR s.data.toList = r := ⟨_, rfl⟩
  have HR := Lib.hid hr
  by_cases hbig : 65536 < s.size
  · have h' : (65536 : Int) < s.size := by omega
    have HE := Lib.hid (show r = ⟨[], 0, 0, 101⟩ by rw [← hr, scanR, if_pos (by simpa using hbig)])
    clear hr
    go_enter Try.func15, Try.ntmps15
    go_wp2
    refine bodyPost_ret (v := .tuple #[.slice none 0 0, .agg #[.int .i64 0, .int .i64 0], .int .i64 101]) (by simp [results, Try.results15, go_sem]) rfl ?_
    refine ⟨_, r, HR.out.symm, by rw [HE.out]; rfl, by rw [HE.out]; exact World.ownsRow_nil _ _ _ _, ?_⟩
    exact (Below.refl _ _).alloc (Nat.le_refl _) _
  · have h' : ¬ (65536 : Int) < s.size := by omega
    have hsz : s.size ≤ 65536 := by omega
    have HE := Lib.hid (show scanF (s.size + 1) (dropD s 0) 1 1 [] = r by rw [← hr, scanR, if_neg (by simpa using hbig), len_data]; rfl)
    clear hr hbig
    go_enter Try.func15, Try.ntmps15
    go_wp2
    go_loopg [5, 6, 7, 8] (s.size) (fun n v ln st i wr => ∃ (k l t f : Nat) (acc : List T), s.size - k ≤ n ∧ k ≤ s.size ∧ t ≤ k ∧ l ≤ k + 1 ∧ s.size - k < f ∧ acc.length ≤ k ∧ ln = .int .i64 l ∧ st = .int .i64 t ∧ i = .int .i64 k ∧
        scanF f (dropD s k) l (k - t + 1) acc = r ∧ wr.ownsRow (w.heap.size + 1) 38 4 v acc.length (cellsOf acc) ∧ Below (w.heap.size + 1) (w.alloc (.cells #[.int .i64 0, .int .i64 0] 24)) wr)
    case atStart => exact ⟨0, 1, 0, s.size + 1, [], by omega, by omega, by omega, by omega, by omega, by simp, rfl, rfl, rfl, HE.out, World.ownsRow_nil _ _ _ _, Below.refl _ _⟩
    case round =>
      obtain ⟨k, l, t, f, acc, hm, hk, ht, hl, hf, ha, rfl, rfl, rfl, hsc, hown, hb⟩ := hrel
      have hc0 : wr.cell? ⟨w.heap.size, 0, none⟩ = some (.int .i64 0) := by rw [(bcell hb).1 _ _ (by omega)]; go_cell
      have hc1 : wr.cell? ⟨w.heap.size, 1, none⟩ = some (.int .i64 0) := by rw [(bcell hb).1 _ _ (by omega)]; go_cell
      have hz0 : ∀ o, wr.frozen? ⟨w.heap.size, o, none⟩ = false := fun o => by rw [(bcell hb).2 _ _ (by omega)]; simp
      have hsize : w.heap.size + 1 ≤ wr.heap.size := by have := hb.size; simpa using this
      by_cases hlt : k < s.size
      · rw [dropD_cons s k hlt] at hsc
        obtain ⟨f', rfl⟩ : ∃ f', f = f' + 1 := ⟨f - 1, by omega⟩
        rw [scanF] at hsc
        have e10 := u8b s[k] 10 10 rfl
        have e32 := u8b s[k] 32 32 rfl
        have e9 := u8b s[k] 9 9 rfl
        have e13 := u8b s[k] 13 13 rfl
        have e35 := u8b s[k] 35 35 rfl
        by_cases q10 : s[k] = 10
        · rw [if_pos q10] at hsc
          have HS := Lib.hid hsc
          have HO := Lib.hid hown
          clear hsc hown e32 e9 e13 e35
          rw [decide_eq_true q10] at e10
          clear q10
          go_wp2
          go_roundg (gk - 1)
          case rel => exact ⟨k + 1, l + 1, k + 1, f', acc, by omega, by omega, by omega, by omega, by omega, by omega, by go_num, by go_num, by go_num, by rw [Nat.sub_self]; exact HS.out, HO.out, hb⟩
          case measure => omega
        · rw [if_neg q10] at hsc
          rw [decide_eq_false q10] at e10
          clear q10
          by_cases qs : isSp s[k] = true
          · rw [if_pos qs] at hsc
            have HS := Lib.hid hsc
            have HO := Lib.hid hown
            clear hsc hown e35
            have q3 := isSp_yes qs
            clear qs
            rcases q3 with a | ⟨a, b⟩ | ⟨a, b, c⟩
            · rw [decide_eq_true a] at e32
              clear a e9 e13
              go_wp2
              go_roundg (gk - 1)
              case rel => exact ⟨k + 1, l, t, f', acc, by omega, by omega, by omega, by omega, by omega, by omega, rfl, rfl, by go_num, by rw [show k + 1 - t + 1 = k - t + 1 + 1 by omega]; exact HS.out, HO.out, hb⟩
              case measure => omega
            · rw [decide_eq_false a] at e32
              rw [decide_eq_true b] at e9
              clear a b e13
              go_wp2
              go_roundg (gk - 1)
              case rel => exact ⟨k + 1, l, t, f', acc, by omega, by omega, by omega, by omega, by omega, by omega, rfl, rfl, by go_num, by rw [show k + 1 - t + 1 = k - t + 1 + 1 by omega]; exact HS.out, HO.out, hb⟩
              case measure => omega
            · rw [decide_eq_false a] at e32
              rw [decide_eq_false b] at e9
              rw [decide_eq_true c] at e13
              clear a b c
              go_wp2
              go_roundg (gk - 1)
              case rel => exact ⟨k + 1, l, t, f', acc, by omega, by omega, by omega, by omega, by omega, by omega, rfl, rfl, by go_num, by rw [show k + 1 - t + 1 = k - t + 1 + 1 by omega]; exact HS.out, HO.out, hb⟩
              case measure => omega
          · rw [if_neg qs] at hsc
            have q3 := isSp_no qs
            rw [decide_eq_false q3.1] at e32
            rw [decide_eq_false q3.2.1] at e9
            rw [decide_eq_false q3.2.2] at e13
            clear q3 qs
            rw [← dropD_cons s k hlt, dropD_drop, dropD_drop] at hsc
            by_cases q35 : s[k] = 35
            · rw [if_pos q35] at hsc
              rw [decide_eq_true q35] at e35
              have hcm : 1 ≤ cmt (dropD s k) := by rw [dropD_cons s k hlt, cmt_cons, if_neg (by rw [q35]; decide)]; omega
              have hcl := cmt_le (dropD s k)
              rw [dropD_len] at hcl
              have hci := cmt_index (dropD s k)
              rw [dropD_len] at hci
              clear q35
              generalize cmt (dropD s k) = n at *
              have HS := Lib.hid hsc
              have HO := Lib.hid hown
              clear hsc hown
              rcases hci with ⟨i1, i2⟩ | ⟨i1, i2⟩
              · subst i2
                go_wp2_with (go_at_call 41; refine (idx_at _ _ _).mono ?_; rintro e w' ⟨rfl, rfl⟩)
                go_roundg (gk - 1)
                case rel => exact ⟨k + (s.size - k), l, t, f', acc, by omega, by omega, by omega, by omega, by omega, by omega, rfl, rfl, by go_num, by rw [show k + (s.size - k) - t + 1 = k - t + 1 + (s.size - k) by omega]; exact HS.out, HO.out, hb⟩
                case measure => omega
              · clear i1
                go_wp2_with (go_at_call 41; refine (idx_at _ _ _).mono ?_; rintro e w' ⟨rfl, rfl⟩)
                go_roundg (gk - 1)
                case rel => exact ⟨k + n, l, t, f', acc, by omega, by omega, by omega, by omega, by omega, by omega, rfl, rfl, by go_num, by rw [show k + n - t + 1 = k - t + 1 + n by omega]; exact HS.out, HO.out, hb⟩
                case measure => omega
            · rw [if_neg q35] at hsc
              rw [decide_eq_false q35] at e35
              clear q35
              have hnl : lenL (dropD s k) ≤ s.size - k := by
                rcases lenL_le (dropD s k) with h | h
                · rwa [dropD_len] at h
                · rw [dropD_cons s k hlt] at h; cases h
              have HS := Lib.hid hsc
              have HO := Lib.hid hown
              clear hsc hown
              have hcol : (k : Int) - (t : Int) + 1 = ((k - t + 1 : Nat) : Int) := by omega
              have HC := Lib.hid hcol
              clear hcol
              go_wp2_with fail
              refine (first_at _ _ _ hs' hlt).mono ?_
              rintro e w2 ⟨rfl, hb2⟩
              have hsize2 : wr.heap.size + 1 ≤ w2.heap.size := by have := hb2.size; simpa using this
              have hb2' : Below wr.heap.size wr w2 := ((Below.refl _ _).alloc (Nat.le_refl _) _).trans (hb2.mono (by simp))
              have cp0 : w2.cell? ⟨wr.heap.size, 0, none⟩ = some (.int .i64 l) := by rw [(bcell hb2).1 _ _ (by simp)]; go_cell
              have cp1 : w2.cell? ⟨wr.heap.size, 1, none⟩ = some (.int .i64 (k - t + 1)) := by rw [(bcell hb2).1 _ _ (by simp)]; go_cell
              have hd0 : w2.cell? ⟨w.heap.size, 0, none⟩ = some (.int .i64 0) := by rw [(bcell hb2').1 _ _ (by omega)]; exact hc0
              have hd1 : w2.cell? ⟨w.heap.size, 1, none⟩ = some (.int .i64 0) := by rw [(bcell hb2').1 _ _ (by omega)]; exact hc1
              have hz2 : ∀ o, w2.frozen? ⟨w.heap.size, o, none⟩ = false := fun o => by rw [(bcell hb2').2 _ _ (by omega)]; exact hz0 o
              have HO2 := Lib.hid (ownsRow_below HO.out hb2')
              have hB := hb.trans (hb2'.mono (by omega))
              have hne : some wr.heap.size ≠ u5.ownBlock := fun h => by have := (HO.out.lt _ h.symm).2; omega
              clear HO hb hc0 hc1 hz0 hb2 hb2'
              generalize lenL (dropD s k) = n at *
              generalize kindL (dropD s k) = kd at *
              by_cases hn0 : n = 0
              · have HS2 := Lib.hid (show r = ⟨[], l, k - t + 1, 100⟩ by rw [← HS.out, if_pos hn0])
                have e0 : ((n : Int) == 0) = true := by simp [hn0]
                clear HS hn0
                go_wp2
                go_region
                go_wp2
                refine bodyPost_ret (v := .tuple #[.slice none 0 0, .agg #[.int .i64 l, .int .i64 (k - t + 1)], .int .i64 100]) (by simp [results, Try.results15, go_sem, hd0, hd1]) rfl ?_
                refine ⟨_, r, HR.out.symm, by rw [HS2.out, HC.out], ?_, ?_⟩
                · rw [HS2.out]
                  exact World.ownsRow_nil _ _ _ _
                · exact (((((Below.refl _ _).alloc (Nat.le_refl _) _).trans (hB.mono (by omega))).setCell (Nat.le_refl _) _).setCell (Nat.le_refl _) _).drew
              · have HS2 := Lib.hid (show _ = r by rw [← HS.out, if_neg hn0])
                have e0 : ((n : Int) == 0) = false := by simp [hn0]
                have hn1 : 1 ≤ n := by omega
                have hkn : k + n ≤ s.size := by omega
                clear HS hn0
                go_wp2
                have ws0 : IntKind.i64.wrap ((k : Int) + n) = (k : Int) + n := IntWalk.i64_in _ (by omega)
                have ws1 : 0 ≤ (k : Int) + n ∧ (k : Int) + n ≤ s.size := by omega
                have ws2 : (k : Int) ≤ (k : Int) + n := by omega
                have ws3 : ((k : Int) + n).toNat = k + n := by omega
                obtain ⟨i0, hi, hz0, hz1, hz2⟩ := info_parts Try.info38
                go_region_held3 (fun w' : World => w'.cell? ⟨wr.heap.size, 0, none⟩ = some (.int .i64 l) ∧ w'.cell? ⟨wr.heap.size, 1, none⟩ = some (.int .i64 (k - t + 1))) (first | exact ⟨cp0, cp1⟩ | exact ⟨cell_alloc cp0 _, cell_alloc cp1 _⟩ | exact ⟨hgrow.cell (cell_alloc cp0 _) hne, hgrow.cell (cell_alloc cp1 _) hne⟩) (first | (refine step_append_own rfl _ _ 22 rfl (w.heap.size + 1) 38 i0 _ 4 40 Try.underlying22 hi hz0 hz1 hz2 rfl (by decide) u5 _ _ rfl (HO2.out.alloc _) ⟨w2.heap.size, 0, none⟩ 1 1 [.int .i64 kd, .string (s.extract k (k + n)), .int .i64 l, .int .i64 (k - t + 1)] rfl rfl ?_ ?_ ?_ ?_ ?_ ?_; exact cells_new _ _ _; (simp [Value.oneCell']); exact small_maxLen (by omega); omega; (simp; omega); intro v' w3 hown' hgrow _))
                have hB3 : Below (w.heap.size + 1) (w.alloc (.cells #[.int .i64 0, .int .i64 0] 24)) w3 := ((hB.alloc (by omega) _).drew).grown hgrow (by simp; omega) (fun k hk => (HO2.out.lt k hk).1)
                have hn3 : (acc ++ [(⟨kd, (dropD s k).take n, l, k - t + 1⟩ : T)]).length = acc.length + 1 := by simp
                have HW := Lib.hid (show w3.ownsRow (w.heap.size + 1) 38 4 v' (acc ++ [(⟨kd, (dropD s k).take n, l, k - t + 1⟩ : T)]).length (cellsOf (acc ++ [(⟨kd, (dropD s k).take n, l, k - t + 1⟩ : T)])) by
                  rw [hn3, cellsOf_snoc]
                  rw [HC.out, ext_take] at hown'
                  exact hown')
                clear hown' hgrow hn3
                go_wp2
                go_roundg (gk - 1)
                case rel => exact ⟨k + n, l, t, f', _, by omega, by omega, by omega, by omega, by omega, by simp; omega, rfl, rfl, by go_num, by rw [show k + n - t + 1 = k - t + 1 + n by omega]; exact HS2.out, HW.out, hB3⟩
                case measure => omega
      · rw [dropD_end s k (by omega)] at hsc
        obtain ⟨f', rfl⟩ : ∃ f', f = f' + 1 := ⟨f - 1, by omega⟩
        have HS := Lib.hid (show r = ⟨acc, 0, 0, 0⟩ from hsc.symm)
        clear hsc
        have HO := Lib.hid hown
        clear hown
        go_wp2
        refine bodyPost_ret (v := .tuple #[u5, .agg #[.int .i64 0, .int .i64 0], .int .i64 0]) (by simp [results, Try.results15, go_sem, hc0, hc1]) rfl ?_
        refine ⟨_, r, HR.out.symm, by rw [HS.out]; rfl, ?_, ?_⟩
        · rw [HS.out]
          exact ownsRow_base (ownsRow_setCell_below (ownsRow_setCell_below HO.out (by simp) _) (by simp) _) (by omega)
        · exact ((((Below.refl _ _).alloc (Nat.le_refl _) _).trans (hb.mono (by omega))).setCell (Nat.le_refl _) _).setCell (Nat.le_refl _) _

end Go.Proofs.Ytjnaeldaajckkaa
