/- SyntaxErrors: a text with an error is refused at the same token whatever follows. -/
import Derived.Test.YtjnaeldaajckkaaSynM
import Derived.Test.YtjnaeldaajckkaaSyG
import Derived.Test.YtjnaeldaajckkaaTokX
import Derived.BigQuiet
set_option linter.unusedVariables false
set_option linter.unusedSimpArgs false
namespace Go.Proofs.Ytjnaeldaajckkaa
open Go.RowKit Tok Syn

namespace Syn
def headsB : List ByteArray := [⟨#[102, 117, 110, 100, 32, 97, 32, 123, 32, 98, 59, 32]⟩, ⟨#[102, 117, 110, 100, 32, 97, 32, 123, 32, 99, 108, 97, 115, 115, 32, 99, 32, 123, 32, 100, 32, 49, 59, 32]⟩, ⟨#[]⟩, ⟨#[102, 117, 110, 100, 32, 97, 32, 123, 32, 125, 32]⟩]
def endsB : List ByteArray := [⟨#[123, 32]⟩, ⟨#[59, 32]⟩, ⟨#[44, 32]⟩, ⟨#[53, 37, 32]⟩, ⟨#[49, 50, 58, 48, 48, 32]⟩]
def moresB : List ByteArray := [⟨#[97, 32]⟩, ⟨#[59, 32]⟩, ⟨#[125, 32]⟩, ⟨#[102, 117, 110, 100, 32]⟩, ⟨#[123, 32]⟩, ⟨#[99, 108, 97, 115, 115, 32]⟩]
theorem headsB_ok {x : ByteArray} (h : x ∈ headsB) : ∃ p ∈ heads, x.data.toList = p.1 ∧ x.size ≤ 24 := by
  simp only [headsB, List.mem_cons, List.not_mem_nil, or_false] at h
  rcases h with rfl | rfl | rfl | rfl
  · exact ⟨heads[0], by decide +kernel, rfl, by decide⟩
  · exact ⟨heads[1], by decide +kernel, rfl, by decide⟩
  · exact ⟨heads[2], by decide +kernel, rfl, by decide⟩
  · exact ⟨heads[3], by decide +kernel, rfl, by decide⟩
theorem endsB_ok {x : ByteArray} (h : x ∈ endsB) : ∃ e ∈ ends, x.data.toList = e ++ [32] ∧ x.size ≤ 6 := by
  simp only [endsB, List.mem_cons, List.not_mem_nil, or_false] at h
  rcases h with rfl | rfl | rfl | rfl | rfl
  · exact ⟨_, by unfold ends; exact List.mem_cons_self .., rfl, by decide⟩
  · exact ⟨[59], by decide, rfl, by decide⟩
  · exact ⟨[44], by decide, rfl, by decide⟩
  · exact ⟨[53, 37], by decide, rfl, by decide⟩
  · exact ⟨[49, 50, 58, 48, 48], by decide, rfl, by decide⟩
theorem moresB_ok {x : ByteArray} (h : x ∈ moresB) : ∃ e ∈ mores, x.data.toList = e ++ [32] ∧ x.size ≤ 6 := by
  simp only [moresB, List.mem_cons, List.not_mem_nil, or_false] at h
  rcases h with rfl | rfl | rfl | rfl | rfl | rfl
  · exact ⟨[97], by decide, rfl, by decide⟩
  · exact ⟨[59], by decide, rfl, by decide⟩
  · exact ⟨[125], by decide, rfl, by decide⟩
  · exact ⟨sFund, by decide, rfl, by decide⟩
  · exact ⟨[123], by decide, rfl, by decide⟩
  · exact ⟨sClass, by decide, rfl, by decide⟩
def errB2 (l : List UInt8) : Bool := match blocksP (scanR l).toks with
  | .error (t :: _) => decide (1 ≤ t.line)
  | _ => false
theorem errs2 : heads.all (fun h => ends.all fun e => errB2 (h.1 ++ (e ++ [32]))) = true := by decide +kernel
theorem err_parse {h : List UInt8 × List It} {e : List UInt8} (hh : h ∈ heads) (he : e ∈ ends) : ∃ ln cl : Nat, 1 ≤ ln ∧ parseR (h.1 ++ (e ++ [32])) = ⟨[], ln, cl, 110⟩ ∧
    ∀ us : List (List UInt8), (∀ u ∈ us, u ∈ mores) → us.length ≤ 1000 → parseR ((h.1 ++ (e ++ [32])) ++ us.flatMap fun u => u ++ [32]) = ⟨[], ln, cl, 110⟩ := by
  obtain ⟨t, s, r, ts, h1, h2, _, _⟩ := errors_law (us := []) hh he (fun u hu => by cases hu) (by simp)
  have hl1 : 1 ≤ t.line := by
    have h3 := List.all_eq_true.1 (List.all_eq_true.1 errs2 h hh) e he
    unfold errB2 at h3
    rw [h1] at h3
    simp only [h2, decide_eq_true_eq] at h3
    exact h3
  refine ⟨t.line, t.col, hl1, parse_no (by rw [h1]) (by rw [h1]; exact h2), fun us hu hn => ?_⟩
  obtain ⟨t', s', r', ts', k1, k2, k3, k4⟩ := errors_law (us := us) hh he hu hn
  have e1 : ts' = ts := by rw [h1] at k1; injection k1 with k1; exact k1.symm
  subst e1
  rw [h2] at k2
  injection k2 with k2
  rw [← k2] at k4
  exact parse_no (by rw [k3]) (by rw [k3]; exact k4)
end Syn
theorem IsTape.drew' {w : World} {bt at_ : Nat} (h : IsTape w bt at_) : IsTape w.drew bt at_ := h.below (Below.refl _ _).drew
set_option maxRecDepth 100000 in
set_option maxHeartbeats 4000000 in
theorem errors_any (a : Option Addr) (len cap : Nat) (z : List Int) (w : World) (hr : IsRow .i64 w a len cap z) :
    Calls Try.prog 14 #[.slice a len cap] w fun e w' => e = .returned (.bool true) ∧ Below w.heap.size w w' := by
  have ht0 := hr.tape 34
  clear hr
  have hB0 := (Below.refl w.heap.size w).alloc (Nat.le_refl _) (.cells #[.slice a len cap, .int .i64 0] 34)
  have h1 := strs_new (w.alloc (.cells #[.slice a len cap, .int .i64 0] 34)) headsB 9
  rw [World.size_alloc] at h1
  have hnb : w.heap.size + 1 ≠ w.heap.size := by omega
  go_enter Try.func14, Try.ntmps14
  go_wp2_with fail
  refine (one_n w.heap.size 0 (w.heap.size + 1) 4 4 headsB _ rfl (IsTape.alloc' ht0 _) (by omega) (by omega) (by omega) hnb h1).mono ?_
  rintro e w1 ⟨s1, hs1, rfl, ht1, hg1⟩
  obtain ⟨p, hp, hp1, hp2⟩ := headsB_ok hs1
  have hB1 := (hB0.alloc (by simp) _).trans (below_grownBy hg1 (Nat.le_refl _) (by simp; omega))
  have g1 := hB1.size
  have HP := Lib.hid hp
  have HP1 := Lib.hid hp1
  clear h1 hp hp1 hg1 ht0 hs1 hB0
  go_wp2_with fail
  have h2 := strs_new w1 endsB 9
  have hlt1 := ht1.lt
  refine (one_n w.heap.size _ w1.heap.size 5 5 endsB _ rfl (IsTape.alloc' ht1 _) (by omega) (by omega) (by omega) (by omega) h2).mono ?_
  rintro e w2 ⟨s2, hs2, rfl, ht2, hg2⟩
  obtain ⟨q, hq, hq1, hq2⟩ := endsB_ok hs2
  have hB2 := (hB1.alloc (by omega) _).trans (below_grownBy hg2 (Nat.le_refl _) (by simp; omega))
  have HQ := Lib.hid hq
  have HQ1 := Lib.hid hq1
  clear h2 hq hq1 hg2 ht1 hs2 hB1
  obtain ⟨ln, cl, hln, he1, he2⟩ := err_parse HP.out HQ.out
  have hsl : (s1 ++ s2).data.toList = p.1 ++ (q ++ [32]) := by rw [app_list, HP1.out, HQ1.out]
  have hsz : (s1 ++ s2).size = s1.size + s2.size := ByteArray.size_append ..
  have hpa := fun W : World => parse_any (s1 ++ s2) W (by rw [hsz]; exact small_maxLen (by omega))
  obtain ⟨L, hL⟩ : ∃ L : Int, (ln : Int) = L := ⟨_, rfl⟩
  obtain ⟨C, hC⟩ : ∃ C : Int, (cl : Int) = C := ⟨_, rfl⟩
  rw [hsl, he1] at hpa
  simp only [hL, hC] at hpa
  have hL0 : ¬ L = 0 := by omega
  have HL := Lib.hid hL
  have HC := Lib.hid hC
  clear hL hC hln
  have HPA := Lib.hid hpa
  have HE2 := Lib.hid he2
  have HSL := Lib.hid hsl
  clear hpa he1 he2 hsl
  go_wp2_with fail
  refine (HPA.out _).mono ?_
  rintro e w3 ⟨v, D, rfl, _, _, hB3⟩
  have ht3 := ht2.below hB3
  have hlt3 := ht3.lt
  have hB4 := hB2.trans (hB3.mono hB2.size)
  have g3 := hB4.size
  simp only
  clear ht2 hB2 hB3
  have p0 : (w3.alloc (.cells #[.int .i64 L, .int .i64 C] 24)).cell? ⟨w3.heap.size, 0, none⟩ = some (.int .i64 L) := cells_new w3 [.int .i64 L, .int .i64 C] 24 0 _ rfl
  have p1 : (w3.alloc (.cells #[.int .i64 L, .int .i64 C] 24)).cell? ⟨w3.heap.size, 1, none⟩ = some (.int .i64 C) := cells_new w3 [.int .i64 L, .int .i64 C] 24 1 _ rfl
  go_wp2_with fail
  go_loopg [8, 9] 6 (fun m ms i wr => ∃ (n at' : Nat) (us : List (List UInt8)) (x : ByteArray), n ≤ 5 ∧ 5 - n < m ∧ at' ≤ 10 + 2 * n ∧ ms = .string x ∧ i = .int .i64 (n : Int) ∧ us.length = n ∧ (∀ u ∈ us, u ∈ mores) ∧ x.data.toList = (us.flatMap fun u => u ++ [32]) ∧ x.size ≤ 6 * n ∧
    wr.cell? ⟨w3.heap.size, 0, none⟩ = some (.int .i64 L) ∧ wr.cell? ⟨w3.heap.size, 1, none⟩ = some (.int .i64 C) ∧ IsTape wr w.heap.size at' ∧ Below w.heap.size w wr ∧ w3.heap.size < wr.heap.size)
  case atStart => exact ⟨0, _, [], ⟨#[]⟩, by omega, by omega, by omega, rfl, rfl, rfl, fun u hu => (by cases hu), rfl, by decide, p0, p1, IsTape.alloc' ht3 _, hB4.alloc g3 _, by simp⟩
  case round =>
    obtain ⟨n, at', us, x, hn, hm, hat, rfl, rfl, hul, hmo, hxd, hxs, c0, c1, ht, hB, hS⟩ := hrel
    have HMO := Lib.hid hmo
    have HXD := Lib.hid hxd
    have HUL := Lib.hid hul
    clear p0 p1 hmo hxd hul ht3 hB4
    have hltt := ht.lt
    go_wp2_with fail
    refine (next_any w.heap.size at' 6 _ ht (by omega) (by omega)).mono ?_
    rintro e w5 ⟨v5, rfl, ht5, hg5⟩
    have hb5 := foldI_bd v5 6 (by omega)
    generalize foldI v5 6 = r at *
    have n3 : some w3.heap.size ≠ some w.heap.size := fun e => by injection e with e; omega
    have d0 := hg5.cell c0 n3
    have d1 := hg5.cell c1 n3
    have hB5 := hB.trans (below_grownBy hg5 (Nat.le_refl _) (by omega))
    have g5 := hg5.size
    clear c0 c1 ht hB hg5
    by_cases hx : (n : Int) < r
    · go_wp2_with fail
      have h2 := strs_new w5 moresB 9
      have hlt5 := ht5.lt
      refine (one_n w.heap.size _ w5.heap.size 6 6 moresB _ rfl (IsTape.alloc' ht5 _) (by omega) (by omega) (by omega) (by omega) h2).mono ?_
      rintro e w6 ⟨y, hy, rfl, ht6, hg6⟩
      obtain ⟨u, hu, hy1, hy2⟩ := moresB_ok hy
      have e0 := hg6.cell (cell_alloc d0 _) n3
      have e1 := hg6.cell (cell_alloc d1 _) n3
      have hB6 := (hB5.alloc (by omega) _).trans (below_grownBy hg6 (Nat.le_refl _) (by simp; omega))
      have g6 := hg6.size
      simp only [World.size_alloc] at g6
      have HY1 := Lib.hid hy1
      have HU := Lib.hid hu
      clear h2 hy hg6 d0 d1 hB5 ht5 hu hy1
      go_wp2
      go_roundg (gk - 1)
      case measure => omega
      case rel => exact ⟨n + 1, _, us ++ [u], _, by omega, by omega, by omega, rfl, by go_num, by rw [List.length_append, HUL.out]; rfl, fun z hz => (List.mem_append.1 hz).elim (HMO.out z) (fun h => by rw [List.mem_singleton.1 h]; exact HU.out), by rw [app_list, HXD.out, HY1.out]; simp, by rw [ByteArray.size_append]; omega, e0, e1, ht6, hB6, by omega⟩
    · have hsz2 : (s1 ++ s2 ++ x).size = s1.size + s2.size + x.size := by rw [ByteArray.size_append, hsz]
      have hpa := fun W : World => parse_any (s1 ++ s2 ++ x) W (by rw [hsz2]; exact small_maxLen (by omega))
      have hsl2 : (s1 ++ s2 ++ x).data.toList = (p.1 ++ (q ++ [32])) ++ us.flatMap fun u => u ++ [32] := by rw [app_list, HSL.out, HXD.out]
      rw [hsl2, HE2.out us HMO.out (by rw [HUL.out]; omega)] at hpa
      simp only [HL.out, HC.out] at hpa
      have HPB := Lib.hid hpa
      clear hpa hsl2
      go_wp2_with fail
      refine (HPB.out _).mono ?_
      rintro e w6 ⟨v6, D6, rfl, _, _, hb6⟩
      simp only
      have e0 := cell_alloc (cell_up d0 hb6) (.cells #[.int .i64 L, .int .i64 C] 24)
      have e1 := cell_alloc (cell_up d1 hb6) (.cells #[.int .i64 L, .int .i64 C] 24)
      have p0 : (w6.alloc (.cells #[.int .i64 L, .int .i64 C] 24)).cell? ⟨w6.heap.size, 0, none⟩ = some (.int .i64 L) := cells_new w6 [.int .i64 L, .int .i64 C] 24 0 _ rfl
      have p1 : (w6.alloc (.cells #[.int .i64 L, .int .i64 C] 24)).cell? ⟨w6.heap.size, 1, none⟩ = some (.int .i64 C) := cells_new w6 [.int .i64 L, .int .i64 C] 24 1 _ rfl
      have hB6 := hB5.trans (hb6.mono hB5.size)
      have hB7 := hB6.alloc hB6.size (.cells #[.int .i64 L, .int .i64 C] 24)
      clear d0 d1 hb6 ht5
      go_wp2_with fail
      refine (known11_any _).mono ?_
      rintro e w7 ⟨rfl, hb7⟩
      have e0 := cell_up e0 hb7
      have e1 := cell_up e1 hb7
      have p0 := cell_up p0 hb7
      have p1 := cell_up p1 hb7
      have hB8 := hB7.trans (hb7.mono hB7.size)
      clear hb7
      go_wp2
      go_ret
      exact ⟨rfl, hB8⟩
end Go.Proofs.Ytjnaeldaajckkaa
