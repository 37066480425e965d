/- SyntaxAgain: formatting what was parsed can be parsed again to the same. -/
import Derived.Test.YtjnaeldaajckkaaSynM
import Derived.Test.YtjnaeldaajckkaaSynO
import Derived.Test.YtjnaeldaajckkaaSyH
import Derived.Test.YtjnaeldaajckkaaTokX
import Derived.BigQuiet
set_option linter.unusedVariables false
set_option linter.unusedSimpArgs false
namespace Go.Proofs.Ytjnaeldaajckkaa
open Go.RowKit Tok Syn

namespace Syn
def wordsA : List ByteArray := [⟨#[97]⟩, ⟨#[98, 49]⟩, ⟨#[102, 117, 110, 100]⟩, ⟨#[103, 97, 116, 101]⟩, ⟨#[120, 95, 121]⟩, ⟨#[76, 111, 110, 103]⟩, ⟨#[104, 117, 114, 100, 108, 101]⟩, ⟨#[99, 117, 114, 114, 101, 110, 99, 121]⟩]
def optA : List ByteArray := [⟨#[]⟩, ⟨#[97, 32, 49, 44, 50, 59]⟩, ⟨#[35, 32, 120, 10, 32, 98, 59]⟩]
def optB : List ByteArray := [⟨#[]⟩, ⟨#[99, 108, 97, 115, 115, 32, 99, 123, 122, 59, 125]⟩, ⟨#[99, 108, 97, 115, 115, 32, 100, 123, 125]⟩]
def optC : List ByteArray := [⟨#[]⟩, ⟨#[113, 32, 53, 37, 59]⟩, ⟨#[99, 108, 97, 115, 115, 32, 101, 123, 32, 125]⟩]
theorem wordsA_ok {x : ByteArray} (h : x ∈ wordsA) : x.data.toList ∈ aWords ∧ x.size ≤ 8 := by
  simp only [wordsA, List.mem_cons, List.not_mem_nil, or_false] at h
  rcases h with rfl | rfl | rfl | rfl | rfl | rfl | rfl | rfl <;> exact ⟨by decide, by decide⟩
theorem optA_ok {x : ByteArray} (h : x ∈ optA) : (∃ o ∈ aA, x.data.toList = o.1) ∧ x.size ≤ 7 := by
  simp only [optA, List.mem_cons, List.not_mem_nil, or_false] at h
  rcases h with rfl | rfl | rfl
  · exact ⟨⟨_, List.mem_cons_self .., rfl⟩, by decide⟩
  · exact ⟨⟨_, List.mem_cons_of_mem _ (List.mem_cons_self ..), rfl⟩, by decide⟩
  · exact ⟨⟨_, List.mem_cons_of_mem _ (List.mem_cons_of_mem _ (List.mem_cons_self ..)), rfl⟩, by decide⟩
theorem optB_ok {x : ByteArray} (h : x ∈ optB) : (∃ o ∈ aB, x.data.toList = o.1) ∧ x.size ≤ 11 := by
  simp only [optB, List.mem_cons, List.not_mem_nil, or_false] at h
  rcases h with rfl | rfl | rfl
  · exact ⟨⟨_, List.mem_cons_self .., rfl⟩, by decide⟩
  · exact ⟨⟨_, List.mem_cons_of_mem _ (List.mem_cons_self ..), rfl⟩, by decide⟩
  · exact ⟨⟨_, List.mem_cons_of_mem _ (List.mem_cons_of_mem _ (List.mem_cons_self ..)), rfl⟩, by decide⟩
theorem optC_ok {x : ByteArray} (h : x ∈ optC) : (∃ o ∈ aC, x.data.toList = o.1) ∧ x.size ≤ 10 := by
  simp only [optC, List.mem_cons, List.not_mem_nil, or_false] at h
  rcases h with rfl | rfl | rfl
  · exact ⟨⟨_, List.mem_cons_self .., rfl⟩, by decide⟩
  · exact ⟨⟨_, List.mem_cons_of_mem _ (List.mem_cons_self ..), rfl⟩, by decide⟩
  · exact ⟨⟨_, List.mem_cons_of_mem _ (List.mem_cons_of_mem _ (List.mem_cons_self ..)), rfl⟩, by decide⟩
theorem map_get {α β : Type} {f : α → β} {a b : List α} (h : a.map f = b.map f) : a.length = b.length ∧ ∀ (k : Nat) (x y : α), a[k]? = some x → b[k]? = some y → f x = f y := by
  refine ⟨by simpa using congrArg List.length h, fun k x y hx hy => ?_⟩
  have := congrArg (fun l => l[k]?) h
  simp only [List.getElem?_map, hx, hy, Option.map_some, Option.some.injEq] at this
  exact this
theorem eqC_of {c d : Cl} (h : sC c = sC d) : EqC false c d := by
  simp only [sC, Prod.mk.injEq] at h
  exact ⟨h.1, h.2, fun e => by cases e⟩
theorem eqCs_of {a b : List Cl} (h : a.map sC = b.map sC) : EqCs false a b := ⟨(map_get h).1, fun k x y hx hy => eqC_of ((map_get h).2 k x y hx hy)⟩
theorem eqK_of {c d : Cb} (h : sK c = sK d) : EqK false c d := by
  simp only [sK, Prod.mk.injEq] at h
  exact ⟨h.1, eqCs_of h.2, fun e => by cases e⟩
theorem eqBs_of {a b : List Bk} (h : a.map sB = b.map sB) : EqBs false a b := ⟨(map_get h).1, fun k x y hx hy => by
  have h1 := (map_get h).2 k x y hx hy
  simp only [sB, Prod.mk.injEq] at h1
  exact ⟨h1.1, eqCs_of h1.2.1, ⟨(map_get h1.2.2).1, fun j p q hp hq => eqK_of ((map_get h1.2.2).2 j p q hp hq)⟩, fun e => by cases e⟩⟩
end Syn
set_option maxRecDepth 100000 in
set_option maxHeartbeats 4000000 in
theorem lword_any (bt at_ : Nat) (w : World) (ht : IsTape w bt at_) (hat : at_ < 1000000) :
    Calls Try.prog 40 #[.pointer (some ⟨bt, 0, none⟩)] w fun e w' => ∃ s, s ∈ wordsA ∧ e = .returned (.string s) ∧ IsTape w' bt (at_ + 1) ∧ w.grownBy w' (some bt) := by
  have h2 := strs_new w wordsA 9
  have hlt := ht.lt
  have HT := Lib.hid ht
  go_enter Try.func40, Try.ntmps40
  go_wp2_with fail
  refine (one_n bt at_ w.heap.size 8 8 wordsA _ rfl (IsTape.alloc' HT.out _) (by omega) (by omega) (by omega) (by omega) h2).mono ?_
  rintro e w6 ⟨y, hy, rfl, ht6, hg6⟩
  go_wp2
  go_ret
  exact ⟨y, hy, rfl, ht6, grownBy_via' (grownBy_refl _ _) _ hg6⟩
set_option maxRecDepth 100000 in
set_option maxHeartbeats 4000000 in
theorem again_any (a : Option Addr) (len cap : Nat) (z : List Int) (w : World) (hr : IsRow .i64 w a len cap z) :
    Calls Try.prog 13 #[.slice a len cap] w fun e w' => e = .returned (.bool true) ∧ Below w.heap.size w w' := by
  have ht0 := hr.tape 34
  clear hr
  have hB0 := (Below.refl w.heap.size w).alloc (Nat.le_refl _) (.cells #[.slice a len cap, .int .i64 0] 34)
  go_enter Try.func13, Try.ntmps13
  go_wp2_with fail
  go_loopg [4, 5] 3 (fun m ms i wr => ∃ (n at' : Nat) (l : List AOpt) (x : ByteArray), n ≤ 2 ∧ 2 - n < m ∧ at' ≤ 10 * n ∧ ms = .string x ∧ i = .int .i64 (n : Int) ∧ l.length = n ∧ (∀ o ∈ l, o.ok) ∧ x.data.toList = l.flatMap AOpt.text ∧ x.size ≤ 60 * n ∧ IsTape wr w.heap.size at' ∧ Below w.heap.size w wr)
  case atStart => exact ⟨0, 0, [], ⟨#[]⟩, by omega, by omega, by omega, rfl, rfl, rfl, fun u hu => (by cases hu), rfl, by decide, ht0, hB0⟩
  case round =>
    obtain ⟨n, at', l, x, hn, hm, hat, rfl, rfl, hul, hok, hxd, hxs, ht, hB⟩ := hrel
    have HOK := Lib.hid hok
    have HXD := Lib.hid hxd
    have HUL := Lib.hid hul
    clear hok hxd hul ht0 hB0
    go_wp2_with fail
    refine (next_any w.heap.size at' 3 _ ht (by omega) (by omega)).mono ?_
    rintro e w5 ⟨v5, rfl, ht5, hg5⟩
    have hb5 := foldI_bd v5 3 (by omega)
    generalize foldI v5 3 = r at *
    have hB5 := hB.trans (below_grownBy hg5 (Nat.le_refl _) (hB.size))
    clear ht hB hg5
    by_cases hx : (n : Int) < r
    · go_wp2_with fail
      refine (lword_any w.heap.size (at' + 1) w5 ht5 (by omega)).mono ?_
      rintro e w6 ⟨y, hy, rfl, ht6, hg6⟩
      obtain ⟨hy1, hy2⟩ := wordsA_ok hy
      have hB6 := hB5.trans (below_grownBy hg6 (Nat.le_refl _) hB5.size)
      have HY := Lib.hid hy1
      have hlt6 := ht6.lt
      clear ht5 hB5 hg6 hy hy1
      go_wp2_with fail
      refine (one_n w.heap.size _ w6.heap.size 3 3 optA _ rfl (IsTape.alloc' ht6 _) (by omega) (by omega) (by omega) (by omega) (strs_new w6 optA 9)).mono ?_
      rintro e w7 ⟨ya, hya, rfl, ht7, hg7⟩
      obtain ⟨⟨oa, hoa, hya1⟩, hya2⟩ := optA_ok hya
      have hB7 := (hB6.alloc hB6.size _).trans (below_grownBy hg7 (Nat.le_refl _) (by have := hB6.size; simp; omega))
      have HYA := Lib.hid hya1
      have HOA := Lib.hid hoa
      have hlt7 := ht7.lt
      clear ht6 hB6 hg7 hya hya1 hoa
      go_wp2_with fail
      refine (one_n w.heap.size _ w7.heap.size 3 3 optB _ rfl (IsTape.alloc' ht7 _) (by omega) (by omega) (by omega) (by omega) (strs_new w7 optB 9)).mono ?_
      rintro e w8 ⟨yb, hyb, rfl, ht8, hg8⟩
      obtain ⟨⟨ob, hob, hyb1⟩, hyb2⟩ := optB_ok hyb
      have hB8 := (hB7.alloc hB7.size _).trans (below_grownBy hg8 (Nat.le_refl _) (by have := hB7.size; simp; omega))
      have HYB := Lib.hid hyb1
      have HOB := Lib.hid hob
      have hlt8 := ht8.lt
      clear ht7 hB7 hg8 hyb hyb1 hob
      go_wp2_with fail
      refine (one_n w.heap.size _ w8.heap.size 3 3 optC _ rfl (IsTape.alloc' ht8 _) (by omega) (by omega) (by omega) (by omega) (strs_new w8 optC 9)).mono ?_
      rintro e w9 ⟨yc, hyc, rfl, ht9, hg9⟩
      obtain ⟨⟨oc, hoc, hyc1⟩, hyc2⟩ := optC_ok hyc
      have hB9 := (hB8.alloc hB8.size _).trans (below_grownBy hg9 (Nat.le_refl _) (by have := hB8.size; simp; omega))
      have HYC := Lib.hid hyc1
      have HOC := Lib.hid hoc
      clear ht8 hB8 hg9 hyc hyc1 hoc
      go_wp2
      go_roundg (gk - 1)
      case measure => omega
      case rel =>
        refine ⟨n + 1, _, l ++ [⟨y.data.toList, oa, ob, oc⟩], _, by omega, by omega, ?_, rfl, by go_num, by rw [List.length_append, HUL.out]; rfl, fun z hz => (List.mem_append.1 hz).elim (HOK.out z) (fun h => by rw [List.mem_singleton.1 h]; exact ⟨HY.out, HOA.out, HOB.out, HOC.out⟩), ?_, ?_, ht9, hB9⟩
        · omega
        · simp only [app_list, HXD.out, HYA.out, HYB.out, HYC.out, List.flatMap_append]
          simp [AOpt.text, aText, sFund]
        · simp only [ByteArray.size_append]
          have e1 : (⟨#[102, 117, 110, 100, 32]⟩ : ByteArray).size = 5 := rfl
          have e2 : (⟨#[123]⟩ : ByteArray).size = 1 := rfl
          have e3 : (⟨#[125, 10]⟩ : ByteArray).size = 2 := rfl
          rw [e1, e2, e3]
          omega
    · obtain ⟨ts, m, ts2, m2, k1, k2, k3, k4, k5, k6, k7, k8, k9⟩ := again_law HOK.out (by rw [HUL.out]; omega)
      have r1 : parseR x.data.toList = ⟨m, 0, 0, 0⟩ := by rw [HXD.out]; exact parse_yes (by rw [k1]) (by rw [k1]; exact k2)
      have r2 : parseR (blocksL m) = ⟨m2, 0, 0, 0⟩ := parse_yes (by rw [k5]) (by rw [k5]; exact k6)
      have hp1 := fun W : World => parse_any x W (small_maxLen (by omega))
      have hp2 := fun W : World => parse_any ⟨(blocksL m).toArray⟩ W (by rw [bsize]; exact small_maxLen (by omega))
      have e1 : (⟨(blocksL m).toArray⟩ : ByteArray).data.toList = blocksL m := by simp
      rw [r1] at hp1
      rw [e1, r2] at hp2
      have P1 := Lib.hid hp1
      have P2 := Lib.hid hp2
      have K3 := Lib.hid k3
      have K4 := Lib.hid k4
      have K7 := Lib.hid (eqBs_of k7.symm)
      have K8 := Lib.hid k8
      have K9 := Lib.hid k9
      clear k1 k2 k3 k4 k5 k6 k7 k8 k9 r1 r2 hp1 hp2 e1
      go_wp2_with fail
      refine (P1.out _).mono ?_
      rintro e w6 ⟨v1, D1, rfl, hb1, hd1, hB6⟩
      have a6 := (Below.refl _ w6).alloc (Nat.le_refl _) (.cells #[.int .i64 0, .int .i64 0] 24)
      have hB7 := (hB5.trans (hB6.mono hB5.size)).trans (a6.mono (by have := hB5.size; have := hB6.size; omega))
      have HB1 := Lib.hid (hb1.up (KeepsD.below a6 (fun k hk => (hd1 k hk).2)) fun _ h => h)
      have HD1 : Hid (∀ k, D1 k → k < (w6.alloc (.cells #[.int .i64 0, .int .i64 0] 24)).heap.size) := Lib.hid fun k hk => by have := (hd1 k hk).2; simp; omega
      clear hB5 hB6 hb1 hd1 a6 ht5
      simp only
      go_wp2_with fail
      refine (format_good HB1.out HD1.out K3.out (by have := K4.out; omega)).mono ?_
      rintro e w7 ⟨rfl, hB8⟩
      have HB2 := Lib.hid (HB1.out.up (KeepsD.below hB8 HD1.out) fun _ h => h)
      have HD2 : Hid (∀ k, D1 k → k < w7.heap.size) := Lib.hid fun k hk => Nat.lt_of_lt_of_le (HD1.out k hk) hB8.size
      have hB9 := hB7.trans (hB8.mono hB7.size)
      clear hB7 hB8
      go_wp2_with fail
      refine (P2.out _).mono ?_
      rintro e w8 ⟨v2, D2, rfl, hb3, hd3, hB10⟩
      have a8 := (Below.refl _ w8).alloc (Nat.le_refl _) (.cells #[.int .i64 0, .int .i64 0] 24)
      have a9 := hB10.trans (a8.mono hB10.size)
      have HB3 := Lib.hid (HB2.out.up (KeepsD.below a9 HD2.out) fun _ h => h)
      have HD3 : Hid (∀ k, D1 k → k < (w8.alloc (.cells #[.int .i64 0, .int .i64 0] 24)).heap.size) := Lib.hid fun k hk => Nat.lt_of_lt_of_le (HD2.out k hk) a9.size
      have HC3 := Lib.hid (hb3.up (KeepsD.below a8 (fun k hk => (hd3 k hk).2)) fun _ h => h)
      have HE3 : Hid (∀ k, D2 k → k < (w8.alloc (.cells #[.int .i64 0, .int .i64 0] 24)).heap.size) := Lib.hid fun k hk => by have := (hd3 k hk).2; simp; omega
      have hB11 := hB9.trans (a9.mono hB9.size)
      clear hB9 hB10 hb3 hd3 a8 a9
      simp only
      go_wp2_with fail
      refine (format_good HC3.out HE3.out K8.out (by rw [K9.out]; have := K4.out; omega)).mono ?_
      rw [K9.out]
      rintro e w9 ⟨rfl, hB12⟩
      have HB4 := Lib.hid (HB3.out.up (KeepsD.below hB12 HD3.out) fun _ h => h)
      have HD4 : Hid (∀ k, D1 k → k < w9.heap.size) := Lib.hid fun k hk => Nat.lt_of_lt_of_le (HD3.out k hk) hB12.size
      have HC4 := Lib.hid (HC3.out.up (KeepsD.below hB12 HE3.out) fun _ h => h)
      have HE4 : Hid (∀ k, D2 k → k < w9.heap.size) := Lib.hid fun k hk => Nat.lt_of_lt_of_le (HE3.out k hk) hB12.size
      have hB13 := hB11.trans (hB12.mono hB11.size)
      clear hB11 hB12
      go_wp2_with fail
      refine (known11_any _).mono ?_
      rintro e w10 ⟨rfl, hB14⟩
      have HB5 := Lib.hid (HB4.out.up (KeepsD.below hB14 HD4.out) fun _ h => h)
      have HD5 : Hid (∀ k, D1 k → k < w10.heap.size) := Lib.hid fun k hk => Nat.lt_of_lt_of_le (HD4.out k hk) hB14.size
      have HC5 := Lib.hid (HC4.out.up (KeepsD.below hB14 HE4.out) fun _ h => h)
      have HE5 : Hid (∀ k, D2 k → k < w10.heap.size) := Lib.hid fun k hk => Nat.lt_of_lt_of_le (HE4.out k hk) hB14.size
      have hB15 := hB13.trans (hB14.mono hB13.size)
      clear hB13 hB14
      go_wp2_with fail
      refine (same_any false HB5.out HC5.out K7.out HD5.out HE5.out).mono ?_
      rintro e w11 ⟨rfl, hB16⟩
      go_wp2
      go_ret
      exact ⟨rfl, hB15.trans (hB16.mono hB15.size)⟩
end Go.Proofs.Ytjnaeldaajckkaa
