/- The reference's parser: is, sign, word. -/
import Derived.Test.YtjnaeldaajckkaaSyrA
import Derived.BigQuiet
set_option linter.unusedVariables false
set_option linter.unusedSimpArgs false
namespace Go.Proofs.Ytjnaeldaajckkaa
open Go.RowKit Tok Syn

theorem str_beq (a b : List UInt8) : ((⟨a.toArray⟩ : ByteArray).toList == (⟨b.toArray⟩ : ByteArray).toList) = (a == b) := by
  rw [ByteArray.toList_eq, ByteArray.toList_eq]
set_option maxRecDepth 100000 in
set_option maxHeartbeats 4000000 in
theorem ris_any {w : World} {bp : Nat} {tv : Value} {L r : List T} {bad : Bool} (k : Int) (x : List UInt8) (hp : RP w bp tv L r bad) :
    Calls Try.prog 77 #[.pointer (some ⟨bp, 0, none⟩), .int .i64 k, .string ⟨x.toArray⟩] w fun e w' => e = .returned (.bool ((tokT r bad).kind == k && (tokT r bad).text == x)) ∧ Below w.heap.size w w' := by
  have HP := Lib.hid hp
  clear hp
  generalize ht : tokT r bad = t
  have HT := Lib.hid ht
  clear ht
  go_enter Try.func77, Try.ntmps77
  go_wp2_with fail
  refine (rtok_any HP.out).mono ?_
  rintro e w1 ⟨rfl, hb1⟩
  rw [HT.out]
  simp only [Tok.T.val]
  have d0 := cells_new w1 [.int .i64 t.kind, .string ⟨t.text.toArray⟩, .int .i64 t.line, .int .i64 t.col] 38 0 _ rfl
  have d1 := cells_new w1 [.int .i64 t.kind, .string ⟨t.text.toArray⟩, .int .i64 t.line, .int .i64 t.col] 38 1 _ rfl
  have HB := Lib.hid (hb1.alloc hb1.size (.cells #[.int .i64 t.kind, .string ⟨t.text.toArray⟩, .int .i64 t.line, .int .i64 t.col] 38))
  clear hb1
  cases hk : t.kind == k
  · go_wp2
    go_ret
    exact ⟨by simp [hk], HB.out⟩
  · go_wp2
    go_ret
    exact ⟨by simp [hk], HB.out⟩
set_option maxRecDepth 100000 in
set_option maxHeartbeats 4000000 in
theorem rsign_any {w : World} {bp : Nat} {tv : Value} {L r : List T} {bad : Bool} (c : UInt8) (hp : RP w bp tv L r bad) :
    Calls Try.prog 79 #[.pointer (some ⟨bp, 0, none⟩), .string ⟨#[c]⟩] w fun e w' => e = .returned (.tuple #[]) ∧ w.grownBy w' (some bp) ∧
      (sgn (tokT r bad) c = false → RP w' bp tv L r true) ∧ (∀ t r', r = t :: r' → bad = false → sgn t c = true → RP w' bp tv L r' false) := by
  have HP := Lib.hid hp
  clear hp
  obtain ⟨⟨kd, tx, ln, cl⟩, ht⟩ : ∃ t, tokT r bad = t := ⟨_, rfl⟩
  have HT := Lib.hid ht
  rw [ht]
  clear ht
  have hone : ∀ t' r', r = t' :: r' → bad = false → t' = ⟨kd, tx, ln, cl⟩ := fun t' r' e1 e2 => by
    have h1 := HT.out
    rw [e1, e2] at h1
    exact h1
  have HON := Lib.hid hone
  clear hone
  have hltb := HP.out.lt
  have hle := HP.out.len
  by_cases hkn : kd = 5
  · subst hkn
    by_cases hx : tx = [c]
    · subst hx
      go_enter Try.func79, Try.ntmps79
      go_wp2_with fail
      refine (rtok_any HP.out).mono ?_
      rintro e w1 ⟨rfl, hb1⟩
      rw [HT.out]
      simp only [Tok.T.val]
      have d0 := cells_new w1 [.int .i64 5, .string ⟨[c].toArray⟩, .int .i64 ln, .int .i64 cl] 38 0 _ rfl
      have d1 := cells_new w1 [.int .i64 5, .string ⟨[c].toArray⟩, .int .i64 ln, .int .i64 cl] 38 1 _ rfl
      have hal := hb1.alloc hb1.size (.cells #[.int .i64 5, .string ⟨[c].toArray⟩, .int .i64 ln, .int .i64 cl] 38)
      have hp2 := HP.out.below hal
      have HP2 := Lib.hid hp2
      have HB := Lib.hid (grownBy_below hal (some bp))
      have p1 := hp2.c1
      have p2 := hp2.c2
      have f1 := hp2.f 1
      have f2 := hp2.f 2
      have hs1 := hb1.size
      obtain ⟨at_, hat⟩ : ∃ a, a = L.length - r.length := ⟨_, rfl⟩
      have hat2 : at_ ≤ 65536 := by omega
      rw [← hat] at p1
      have HAT := Lib.hid hat
      have hnb : ¬ w1.heap.size = bp := by omega
      have hnb2 : ¬ bp = w1.heap.size := by omega
      clear hb1 hal hp2 hat
      go_wp2
      first | go_end0 | refine bodyPost_ret (results_none rfl _ _ _) rfl ?_
      refine ⟨rfl, grownBy_trans HB.out (grownBy_setCell ⟨bp, 1, none⟩ rfl _), fun h => ?_, fun t' r' e1 e2 e3 => ?_⟩
      · simp [Syn.sgn] at h
      · have h1 := HP2.out
        rw [e1, e2] at h1
        have h2 := h1.step
        rw [← e1, ← HAT.out] at h2
        exact h2
    · have hxb : (tx == [c]) = false := beq_false_of_ne hx
      go_enter Try.func79, Try.ntmps79
      go_wp2_with fail
      refine (rtok_any HP.out).mono ?_
      rintro e w1 ⟨rfl, hb1⟩
      rw [HT.out]
      simp only [Tok.T.val]
      have d0 := cells_new w1 [.int .i64 5, .string ⟨tx.toArray⟩, .int .i64 ln, .int .i64 cl] 38 0 _ rfl
      have d1 := cells_new w1 [.int .i64 5, .string ⟨tx.toArray⟩, .int .i64 ln, .int .i64 cl] 38 1 _ rfl
      have hal := hb1.alloc hb1.size (.cells #[.int .i64 5, .string ⟨tx.toArray⟩, .int .i64 ln, .int .i64 cl] 38)
      have hp2 := HP.out.below hal
      have HP2 := Lib.hid hp2
      have HB := Lib.hid (grownBy_below hal (some bp))
      have p1 := hp2.c1
      have p2 := hp2.c2
      have f1 := hp2.f 1
      have f2 := hp2.f 2
      have hs1 := hb1.size
      obtain ⟨at_, hat⟩ : ∃ a, a = L.length - r.length := ⟨_, rfl⟩
      have hat2 : at_ ≤ 65536 := by omega
      rw [← hat] at p1
      have HAT := Lib.hid hat
      have hnb : ¬ w1.heap.size = bp := by omega
      have hnb2 : ¬ bp = w1.heap.size := by omega
      clear hb1 hal hp2 hat
      go_wp2
      first | go_end0 | refine bodyPost_ret (results_none rfl _ _ _) rfl ?_
      refine ⟨rfl, grownBy_trans HB.out (grownBy_setCell ⟨bp, 2, none⟩ rfl _), fun _ => HP2.out.mark, fun t' r' e1 e2 e3 => ?_⟩
      have h2 := HON.out t' r' e1 e2
      subst h2
      simp [Syn.sgn, hx] at e3
  · skip
    go_enter Try.func79, Try.ntmps79
    go_wp2_with fail
    refine (rtok_any HP.out).mono ?_
    rintro e w1 ⟨rfl, hb1⟩
    rw [HT.out]
    simp only [Tok.T.val]
    have d0 := cells_new w1 [.int .i64 kd, .string ⟨tx.toArray⟩, .int .i64 ln, .int .i64 cl] 38 0 _ rfl
    have d1 := cells_new w1 [.int .i64 kd, .string ⟨tx.toArray⟩, .int .i64 ln, .int .i64 cl] 38 1 _ rfl
    have hal := hb1.alloc hb1.size (.cells #[.int .i64 kd, .string ⟨tx.toArray⟩, .int .i64 ln, .int .i64 cl] 38)
    have hp2 := HP.out.below hal
    have HP2 := Lib.hid hp2
    have HB := Lib.hid (grownBy_below hal (some bp))
    have p1 := hp2.c1
    have p2 := hp2.c2
    have f1 := hp2.f 1
    have f2 := hp2.f 2
    have hs1 := hb1.size
    obtain ⟨at_, hat⟩ : ∃ a, a = L.length - r.length := ⟨_, rfl⟩
    have hat2 : at_ ≤ 65536 := by omega
    rw [← hat] at p1
    have HAT := Lib.hid hat
    have hnb : ¬ w1.heap.size = bp := by omega
    have hnb2 : ¬ bp = w1.heap.size := by omega
    clear hb1 hal hp2 hat
    go_wp2
    first | go_end0 | refine bodyPost_ret (results_none rfl _ _ _) rfl ?_
    refine ⟨rfl, grownBy_trans HB.out (grownBy_setCell ⟨bp, 2, none⟩ rfl _), fun _ => HP2.out.mark, fun t' r' e1 e2 e3 => ?_⟩
    have h2 := HON.out t' r' e1 e2
    subst h2
    simp [Syn.sgn, hkn] at e3
set_option maxRecDepth 100000 in
set_option maxHeartbeats 4000000 in
theorem rword_any {w : World} {bp : Nat} {tv : Value} {L r : List T} {bad : Bool} (hp : RP w bp tv L r bad) :
    Calls Try.prog 78 #[.pointer (some ⟨bp, 0, none⟩)] w fun e w' => (∃ s : List UInt8, e = .returned (.string ⟨s.toArray⟩) ∧ ∀ t r', r = t :: r' → bad = false → wrd t = true → s = t.text) ∧ w.grownBy w' (some bp) ∧
      (wrd (tokT r bad) = false → RP w' bp tv L r true) ∧ (∀ t r', r = t :: r' → bad = false → wrd t = true → RP w' bp tv L r' false) := by
  have HP := Lib.hid hp
  clear hp
  obtain ⟨⟨kd, tx, ln, cl⟩, ht⟩ : ∃ t, tokT r bad = t := ⟨_, rfl⟩
  have HT := Lib.hid ht
  rw [ht]
  clear ht
  have hone : ∀ t' r', r = t' :: r' → bad = false → t' = ⟨kd, tx, ln, cl⟩ := fun t' r' e1 e2 => by
    have h1 := HT.out
    rw [e1, e2] at h1
    exact h1
  have HON := Lib.hid hone
  clear hone
  have hltb := HP.out.lt
  have hle := HP.out.len
  by_cases hkn : kd = 1
  · subst hkn
    go_enter Try.func78, Try.ntmps78
    go_wp2_with fail
    refine (rtok_any HP.out).mono ?_
    rintro e w1 ⟨rfl, hb1⟩
    rw [HT.out]
    simp only [Tok.T.val]
    have d0 := cells_new w1 [.int .i64 1, .string ⟨tx.toArray⟩, .int .i64 ln, .int .i64 cl] 38 0 _ rfl
    have d1 := cells_new w1 [.int .i64 1, .string ⟨tx.toArray⟩, .int .i64 ln, .int .i64 cl] 38 1 _ rfl
    have hal := hb1.alloc hb1.size (.cells #[.int .i64 1, .string ⟨tx.toArray⟩, .int .i64 ln, .int .i64 cl] 38)
    have hp2 := HP.out.below hal
    have HP2 := Lib.hid hp2
    have HB := Lib.hid (grownBy_below hal (some bp))
    have p1 := hp2.c1
    have p2 := hp2.c2
    have f1 := hp2.f 1
    have f2 := hp2.f 2
    have hs1 := hb1.size
    obtain ⟨at_, hat⟩ : ∃ a, a = L.length - r.length := ⟨_, rfl⟩
    have hat2 : at_ ≤ 65536 := by omega
    rw [← hat] at p1
    have HAT := Lib.hid hat
    have hnb : ¬ w1.heap.size = bp := by omega
    have hnb2 : ¬ bp = w1.heap.size := by omega
    clear hb1 hal hp2 hat
    go_wp2
    go_ret
    refine ⟨⟨tx, rfl, fun t' r' e1 e2 e3 => by rw [HON.out t' r' e1 e2]⟩, grownBy_trans HB.out (grownBy_setCell ⟨bp, 1, none⟩ rfl _), fun h => ?_, fun t' r' e1 e2 e3 => ?_⟩
    · simp [wrd] at h
    · have h1 := HP2.out
      rw [e1, e2] at h1
      have h2 := h1.step
      rw [← e1, ← HAT.out] at h2
      exact h2
  · skip
    go_enter Try.func78, Try.ntmps78
    go_wp2_with fail
    refine (rtok_any HP.out).mono ?_
    rintro e w1 ⟨rfl, hb1⟩
    rw [HT.out]
    simp only [Tok.T.val]
    have d0 := cells_new w1 [.int .i64 kd, .string ⟨tx.toArray⟩, .int .i64 ln, .int .i64 cl] 38 0 _ rfl
    have d1 := cells_new w1 [.int .i64 kd, .string ⟨tx.toArray⟩, .int .i64 ln, .int .i64 cl] 38 1 _ rfl
    have hal := hb1.alloc hb1.size (.cells #[.int .i64 kd, .string ⟨tx.toArray⟩, .int .i64 ln, .int .i64 cl] 38)
    have hp2 := HP.out.below hal
    have HP2 := Lib.hid hp2
    have HB := Lib.hid (grownBy_below hal (some bp))
    have p1 := hp2.c1
    have p2 := hp2.c2
    have f1 := hp2.f 1
    have f2 := hp2.f 2
    have hs1 := hb1.size
    obtain ⟨at_, hat⟩ : ∃ a, a = L.length - r.length := ⟨_, rfl⟩
    have hat2 : at_ ≤ 65536 := by omega
    rw [← hat] at p1
    have HAT := Lib.hid hat
    have hnb : ¬ w1.heap.size = bp := by omega
    have hnb2 : ¬ bp = w1.heap.size := by omega
    clear hb1 hal hp2 hat
    go_wp2
    go_ret
    refine ⟨⟨[], rfl, fun t' r' e1 e2 e3 => ?_⟩, grownBy_trans HB.out (grownBy_setCell ⟨bp, 2, none⟩ rfl _), fun _ => HP2.out.mark, fun t' r' e1 e2 e3 => ?_⟩
    all_goals
      have h2 := HON.out t' r' e1 e2
      subst h2
      simp [wrd, hkn] at e3
end Go.Proofs.Ytjnaeldaajckkaa
