/- Plain facts on registers: the units of any set of accounts and series through puts, takings and transfers; a transfer there and back. -/
import Derived.Test.YthhmpdjjfoplgaaRfI
set_option linter.unusedVariables false
set_option linter.unusedSimpArgs false
namespace Go.Proofs.Ythhmpdjjfoplgaa
namespace Reg

/-- a predicate on the key of a lot -/
def KP (p : Lot → Bool) : Prop := ∀ a b, sameKey a b → p a = p b
def amp (p : Lot → Bool) (l : List Lot) : Int := sumU (l.filter p)
theorem amp_nil (p : Lot → Bool) : amp p [] = 0 := rfl
theorem amp_cons (p : Lot → Bool) (x : Lot) (l : List Lot) : amp p (x :: l) = (if p x = true then x.units else 0) + amp p l := by
  unfold amp
  rw [List.filter_cons]
  split
  · rfl
  · omega
theorem amp_app (p : Lot → Bool) (a b : List Lot) : amp p (a ++ b) = amp p a + amp p b := by unfold amp; rw [List.filter_append, sumU_app]
theorem kp_own (nm hl : ByteArray) : KP (ownB nm hl) := fun a b h => by unfold ownB; rw [h.1, h.2.1]
theorem key_symm {a b : Lot} (h : sameKey a b) : sameKey b a := ⟨h.1.symm, h.2.1.symm, h.2.2.symm⟩
theorem key_trans {a b c : Lot} (h : sameKey a b) (k : sameKey b c) : sameKey a c := ⟨h.1.trans k.1, h.2.1.trans k.2.1, h.2.2.trans k.2.2⟩
theorem kp_key (k : Lot) : KP (fun y => decide (sameKey y k)) := fun a b h => by
  rw [decide_eq_decide]
  exact ⟨fun g => key_trans (key_symm h) g, fun g => key_trans h g⟩
theorem amp_put {p : Lot → Bool} (hp : KP p) (l : List Lot) (x : Lot) : amp p (putL l x) = amp p l + if p x = true then x.units else 0 := by
  induction l with
  | nil => simp [putL, amp_cons, amp_nil]
  | cons y l ih =>
    rw [putL]
    split
    · rename_i hk
      rw [amp_cons, amp_cons, hp (y.more x.units) y (more_key y _), hp y x hk]
      by_cases h : p x = true
      · simp only [h, if_true, Lot.more]; omega
      · simp [h]
    · split
      · rw [amp_cons, amp_cons]; omega
      · rw [amp_cons, amp_cons, ih]; omega
theorem amp_give {p : Lot → Bool} (hp : KP p) (l more : List Lot) : amp p (giveL l more) = amp p l + amp p more := by
  induction more generalizing l with
  | nil => simp [giveL, amp_nil]
  | cons x m ih =>
    have := ih (putL l x)
    unfold giveL at this ⊢
    rw [List.foldl_cons, this, amp_put hp, amp_cons]
    omega
theorem amp_take {p : Lot → Bool} (hp : KP p) (nm hl : ByteArray) (l : List Lot) (n : Int) (hn : 0 ≤ n) (hu : ∀ x ∈ l, 1 ≤ x.units) : amp p (takeR nm hl l n).1 + amp p (takeR nm hl l n).2 = amp p l := by
  induction l generalizing n with
  | nil => simp [takeR, amp_nil]
  | cons x l ih =>
    have hx := hu x (by simp)
    have hu' : ∀ y ∈ l, 1 ≤ y.units := fun y hy => hu y (by simp [hy])
    rw [takeR]
    by_cases ho : ownB nm hl x = true ∧ 0 < n
    · rw [if_pos ho]
      obtain ⟨e1, e2⟩ := own_eq ho.1
      have hi := ih (n - min n x.units) (by omega) hu'
      have hk : p ⟨nm, hl, x.ser, min n x.units⟩ = p x := hp _ _ ⟨e1.symm, e2.symm, rfl⟩
      have hm : p (x.more (-min n x.units)) = p x := hp _ _ (more_key _ _)
      simp only
      rw [amp_cons, amp_cons, hk]
      by_cases h : p x = true
      · split
        · rw [amp_cons, hm]; simp only [h, if_true, Lot.more]; omega
        · simp only [h, if_true]; omega
      · split
        · rw [amp_cons, hm]; simp [h]; omega
        · simp [h]; omega
    · rw [if_neg ho]
      simp only
      rw [if_pos (show 0 < x.units by omega), amp_cons, amp_cons]
      have := ih n hn hu'
      omega
theorem amp_zero {p : Lot → Bool} {l : List Lot} (h : ∀ x ∈ l, p x = false) : amp p l = 0 := by
  unfold amp
  rw [List.filter_eq_nil_iff.2 (fun x hx => by rw [h x hx]; simp)]
  rfl
theorem amp_all {p : Lot → Bool} {l : List Lot} (h : ∀ x ∈ l, p x = true) : amp p l = sumU l := by
  unfold amp
  rw [List.filter_eq_self.2 h]
/-- in a sorted list, a lot's key has its units -/
theorem amp_mem {l : List Lot} (hs : Srt l) {z : Lot} (hz : z ∈ l) : amp (fun y => decide (sameKey y z)) l = z.units := by
  induction l with
  | nil => cases hz
  | cons x l ih =>
    have h1 := List.pairwise_cons.1 hs
    rw [amp_cons]
    rcases List.mem_cons.1 hz with rfl | hz
    · rw [if_pos (by simp [sameKey]), amp_zero]
      · omega
      · intro y hy
        simp only [decide_eq_false_iff_not]
        exact fun hk => lotLt_key (h1.1 y hy) (key_symm hk)
    · rw [if_neg, ih h1.2 hz]
      · omega
      · simp only [decide_eq_true_eq]
        exact lotLt_key (h1.1 z hz)
theorem key_units {a b : Lot} (h : sameKey a b) (hu : a.units = b.units) : a = b := by
  obtain ⟨n1, h1, s1, u1⟩ := a
  obtain ⟨n2, h2, s2, u2⟩ := b
  obtain ⟨e1, e2, e3⟩ := h
  simp only at e1 e2 e3 hu
  subst e1 e2 e3 hu
  rfl
theorem mem_of_amp {a b : List Lot} (ha : Srt a) (hb : Srt b) (hua : ∀ x ∈ a, 1 ≤ x.units) (h : ∀ k : Lot, amp (fun y => decide (sameKey y k)) a = amp (fun y => decide (sameKey y k)) b) {z : Lot} (hz : z ∈ a) : z ∈ b := by
  have h1 := amp_mem ha hz
  rw [h z] at h1
  have h2 := hua z hz
  by_cases hex : ∃ y ∈ b, sameKey y z
  · obtain ⟨y, hy, hk⟩ := hex
    have h3 := amp_mem hb hy
    have h4 : (fun w => decide (sameKey w y)) = (fun w => decide (sameKey w z)) := by
      funext w
      rw [decide_eq_decide]
      exact ⟨fun g => key_trans g hk, fun g => key_trans g (key_symm hk)⟩
    rw [h4, h1] at h3
    exact key_units hk h3.symm ▸ hy
  · rw [amp_zero] at h1
    · omega
    · intro y hy
      simp only [decide_eq_false_iff_not]
      exact fun hk => hex ⟨y, hy, hk⟩
theorem srt_nodup {l : List Lot} (h : Srt l) : l.Nodup := h.imp fun hab e => by rw [e, lotLt_irr _ _ ⟨rfl, rfl, rfl⟩] at hab; cases hab
theorem eq_of_amp {a b : List Lot} (ha : Srt a) (hb : Srt b) (hua : ∀ x ∈ a, 1 ≤ x.units) (hub : ∀ x ∈ b, 1 ≤ x.units) (h : ∀ k : Lot, amp (fun y => decide (sameKey y k)) a = amp (fun y => decide (sameKey y k)) b) : a = b := by
  refine srt_unique ha hb ?_
  rw [List.perm_ext_iff_of_nodup (srt_nodup ha) (srt_nodup hb)]
  exact fun z => ⟨fun hz => mem_of_amp ha hb hua h hz, fun hz => mem_of_amp hb ha hub (fun k => (h k).symm) hz⟩

/-- a lot that a register may hold -/
def okLot (x : Lot) : Prop := acctB x.nom x.hol = true ∧ 0 ≤ x.ser ∧ x.ser ≤ 73048 ∧ 1 ≤ x.units
theorem check_ok {l : List Lot} (h : checkB l = true) : ∀ x ∈ l, okLot x := by
  obtain ⟨f1, f2, f3, f4, f5⟩ := check_facts h
  intro x hx
  obtain ⟨g1, g2, g3, g4, g5⟩ := right_bd (okL_right f2 x hx)
  exact ⟨g5, g3, g4, g1⟩
theorem check_mk {l : List Lot} (hn : l.length ≤ 256) (hs : Srt l) (ho : ∀ x ∈ l, okLot x) (hsum : sumU l ≤ 1000000000000000) : checkB l = true := by
  have hr : ∀ x ∈ l, rightB x = true := fun x hx => by
    obtain ⟨h1, h2, h3, h4⟩ := ho x hx
    exact right_yes h1 h2 h3 h4 (by have := sumU_mem l (fun y hy => by have := (ho y hy).2.2.2; omega) x hx; omega)
  have hok : okL l = true := okL_yes (n := l.length) (Nat.le_refl _) (fun k hk => by
    have hx : l[k]? = some l[k] := by simp [hk]
    cases k with
    | zero => rw [okAt_zero hx]; exact hr _ (List.getElem_mem hk)
    | succ j =>
      have hy : l[j]? = some l[j] := by simp [show j < l.length by omega]
      rw [okAt_succ hx hy, hr _ (List.getElem_mem hk)]
      have := List.pairwise_iff_getElem.1 hs j (j + 1) (by omega) hk (by omega)
      simpa using this)
  unfold checkB
  rw [hok, decide_eq_true hn, decide_eq_true hsum]
  rfl
/-- what holds of all lots holds of all lots behind a put -/
theorem put_all {q : Lot → Prop} (hq : ∀ y x, q y → q x → sameKey y x → q (y.more x.units)) {l : List Lot} {x : Lot} (h : ∀ z ∈ l, q z) (hx : q x) : ∀ z ∈ putL l x, q z := by
  intro z hz
  rcases put_mem l x z hz with h1 | h1 | ⟨y, hy, hk, rfl⟩
  · exact h z h1
  · rw [h1]; exact hx
  · exact hq y x (h y hy) hx hk
theorem give_all {q : Lot → Prop} (hq : ∀ y x, q y → q x → sameKey y x → q (y.more x.units)) {l more : List Lot} (h : ∀ z ∈ l, q z) (hm : ∀ z ∈ more, q z) : ∀ z ∈ giveL l more, q z := by
  induction more generalizing l with
  | nil => exact h
  | cons x m ih => exact ih (put_all hq h (hm x (by simp))) (fun z hz => hm z (by simp [hz]))
theorem ok_more (y x : Lot) (hy : okLot y) (hx : okLot x) (_ : sameKey y x) : okLot (y.more x.units) := ⟨hy.1, hy.2.1, hy.2.2.1, by have := hy.2.2.2; have := hx.2.2.2; simp only [Lot.more]; omega⟩
/-- what a taking leaves and takes: each lot has a key of the list, and units; what is taken is the account's own -/
theorem take_all (nm hl : ByteArray) (l : List Lot) (n : Int) (hn : 0 ≤ n) (hu : ∀ x ∈ l, 1 ≤ x.units) :
    (∀ z ∈ (takeR nm hl l n).1, 1 ≤ z.units ∧ ∃ y ∈ l, sameKey z y) ∧ (∀ z ∈ (takeR nm hl l n).2, 1 ≤ z.units ∧ z.nom = nm ∧ z.hol = hl ∧ ∃ y ∈ l, sameKey z y) := by
  induction l generalizing n with
  | nil => simp [takeR]
  | cons x l ih =>
    have hx := hu x (by simp)
    have hu' : ∀ y ∈ l, 1 ≤ y.units := fun y hy => hu y (by simp [hy])
    rw [takeR]
    by_cases ho : ownB nm hl x = true ∧ 0 < n
    · rw [if_pos ho]
      obtain ⟨e1, e2⟩ := own_eq ho.1
      obtain ⟨i1, i2⟩ := ih (n - min n x.units) (by omega) hu'
      simp only
      refine ⟨fun z hz => ?_, fun z hz => ?_⟩
      · split at hz
        · rcases List.mem_cons.1 hz with rfl | hz
          · exact ⟨by simp only [Lot.more]; omega, x, by simp, more_key _ _⟩
          · obtain ⟨a, y, hy, hk⟩ := i1 z hz; exact ⟨a, y, by simp [hy], hk⟩
        · obtain ⟨a, y, hy, hk⟩ := i1 z hz; exact ⟨a, y, by simp [hy], hk⟩
      · rcases List.mem_cons.1 hz with rfl | hz
        · exact ⟨by simp only; omega, rfl, rfl, x, by simp, e1.symm, e2.symm, rfl⟩
        · obtain ⟨a, b, c, y, hy, hk⟩ := i2 z hz; exact ⟨a, b, c, y, by simp [hy], hk⟩
    · rw [if_neg ho]
      obtain ⟨i1, i2⟩ := ih n hn hu'
      simp only
      rw [if_pos (show 0 < x.units by omega)]
      refine ⟨fun z hz => ?_, fun z hz => ?_⟩
      · rcases List.mem_cons.1 hz with rfl | hz
        · exact ⟨hx, z, by simp, rfl, rfl, rfl⟩
        · obtain ⟨a, y, hy, hk⟩ := i1 z hz; exact ⟨a, y, by simp [hy], hk⟩
      · obtain ⟨a, b, c, y, hy, hk⟩ := i2 z hz; exact ⟨a, b, c, y, by simp [hy], hk⟩
theorem ok_key {z y : Lot} (h : sameKey z y) (hy : okLot y) (hz : 1 ≤ z.units) : okLot z := ⟨by rw [h.1, h.2.1]; exact hy.1, by rw [h.2.2]; exact hy.2.1, by rw [h.2.2]; exact hy.2.2.1, hz⟩
/-- the units taken -/
theorem takeP_min (l : List Lot) (n : Int) (hn : 0 ≤ n) (h : ∀ x ∈ l, 1 ≤ x.units) : sumU (takeP l n).2 = min n (sumU l) := by
  induction l generalizing n with
  | nil => simp [takeP, sumU]; omega
  | cons x l ih =>
    have hx := h x (by simp)
    have h' : ∀ y ∈ l, 1 ≤ y.units := fun y hy => h y (by simp [hy])
    have h0 := sumU_nonneg l (fun y hy => by have := h' y hy; omega)
    have := ih (n - min n x.units) (by omega) h'
    simp only [takeP, sumU]
    split
    · simp only [sumU]; omega
    · omega
theorem take_min (nm hl : ByteArray) (l : List Lot) (n : Int) (hn : 0 ≤ n) (h : ∀ x ∈ l, 1 ≤ x.units) : sumU (takeR nm hl l n).2 = min n (sumU (ownL nm hl l)) := by
  rw [(take_both nm hl l n hn h).1]
  exact takeP_min _ n hn (fun x hx => h x (List.mem_filter.1 hx).1)
theorem takeP_all (l : List Lot) (h : ∀ x ∈ l, 1 ≤ x.units) : takeP l (sumU l) = ([], l) := by
  induction l with
  | nil => rfl
  | cons x l ih =>
    have hx := h x (by simp)
    have h' : ∀ y ∈ l, 1 ≤ y.units := fun y hy => h y (by simp [hy])
    have h0 := sumU_nonneg l (fun y hy => by have := h' y hy; omega)
    have e : min (x.units + sumU l) x.units = x.units := by omega
    have e2 : x.units + sumU l - x.units = sumU l := by omega
    simp only [takeP, sumU, e, e2, ih h']
    rw [if_neg (by omega), if_pos (by omega)]
end Reg
end Go.Proofs.Ythhmpdjjfoplgaa
