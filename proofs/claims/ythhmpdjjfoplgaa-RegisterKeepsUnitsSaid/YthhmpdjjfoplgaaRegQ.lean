/- Plain laws of registers: putting a lot among sorted lots, taking units from an account. -/
import Derived.Test.YthhmpdjjfoplgaaRegP
set_option linter.unusedVariables false
set_option linter.unusedSimpArgs false
namespace Go.Proofs.Ythhmpdjjfoplgaa
namespace Reg

def Srt (l : List Lot) : Prop := l.Pairwise (fun a b => lotLt a b = true)
def Lot.more (y : Lot) (k : Int) : Lot := ⟨y.nom, y.hol, y.ser, y.units + k⟩
instance (a b : Lot) : Decidable (sameKey a b) := by unfold sameKey; infer_instance
def putL : List Lot → Lot → List Lot
  | [], x => [x]
  | y :: l, x => if sameKey y x then y.more x.units :: l else if lotLt x y = true then x :: y :: l else y :: putL l x
def sumU : List Lot → Int
  | [] => 0
  | x :: l => x.units + sumU l
theorem sumU_app (a b : List Lot) : sumU (a ++ b) = sumU a + sumU b := by
  induction a with
  | nil => simp [sumU]
  | cons x a ih => simp only [List.cons_append, sumU, ih]; omega
theorem sumU_bd (l : List Lot) (m : Int) (hm : 0 ≤ m) (h : ∀ x ∈ l, 0 ≤ x.units ∧ x.units ≤ m) : 0 ≤ sumU l ∧ sumU l ≤ m * l.length := by
  induction l with
  | nil => simp [sumU]
  | cons x l ih =>
    have h1 := ih (fun y hy => h y (by simp [hy]))
    have h2 := h x (by simp)
    simp only [sumU, List.length_cons]
    have : m * ((l.length + 1 : Nat) : Int) = m * l.length + m := by rw [Int.natCast_add, Int.mul_add]; simp
    omega
theorem sumU_ge (l : List Lot) (h : ∀ x ∈ l, 1 ≤ x.units) : (l.length : Int) ≤ sumU l := by
  induction l with
  | nil => simp [sumU]
  | cons x l ih =>
    have h1 := ih (fun y hy => h y (by simp [hy]))
    have h2 := h x (by simp)
    simp only [sumU, List.length_cons]; omega
theorem sumU_perm {a b : List Lot} (h : a.Perm b) : sumU a = sumU b := by
  induction h with
  | nil => rfl
  | cons x _ ih => simp [sumU, ih]
  | swap x y l => simp only [sumU]; omega
  | trans _ _ h1 h2 => exact h1.trans h2
theorem sumU_mem (l : List Lot) (h : ∀ x ∈ l, 0 ≤ x.units) (x : Lot) (hx : x ∈ l) : x.units ≤ sumU l := by
  induction l with
  | nil => cases hx
  | cons y l ih =>
    have h1 : 0 ≤ sumU l := by
      clear ih hx
      induction l with
      | nil => simp [sumU]
      | cons z l ih2 =>
        have := ih2 (fun w hw => h w (by simp only [List.mem_cons] at hw ⊢; rcases hw with h | h <;> simp [h]))
        have := h z (by simp)
        simp only [sumU]; omega
    rcases List.mem_cons.1 hx with rfl | hx
    · simp only [sumU]; omega
    · have := ih (fun w hw => h w (by simp [hw])) hx
      have := h y (by simp)
      simp only [sumU]; omega
theorem put_sum (l : List Lot) (x : Lot) : sumU (putL l x) = sumU l + x.units := by
  induction l with
  | nil => simp [putL, sumU]
  | cons y l ih =>
    rw [putL]
    split
    · simp only [sumU, Lot.more]; omega
    · split
      · simp only [sumU]; omega
      · simp only [sumU, ih]; omega
theorem put_len (l : List Lot) (x : Lot) : l.length ≤ (putL l x).length ∧ (putL l x).length ≤ l.length + 1 := by
  induction l with
  | nil => simp [putL]
  | cons y l ih =>
    rw [putL]
    split
    · simp
    · split
      · simp
      · simp; omega
theorem put_mem (l : List Lot) (x z : Lot) (h : z ∈ putL l x) : z ∈ l ∨ z = x ∨ ∃ y ∈ l, sameKey y x ∧ z = y.more x.units := by
  induction l with
  | nil => simp [putL] at h; exact .inr (.inl h)
  | cons y l ih =>
    rw [putL] at h
    split at h
    · rename_i hk
      rcases List.mem_cons.1 h with h | h
      · exact .inr (.inr ⟨y, by simp, hk, h⟩)
      · exact .inl (by simp [h])
    · split at h
      · rcases List.mem_cons.1 h with h | h
        · exact .inr (.inl h)
        · exact .inl h
      · rcases List.mem_cons.1 h with h | h
        · exact .inl (by simp [h])
        · rcases ih h with h | h | ⟨w, hw, h⟩
          · exact .inl (by simp [h])
          · exact .inr (.inl h)
          · exact .inr (.inr ⟨w, by simp [hw], h⟩)
theorem lotLt_keyl {a b c : Lot} (h : sameKey a b) : lotLt a c = lotLt b c := by
  obtain ⟨h1, h2, h3⟩ := h
  simp [lotLt, h1, h2, h3]
theorem lotLt_keyr {a b c : Lot} (h : sameKey a b) : lotLt c a = lotLt c b := by
  obtain ⟨h1, h2, h3⟩ := h
  simp [lotLt, h1, h2, h3]
theorem more_key (y : Lot) (k : Int) : sameKey (y.more k) y := ⟨rfl, rfl, rfl⟩
theorem put_lt (l : List Lot) (x y : Lot) (h : ∀ z ∈ l, lotLt y z = true) (hx : lotLt y x = true) : ∀ z ∈ putL l x, lotLt y z = true := by
  intro z hz
  rcases put_mem l x z hz with h1 | h1 | ⟨w, hw, _, rfl⟩
  · exact h z h1
  · rw [h1]; exact hx
  · rw [lotLt_keyr (more_key w _)]; exact h w hw
theorem put_srt (l : List Lot) (x : Lot) (h : Srt l) : Srt (putL l x) := by
  induction l with
  | nil => simp [putL, Srt]
  | cons y l ih =>
    have h1 := List.pairwise_cons.1 h
    rw [putL]
    split
    · exact List.pairwise_cons.2 ⟨fun z hz => by rw [lotLt_keyl (more_key y _)]; exact h1.1 z hz, h1.2⟩
    · rename_i hk
      split
      · rename_i hlt
        exact List.pairwise_cons.2 ⟨fun z hz => by
          rcases List.mem_cons.1 hz with rfl | hz
          · exact hlt
          · exact lotLt_trans hlt (h1.1 z hz), h⟩
      · rename_i hlt
        have hyx : lotLt y x = true := by
          rcases lot_tri y x with h | h | h
          · exact h
          · exact absurd h hk
          · exact absurd h hlt
        exact List.pairwise_cons.2 ⟨put_lt l x y h1.1 hyx, ih h1.2⟩
/-- the place where a lot belongs -/
def pos (l : List Lot) (x : Lot) : Nat := (l.takeWhile (fun y => lotLt y x)).length
theorem pos_eq (l : List Lot) (x : Lot) (i : Nat) (hi : i ≤ l.length) (h1 : ∀ a (h : a < l.length), a < i → lotLt l[a] x = true) (h2 : ∀ h : i < l.length, lotLt l[i] x = false) : pos l x = i := by
  induction l generalizing i with
  | nil => simp at hi; subst hi; rfl
  | cons y l ih =>
    cases i with
    | zero => have := h2 (by simp); simp at this; simp [pos, List.takeWhile, this]
    | succ i =>
      have h0 := h1 0 (by simp) (by omega)
      simp at h0
      have := ih i (by simpa using hi) (fun a h ha => h1 (a + 1) (by simpa using h) (by omega)) (fun h => h2 (by simpa using h))
      simp only [pos] at this ⊢
      simp [List.takeWhile, h0, this]
theorem pos_le (l : List Lot) (x : Lot) : pos l x ≤ l.length := (List.takeWhile_prefix _).length_le
theorem put_pos (l : List Lot) (x : Lot) : (∀ (h : pos l x < l.length), sameKey l[pos l x] x → putL l x = l.set (pos l x) (l[pos l x].more x.units)) ∧
    ((∀ (h : pos l x < l.length), ¬ sameKey l[pos l x] x) → putL l x = l.take (pos l x) ++ x :: l.drop (pos l x)) := by
  induction l with
  | nil => simp [pos, putL]
  | cons y l ih =>
    by_cases hk : sameKey y x
    · have h0 : pos (y :: l) x = 0 := by simp [pos, List.takeWhile, lotLt_irr y x hk]
      refine ⟨fun h hs => ?_, fun h => ?_⟩
      · simp only [h0] at hs ⊢; simp [putL, hk]
      · exact absurd (by simpa [h0] using hk) (h (by rw [h0]; simp))
    · by_cases hlt : lotLt x y = true
      · have h0 : pos (y :: l) x = 0 := by simp [pos, List.takeWhile, lotLt_asym hlt]
        refine ⟨fun h hs => ?_, fun h => ?_⟩
        · simp only [h0] at hs; exact absurd (by simpa using hs) hk
        · rw [h0]; simp [putL, hk, hlt]
      · have hyx : lotLt y x = true := by
          rcases lot_tri y x with h | h | h
          · exact h
          · exact absurd h hk
          · exact absurd h hlt
        have h0 : pos (y :: l) x = pos l x + 1 := by simp [pos, List.takeWhile, hyx]
        refine ⟨fun h hs => ?_, fun h => ?_⟩
        · simp only [h0] at hs h ⊢
          have := ih.1 (by simpa using h) (by simpa using hs)
          rw [putL, if_neg hk, if_neg hlt, this]; simp
        · rw [h0]
          have := ih.2 (fun h' => by have := h (by rw [h0]; simpa using h'); simpa [h0] using this)
          rw [putL, if_neg hk, if_neg hlt, this]; simp
theorem put_new (l : List Lot) (x : Lot) (h : ∀ y ∈ l, ¬ sameKey y x) : (putL l x).Perm (x :: l) := by
  induction l with
  | nil => exact List.Perm.refl _
  | cons y l ih =>
    rw [putL, if_neg (h y (by simp))]
    split
    · exact List.Perm.refl _
    · exact ((ih (fun z hz => h z (by simp [hz]))).cons y).trans (List.Perm.swap x y l)
def giveL (l more : List Lot) : List Lot := more.foldl putL l
theorem give_srt (l more : List Lot) (h : Srt l) : Srt (giveL l more) := by
  induction more generalizing l with
  | nil => exact h
  | cons x more ih => exact ih _ (put_srt l x h)
theorem give_new (l more : List Lot) (h1 : ∀ y ∈ l, ∀ x ∈ more, ¬ sameKey y x) (h2 : more.Pairwise (fun a b => ¬ sameKey a b)) : (giveL l more).Perm (more ++ l) := by
  induction more generalizing l with
  | nil => exact List.Perm.refl _
  | cons x more ih =>
    have h3 := List.pairwise_cons.1 h2
    have hp := put_new l x (fun y hy => h1 y hy x (by simp))
    have := ih (putL l x) (fun y hy z hz => by
      rcases List.mem_cons.1 (hp.mem_iff.1 hy) with rfl | hy
      · exact h3.1 z hz
      · exact h1 y hy z (by simp [hz])) h3.2
    exact (this.trans (hp.append_left more)).trans List.perm_middle
theorem srt_unique {a b : List Lot} (ha : Srt a) (hb : Srt b) (h : a.Perm b) : a = b :=
  List.Perm.eq_of_pairwise (le := fun a b => lotLt a b = true) (fun x y _ _ h1 h2 => by rw [lotLt_asym h1] at h2; cases h2) ha hb h

def ownB (nm hl : ByteArray) (x : Lot) : Bool := sEq x.nom nm && sEq x.hol hl
def ownL (nm hl : ByteArray) (l : List Lot) : List Lot := l.filter (ownB nm hl)
def othL (nm hl : ByteArray) (l : List Lot) : List Lot := l.filter (fun x => !ownB nm hl x)
/-- the program's taking, off an account's own lots: what is left, and what was taken -/
def takeP : List Lot → Int → List Lot × List Lot
  | [], _ => ([], [])
  | x :: l, n =>
    let k := min n x.units
    let r := takeP l (n - k)
    (if k < x.units then x.more (-k) :: r.1 else r.1, if 0 < k then ⟨x.nom, x.hol, x.ser, k⟩ :: r.2 else r.2)
/-- the reference's taking, off all lots -/
def takeR (nm hl : ByteArray) : List Lot → Int → List Lot × List Lot
  | [], _ => ([], [])
  | x :: l, n =>
    if ownB nm hl x = true ∧ 0 < n then
      let k := min n x.units
      let r := takeR nm hl l (n - k)
      (if 0 < x.units - k then x.more (-k) :: r.1 else r.1, ⟨nm, hl, x.ser, k⟩ :: r.2)
    else (if 0 < x.units then x :: (takeR nm hl l n).1 else (takeR nm hl l n).1, (takeR nm hl l n).2)
theorem own_eq {nm hl : ByteArray} {x : Lot} (h : ownB nm hl x = true) : x.nom = nm ∧ x.hol = hl := by
  simp only [ownB, Bool.and_eq_true, sEq_iff] at h; exact h
theorem takeP_key (l : List Lot) (n : Int) : ∀ z ∈ (takeP l n).1, ∃ y ∈ l, sameKey z y := by
  induction l generalizing n with
  | nil => simp [takeP]
  | cons x l ih =>
    intro z hz
    simp only [takeP] at hz
    split at hz
    · rcases List.mem_cons.1 hz with rfl | hz
      · exact ⟨x, by simp, more_key _ _⟩
      · obtain ⟨y, hy, h⟩ := ih _ z hz; exact ⟨y, by simp [hy], h⟩
    · obtain ⟨y, hy, h⟩ := ih _ z hz; exact ⟨y, by simp [hy], h⟩
theorem takeR_key (nm hl : ByteArray) (l : List Lot) (n : Int) : ∀ z ∈ (takeR nm hl l n).1, ∃ y ∈ l, sameKey z y := by
  induction l generalizing n with
  | nil => simp [takeR]
  | cons x l ih =>
    intro z hz
    simp only [takeR] at hz
    split at hz
    · simp only at hz
      split at hz
      · rcases List.mem_cons.1 hz with rfl | hz
        · exact ⟨x, by simp, more_key _ _⟩
        · obtain ⟨y, hy, h⟩ := ih _ z hz; exact ⟨y, by simp [hy], h⟩
      · obtain ⟨y, hy, h⟩ := ih _ z hz; exact ⟨y, by simp [hy], h⟩
    · simp only at hz
      split at hz
      · rcases List.mem_cons.1 hz with rfl | hz
        · exact ⟨z, by simp, ⟨rfl, rfl, rfl⟩⟩
        · obtain ⟨y, hy, h⟩ := ih _ z hz; exact ⟨y, by simp [hy], h⟩
      · obtain ⟨y, hy, h⟩ := ih _ z hz; exact ⟨y, by simp [hy], h⟩
theorem takeP_srt (l : List Lot) (n : Int) (h : Srt l) : Srt (takeP l n).1 := by
  induction l generalizing n with
  | nil => simp [takeP, Srt]
  | cons x l ih =>
    have h1 := List.pairwise_cons.1 h
    simp only [takeP]
    split
    · refine List.pairwise_cons.2 ⟨fun z hz => ?_, ih _ h1.2⟩
      obtain ⟨y, hy, hk⟩ := takeP_key l _ z hz
      rw [lotLt_keyl (more_key x _), lotLt_keyr hk]; exact h1.1 y hy
    · exact ih _ h1.2
theorem takeR_srt (nm hl : ByteArray) (l : List Lot) (n : Int) (h : Srt l) : Srt (takeR nm hl l n).1 := by
  induction l generalizing n with
  | nil => simp [takeR, Srt]
  | cons x l ih =>
    have h1 := List.pairwise_cons.1 h
    simp only [takeR]
    split
    · simp only
      split
      · refine List.pairwise_cons.2 ⟨fun z hz => ?_, ih _ h1.2⟩
        obtain ⟨y, hy, hk⟩ := takeR_key nm hl l _ z hz
        rw [lotLt_keyl (more_key x _), lotLt_keyr hk]; exact h1.1 y hy
      · exact ih _ h1.2
    · simp only
      split
      · refine List.pairwise_cons.2 ⟨fun z hz => ?_, ih _ h1.2⟩
        obtain ⟨y, hy, hk⟩ := takeR_key nm hl l _ z hz
        rw [lotLt_keyr hk]; exact h1.1 y hy
      · exact ih _ h1.2
/-- both takings: the same lots taken; what is left the same, but for the order -/
theorem take_both (nm hl : ByteArray) (l : List Lot) (n : Int) (hn : 0 ≤ n) (hu : ∀ x ∈ l, 1 ≤ x.units) :
    (takeR nm hl l n).2 = (takeP (ownL nm hl l) n).2 ∧ (takeR nm hl l n).1.Perm ((takeP (ownL nm hl l) n).1 ++ othL nm hl l) := by
  induction l generalizing n with
  | nil => simp [takeR, takeP, ownL, othL]
  | cons x l ih =>
    have hx := hu x (by simp)
    have hu' : ∀ y ∈ l, 1 ≤ y.units := fun y hy => hu y (by simp [hy])
    cases ho : ownB nm hl x
    · have h1 : ownL nm hl (x :: l) = ownL nm hl l := by simp [ownL, ho]
      have h2 : othL nm hl (x :: l) = x :: othL nm hl l := by simp [othL, ho]
      obtain ⟨i1, i2⟩ := ih n hn hu'
      rw [h1, h2, takeR, ho, if_neg (by simp)]
      refine ⟨i1, ?_⟩
      simp only
      rw [if_pos (show 0 < x.units by omega)]
      exact (i2.cons x).trans List.perm_middle.symm
    · have h1 : ownL nm hl (x :: l) = x :: ownL nm hl l := by simp [ownL, ho]
      have h2 : othL nm hl (x :: l) = othL nm hl l := by simp [othL, ho]
      obtain ⟨e1, e2⟩ := own_eq ho
      rw [h1, h2, takeR, ho]
      by_cases h0 : 0 < n
      · obtain ⟨i1, i2⟩ := ih (n - min n x.units) (by omega) hu'
        rw [if_pos ⟨rfl, h0⟩]
        simp only [takeP]
        rw [if_pos (show 0 < min n x.units by omega)]
        refine ⟨by rw [i1, e1, e2], ?_⟩
        by_cases hk : min n x.units < x.units
        · rw [if_pos hk, if_pos (by omega)]; exact i2.cons _
        · rw [if_neg hk, if_neg (by omega)]; exact i2
      · obtain rfl : n = 0 := by omega
        obtain ⟨i1, i2⟩ := ih 0 hn hu'
        rw [if_neg (by simp)]
        have hm : min 0 x.units = 0 := by omega
        simp only [takeP, hm]
        rw [if_neg (show ¬ (0 : Int) < 0 by omega), if_pos (show (0 : Int) < x.units by omega), if_pos (show (0 : Int) < x.units by omega)]
        refine ⟨by simpa using i1, ?_⟩
        have : x.more (-0) = x := by cases x; simp [Lot.more]
        rw [this]
        simpa using i2.cons x
theorem redeem_plain (nm hl : ByteArray) (l : List Lot) (n : Int) (hn : 0 ≤ n) (hu : ∀ x ∈ l, 1 ≤ x.units) (hs : Srt l) :
    giveL (othL nm hl l) (takeP (ownL nm hl l) n).1 = (takeR nm hl l n).1 := by
  have hso : Srt (othL nm hl l) := List.Pairwise.sublist List.filter_sublist hs
  have hsw : Srt (ownL nm hl l) := List.Pairwise.sublist List.filter_sublist hs
  refine srt_unique (give_srt _ _ hso) (takeR_srt nm hl l n hs) (List.Perm.trans (give_new _ _ ?_ ?_) (take_both nm hl l n hn hu).2.symm)
  · intro y hy x hx hk
    obtain ⟨z, hz, hk2⟩ := takeP_key _ _ x hx
    have h1 := (List.mem_filter.1 hy).2
    have h2 := own_eq (List.mem_filter.1 hz).2
    have : ownB nm hl y = true := by
      simp only [ownB, Bool.and_eq_true, sEq_iff]
      exact ⟨hk.1.trans (hk2.1.trans h2.1), hk.2.1.trans (hk2.2.1.trans h2.2)⟩
    simp [this] at h1
  · exact (takeP_srt _ n hsw).imp (fun h => lotLt_key h)
end Reg
end Go.Proofs.Ythhmpdjjfoplgaa
