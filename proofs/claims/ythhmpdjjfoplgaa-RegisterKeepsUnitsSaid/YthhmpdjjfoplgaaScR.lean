/- Plain facts on a script of issues, redemptions and transfers among six accounts and five series. -/
import Derived.Test.YthhmpdjjfoplgaaScD
import Derived.Test.YthhmpdjjfoplgaaScQ
import Derived.Test.YthhmpdjjfoplgaaRfO
set_option linter.unusedVariables false
set_option linter.unusedSimpArgs false
namespace Go.Proofs.Ythhmpdjjfoplgaa
namespace Reg

def kLot (x : Lot) : Prop := (x.nom, x.hol) ∈ accs ∧ 0 ≤ x.ser ∧ x.ser ≤ 4 ∧ 1 ≤ x.units
def KG (l : List Lot) : Prop := Srt l ∧ ∀ x ∈ l, kLot x
theorem KG.nil : KG [] := ⟨List.Pairwise.nil, by simp⟩
open Classical in
theorem nodup_le {α : Type} (a b : List α) (hn : a.Nodup) (hs : ∀ x ∈ a, x ∈ b) : a.length ≤ b.length := by
  induction a generalizing b with
  | nil => simp
  | cons x a ih =>
    have h1 := List.nodup_cons.1 hn
    have hx : x ∈ b := hs x (by simp)
    have h2 := ih (b.erase x) h1.2 (fun y hy => by
      have hne : y ≠ x := fun e => h1.1 (e ▸ hy)
      exact (List.mem_erase_of_ne hne).2 (hs y (by simp [hy])))
    rw [List.length_erase_of_mem hx] at h2
    have : 0 < b.length := List.length_pos_of_mem hx
    simp only [List.length_cons]
    omega
def keyOfLot (x : Lot) : (ByteArray × ByteArray) × Int := ((x.nom, x.hol), x.ser)
def kKeys : List ((ByteArray × ByteArray) × Int) := accs.flatMap fun a => [(a, 0), (a, 1), (a, 2), (a, 3), (a, 4)]
theorem KG.len {l : List Lot} (h : KG l) : l.length ≤ 30 := by
  have h1 : (l.map keyOfLot).Nodup := by
    unfold List.Nodup
    rw [List.pairwise_map]
    refine h.1.imp (fun {a b} hab e => ?_)
    simp only [keyOfLot, Prod.mk.injEq] at e
    exact lotLt_key hab ⟨e.1.1, e.1.2, e.2⟩
  have h2 := nodup_le (l.map keyOfLot) kKeys h1 (fun y hy => by
    obtain ⟨x, hx, rfl⟩ := List.mem_map.1 hy
    obtain ⟨k1, k2, k3, k4⟩ := h.2 x hx
    refine List.mem_flatMap.2 ⟨_, k1, ?_⟩
    simp only [keyOfLot, List.mem_cons, Prod.mk.injEq, true_and, List.not_mem_nil, or_false]
    omega)
  rw [List.length_map] at h2
  exact h2
theorem kLot.ok {x : Lot} (h : kLot x) : okLot x := ⟨accs_ok _ h.1, h.2.1, by have := h.2.2.1; omega, h.2.2.2⟩
theorem KG.check {l : List Lot} (h : KG l) (hs : sumU l ≤ 1000000000000000) : checkB l = true := check_mk (by have := h.len; omega) h.1 (fun x hx => (h.2 x hx).ok) hs
theorem KG.units {l : List Lot} (h : KG l) : ∀ x ∈ l, 1 ≤ x.units := fun x hx => (h.2 x hx).2.2.2
theorem KG.sum0 {l : List Lot} (h : KG l) : 0 ≤ sumU l := sumU_nonneg _ (fun x hx => by have := h.units x hx; omega)
theorem k_more (y x : Lot) (hy : kLot y) (hx : kLot x) (_ : sameKey y x) : kLot (y.more x.units) := ⟨hy.1, hy.2.1, hy.2.2.1, by have := hy.2.2.2; have := hx.2.2.2; simp only [Lot.more]; omega⟩
theorem KG.put {l : List Lot} {x : Lot} (h : KG l) (hx : kLot x) : KG (putL l x) := ⟨put_srt l x h.1, put_all k_more h.2 hx⟩
theorem k_key {z y : Lot} (h : sameKey z y) (hy : kLot y) (hz : 1 ≤ z.units) : kLot z := ⟨by rw [h.1, h.2.1]; exact hy.1, by rw [h.2.2]; exact hy.2.1, by rw [h.2.2]; exact hy.2.2.1, hz⟩
theorem KG.take {l : List Lot} (h : KG l) (nm hl : ByteArray) (n : Int) (hn : 0 ≤ n) : KG (takeR nm hl l n).1 :=
  ⟨takeR_srt nm hl l n h.1, fun z hz => by obtain ⟨a, y, hy, hk⟩ := (take_all nm hl l n hn h.units).1 z hz; exact k_key hk (h.2 y hy) a⟩
theorem KG.mov {l : List Lot} (h : KG l) (f1 f2 t1 t2 : ByteArray) (ht : (t1, t2) ∈ accs) (n : Int) (hn : 0 ≤ n) : KG (movL l f1 f2 t1 t2 n) := by
  obtain ⟨h1, h2⟩ := take_all f1 f2 l n hn h.units
  refine ⟨mov_srt l _ _ _ _ n h.1, give_all k_more (h.take f1 f2 n hn).2 (fun z hz => ?_)⟩
  obtain ⟨x, hx, rfl⟩ := List.mem_map.1 hz
  obtain ⟨a, _, _, y, hy, hk⟩ := h2 x hx
  have := k_key hk (h.2 y hy) a
  exact ⟨ht, this.2.1, this.2.2.1, a⟩
/-- the units of an account that a step does not name -/
def bal (c : ByteArray × ByteArray) (l : List Lot) : Int := sumU (ownL c.1 c.2 l)
theorem own_other {c : ByteArray × ByteArray} {x : Lot} (h : ¬ (c.1 = x.nom ∧ c.2 = x.hol)) : ownB c.1 c.2 x = false := by
  cases e : ownB c.1 c.2 x
  · rfl
  · obtain ⟨e1, e2⟩ := own_eq e; exact absurd ⟨e1.symm, e2.symm⟩ h
theorem bal_put {c : ByteArray × ByteArray} {l : List Lot} {x : Lot} (h : ¬ (c.1 = x.nom ∧ c.2 = x.hol)) : bal c (putL l x) = bal c l := by
  have := amp_put (kp_own c.1 c.2) l x
  rw [own_other h] at this
  show amp _ _ = amp _ _
  simpa using this
theorem bal_take {c : ByteArray × ByteArray} {l : List Lot} {nm hl : ByteArray} {n : Int} (hn : 0 ≤ n) (hu : ∀ x ∈ l, 1 ≤ x.units) (h : ¬ (c.1 = nm ∧ c.2 = hl)) : bal c (takeR nm hl l n).1 = bal c l := by
  have h1 := amp_take (kp_own c.1 c.2) nm hl l n hn hu
  rw [amp_zero (l := (takeR nm hl l n).2)] at h1
  · show amp _ _ = amp _ _
    simpa using h1
  · intro x hx
    obtain ⟨_, e1, e2, _⟩ := (take_all nm hl l n hn hu).2 x hx
    exact own_other (by rw [e1, e2]; exact h)
theorem bal_mov {c : ByteArray × ByteArray} {l : List Lot} {f1 f2 t1 t2 : ByteArray} {n : Int} (hn : 0 ≤ n) (hu : ∀ x ∈ l, 1 ≤ x.units) (h : ¬ (c.1 = f1 ∧ c.2 = f2)) (h2 : ¬ (c.1 = t1 ∧ c.2 = t2)) : bal c (movL l f1 f2 t1 t2 n) = bal c l := by
  have h3 := amp_give (kp_own c.1 c.2) (takeR f1 f2 l n).1 ((takeR f1 f2 l n).2.map (toA t1 t2))
  rw [amp_zero (l := (takeR f1 f2 l n).2.map (toA t1 t2))] at h3
  · have := bal_take hn hu h
    rw [← this]
    show amp _ (giveL _ _) = amp _ _
    simpa using h3
  · intro x hx
    obtain ⟨y, hy, rfl⟩ := List.mem_map.1 hx
    exact own_other h2
theorem issE_zero {l : List Lot} {x : Lot} (h1 : checkB l = true) (h2 : acctB x.nom x.hol = true) (h3 : 0 ≤ x.ser) (h4 : x.ser ≤ 73048) (h5 : 1 ≤ x.units) (h6 : x.units ≤ 1000000000000000 - sumU l) (h7 : (putL l x).length ≤ 256) : issE l x = 0 ∧ issL l x = putL l x := by
  have hE : issE l x = 0 := by
    unfold issE
    rw [h1, h2, if_neg (by simp), if_neg (by simp), if_neg (by omega), if_neg (by omega), if_neg (by omega)]
  exact ⟨hE, by unfold issL; rw [hE, if_pos rfl]⟩
theorem redE_zero {l : List Lot} {nm hl : ByteArray} {n : Int} (h1 : checkB l = true) (h2 : acctB nm hl = true) (h3 : 0 ≤ n) (h4 : n ≤ 1000000000000000) : redE l nm hl n = 0 ∧ redL l nm hl n = takeR nm hl l n := by
  have hE : redE l nm hl n = 0 := by
    unfold redE
    rw [h1, h2, if_neg (by simp), if_neg (by simp), if_neg (by omega)]
  exact ⟨hE, by unfold redL; rw [hE, if_pos rfl]⟩
/-- the holders' units together -/
def sumH : List Hol → Int
  | [] => 0
  | h :: hs => h.units + sumH hs
theorem sumH_snoc (l : List Hol) (h : Hol) : sumH (l ++ [h]) = sumH l + h.units := by
  induction l with
  | nil => simp [sumH]
  | cons x l ih => simp only [List.cons_append, sumH, ih]; omega
theorem tot_cons (x : Lot) (l : List Lot) (s : ByteArray) : tot (x :: l) s = (if nameOf x = s then x.units else 0) + tot l s := by
  rw [show x :: l = [x] ++ l from rfl, tot_app, tot_one]
open Classical in
theorem sum_names (l : List Lot) (s : ByteArray) (ns : List ByteArray) (hs : s ∉ ns) : sumU (l.filter fun x => decide (nameOf x ∈ s :: ns)) = tot l s + sumU (l.filter fun x => decide (nameOf x ∈ ns)) := by
  induction l with
  | nil => simp [tot, sumU]
  | cons x l ih =>
    rw [tot_cons, List.filter_cons, List.filter_cons]
    by_cases h1 : nameOf x = s
    · have h2 : ¬ nameOf x ∈ ns := h1 ▸ hs
      rw [if_pos (by simp [h1]), if_pos h1, if_neg (by simpa using h2)]
      simp only [sumU, ih]; omega
    · rw [if_neg h1]
      by_cases h2 : nameOf x ∈ ns
      · rw [if_pos (by simp [h2]), if_pos (by simpa using h2)]
        simp only [sumU, ih]; omega
      · rw [if_neg (by simp [h1, h2]), if_neg (by simpa using h2), ih]; omega
open Classical in
theorem sumH_tot (l : List Lot) (hs : List Hol) (hn : (hs.map Hol.name).Nodup) (ht : ∀ h ∈ hs, h.units = tot l h.name) : sumH hs = sumU (l.filter fun x => decide (nameOf x ∈ hs.map Hol.name)) := by
  induction hs with
  | nil => rw [List.filter_eq_nil_iff.2 (fun x _ => by simp)]; rfl
  | cons h hs ih =>
    rw [List.map_cons] at hn ⊢
    have h1 := List.nodup_cons.1 hn
    rw [sum_names l h.name _ h1.1, sumH, ih h1.2 (fun k hk => ht k (by simp [hk])), ht h (by simp)]
open Classical in
theorem hold_sum {l : List Lot} {hs : List Hol} (h : IsHold l hs) : sumH hs = sumU l := by
  rw [sumH_tot l hs ?_ (hold_len h)]
  · rw [List.filter_eq_self.2]
    intro x hx
    simp only [decide_eq_true_eq]
    exact List.mem_map.2 ⟨⟨nameOf x, tot l (nameOf x)⟩, (h.2 _).2 ⟨⟨x, hx, rfl⟩, rfl⟩, rfl⟩
  · unfold List.Nodup
    rw [List.pairwise_map]
    exact h.1.imp (fun {a b} hab e => sLt_ne hab e)
theorem sumH_take {hs : List Hol} {k : Nat} {y : Hol} (hy : hs[k]? = some y) : sumH (hs.take (k + 1)) = sumH (hs.take k) + y.units := by
  rw [List.take_add_one, hy]
  exact sumH_snoc _ _
theorem sumH_app (a b : List Hol) : sumH (a ++ b) = sumH a + sumH b := by
  induction a with
  | nil => simp [sumH]
  | cons x a ih => simp only [List.cons_append, sumH, ih]; omega
theorem sumH_pos (a : List Hol) (h : ∀ x ∈ a, 0 ≤ x.units) : 0 ≤ sumH a := by
  induction a with
  | nil => simp [sumH]
  | cons x a ih => have := ih (fun y hy => h y (by simp [hy])); have := h x (by simp); simp only [sumH]; omega
theorem hold_bd {l : List Lot} {hs : List Hol} (h : IsHold l hs) (hu : ∀ x ∈ l, 0 ≤ x.units) (j : Nat) : 0 ≤ sumH (hs.take j) ∧ sumH (hs.take j) ≤ sumU l ∧ ∀ y ∈ hs, 0 ≤ y.units ∧ y.units ≤ sumU l := by
  have hy : ∀ y ∈ hs, 0 ≤ y.units ∧ y.units ≤ sumU l := fun y hy => by rw [hold_len h y hy]; exact tot_bd l y.name hu
  have h1 := sumH_pos (hs.take j) (fun y hm => (hy y (List.mem_of_mem_take hm)).1)
  have h2 := sumH_pos (hs.drop j) (fun y hm => (hy y (List.mem_of_mem_drop hm)).1)
  have h3 := sumH_app (hs.take j) (hs.drop j)
  rw [List.take_append_drop, hold_sum h] at h3
  exact ⟨h1, by omega, hy⟩
/-- one step of a script -/
structure StepF (x y : ByteArray × ByteArray) (l l' : List Lot) : Prop where
  kg : KG l'
  le : sumU l' ≤ sumU l + 1000000
  other : ∀ c : ByteArray × ByteArray, ¬ (c.1 = x.1 ∧ c.2 = x.2) → ¬ (c.1 = y.1 ∧ c.2 = y.2) → bal c l' = bal c l
theorem step_iss {l : List Lot} (h : KG l) (hs : sumU l ≤ 12000000) {x : ByteArray × ByteArray} (hx : x ∈ accs) {s n : Int} (h0 : 0 ≤ s) (h1 : s < 5) (h2 : 1 ≤ n) (h3 : n ≤ 1000000) :
    issE l ⟨x.1, x.2, s, n⟩ = 0 ∧ issL l ⟨x.1, x.2, s, n⟩ = putL l ⟨x.1, x.2, s, n⟩ ∧ sumU (putL l ⟨x.1, x.2, s, n⟩) = sumU l + n ∧ StepF x x l (putL l ⟨x.1, x.2, s, n⟩) := by
  have hk : kLot ⟨x.1, x.2, s, n⟩ := ⟨hx, h0, by simp only; omega, h2⟩
  have hg := h.put hk
  have hz := issE_zero (x := ⟨x.1, x.2, s, n⟩) (h.check (by omega)) (accs_ok x hx) h0 (by simp only; omega) h2 (by simp only; omega) (by have := hg.len; omega)
  refine ⟨hz.1, hz.2, put_sum l _, hg, by rw [put_sum]; simp only; omega, fun c hc _ => bal_put hc⟩
theorem step_red {l : List Lot} (h : KG l) (hs : sumU l ≤ 12000000) {x : ByteArray × ByteArray} (hx : x ∈ accs) {n : Int} (h2 : 1 ≤ n) (h3 : n ≤ 1000000) :
    redE l x.1 x.2 n = 0 ∧ redL l x.1 x.2 n = takeR x.1 x.2 l n ∧ sumU (takeR x.1 x.2 l n).1 = sumU l - sumU (takeR x.1 x.2 l n).2 ∧ (∀ z ∈ (takeR x.1 x.2 l n).2, 1 ≤ z.units) ∧ 0 ≤ sumU (takeR x.1 x.2 l n).1 ∧ StepF x x l (takeR x.1 x.2 l n).1 := by
  have hz := redE_zero (n := n) (h.check (by omega)) (accs_ok x hx) (by omega) (by omega)
  have ht := take_total x.1 x.2 l n (by omega) h.units
  have hp : ∀ z ∈ (takeR x.1 x.2 l n).2, 1 ≤ z.units := fun z hz => ((take_all x.1 x.2 l n (by omega) h.units).2 z hz).1
  have hp2 := sumU_nonneg _ (fun z hz => Int.le_trans (by omega) (hp z hz))
  have hg := h.take x.1 x.2 n (by omega)
  refine ⟨hz.1, hz.2, by omega, hp, hg.sum0, hg, by omega, fun c hc _ => bal_take (by omega) h.units hc⟩
theorem step_trn {l : List Lot} (h : KG l) (hs : sumU l ≤ 12000000) {x y : ByteArray × ByteArray} (hx : x ∈ accs) (hy : y ∈ accs) {n : Int} (h2 : 1 ≤ n) (h3 : n ≤ 1000000) :
    trnE l x.1 x.2 y.1 y.2 n = 0 ∧ trnL l x.1 x.2 y.1 y.2 n = movL l x.1 x.2 y.1 y.2 n ∧ sumU (movL l x.1 x.2 y.1 y.2 n) = sumU l ∧ StepF x y l (movL l x.1 x.2 y.1 y.2 n) := by
  have hg := h.mov x.1 x.2 y.1 y.2 hy n (by omega)
  have hz := trnE_zero (n := n) (h.check (by omega)) (accs_ok x hx) (accs_ok y hy) (by omega) (by omega) (by have := hg.len; omega)
  have ht := mov_total l x.1 x.2 y.1 y.2 n (by omega) h.units
  exact ⟨hz.1, hz.2.1, ht, hg, by omega, fun c hc hc2 => bal_mov (by omega) h.units hc hc2⟩
end Reg
end Go.Proofs.Ythhmpdjjfoplgaa
