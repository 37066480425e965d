/- Plain facts on transfers: what they keep; there and back. -/
import Derived.Test.YthhmpdjjfoplgaaScP
set_option linter.unusedVariables false
set_option linter.unusedSimpArgs false
namespace Go.Proofs.Ythhmpdjjfoplgaa
namespace Reg

theorem amp_filter (p q : Lot → Bool) (l : List Lot) : amp p (l.filter q) = amp (fun y => p y && q y) l := by
  unfold amp; rw [List.filter_filter]
theorem kp_and {p q : Lot → Bool} (hp : KP p) (hq : KP q) : KP (fun y => p y && q y) := fun a b h => by simp only [hp a b h, hq a b h]
theorem kp_not {q : Lot → Bool} (hq : KP q) : KP (fun y => !q y) := fun a b h => by simp only [hq a b h]
theorem kp_true : KP (fun _ => true) := fun _ _ _ => rfl
theorem amp_congr {p q : Lot → Bool} {l : List Lot} (h : ∀ x ∈ l, p x = q x) : amp p l = amp q l := by unfold amp; rw [List.filter_congr h]
theorem amp_true (l : List Lot) : amp (fun _ => true) l = sumU l := amp_all (fun _ _ => rfl)
theorem give_total (l more : List Lot) : sumU (giveL l more) = sumU l + sumU more := by
  have := amp_give kp_true l more
  rwa [amp_true, amp_true, amp_true] at this
theorem take_total (nm hl : ByteArray) (l : List Lot) (n : Int) (hn : 0 ≤ n) (hu : ∀ x ∈ l, 1 ≤ x.units) : sumU (takeR nm hl l n).1 + sumU (takeR nm hl l n).2 = sumU l := by
  have := amp_take kp_true nm hl l n hn hu
  rwa [amp_true, amp_true, amp_true] at this
theorem mov_total (l : List Lot) (f1 f2 t1 t2 : ByteArray) (n : Int) (hn : 0 ≤ n) (hu : ∀ x ∈ l, 1 ≤ x.units) : sumU (movL l f1 f2 t1 t2 n) = sumU l := by
  unfold movL
  rw [give_total, sumU_map]
  exact take_total f1 f2 l n hn hu
theorem mov_srt (l : List Lot) (f1 f2 t1 t2 : ByteArray) (n : Int) (hs : Srt l) : Srt (movL l f1 f2 t1 t2 n) := give_srt _ _ (takeR_srt f1 f2 l n hs)
theorem mov_ok {l : List Lot} (f1 f2 t1 t2 : ByteArray) (n : Int) (hn : 0 ≤ n) (ho : ∀ x ∈ l, okLot x) (ht : acctB t1 t2 = true) : ∀ x ∈ movL l f1 f2 t1 t2 n, okLot x := by
  obtain ⟨h1, h2⟩ := take_all f1 f2 l n hn (fun x hx => (ho x hx).2.2.2)
  refine give_all ok_more (fun z hz => ?_) (fun z hz => ?_)
  · obtain ⟨a, y, hy, hk⟩ := h1 z hz; exact ok_key hk (ho y hy) a
  · obtain ⟨x, hx, rfl⟩ := List.mem_map.1 hz
    obtain ⟨a, _, _, y, hy, hk⟩ := h2 x hx
    have := ok_key hk (ho y hy) a
    exact ⟨ht, this.2.1, this.2.2.1, a⟩
theorem mov_len (l : List Lot) (f1 f2 t1 t2 : ByteArray) (n : Int) : (movL l f1 f2 t1 t2 n).length ≤ 2 * l.length := by
  have h1 := give_len (takeR f1 f2 l n).1 ((takeR f1 f2 l n).2.map (toA t1 t2))
  have h2 := takeR_len f1 f2 l n
  rw [List.length_map] at h1
  unfold movL
  omega
theorem mov_check {l : List Lot} (f1 f2 t1 t2 : ByteArray) (n : Int) (hn : 0 ≤ n) (hc : checkB l = true) (ht : acctB t1 t2 = true) (hl : (movL l f1 f2 t1 t2 n).length ≤ 256) : checkB (movL l f1 f2 t1 t2 n) = true := by
  obtain ⟨g1, g2, g3, g4, g5⟩ := check_facts hc
  exact check_mk hl (mov_srt l _ _ _ _ n g4) (mov_ok _ _ _ _ n hn (check_ok hc) ht) (by rw [mov_total l _ _ _ _ n hn (fun x hx => (g5 x hx).1)]; exact g3)
theorem trnE_zero {l : List Lot} {f1 f2 t1 t2 : ByteArray} {n : Int} (h1 : checkB l = true) (h2 : acctB f1 f2 = true) (h3 : acctB t1 t2 = true) (h4 : 0 ≤ n) (h5 : n ≤ 1000000000000000) (h6 : (movL l f1 f2 t1 t2 n).length ≤ 256) :
    trnE l f1 f2 t1 t2 n = 0 ∧ trnL l f1 f2 t1 t2 n = movL l f1 f2 t1 t2 n ∧ trnN l f1 f2 t1 t2 n = sumU (takeR f1 f2 l n).2 := by
  have hE : trnE l f1 f2 t1 t2 n = 0 := by
    unfold trnE
    rw [h1, h2, h3, if_neg (by simp), if_neg (by simp), if_neg (by simp), if_neg (by omega), if_neg (by omega)]
  exact ⟨hE, by unfold trnL; rw [hE, if_pos rfl], by unfold trnN; rw [hE, if_pos rfl]⟩
theorem takeP_key2 (l : List Lot) (n : Int) : ∀ z ∈ (takeP l n).2, ∃ y ∈ l, sameKey z y := by
  induction l generalizing n with
  | nil => simp [takeP]
  | cons x l ih =>
    intro z hz
    simp only [takeP] at hz
    split at hz
    · rcases List.mem_cons.1 hz with rfl | hz
      · exact ⟨x, by simp, rfl, rfl, rfl⟩
      · obtain ⟨y, hy, h⟩ := ih _ z hz; exact ⟨y, by simp [hy], h⟩
    · obtain ⟨y, hy, h⟩ := ih _ z hz; exact ⟨y, by simp [hy], h⟩
theorem takeP_srt2 (l : List Lot) (n : Int) (h : Srt l) : Srt (takeP l n).2 := by
  induction l generalizing n with
  | nil => simp [takeP, Srt]
  | cons x l ih =>
    have h1 := List.pairwise_cons.1 h
    simp only [takeP]
    split
    · refine List.pairwise_cons.2 ⟨fun z hz => ?_, ih _ h1.2⟩
      obtain ⟨y, hy, hk⟩ := takeP_key2 l _ z hz
      have e : lotLt (⟨x.nom, x.hol, x.ser, min n x.units⟩ : Lot) z = lotLt x z := lotLt_keyl ⟨rfl, rfl, rfl⟩
      rw [e, lotLt_keyr hk]; exact h1.1 y hy
    · exact ih _ h1.2
theorem take_srt2 (nm hl : ByteArray) (l : List Lot) (n : Int) (hn : 0 ≤ n) (hu : ∀ x ∈ l, 1 ≤ x.units) (hs : Srt l) : Srt (takeR nm hl l n).2 := by
  rw [(take_both nm hl l n hn hu).1]
  exact takeP_srt2 _ n (List.Pairwise.sublist List.filter_sublist hs)
/-- one account's sorted lots, in another's name -/
theorem toA_srt (nm hl t1 t2 : ByteArray) (l : List Lot) (hs : Srt l) (ho : ∀ x ∈ l, x.nom = nm ∧ x.hol = hl) : Srt (l.map (toA t1 t2)) := by
  unfold Srt at hs ⊢
  rw [List.pairwise_map]
  refine List.Pairwise.imp_of_mem (fun {a b} ha hb h => ?_) hs
  obtain ⟨a1, a2⟩ := ho a ha
  obtain ⟨b1, b2⟩ := ho b hb
  simp only [lotLt, a1, a2, b1, b2, if_true, decide_eq_true_eq] at h
  simp only [lotLt, toA, if_true]
  exact decide_eq_true h
theorem toA_back (nm hl t1 t2 : ByteArray) (l : List Lot) (ho : ∀ x ∈ l, x.nom = nm ∧ x.hol = hl) : (l.map (toA t1 t2)).map (toA nm hl) = l := by
  rw [List.map_map]
  conv => rhs; rw [← List.map_id l]
  refine List.map_congr_left (fun x hx => ?_)
  obtain ⟨h1, h2⟩ := ho x hx
  obtain ⟨n1, n2, s, u⟩ := x
  simp only at h1 h2
  subst h1 h2
  rfl
/-- what was transferred to an account without units is all that this account has; transferred back, the register is as it was -/
theorem mov_back {l : List Lot} {f1 f2 t1 t2 : ByteArray} {n : Int} (hc : checkB l = true) (hn : 0 ≤ n) (hno : ∀ x ∈ l, ownB t1 t2 x = false) :
    sumU (takeR t1 t2 (movL l f1 f2 t1 t2 n) (sumU (takeR f1 f2 l n).2)).2 = sumU (takeR f1 f2 l n).2 ∧ movL (movL l f1 f2 t1 t2 n) t1 t2 f1 f2 (sumU (takeR f1 f2 l n).2) = l := by
  obtain ⟨g1, g2, g3, g4, g5⟩ := check_facts hc
  have hu : ∀ x ∈ l, 1 ≤ x.units := fun x hx => (g5 x hx).1
  obtain ⟨ta1, ta2⟩ := take_all f1 f2 l n hn hu
  obtain ⟨L1, hL1⟩ : ∃ L1, L1 = (takeR f1 f2 l n).1 := ⟨_, rfl⟩
  obtain ⟨td, htd⟩ : ∃ td, td = (takeR f1 f2 l n).2 := ⟨_, rfl⟩
  have sL1 : Srt L1 := hL1 ▸ takeR_srt f1 f2 l n g4
  have std : Srt td := htd ▸ take_srt2 f1 f2 l n hn hu g4
  rw [← hL1] at ta1
  rw [← htd] at ta2
  have hM : movL l f1 f2 t1 t2 n = giveL L1 (td.map (toA t1 t2)) := by rw [hL1, htd]; rfl
  have hamp : ∀ p, KP p → amp p L1 + amp p td = amp p l := fun p hp => by rw [hL1, htd]; exact amp_take hp f1 f2 l n hn hu
  rw [← htd, hM]
  have std' : Srt (td.map (toA t1 t2)) := toA_srt f1 f2 t1 t2 td std (fun x hx => ⟨(ta2 x hx).2.1, (ta2 x hx).2.2.1⟩)
  have sM : Srt (giveL L1 (td.map (toA t1 t2))) := give_srt _ _ sL1
  have uL1 : ∀ x ∈ L1, 1 ≤ x.units := fun x hx => (ta1 x hx).1
  have utd' : ∀ x ∈ td.map (toA t1 t2), 1 ≤ x.units := fun x hx => by obtain ⟨y, hy, rfl⟩ := List.mem_map.1 hx; exact (ta2 y hy).1
  have q1 : ∀ (y x : Lot), 1 ≤ y.units → 1 ≤ x.units → sameKey y x → 1 ≤ (y.more x.units).units := fun y x h1 h2 _ => by simp only [Lot.more]; omega
  have uM : ∀ x ∈ giveL L1 (td.map (toA t1 t2)), 1 ≤ x.units := give_all (q := fun z => 1 ≤ z.units) q1 uL1 utd'
  have nL1 : ∀ x ∈ L1, ownB t1 t2 x = false := fun x hx => by obtain ⟨_, y, hy, hk⟩ := ta1 x hx; rw [kp_own t1 t2 _ _ hk]; exact hno y hy
  have otd' : ∀ x ∈ td.map (toA t1 t2), ownB t1 t2 x = true := fun x hx => by obtain ⟨y, hy, rfl⟩ := List.mem_map.1 hx; simp [ownB, toA, sEq_refl]
  have hown : ownL t1 t2 (giveL L1 (td.map (toA t1 t2))) = td.map (toA t1 t2) := by
    refine eq_of_amp (List.Pairwise.sublist List.filter_sublist sM) std' (fun x hx => uM x (List.mem_filter.1 hx).1) utd' (fun k => ?_)
    unfold ownL
    rw [amp_filter, amp_give (kp_and (kp_key k) (kp_own t1 t2)), amp_zero (fun x hx => by simp [nL1 x hx]), Int.zero_add]
    exact amp_congr (fun x hx => by simp [otd' x hx])
  have hoth : othL t1 t2 (giveL L1 (td.map (toA t1 t2))) = L1 := by
    refine eq_of_amp (List.Pairwise.sublist List.filter_sublist sM) sL1 (fun x hx => uM x (List.mem_filter.1 hx).1) uL1 (fun k => ?_)
    unfold othL
    rw [amp_filter, amp_give (kp_and (kp_key k) (kp_not (kp_own t1 t2))), amp_zero (l := td.map (toA t1 t2)) (fun x hx => by simp [otd' x hx]), Int.add_zero]
    exact amp_congr (fun x hx => by simp [nL1 x hx])
  have hk0 : 0 ≤ sumU td := sumU_nonneg td (fun x hx => by have := (ta2 x hx).1; omega)
  obtain ⟨b1, b2⟩ := take_both t1 t2 (giveL L1 (td.map (toA t1 t2))) (sumU td) hk0 uM
  have hall := takeP_all (td.map (toA t1 t2)) utd'
  rw [sumU_map] at hall
  rw [hown, hall] at b1 b2
  rw [hoth, List.nil_append] at b2
  have c1 := srt_unique (takeR_srt t1 t2 _ (sumU td) sM) sL1 b2
  refine ⟨by rw [b1, sumU_map], ?_⟩
  unfold movL
  rw [c1, b1, toA_back f1 f2 t1 t2 td (fun x hx => ⟨(ta2 x hx).2.1, (ta2 x hx).2.2.1⟩)]
  refine eq_of_amp (give_srt _ _ sL1) g4 (give_all (q := fun z => 1 ≤ z.units) q1 uL1 (fun x hx => (ta2 x hx).1)) hu (fun k => ?_)
  rw [amp_give (kp_key k)]
  exact hamp _ (kp_key k)
end Reg
end Go.Proofs.Ythhmpdjjfoplgaa
