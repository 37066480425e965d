/- Plain facts on holders: one lot more. -/
import Derived.Test.YthhmpdjjfoplgaaRegV
set_option linter.unusedVariables false
set_option linter.unusedSimpArgs false
namespace Go.Proofs.Ythhmpdjjfoplgaa
namespace Reg

theorem IsHold.mk' {l : List Lot} {hs : List Hol} (h1 : hs.Pairwise (fun a b => sLt a.name b.name = true)) (h2 : ∀ h ∈ hs, named l h.name ∧ h.units = tot l h.name) (h3 : ∀ s, named l s → ∃ h ∈ hs, h.name = s) : IsHold l hs := by
  refine ⟨h1, fun h => ⟨h2 h, fun ⟨a, b⟩ => ?_⟩⟩
  obtain ⟨k, hk, e⟩ := h3 _ a
  have := (h2 k hk).2
  have : k = h := by
    cases h; cases k
    simp only at e b this
    subst e
    rw [b, this]
  exact this ▸ hk
theorem IsHold.nil : IsHold [] [] := IsHold.mk' List.Pairwise.nil (by simp) (fun s h => by simp [named] at h)
theorem tot_unnamed {l : List Lot} {s : ByteArray} (h : ¬ named l s) : tot l s = 0 := by
  unfold tot
  rw [List.filter_eq_nil_iff.2]
  · rfl
  · intro x hx
    simp only [decide_eq_true_eq]
    exact fun e => h ⟨x, hx, e⟩
/-- the place of a name among holders -/
def PosH (hs : List Hol) (s : ByteArray) (at_ : Nat) : Prop := at_ ≤ hs.length ∧ (∀ i h, hs[i]? = some h → i < at_ → sLt h.name s = true) ∧ (∀ h, hs[at_]? = some h → sLt h.name s = false)
theorem hold_add {l : List Lot} {k at_ : Nat} {x : Lot} {hs : List Hol} {y : Hol} (hx : l[k]? = some x) (hh : IsHold (l.take k) hs) (hy : hs[at_]? = some y) (hn : y.name = nameOf x) :
    IsHold (l.take (k + 1)) (hs.set at_ ⟨y.name, y.units + x.units⟩) := by
  obtain ⟨hat, hye⟩ := List.getElem?_eq_some_iff.1 hy
  have hp := hh.1
  rw [List.pairwise_iff_getElem] at hp
  have hyt := (hh.2 y).1 (List.mem_of_getElem? hy)
  have hnm : ∀ i (hi : i < (hs.set at_ ⟨y.name, y.units + x.units⟩).length), ((hs.set at_ ⟨y.name, y.units + x.units⟩)[i]).name = (hs[i]'(by simpa using hi)).name := by
    intro i hi
    rw [List.getElem_set]
    split
    · rename_i e; subst e; rw [hye]
    · rfl
  refine IsHold.mk' ?_ ?_ ?_
  · rw [List.pairwise_iff_getElem]
    intro i j hi hj hij
    rw [hnm i hi, hnm j hj]
    exact hp i j _ _ hij
  · intro h hm
    obtain ⟨i, hi, he⟩ := List.getElem_of_mem hm
    rw [tot_snoc hx, named_snoc hx]
    rw [List.getElem_set] at he
    split at he
    · subst he
      exact ⟨.inr hn.symm, by simp only; rw [if_pos hn.symm, hyt.2]⟩
    · rename_i hne
      have hi' : i < hs.length := by simpa using hi
      have hmem : h ∈ hs := he ▸ List.getElem_mem hi'
      obtain ⟨a, b⟩ := (hh.2 h).1 hmem
      have hne2 : nameOf x ≠ h.name := by
        intro e
        rw [← hn] at e
        rcases Nat.lt_trichotomy i at_ with h1 | h1 | h1
        · have := hp i at_ hi' hat h1; rw [he, hye, e, sLt_irr] at this; cases this
        · exact hne h1.symm
        · have := hp at_ i hat hi' h1; rw [he, hye, e, sLt_irr] at this; cases this
      exact ⟨.inl a, by rw [if_neg hne2, b]; omega⟩
  · intro s hs'
    rw [named_snoc hx] at hs'
    rcases hs' with hs' | hs'
    · obtain ⟨h, hm, e⟩ : ∃ h ∈ hs, h.name = s := ⟨⟨s, tot (l.take k) s⟩, (hh.2 _).2 ⟨hs', rfl⟩, rfl⟩
      obtain ⟨i, hi, he⟩ := List.getElem_of_mem hm
      refine ⟨_, List.getElem_mem (show i < (hs.set at_ ⟨y.name, y.units + x.units⟩).length by simpa using hi), ?_⟩
      rw [hnm, he, e]
    · refine ⟨_, List.getElem_mem (show at_ < (hs.set at_ ⟨y.name, y.units + x.units⟩).length by simpa using hat), ?_⟩
      rw [hnm, hye, hn, hs']
theorem hold_ins {l : List Lot} {k at_ : Nat} {x : Lot} {hs : List Hol} (hx : l[k]? = some x) (hh : IsHold (l.take k) hs) (hp : PosH hs (nameOf x) at_) (hn : ∀ y, hs[at_]? = some y → y.name ≠ nameOf x) :
    IsHold (l.take (k + 1)) (hs.take at_ ++ [⟨nameOf x, x.units⟩] ++ hs.drop at_) := by
  obtain ⟨p1, p2, p3⟩ := hp
  have hsr := hh.1
  have hpp := hh.1
  rw [List.pairwise_iff_getElem] at hpp
  have hlo : ∀ h ∈ hs.take at_, sLt h.name (nameOf x) = true := by
    intro h hm
    obtain ⟨i, hi, he⟩ := List.getElem_of_mem hm
    have hi2 : i < at_ ∧ i < hs.length := by simp at hi; omega
    rw [List.getElem_take] at he
    exact p2 i h (by rw [← he]; simp [hi2.2]) hi2.1
  have hhi : ∀ h ∈ hs.drop at_, sLt (nameOf x) h.name = true := by
    intro h hm
    obtain ⟨i, hi, he⟩ := List.getElem_of_mem hm
    have hi2 : at_ + i < hs.length := by simp at hi; omega
    rw [List.getElem_drop] at he
    have hat : at_ < hs.length := by omega
    have h0 : hs[at_]? = some hs[at_] := by simp [hat]
    have h1 := p3 _ h0
    have h2 := hn _ h0
    have h3 : sLt (nameOf x) hs[at_].name = true := by
      rcases s_tri (nameOf x) hs[at_].name with h4 | h4 | h4
      · exact h4
      · exact absurd h4.symm h2
      · rw [h1] at h4; cases h4
    by_cases hi0 : i = 0
    · subst hi0; rw [← he]; exact h3
    · have h5 := hpp at_ (at_ + i) hat hi2 (by omega)
      rw [he] at h5
      exact sLt_trans h3 h5
  have hun : ¬ named (l.take k) (nameOf x) := by
    intro hna
    have hm : (⟨nameOf x, tot (l.take k) (nameOf x)⟩ : Hol) ∈ hs := (hh.2 _).2 ⟨hna, rfl⟩
    rw [← List.take_append_drop at_ hs] at hm
    rcases List.mem_append.1 hm with hm | hm
    · have := hlo _ hm; rw [sLt_irr] at this; cases this
    · have := hhi _ hm; rw [sLt_irr] at this; cases this
  have hne : ∀ h ∈ hs, nameOf x ≠ h.name := fun h hm e => hun (e ▸ ((hh.2 h).1 hm).1)
  refine IsHold.mk' ?_ ?_ ?_
  · rw [List.pairwise_append, List.pairwise_append]
    rw [← List.take_append_drop at_ hs, List.pairwise_append] at hsr
    refine ⟨⟨hsr.1, by simp, fun a ha b hb => ?_⟩, hsr.2.1, fun a ha b hb => ?_⟩
    · simp at hb; subst hb; exact hlo a ha
    · rcases List.mem_append.1 ha with ha | ha
      · exact sLt_trans (hlo a ha) (hhi b hb)
      · simp at ha; subst ha; exact hhi b hb
  · intro h hm
    rw [tot_snoc hx, named_snoc hx]
    have hcase : h ∈ hs ∨ h = ⟨nameOf x, x.units⟩ := by
      rcases List.mem_append.1 hm with hm | hm
      · rcases List.mem_append.1 hm with hm | hm
        · exact .inl (List.mem_of_mem_take hm)
        · simp at hm; exact .inr hm
      · exact .inl (List.mem_of_mem_drop hm)
    rcases hcase with hm | rfl
    · obtain ⟨a, b⟩ := (hh.2 h).1 hm
      exact ⟨.inl a, by rw [if_neg (hne h hm), b]; omega⟩
    · exact ⟨.inr rfl, by simp only; rw [tot_unnamed hun]; simp⟩
  · intro s hs'
    rw [named_snoc hx] at hs'
    rcases hs' with hs' | hs'
    · have hm : (⟨s, tot (l.take k) s⟩ : Hol) ∈ hs := (hh.2 _).2 ⟨hs', rfl⟩
      rw [← List.take_append_drop at_ hs] at hm
      refine ⟨⟨s, tot (l.take k) s⟩, ?_, rfl⟩
      rcases List.mem_append.1 hm with hm | hm
      · exact List.mem_append_left _ (List.mem_append_left _ hm)
      · exact List.mem_append_right _ hm
    · exact ⟨⟨nameOf x, x.units⟩, List.mem_append_left _ (List.mem_append_right _ (by simp)), hs'⟩
theorem hold_len {l : List Lot} {hs : List Hol} (h : IsHold l hs) : ∀ y ∈ hs, y.units = tot l y.name := fun y hy => ((h.2 y).1 hy).2
end Reg
end Go.Proofs.Ythhmpdjjfoplgaa
