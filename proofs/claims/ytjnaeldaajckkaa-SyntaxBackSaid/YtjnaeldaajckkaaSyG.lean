/- Texts with an error, whatever follows: plain, no program in sight. -/
import Derived.Test.YtjnaeldaajckkaaSyF
set_option linter.unusedVariables false
set_option linter.unusedSimpArgs false
namespace Go.Proofs.Ytjnaeldaajckkaa
open Go.RowKit Tok

namespace Syn
/-- pieces of which the first may stand at the start of the text -/
def ItOk1 : List It → Prop
  | [] => True
  | p :: l => Gap p.1 ∧ tokU p.2 ∧ ItOk l
theorem ItOk.one {l : List It} (h : ItOk l) : ItOk1 l := by
  cases l with
  | nil => trivial
  | cons p l => exact ⟨(h p (List.mem_cons_self ..)).1, (h p (List.mem_cons_self ..)).2.1, fun q hq => h q (List.mem_cons_of_mem _ hq)⟩
theorem scan_its1 (l : List It) (ho : ItOk1 l) (ln col : Nat) : ∃ (ln' col' : Nat) (ts : List T), ts.map kt = l.map itK ∧ ∀ (f : Nat) (acc : List T) (r : List UInt8), Neutral r → (itL l ++ r).length < f →
    ∃ f', r.length < f' ∧ scanF f (itL l ++ r) ln col acc = scanF f' r ln' col' (acc ++ ts) := by
  cases l with
  | nil => exact scan_its [] ItOk.nil ln col
  | cons p l =>
    obtain ⟨h1, h2, hl⟩ := ho
    obtain ⟨l1, c1, a1⟩ := h1.2 ln col
    obtain ⟨l3, c3, ts, d1, d2⟩ := scan_its l hl l1 (c1 + p.2.length)
    refine ⟨l3, c3, ⟨kindL p.2, p.2, l1, c1⟩ :: ts, by simp [d1, kt, itK], fun f acc r hr h => ?_⟩
    rw [itL_cons, List.append_assoc, List.append_assoc] at h ⊢
    obtain ⟨f1, e1, e2⟩ := a1 f acc _ h
    obtain ⟨f2, b1, b2⟩ := scan_tok p.2 h2 l1 c1 f1 acc _ (neutral_its hl hr) e1
    obtain ⟨f3, g1, g2⟩ := d2 f2 (acc ++ [⟨kindL p.2, p.2, l1, c1⟩]) r hr b1
    refine ⟨f3, g1, ?_⟩
    rw [e2, b2, g2, List.append_assoc]
    rfl
theorem neutral_sp (r : List UInt8) : Neutral (32 :: r) := neutral_cons (by decide) (by decide) (by decide) (by decide)
/-- the tokens of a text of pieces that ends with a space: they stand where they stand, whatever pieces follow -/
theorem scan_two (l : List It) (h : ItOk1 l) : ∃ ts : List T, ts.map kt = l.map itK ∧ ((itL l ++ [32]).length ≤ 65536 → scanR (itL l ++ [32]) = ⟨ts, 0, 0, 0⟩) ∧
    ∀ m, ItOk m → (itL (l ++ m) ++ [32]).length ≤ 65536 → ∃ ts2, scanR (itL (l ++ m) ++ [32]) = ⟨ts ++ ts2, 0, 0, 0⟩ := by
  obtain ⟨l1, c1, ts, h1, h2⟩ := scan_its1 l h 1 1
  have fin : ∀ (f ln col : Nat) (acc : List T), 1 < f → scanF f [32] ln col acc = ⟨acc, 0, 0, 0⟩ := by
    intro f ln col acc hf
    obtain ⟨f, rfl⟩ : ∃ k, f = k + 2 := ⟨f - 2, by omega⟩
    rw [scanF_sp _ _ _ _ _ _ (by decide) (by decide)]
    rfl
  refine ⟨ts, h1, fun hn => ?_, fun m hm hn => ?_⟩
  · obtain ⟨f', a1, a2⟩ := h2 ((itL l ++ [32]).length + 1) [] [32] (neutral_sp []) (by omega)
    unfold scanR
    rw [if_neg (by omega), a2, fin _ _ _ _ (by simpa using a1)]
    rfl
  · obtain ⟨l3, c3, ts2, k1, k2⟩ := scan_its m hm l1 c1
    have e : itL (l ++ m) ++ [32] = itL l ++ (itL m ++ [32]) := by rw [itL_app, List.append_assoc]
    rw [e] at hn ⊢
    obtain ⟨f', a1, a2⟩ := h2 ((itL l ++ (itL m ++ [32])).length + 1) [] (itL m ++ [32]) (neutral_its hm (neutral_sp [])) (by omega)
    obtain ⟨f2, b1, b2⟩ := k2 f' ([] ++ ts) [32] (neutral_sp []) a1
    refine ⟨ts2, ?_⟩
    unfold scanR
    rw [if_neg (by omega), a2, b2, fin _ _ _ _ (by simpa using b1)]
    rfl
/-- the same, told by a test -/
def gapB (g : List UInt8) : Bool := g.all fun c => c == 32 || c == 10
def tokB (u : List UInt8) : Bool := lenL u == u.length && !u.isEmpty
def attB (u : List UInt8) : Bool := u == [44] || u == [59] || u == [123] || u == [125]
def itB (l : List It) : Bool := l.all fun p => gapB p.1 && tokB p.2 && (!p.1.isEmpty || attB p.2)
def it1B : List It → Bool
  | [] => true
  | p :: l => gapB p.1 && tokB p.2 && itB l
theorem gapB_ok {g : List UInt8} (h : gapB g = true) : Gap g := spc_of h
theorem tokB_ok {u : List UInt8} (h : tokB u = true) : tokU u := by
  unfold tokB at h
  simp only [Bool.and_eq_true, beq_iff_eq, Bool.not_eq_true'] at h
  exact ⟨h.1, fun e => by rw [e] at h; exact absurd h.2 (by decide)⟩
theorem attB_ok {u : List UInt8} (h : attB u = true) : attU u := by
  unfold attB at h
  simp only [Bool.or_eq_true, beq_iff_eq] at h
  unfold attU
  rcases h with ((h | h) | h) | h <;> simp [h]
theorem itB_ok {l : List It} (h : itB l = true) : ItOk l := by
  intro p hp
  have := List.all_eq_true.1 h p hp
  simp only [Bool.and_eq_true, Bool.or_eq_true, Bool.not_eq_true'] at this
  refine ⟨gapB_ok this.1.1, tokB_ok this.1.2, this.2.imp (fun h e => by rw [e] at h; exact absurd h (by decide)) attB_ok⟩
theorem it1B_ok : ∀ {l : List It}, it1B l = true → ItOk1 l
  | [], _ => trivial
  | p :: l, h => by
    simp only [it1B, Bool.and_eq_true] at h
    exact ⟨gapB_ok h.1.1, tokB_ok h.1.2, itB_ok h.2⟩
/-- the texts of SyntaxErrors: heads with their pieces, ends -/
def hA : List UInt8 := [97]
def hB : List UInt8 := [98]
def heads : List (List UInt8 × List It) :=
  [([102, 117, 110, 100, 32, 97, 32, 123, 32, 98, 59, 32], [([], sFund), ([32], [97]), ([32], [123]), ([32], [98]), ([], [59])]),
   ([102, 117, 110, 100, 32, 97, 32, 123, 32, 99, 108, 97, 115, 115, 32, 99, 32, 123, 32, 100, 32, 49, 59, 32], [([], sFund), ([32], [97]), ([32], [123]), ([32], sClass), ([32], [99]), ([32], [123]), ([32], [100]), ([32], [49]), ([], [59])]),
   ([], []),
   ([102, 117, 110, 100, 32, 97, 32, 123, 32, 125, 32], [([], sFund), ([32], [97]), ([32], [123]), ([32], [125])])]
def ends : List (List UInt8) := [[123], [59], [44], [53, 37], [49, 50, 58, 48, 48]]
def mores : List (List UInt8) := [[97], [59], [125], sFund, [123], sClass]
def itsE (h : List It) (e : List UInt8) : List It := if h.isEmpty then [([], e)] else h ++ [([32], e)]
def errB (l : List UInt8) : Bool := match blocksP (scanR l).toks with
  | .error (_ :: _) => true
  | _ => false
theorem errs_all : heads.all (fun h => ends.all fun e => it1B (itsE h.2 e) && decide (h.1 ++ (e ++ [32]) = itL (itsE h.2 e) ++ [32]) && errB (h.1 ++ (e ++ [32])) && decide ((h.1 ++ (e ++ [32])).length ≤ 100)) = true := by decide +kernel
theorem mores_all : mores.all (fun u => itB [([32], u)] && decide (u.length ≤ 5)) = true := by decide +kernel
theorem mores_ok : ∀ {us : List (List UInt8)}, (∀ u ∈ us, u ∈ mores) → ItOk (us.map fun u => ([32], u)) ∧ ∀ l : List It, itL (l ++ us.map fun u => (([32] : List UInt8), u)) ++ [32] = (itL l ++ [32]) ++ us.flatMap fun u => u ++ [32]
  | [], _ => ⟨ItOk.nil, fun l => by simp⟩
  | u :: us, h => by
    obtain ⟨h1, h2⟩ := mores_ok (us := us) fun x hx => h x (List.mem_cons_of_mem _ hx)
    have h3 := List.all_eq_true.1 mores_all u (h u (List.mem_cons_self ..))
    simp only [Bool.and_eq_true] at h3
    refine ⟨ItOk.cons (itB_ok h3.1 _ (List.mem_cons_self ..)) h1, fun l => ?_⟩
    have h4 := h2 (l ++ [([32], u)])
    rw [List.append_assoc] at h4
    rw [List.map_cons]
    show itL (l ++ ([([32], u)] ++ _)) ++ [32] = _
    rw [h4, itL_app]
    simp [itL]
/-- a text with an error is refused at the same token whatever follows -/
theorem errors_law {h : List UInt8 × List It} {e : List UInt8} {us : List (List UInt8)} (hh : h ∈ heads) (he : e ∈ ends) (hu : ∀ u ∈ us, u ∈ mores) (hn : us.length ≤ 1000) :
    ∃ (t : T) (s r ts : List T), scanR (h.1 ++ (e ++ [32])) = ⟨ts, 0, 0, 0⟩ ∧ blocksP ts = .error (t :: s) ∧ scanR ((h.1 ++ (e ++ [32])) ++ us.flatMap fun u => u ++ [32]) = ⟨ts ++ r, 0, 0, 0⟩ ∧ blocksP (ts ++ r) = .error (t :: s ++ r) := by
  have h1 := List.all_eq_true.1 (List.all_eq_true.1 errs_all h hh) e he
  simp only [Bool.and_eq_true, decide_eq_true_eq] at h1
  obtain ⟨⟨⟨a1, a2⟩, a3⟩, a4⟩ := h1
  obtain ⟨ts, b1, b2, b3⟩ := scan_two _ (it1B_ok a1)
  obtain ⟨c1, c2⟩ := mores_ok hu
  rw [a2] at a3 a4 ⊢
  have hs := b2 (by omega)
  have hlen : (us.flatMap fun u => u ++ [32]).length ≤ 6 * us.length := by
    clear hn c1 c2
    induction us with
    | nil => simp
    | cons u us ih =>
      have h3 := List.all_eq_true.1 mores_all u (hu u (List.mem_cons_self ..))
      simp only [Bool.and_eq_true, decide_eq_true_eq] at h3
      have := ih fun x hx => hu x (List.mem_cons_of_mem _ hx)
      rw [List.flatMap_cons, List.length_append, List.length_append, List.length_cons]
      simp only [List.length_cons, List.length_nil]
      omega
  obtain ⟨ts2, d1⟩ := b3 _ c1 (by rw [c2, List.length_append]; omega)
  rw [c2] at d1
  unfold errB at a3
  rw [hs] at a3
  cases hb : blocksP ts with
  | ok p => rw [hb] at a3; cases a3
  | error x =>
    cases x with
    | nil => rw [hb] at a3; cases a3
    | cons t s => exact ⟨t, s, ts2, ts, hs, hb, d1, blocks_ext ts2 _ ts t s (Nat.le_refl _) hb⟩
end Syn
end Go.Proofs.Ytjnaeldaajckkaa
