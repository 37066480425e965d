/- Pieces of text between gaps of spaces and line ends, scanned; the text of blocks: plain, no program in sight. -/
import Derived.Test.YtjnaeldaajckkaaSyR
import Derived.Test.YtjnaeldaajckkaaTokV
set_option linter.unusedVariables false
set_option linter.unusedSimpArgs false
namespace Go.Proofs.Ytjnaeldaajckkaa
open Go.RowKit Tok

namespace Syn
abbrev It := List UInt8 × List UInt8
def itL (l : List It) : List UInt8 := l.flatMap fun p => p.1 ++ p.2
/-- a gap: the scanner passes over it, wherever it stands -/
def Gap (g : List UInt8) : Prop := (∀ c t, g = c :: t → wch c = false ∧ c ≠ 46 ∧ c ≠ 58 ∧ c ≠ 37) ∧ ∀ ln col : Nat, ∃ ln' col' : Nat, ∀ (f : Nat) (acc : List T) (r : List UInt8), (g ++ r).length < f → ∃ f', r.length < f' ∧ scanF f (g ++ r) ln col acc = scanF f' r ln' col' acc
def spc (g : List UInt8) : Prop := ∀ c ∈ g, c = 32 ∨ c = 10
def tokU (u : List UInt8) : Prop := lenL u = u.length ∧ u ≠ []
def attU (u : List UInt8) : Prop := u = [44] ∨ u = [59] ∨ u = [123] ∨ u = [125]
def ItOk (l : List It) : Prop := ∀ p ∈ l, Gap p.1 ∧ tokU p.2 ∧ (p.1 ≠ [] ∨ attU p.2)
def itK (p : It) : Int × List UInt8 := (kindL p.2, p.2)
theorem itL_cons (p : It) (l : List It) : itL (p :: l) = p.1 ++ (p.2 ++ itL l) := by simp [itL]
theorem itL_app (a b : List It) : itL (a ++ b) = itL a ++ itL b := by simp [itL]
theorem ItOk.app {a b : List It} (h : ItOk a) (k : ItOk b) : ItOk (a ++ b) := fun p hp => by
  rcases List.mem_append.1 hp with hp | hp
  · exact h p hp
  · exact k p hp
theorem ItOk.cons {p : It} {b : List It} (h : Gap p.1 ∧ tokU p.2 ∧ (p.1 ≠ [] ∨ attU p.2)) (k : ItOk b) : ItOk (p :: b) := fun q hq => by
  rcases List.mem_cons.1 hq with rfl | hq
  · exact h
  · exact k q hq
theorem ItOk.nil : ItOk [] := fun p hp => by cases hp
theorem ItOk.flat {α : Type} {f : α → List It} {l : List α} (h : ∀ x ∈ l, ItOk (f x)) : ItOk (l.flatMap f) := fun p hp => by
  obtain ⟨x, hx, hp⟩ := List.mem_flatMap.1 hp
  exact h x hx p hp
theorem gap_nil : Gap [] := ⟨fun c t h => (by cases h), fun ln col => ⟨ln, col, fun f acc r h => ⟨f, h, rfl⟩⟩⟩
theorem gap_sp {g : List UInt8} (hg : Gap g) : Gap (32 :: g) := by
  refine ⟨fun c t h => by injection h with h1 h2; subst h1; decide, fun ln col => ?_⟩
  obtain ⟨ln', col', h⟩ := hg.2 ln (col + 1)
  refine ⟨ln', col', fun f acc r hf => ?_⟩
  obtain ⟨f, rfl⟩ : ∃ k, f = k + 1 := ⟨f - 1, by omega⟩
  rw [List.cons_append, List.length_cons] at hf
  obtain ⟨f', h1, h2⟩ := h f acc r (by omega)
  exact ⟨f', h1, by rw [List.cons_append, scanF_sp _ _ _ _ _ _ (by decide) (by decide)]; exact h2⟩
theorem gap_nl {g : List UInt8} (hg : Gap g) : Gap (10 :: g) := by
  refine ⟨fun c t h => by injection h with h1 h2; subst h1; decide, fun ln col => ?_⟩
  obtain ⟨ln', col', h⟩ := hg.2 (ln + 1) 1
  refine ⟨ln', col', fun f acc r hf => ?_⟩
  obtain ⟨f, rfl⟩ : ∃ k, f = k + 1 := ⟨f - 1, by omega⟩
  rw [List.cons_append, List.length_cons] at hf
  obtain ⟨f', h1, h2⟩ := h f acc r (by omega)
  exact ⟨f', h1, by rw [List.cons_append, scanF_nl]; exact h2⟩
theorem gap_spc : ∀ {g : List UInt8}, spc g → Gap g
  | [], _ => gap_nil
  | c :: g, hs => by
    have hg : spc g := fun x hx => hs x (List.mem_cons_of_mem _ hx)
    rcases hs c (List.mem_cons_self ..) with rfl | rfl
    · exact gap_sp (gap_spc hg)
    · exact gap_nl (gap_spc hg)
/-- a token, wherever it stands: the place behind it -/
theorem scan_tok (u : List UInt8) (hu : tokU u) (ln col : Nat) : ∀ (f : Nat) (acc : List T) (r : List UInt8), Neutral r → (u ++ r).length < f → ∃ f', r.length < f' ∧ scanF f (u ++ r) ln col acc = scanF f' r ln (col + u.length) (acc ++ [⟨kindL u, u, ln, col⟩]) := by
  intro f acc r hr h
  have hl : 0 < u.length := by cases u with | nil => exact absurd rfl hu.2 | cons a b => simp
  obtain ⟨f, rfl⟩ : ∃ k, f = k + 1 := ⟨f - 1, by omega⟩
  rw [List.length_append] at h
  have hG := good_mk u ln col (by rw [hu.1]; omega)
  rw [hu.1, List.take_length] at hG
  exact ⟨f, by omega, scanF_token f _ hG r hr ln col acc⟩
theorem neutral_att {u r : List UInt8} (h : attU u) : Neutral (u ++ r) := by
  rcases h with rfl | rfl | rfl | rfl <;> exact neutral_cons (by decide) (by decide) (by decide) (by decide)
theorem neutral_its {l : List It} (h : ItOk l) {r : List UInt8} (hr : Neutral r) : Neutral (itL l ++ r) := by
  cases l with
  | nil => exact hr
  | cons p l =>
    obtain ⟨h1, h2, h3⟩ := h p (List.mem_cons_self ..)
    rw [itL_cons, List.append_assoc, List.append_assoc]
    cases hg : p.1 with
    | nil =>
      rcases h3 with h3 | h3
      · exact absurd hg h3
      · exact neutral_att (u := p.2) (r := itL l ++ r) h3
    | cons c g =>
      obtain ⟨k1, k2, k3, k4⟩ := h1.1 c g hg
      exact neutral_cons k1 k2 k3 k4
/-- the pieces' tokens stand where they stand, whatever follows -/
theorem scan_its : ∀ (l : List It), ItOk l → ∀ (ln col : Nat), ∃ (ln' col' : Nat) (ts : List T), ts.map kt = l.map itK ∧ ∀ (f : Nat) (acc : List T) (r : List UInt8), Neutral r → (itL l ++ r).length < f →
    ∃ f', r.length < f' ∧ scanF f (itL l ++ r) ln col acc = scanF f' r ln' col' (acc ++ ts)
  | [], _, ln, col => ⟨ln, col, [], rfl, fun f acc r _ h => ⟨f, h, by rw [List.append_nil]; rfl⟩⟩
  | p :: l, ho, ln, col => by
    have hl : ItOk l := fun q hq => ho q (List.mem_cons_of_mem _ hq)
    obtain ⟨h1, h2, h3⟩ := ho p (List.mem_cons_self ..)
    obtain ⟨l1, c1, a1⟩ := h1.2 ln col
    obtain ⟨l3, c3, ts, d1, d2⟩ := scan_its l hl l1 (c1 + p.2.length)
    refine ⟨l3, c3, ⟨kindL p.2, p.2, l1, c1⟩ :: ts, by simp [d1, kt, itK], fun f acc r hr h => ?_⟩
    rw [itL_cons, List.append_assoc, List.append_assoc] at h ⊢
    obtain ⟨f1, e1, e2⟩ := a1 f acc _ h
    obtain ⟨f2, b1, b2⟩ := scan_tok p.2 h2 l1 c1 f1 acc _ (neutral_its hl hr) e1
    obtain ⟨f3, g1, g2⟩ := d2 f2 (acc ++ [⟨kindL p.2, p.2, l1, c1⟩]) r hr b1
    refine ⟨f3, g1, ?_⟩
    rw [e2, b2, g2, List.append_assoc]
    rfl
/-- a clause's pieces; ind: the gap ahead of its word -/
def valI (v : List UInt8) : It := (if v = [44] then [] else [32], v)
def clauseI (ind : List UInt8) (c : Cl) : List It := (ind, c.word) :: (c.vals.map valI ++ [([], [59])])
def classI (k : Cb) : List It := ([10, 32, 32], sClass) :: ([32], k.name) :: ([32], [123]) :: (k.cls.flatMap (clauseI [10, 32, 32, 32, 32]) ++ [([10, 32, 32], [125])])
def blockI (b : Bk) : List It := ([32], b.name) :: ([32], [123]) :: (b.cls.flatMap (clauseI [10, 32, 32]) ++ (b.cbs.flatMap classI ++ [([10], [125])]))
/-- the text of blocks -/
def valL (v : List UInt8) : List UInt8 := if v = [44] then v else 32 :: v
def clauseL (c : Cl) : List UInt8 := c.word ++ (c.vals.flatMap valL ++ [59, 10])
def classL (k : Cb) : List UInt8 := [32, 32] ++ (sClass ++ (32 :: k.name ++ ([32, 123, 10] ++ ((k.cls.flatMap fun c => [32, 32, 32, 32] ++ clauseL c) ++ [32, 32, 125, 10]))))
def blockL (b : Bk) : List UInt8 := sFund ++ (32 :: b.name ++ ([32, 123, 10] ++ ((b.cls.flatMap fun c => [32, 32] ++ clauseL c) ++ (b.cbs.flatMap classL ++ [125, 10]))))
def blocksL (l : List Bk) : List UInt8 := l.flatMap blockL
theorem vals_text (vs : List (List UInt8)) : itL (vs.map valI) = vs.flatMap valL := by
  induction vs with
  | nil => rfl
  | cons v vs ih =>
    rw [List.map_cons, itL_cons, ih, List.flatMap_cons]
    unfold valI valL
    by_cases h : v = [44]
    · simp [h]
    · simp [h]
theorem clause_text (ind : List UInt8) (c : Cl) : itL (clauseI ind c) ++ [10] = ind ++ clauseL c := by
  unfold clauseI clauseL
  rw [itL_cons, itL_app, vals_text]
  simp [itL]
theorem clauses_text (i : List UInt8) : ∀ cs : List Cl, itL (cs.flatMap (clauseI (10 :: i))) ++ [10] = 10 :: cs.flatMap fun c => i ++ clauseL c
  | [] => rfl
  | c :: cs => by
    have h := clause_text (10 :: i) c
    have ih := clauses_text i cs
    rw [List.flatMap_cons, itL_app, List.append_assoc, ih, List.flatMap_cons]
    have : itL (clauseI (10 :: i) c) ++ 10 :: (cs.flatMap fun c => i ++ clauseL c) = (itL (clauseI (10 :: i) c) ++ [10]) ++ cs.flatMap fun c => i ++ clauseL c := by simp
    rw [this, h]
    simp
theorem class_text (k : Cb) : itL (classI k) ++ [10] = 10 :: classL k := by
  have h := clauses_text [32, 32, 32, 32] k.cls
  unfold classI classL
  simp only [itL_cons, itL_app]
  have e : ∀ Y, itL (k.cls.flatMap (clauseI [10, 32, 32, 32, 32])) ++ (([10, 32, 32] : List UInt8) ++ Y) = (10 :: k.cls.flatMap fun c => [32, 32, 32, 32] ++ clauseL c) ++ ([32, 32] ++ Y) := fun Y => by rw [← h]; simp
  rw [e]
  simp [itL]
theorem classes_text : ∀ ks : List Cb, itL (ks.flatMap classI) ++ [10] = 10 :: ks.flatMap classL
  | [] => rfl
  | k :: ks => by
    have h := class_text k
    have ih := classes_text ks
    rw [List.flatMap_cons, itL_app, List.append_assoc, ih, List.flatMap_cons]
    have : itL (classI k) ++ 10 :: ks.flatMap classL = (itL (classI k) ++ [10]) ++ ks.flatMap classL := by simp
    rw [this, h]
    simp
theorem block_text (b : Bk) : blockL b = sFund ++ (itL (blockI b) ++ [10]) := by
  have h := clauses_text [32, 32] b.cls
  have h2 := classes_text b.cbs
  unfold blockI blockL
  simp only [itL_cons, itL_app]
  have e2 : ∀ Y, itL (b.cbs.flatMap classI) ++ (([10] : List UInt8) ++ Y) = (10 :: b.cbs.flatMap classL) ++ Y := fun Y => by rw [← h2]; simp
  have e : ∀ Y, itL (b.cls.flatMap (clauseI [10, 32, 32])) ++ ((10 :: b.cbs.flatMap classL) ++ Y) = (10 :: b.cls.flatMap fun c => [32, 32] ++ clauseL c) ++ (b.cbs.flatMap classL ++ Y) := fun Y => by
    rw [← h]; simp
  rw [e2, e]
  simp [itL]
/-- what a block's words have to be -/
def wordU (u : List UInt8) : Prop := tokU u ∧ kindL u = 1
def GoodT (c : Cl) : Prop := wordU c.word ∧ c.word ≠ sClass ∧ ∀ v ∈ c.vals, v = [44] ∨ (tokU v ∧ kindL v ≠ 0 ∧ kindL v ≠ 5)
def GoodX (b : Bk) : Prop := wordU b.name ∧ (∀ c ∈ b.cls, GoodT c) ∧ ∀ k ∈ b.cbs, wordU k.name ∧ ∀ c ∈ k.cls, GoodT c
theorem GoodT.c {c : Cl} (h : GoodT c) : GoodC c := ⟨h.2.1, fun v hv => (h.2.2 v hv).imp id fun h => h.2⟩
theorem GoodX.b {b : Bk} (h : GoodX b) : GoodB b := ⟨fun c hc => (h.2.1 c hc).c, fun k hk c hc => ((h.2.2 k hk).2 c hc).c⟩
theorem tok_sign : tokU [44] ∧ tokU [59] ∧ tokU [123] ∧ tokU [125] ∧ tokU sClass ∧ tokU sFund := by unfold tokU; decide +kernel
theorem kind_sign : kindL [44] = 5 ∧ kindL [59] = 5 ∧ kindL [123] = 5 ∧ kindL [125] = 5 ∧ kindL sClass = 1 ∧ kindL sFund = 1 := by decide +kernel
theorem spc_of {g : List UInt8} (h : g.all (fun c => c == 32 || c == 10) = true) : Gap g := gap_spc fun c hc => by
  have := List.all_eq_true.1 h c hc
  simpa using this
theorem clauseI_ok {ind : List UInt8} (hi : Gap ind) (hn : ind ≠ []) {c : Cl} (h : GoodT c) : ItOk (clauseI ind c) := by
  refine ItOk.cons ⟨hi, h.1.1, .inl hn⟩ (ItOk.app (fun p hp => ?_) (ItOk.cons ⟨gap_nil, tok_sign.2.1, .inr (.inr (.inl rfl))⟩ ItOk.nil))
  obtain ⟨v, hv, rfl⟩ := List.mem_map.1 hp
  unfold valI
  by_cases hc : v = [44]
  · rw [if_pos hc]; exact ⟨gap_nil, by rw [hc]; exact tok_sign.1, .inr (.inl hc)⟩
  · rw [if_neg hc]
    rcases h.2.2 v hv with h | h
    · exact absurd h hc
    · exact ⟨spc_of rfl, h.1, .inl (by simp)⟩
theorem clauseI_k {ind : List UInt8} {c : Cl} (h : GoodT c) : (clauseI ind c).map itK = clauseK c := by
  unfold clauseI clauseK
  simp only [List.map_cons, List.map_append, List.map_map, List.map_nil, itK, h.1.2, kind_sign.2.1]
  congr 2
  refine List.map_congr_left fun v hv => ?_
  show (kindL v, v) = (kindV v, v)
  unfold kindV
  by_cases hc : v = [44]
  · rw [if_pos hc, hc, kind_sign.1]
  · rw [if_neg hc]
theorem clsI_ok {ind : List UInt8} (hi : Gap ind) (hn : ind ≠ []) {cs : List Cl} (h : ∀ c ∈ cs, GoodT c) : ItOk (cs.flatMap (clauseI ind)) := ItOk.flat fun c hc => clauseI_ok hi hn (h c hc)
theorem clsI_k {ind : List UInt8} : ∀ {cs : List Cl}, (∀ c ∈ cs, GoodT c) → (cs.flatMap (clauseI ind)).map itK = clsK cs
  | [], _ => rfl
  | c :: cs, h => by
    rw [List.flatMap_cons, List.map_append, clauseI_k (h c (List.mem_cons_self ..)), clsI_k fun x hx => h x (List.mem_cons_of_mem _ hx)]
    rfl
theorem classI_ok {k : Cb} (h : wordU k.name ∧ ∀ c ∈ k.cls, GoodT c) : ItOk (classI k) :=
  ItOk.cons ⟨spc_of rfl, tok_sign.2.2.2.2.1, .inl (by simp)⟩ (ItOk.cons ⟨spc_of rfl, h.1.1, .inl (by simp)⟩ (ItOk.cons ⟨spc_of rfl, tok_sign.2.2.1, .inl (by simp)⟩
    (ItOk.app (clsI_ok (spc_of rfl) (by simp) h.2) (ItOk.cons ⟨spc_of rfl, tok_sign.2.2.2.1, .inl (by simp)⟩ ItOk.nil))))
theorem classI_k {k : Cb} (h : wordU k.name ∧ ∀ c ∈ k.cls, GoodT c) : (classI k).map itK = classK k := by
  unfold classI classK
  simp only [List.map_cons, List.map_append, clsI_k h.2, List.map_nil, itK, h.1.2, kind_sign.2.2.1, kind_sign.2.2.2.1, kind_sign.2.2.2.2.1]
theorem classesI_k : ∀ {ks : List Cb}, (∀ k ∈ ks, wordU k.name ∧ ∀ c ∈ k.cls, GoodT c) → (ks.flatMap classI).map itK = ks.flatMap classK
  | [], _ => rfl
  | k :: ks, h => by
    rw [List.flatMap_cons, List.map_append, classI_k (h k (List.mem_cons_self ..)), classesI_k fun x hx => h x (List.mem_cons_of_mem _ hx)]
    rfl
theorem blockI_ok {b : Bk} (h : GoodX b) : ItOk (blockI b) :=
  ItOk.cons ⟨spc_of rfl, h.1.1, .inl (by simp)⟩ (ItOk.cons ⟨spc_of rfl, tok_sign.2.2.1, .inl (by simp)⟩
    (ItOk.app (clsI_ok (spc_of rfl) (by simp) h.2.1) (ItOk.app (ItOk.flat fun k hk => classI_ok (h.2.2 k hk)) (ItOk.cons ⟨spc_of rfl, tok_sign.2.2.2.1, .inl (by simp)⟩ ItOk.nil))))
theorem blockI_k {b : Bk} (h : GoodX b) : (1, sFund) :: (blockI b).map itK = blockK b := by
  unfold blockI blockK
  simp only [List.map_cons, List.map_append, clsI_k h.2.1, classesI_k h.2.2, List.map_nil, itK, h.1.2, kind_sign.2.2.1, kind_sign.2.2.2.1]
theorem neutral_nl (r : List UInt8) : Neutral (10 :: r) := neutral_cons (by decide) (by decide) (by decide) (by decide)
theorem scan_blocks : ∀ (l : List Bk), (∀ b ∈ l, GoodX b) → ∀ (f ln col : Nat) (acc : List T), (blocksL l).length < f → ∃ ts, scanF f (blocksL l) ln col acc = ⟨acc ++ ts, 0, 0, 0⟩ ∧ ts.map kt = blocksK l
  | [], _, f, ln, col, acc, h => by
    obtain ⟨f, rfl⟩ : ∃ k, f = k + 1 := ⟨f - 1, by omega⟩
    exact ⟨[], by rw [List.append_nil]; rfl, rfl⟩
  | b :: l, hg, f, ln, col, acc, h => by
    have hb := hg b (List.mem_cons_self ..)
    have e : blocksL (b :: l) = sFund ++ (itL (blockI b) ++ (10 :: blocksL l)) := by
      show blockL b ++ blocksL l = _
      rw [block_text]; simp
    rw [e] at h ⊢
    obtain ⟨f1, a1, a2⟩ := scan_tok sFund tok_sign.2.2.2.2.2 ln col f acc _ (neutral_its (blockI_ok hb) (neutral_nl _)) h
    obtain ⟨l2, c2, ts, b3, b0⟩ := scan_its (blockI b) (blockI_ok hb) ln (col + sFund.length)
    obtain ⟨f2, b1, b2⟩ := b0 f1 (acc ++ [⟨kindL sFund, sFund, ln, col⟩]) (10 :: blocksL l) (neutral_nl _) a1
    obtain ⟨f2, rfl⟩ : ∃ k, f2 = k + 1 := ⟨f2 - 1, by omega⟩
    obtain ⟨ts2, d1, d2⟩ := scan_blocks l (fun x hx => hg x (List.mem_cons_of_mem _ hx)) f2 (l2 + 1) 1 (acc ++ [⟨kindL sFund, sFund, ln, col⟩] ++ ts) (by rw [List.length_cons] at b1; omega)
    refine ⟨⟨kindL sFund, sFund, ln, col⟩ :: (ts ++ ts2), ?_, ?_⟩
    · rw [a2, b2, scanF_nl, d1]; simp
    · rw [List.map_cons, List.map_append, b3, d2]
      show (kindL sFund, sFund) :: _ = blockK b ++ blocksK l
      rw [← blockI_k hb, kind_sign.2.2.2.2.2]
      simp
/-- parsing the text of blocks restores them -/
theorem text_back (l : List Bk) (hg : ∀ b ∈ l, GoodX b) (hn : (blocksL l).length ≤ 65536) : ∃ ts l', scanR (blocksL l) = ⟨ts, 0, 0, 0⟩ ∧ blocksP ts = .ok l' ∧ l'.map sB = l.map sB := by
  obtain ⟨ts, h1, h2⟩ := scan_blocks l hg ((blocksL l).length + 1) 1 1 [] (by omega)
  obtain ⟨l', h3, h4⟩ := blocks_back l ts (fun b hb => (hg b hb).b) h2
  refine ⟨ts, l', ?_, h3, h4⟩
  unfold scanR
  rw [if_neg (by omega), h1, List.nil_append]
end Syn
end Go.Proofs.Ytjnaeldaajckkaa
