/- SyntaxAgain's texts: scanned, parsed, printed, parsed again: plain, no program in sight. -/
import Derived.Test.YtjnaeldaajckkaaSyG
set_option linter.unusedVariables false
set_option linter.unusedSimpArgs false
namespace Go.Proofs.Ytjnaeldaajckkaa
open Go.RowKit Tok

namespace Syn
theorem sign_one {c : UInt8} (hc : c = 44 ∨ c = 59 ∨ c = 123 ∨ c = 125) (r : List UInt8) : lenL (c :: r) = 1 ∧ kindL (c :: r) = 5 := by
  have w : wordL (c :: r) = 0 := by
    show (if ltrI (c.toNat) = true then 1 + (r.takeWhile wch).length else 0) = 0
    exact if_neg (by rcases hc with rfl | rfl | rfl | rfl <;> decide)
  have rl : runL (c :: r) = 0 := by rw [runL_cons, if_neg (by rcases hc with rfl | rfl | rfl | rfl <;> decide)]
  have ti : timeB (c :: r) = false := by unfold timeB; rw [rl]; rfl
  have mi : isMin (c :: r) = false := by
    cases hh : isMin (c :: r)
    · rfl
    · exact absurd (isMin_head _ _ hh) (by rcases hc with rfl | rfl | rfl | rfl <;> decide)
  have nu : numberL (c :: r) = 0 := by unfold numberL numN0; rw [mi]; simp [rl]
  have sg : 0 ≤ signI ((c :: r).headD 0).toNat := by show 0 ≤ signI (c.toNat); rcases hc with rfl | rfl | rfl | rfl <;> decide
  rw [lenL_eq, kindL_eq, w, ti, nu, if_neg (by omega), if_neg (by simp), if_neg (by omega), if_pos sg, if_neg (by omega), if_neg (by simp), if_neg (by omega), if_pos sg]
  exact ⟨rfl, rfl⟩
theorem scan_sign {c : UInt8} (hc : c = 44 ∨ c = 59 ∨ c = 123 ∨ c = 125) (ln col : Nat) (f : Nat) (acc : List T) (r : List UInt8) : scanF (f + 1) (c :: r) ln col acc = scanF f r ln (col + 1) (acc ++ [⟨kindL [c], [c], ln, col⟩]) := by
  have h1 := sign_one hc r
  have h2 := sign_one hc []
  have n1 : ¬ c = 10 := by rcases hc with rfl | rfl | rfl | rfl <;> decide
  have n2 : ¬ isSp c = true := by rcases hc with rfl | rfl | rfl | rfl <;> decide
  have n3 : ¬ c = 35 := by rcases hc with rfl | rfl | rfl | rfl <;> decide
  rw [scanF, if_neg n1, if_neg n2, if_neg n3, h1.1, if_neg (by decide), h1.2, h2.2]
  rfl
/-- pieces, each of which may stand ahead of the next -/
def startN (l : List It) : Prop := match l with
  | [] => True
  | q :: _ => q.1 ≠ [] ∨ attU q.2
def ItC : List It → Prop
  | [] => True
  | p :: l => Gap p.1 ∧ tokU p.2 ∧ (attU p.2 ∨ startN l) ∧ ItC l
theorem neutral_start {l : List It} (h : ItC l) (hs : startN l) {r : List UInt8} (hr : Neutral r) : Neutral (itL l ++ r) := by
  cases l with
  | nil => exact hr
  | cons p l =>
    have h1 := h.1
    rw [itL_cons, List.append_assoc, List.append_assoc]
    cases hg : p.1 with
    | nil =>
      rcases hs with h3 | h3
      · exact absurd hg h3
      · exact neutral_att (u := p.2) (r := itL l ++ r) h3
    | cons c g =>
      obtain ⟨k1, k2, k3, k4⟩ := h1.1 c g hg
      exact neutral_cons k1 k2 k3 k4
theorem scan_itc : ∀ (l : List It), ItC l → ∀ (f ln col : Nat) (acc : List T) (r : List UInt8), Neutral r → (itL l ++ r).length < f →
    ∃ (f' ln' col' : Nat) (ts : List T), ts.map kt = l.map itK ∧ r.length < f' ∧ scanF f (itL l ++ r) ln col acc = scanF f' r ln' col' (acc ++ ts)
  | [], _, f, ln, col, acc, r, _, h => ⟨f, ln, col, [], rfl, h, by rw [List.append_nil]; rfl⟩
  | p :: l, ho, f, ln, col, acc, r, hr, h => by
    obtain ⟨h1, h2, h3, hl⟩ := ho
    obtain ⟨l1, c1, a1⟩ := h1.2 ln col
    rw [itL_cons, List.append_assoc, List.append_assoc] at h ⊢
    obtain ⟨f1, e1, e2⟩ := a1 f acc _ h
    have htok : ∃ f2, (itL l ++ r).length < f2 ∧ scanF f1 (p.2 ++ (itL l ++ r)) l1 c1 acc = scanF f2 (itL l ++ r) l1 (c1 + p.2.length) (acc ++ [⟨kindL p.2, p.2, l1, c1⟩]) := by
      rcases h3 with h3 | h3
      · obtain ⟨c, hc, hp⟩ : ∃ c : UInt8, (c = 44 ∨ c = 59 ∨ c = 123 ∨ c = 125) ∧ p.2 = [c] := by
          rcases h3 with h | h | h | h
          · exact ⟨44, .inl rfl, h⟩
          · exact ⟨59, .inr (.inl rfl), h⟩
          · exact ⟨123, .inr (.inr (.inl rfl)), h⟩
          · exact ⟨125, .inr (.inr (.inr rfl)), h⟩
        rw [hp] at e1 ⊢
        obtain ⟨f1, rfl⟩ : ∃ k, f1 = k + 1 := ⟨f1 - 1, by omega⟩
        rw [List.length_append, List.length_cons] at e1
        exact ⟨f1, by omega, scan_sign hc l1 c1 f1 acc _⟩
      · exact scan_tok p.2 h2 l1 c1 f1 acc _ (neutral_start hl h3 hr) e1
    obtain ⟨f2, b1, b2⟩ := htok
    obtain ⟨f3, l3, c3, ts, d1, d2, d3⟩ := scan_itc l hl f2 l1 (c1 + p.2.length) (acc ++ [⟨kindL p.2, p.2, l1, c1⟩]) r hr b1
    refine ⟨f3, l3, c3, ⟨kindL p.2, p.2, l1, c1⟩ :: ts, by simp [d1, kt, itK], d2, ?_⟩
    rw [e2, b2, d3, List.append_assoc]
    rfl
/-- the same, told by a test; a comment and a space make a gap too -/
theorem gap_cmt : Gap [35, 32, 120, 10, 32] := by
  refine ⟨fun c t h => by injection h with h1 h2; subst h1; decide, fun ln col => ⟨ln + 1, 2, fun f acc r hf => ?_⟩⟩
  obtain ⟨f, rfl⟩ : ∃ k, f = k + 3 := ⟨f - 3, by rw [List.length_append] at hf; simp only [List.length_cons, List.length_nil] at hf; omega⟩
  rw [List.length_append] at hf
  simp only [List.length_cons, List.length_nil] at hf
  refine ⟨f, by omega, ?_⟩
  show scanF (f + 2 + 1) (35 :: 32 :: 120 :: 10 :: 32 :: r) ln col acc = _
  have hc : cmt (35 :: 32 :: 120 :: 10 :: 32 :: r) = 3 := by simp [cmt_cons]
  rw [scanF_cm, hc]
  show scanF (f + 1 + 1) (10 :: 32 :: r) ln (col + 3) acc = _
  rw [scanF_nl, scanF_sp _ _ _ _ _ _ (by decide) (by decide)]
def gapC (g : List UInt8) : Bool := gapB g || g == [35, 32, 120, 10, 32]
theorem gapC_ok {g : List UInt8} (h : gapC g = true) : Gap g := by
  unfold gapC at h
  simp only [Bool.or_eq_true, beq_iff_eq] at h
  rcases h with h | h
  · exact gapB_ok h
  · rw [h]; exact gap_cmt
def startB (l : List It) : Bool := match l with
  | [] => true
  | q :: _ => !q.1.isEmpty || attB q.2
def itcB : List It → Bool
  | [] => true
  | p :: l => gapC p.1 && tokB p.2 && (attB p.2 || startB l) && itcB l
theorem startB_ok {l : List It} (h : startB l = true) : startN l := by
  cases l with
  | nil => trivial
  | cons q l =>
    simp only [startB, Bool.or_eq_true, Bool.not_eq_true'] at h
    exact h.imp (fun h e => by rw [e] at h; exact absurd h (by decide)) attB_ok
theorem itcB_ok : ∀ {l : List It}, itcB l = true → ItC l
  | [], _ => trivial
  | p :: l, h => by
    simp only [itcB, Bool.and_eq_true, Bool.or_eq_true] at h
    exact ⟨gapC_ok h.1.1.1, tokB_ok h.1.1.2, h.1.2.imp attB_ok startB_ok, itcB_ok h.2⟩
/-- clauses and classes in any order -/
def mixK : Cl ⊕ Cb → List (Int × List UInt8)
  | .inl c => clauseK c
  | .inr k => classK k
def lefts : List (Cl ⊕ Cb) → List Cl
  | [] => []
  | .inl c :: l => c :: lefts l
  | .inr _ :: l => lefts l
def rights : List (Cl ⊕ Cb) → List Cb
  | [] => []
  | .inl _ :: l => rights l
  | .inr k :: l => k :: rights l
def GoodM : Cl ⊕ Cb → Prop
  | .inl c => GoodC c
  | .inr k => ∀ c ∈ k.cls, GoodC c
theorem mix_back : ∀ (xs : List (Cl ⊕ Cb)) (ts r : List T), (∀ x ∈ xs, GoodM x) → ts.map kt = xs.flatMap mixK ++ [(5, [125])] → ∃ cs ks, bodyP (ts ++ r) = .ok ((cs, ks), r) ∧ cs.map sC = (lefts xs).map sC ∧ ks.map sK = (rights xs).map sK
  | [], ts, r, _, h => by
    obtain ⟨t, q, rfl, h1, h2, h3⟩ := map_cons_of h
    obtain rfl : q = [] := by simpa using h3
    have hs : sgn t 125 = true := by unfold sgn; rw [h1, h2]; rfl
    exact ⟨[], [], by show bodyP (t :: r) = _; rw [bodyP_cons, if_pos hs], rfl, rfl⟩
  | .inl c :: xs, ts, r, hg, h => by
    have h : ts.map kt = clauseK c ++ (xs.flatMap mixK ++ [(5, [125])]) := by rw [h, List.flatMap_cons, List.append_assoc]; rfl
    obtain ⟨a, b, rfl, ha, hb⟩ := map_app_of h
    obtain ⟨cs', ks', i1, i2, i3⟩ := mix_back xs b r (fun x hx => hg x (List.mem_cons_of_mem _ hx)) hb
    have hc : GoodC c := hg (.inl c) (List.mem_cons_self ..)
    obtain ⟨t, q, rfl, k1, k2, k3⟩ := clause_back (r := b ++ r) hc ha
    have hs : ¬ sgn t 125 = true := by unfold sgn; rw [k1]; simp
    have hw : ¬ isW t sClass = true := by
      unfold isW
      rw [k2]
      simp [hc.1]
    refine ⟨⟨c.word, c.vals, t.line, t.col⟩ :: cs', ks', ?_, by simp [i2, sC, lefts], i3⟩
    rw [List.append_assoc]
    show bodyP (t :: (q ++ (b ++ r))) = _
    rw [List.cons_append] at k3
    rw [bodyP_cons, if_neg hs, if_neg hw, k3]
    simp only [i1]
  | .inr k :: xs, ts, r, hg, h => by
    have h : ts.map kt = classK k ++ (xs.flatMap mixK ++ [(5, [125])]) := by rw [h, List.flatMap_cons, List.append_assoc]; rfl
    obtain ⟨a, b, rfl, ha, hb⟩ := map_app_of h
    obtain ⟨cs', ks', i1, i2, i3⟩ := mix_back xs b r (fun x hx => hg x (List.mem_cons_of_mem _ hx)) hb
    obtain ⟨t, q, k', rfl, k1, k2, k3⟩ := class_back (r := b ++ r) (hg (.inr k) (List.mem_cons_self ..)) ha
    have hs : ¬ sgn t 125 = true := by
      unfold isW wrd at k1
      simp only [Bool.and_eq_true, beq_iff_eq] at k1
      unfold sgn; rw [k1.1]; simp
    refine ⟨cs', k' :: ks', ?_, i2, by simp [i3, k3, rights]⟩
    rw [List.append_assoc]
    show bodyP (t :: (q ++ (b ++ r))) = _
    rw [List.cons_append] at k2
    rw [bodyP_cons, if_neg hs, if_pos k1, k2]
    simp only [i1]
/-- SyntaxAgain's pieces: text, pieces, what they are -/
def aWords : List (List UInt8) := [[97], [98, 49], [102, 117, 110, 100], [103, 97, 116, 101], [120, 95, 121], [76, 111, 110, 103], [104, 117, 114, 100, 108, 101], [99, 117, 114, 114, 101, 110, 99, 121]]
abbrev Op3 := List UInt8 × List It × List (Cl ⊕ Cb)
def aA : List Op3 :=
  [([], [], []),
   ([97, 32, 49, 44, 50, 59], [([], [97]), ([32], [49]), ([], [44]), ([], [50]), ([], [59])], [.inl ⟨[97], [[49], [44], [50]], 0, 0⟩]),
   ([35, 32, 120, 10, 32, 98, 59], [([35, 32, 120, 10, 32], [98]), ([], [59])], [.inl ⟨[98], [], 0, 0⟩])]
def aB : List Op3 :=
  [([], [], []),
   ([99, 108, 97, 115, 115, 32, 99, 123, 122, 59, 125], [([], [99, 108, 97, 115, 115]), ([32], [99]), ([], [123]), ([], [122]), ([], [59]), ([], [125])], [.inr ⟨[99], [⟨[122], [], 0, 0⟩], 0, 0⟩]),
   ([99, 108, 97, 115, 115, 32, 100, 123, 125], [([], [99, 108, 97, 115, 115]), ([32], [100]), ([], [123]), ([], [125])], [.inr ⟨[100], [], 0, 0⟩])]
def aC : List Op3 :=
  [([], [], []),
   ([113, 32, 53, 37, 59], [([], [113]), ([32], [53, 37]), ([], [59])], [.inl ⟨[113], [[53, 37]], 0, 0⟩]),
   ([99, 108, 97, 115, 115, 32, 101, 123, 32, 125], [([], [99, 108, 97, 115, 115]), ([32], [101]), ([], [123]), ([32], [125])], [.inr ⟨[101], [], 0, 0⟩])]
/-- a fund's text, its pieces behind the first word, and what it is -/
def aText (w : List UInt8) (a b c : Op3) : List UInt8 := sFund ++ (32 :: w ++ ([123] ++ (a.1 ++ (b.1 ++ (c.1 ++ [125, 10])))))
def aIts (w : List UInt8) (a b c : Op3) : List It := ([32], w) :: ([], [123]) :: (a.2.1 ++ (b.2.1 ++ (c.2.1 ++ [([], [125])])))
def aMix (a b c : Op3) : List (Cl ⊕ Cb) := a.2.2 ++ (b.2.2 ++ c.2.2)
def aBk (w : List UInt8) (a b c : Op3) : Bk := ⟨w, lefts (aMix a b c), rights (aMix a b c), 0, 0⟩
def goodTB (c : Cl) : Bool := tokB c.word && kindL c.word == 1 && c.word != sClass && c.vals.all fun v => v == [44] || (tokB v && kindL v != 0 && kindL v != 5)
def goodXB (b : Bk) : Bool := tokB b.name && kindL b.name == 1 && b.cls.all goodTB && b.cbs.all fun k => tokB k.name && kindL k.name == 1 && k.cls.all goodTB
theorem goodTB_ok {c : Cl} (h : goodTB c = true) : GoodT c := by
  unfold goodTB at h
  simp only [Bool.and_eq_true, beq_iff_eq, bne_iff_ne, List.all_eq_true, Bool.or_eq_true] at h
  exact ⟨⟨tokB_ok h.1.1.1, h.1.1.2⟩, h.1.2, fun v hv => (h.2 v hv).imp id fun h => ⟨tokB_ok h.1.1, h.1.2, h.2⟩⟩
theorem goodXB_ok {b : Bk} (h : goodXB b = true) : GoodX b := by
  unfold goodXB at h
  simp only [Bool.and_eq_true, beq_iff_eq, List.all_eq_true] at h
  exact ⟨⟨tokB_ok h.1.1.1, h.1.1.2⟩, fun c hc => goodTB_ok (h.1.2 c hc), fun k hk => ⟨⟨tokB_ok (h.2 k hk).1.1, (h.2 k hk).1.2⟩, fun c hc => goodTB_ok ((h.2 k hk).2 c hc)⟩⟩
theorem again_all : aWords.all (fun w => aA.all fun a => aB.all fun b => aC.all fun c => itcB (aIts w a b c) && startB (aIts w a b c) && decide (aText w a b c = sFund ++ (itL (aIts w a b c) ++ [10])) &&
    decide ((aIts w a b c).map itK = (1, w) :: (5, [123]) :: ((aMix a b c).flatMap mixK ++ [(5, [125])])) && goodXB (aBk w a b c) && decide ((aText w a b c).length ≤ 200) && decide ((blockL (aBk w a b c)).length ≤ 300)) = true := by decide +kernel
theorem flat_congr {α β : Type} {f : α → List UInt8} {g : α → β} (hf : ∀ x y, g x = g y → f x = f y) : ∀ {l l' : List α}, l.map g = l'.map g → l.flatMap f = l'.flatMap f
  | [], [], _ => rfl
  | [], _ :: _, h => by cases h
  | _ :: _, [], h => by cases h
  | x :: l, y :: l', h => by
    simp only [List.map_cons, List.cons.injEq] at h
    rw [List.flatMap_cons, List.flatMap_cons, hf x y h.1, flat_congr hf h.2]
theorem clauseL_congr (c d : Cl) (h : sC c = sC d) : clauseL c = clauseL d := by
  simp only [sC, Prod.mk.injEq] at h
  unfold clauseL; rw [h.1, h.2]
theorem classL_congr (c d : Cb) (h : sK c = sK d) : classL c = classL d := by
  simp only [sK, Prod.mk.injEq] at h
  unfold classL
  rw [h.1, flat_congr (f := fun c => [32, 32, 32, 32] ++ clauseL c) (fun x y e => by rw [clauseL_congr x y e]) h.2]
theorem blockL_congr (c d : Bk) (h : sB c = sB d) : blockL c = blockL d := by
  simp only [sB, Prod.mk.injEq] at h
  unfold blockL
  rw [h.1, flat_congr (f := fun c => [32, 32] ++ clauseL c) (fun x y e => by rw [clauseL_congr x y e]) h.2.1, flat_congr classL_congr h.2.2]
theorem blocksL_congr {l l' : List Bk} (h : l.map sB = l'.map sB) : blocksL l = blocksL l' := flat_congr blockL_congr h
theorem mem_congr {α β : Type} {g : α → β} {P : α → Prop} (hP : ∀ x y, g x = g y → P y → P x) {l l' : List α} (h : l.map g = l'.map g) (hl : ∀ y ∈ l', P y) : ∀ x ∈ l, P x := by
  intro x hx
  have : g x ∈ l'.map g := by rw [← h]; exact List.mem_map_of_mem hx
  obtain ⟨y, hy, e⟩ := List.mem_map.1 this
  exact hP x y e.symm (hl y hy)
theorem goodT_congr (c d : Cl) (h : sC c = sC d) (k : GoodT d) : GoodT c := by
  simp only [sC, Prod.mk.injEq] at h
  unfold GoodT at k ⊢
  rw [h.1, h.2]; exact k
theorem goodX_congr (c d : Bk) (h : sB c = sB d) (k : GoodX d) : GoodX c := by
  simp only [sB, Prod.mk.injEq] at h
  refine ⟨by rw [h.1]; exact k.1, mem_congr goodT_congr h.2.1 k.2.1, mem_congr (g := sK) (P := fun k => wordU k.name ∧ ∀ c ∈ k.cls, GoodT c) (fun x y e hy => ?_) h.2.2 k.2.2⟩
  simp only [sK, Prod.mk.injEq] at e
  exact ⟨by rw [e.1]; exact hy.1, mem_congr goodT_congr e.2 hy.2⟩
structure AOpt where
  w : List UInt8
  a : Op3
  b : Op3
  c : Op3
def AOpt.ok (x : AOpt) : Prop := x.w ∈ aWords ∧ x.a ∈ aA ∧ x.b ∈ aB ∧ x.c ∈ aC
def AOpt.text (x : AOpt) : List UInt8 := aText x.w x.a x.b x.c
def AOpt.bk (x : AOpt) : Bk := aBk x.w x.a x.b x.c
def AOpt.k (x : AOpt) : List (Int × List UInt8) := (1, sFund) :: (1, x.w) :: (5, [123]) :: ((aMix x.a x.b x.c).flatMap mixK ++ [(5, [125])])
theorem AOpt.facts {x : AOpt} (h : x.ok) : ItC (aIts x.w x.a x.b x.c) ∧ startN (aIts x.w x.a x.b x.c) ∧ x.text = sFund ++ (itL (aIts x.w x.a x.b x.c) ++ [10]) ∧ (1, sFund) :: (aIts x.w x.a x.b x.c).map itK = x.k ∧ GoodX x.bk ∧ x.text.length ≤ 200 ∧ (blockL x.bk).length ≤ 300 := by
  have h1 := List.all_eq_true.1 (List.all_eq_true.1 (List.all_eq_true.1 (List.all_eq_true.1 again_all x.w h.1) x.a h.2.1) x.b h.2.2.1) x.c h.2.2.2
  simp only [Bool.and_eq_true, decide_eq_true_eq] at h1
  obtain ⟨⟨⟨⟨⟨⟨a1, a2⟩, a3⟩, a4⟩, a5⟩, a6⟩, a7⟩ := h1
  exact ⟨itcB_ok a1, startB_ok a2, a3, by rw [a4]; rfl, goodXB_ok a5, a6, a7⟩
theorem scan_opts : ∀ (l : List AOpt), (∀ x ∈ l, x.ok) → ∀ (f ln col : Nat) (acc : List T), (l.flatMap AOpt.text).length < f → ∃ ts, scanF f (l.flatMap AOpt.text) ln col acc = ⟨acc ++ ts, 0, 0, 0⟩ ∧ ts.map kt = l.flatMap AOpt.k
  | [], _, f, ln, col, acc, h => by
    obtain ⟨f, rfl⟩ : ∃ k, f = k + 1 := ⟨f - 1, by omega⟩
    exact ⟨[], by rw [List.append_nil]; rfl, rfl⟩
  | x :: l, hg, f, ln, col, acc, h => by
    obtain ⟨h1, h2, h3, h4, _, _, _⟩ := AOpt.facts (hg x (List.mem_cons_self ..))
    have e : (x :: l).flatMap AOpt.text = sFund ++ (itL (aIts x.w x.a x.b x.c) ++ (10 :: l.flatMap AOpt.text)) := by
      rw [List.flatMap_cons, h3]; simp
    rw [e] at h ⊢
    obtain ⟨f1, a1, a2⟩ := scan_tok sFund tok_sign.2.2.2.2.2 ln col f acc _ (neutral_start h1 h2 (neutral_nl _)) h
    obtain ⟨f2, l2, c2, ts, b3, b1, b2⟩ := scan_itc _ h1 f1 ln (col + sFund.length) (acc ++ [⟨kindL sFund, sFund, ln, col⟩]) (10 :: l.flatMap AOpt.text) (neutral_nl _) a1
    obtain ⟨f2, rfl⟩ : ∃ k, f2 = k + 1 := ⟨f2 - 1, by omega⟩
    obtain ⟨ts2, d1, d2⟩ := scan_opts l (fun y hy => hg y (List.mem_cons_of_mem _ hy)) f2 (l2 + 1) 1 (acc ++ [⟨kindL sFund, sFund, ln, col⟩] ++ ts) (by rw [List.length_cons] at b1; omega)
    refine ⟨⟨kindL sFund, sFund, ln, col⟩ :: (ts ++ ts2), ?_, ?_⟩
    · rw [a2, b2, scanF_nl, d1]; simp
    · rw [List.map_cons, List.map_append, b3, d2, List.flatMap_cons, ← h4]
      show (kindL sFund, sFund) :: _ = _
      rw [kind_sign.2.2.2.2.2]
      simp
theorem good_mix {x : AOpt} (h : GoodX x.bk) : ∀ y ∈ aMix x.a x.b x.c, GoodM y := by
  have hl : ∀ (xs : List (Cl ⊕ Cb)), (∀ c ∈ lefts xs, GoodT c) → (∀ k ∈ rights xs, wordU k.name ∧ ∀ c ∈ k.cls, GoodT c) → ∀ y ∈ xs, GoodM y := by
    intro xs
    induction xs with
    | nil => intro _ _ y hy; cases hy
    | cons z xs ih =>
      cases z with
      | inl c =>
        intro h1 h2 y hy
        rcases List.mem_cons.1 hy with rfl | hy
        · exact (h1 c (List.mem_cons_self ..)).c
        · exact ih (fun d hd => h1 d (List.mem_cons_of_mem _ hd)) h2 y hy
      | inr k =>
        intro h1 h2 y hy
        rcases List.mem_cons.1 hy with rfl | hy
        · exact fun c hc => ((h2 k (List.mem_cons_self ..)).2 c hc).c
        · exact ih h1 (fun d hd => h2 d (List.mem_cons_of_mem _ hd)) y hy
  exact hl _ h.2.1 h.2.2
theorem opts_back : ∀ (l : List AOpt) (ts : List T), (∀ x ∈ l, x.ok) → ts.map kt = l.flatMap AOpt.k → ∃ m, blocksP ts = .ok m ∧ m.map sB = (l.map AOpt.bk).map sB
  | [], ts, _, h => by
    obtain rfl : ts = [] := by simpa using h
    exact ⟨[], rfl, rfl⟩
  | x :: l, ts, hg, h => by
    have h : ts.map kt = x.k ++ l.flatMap AOpt.k := by rw [h]; simp
    obtain ⟨_, _, _, _, h5, _, _⟩ := AOpt.facts (hg x (List.mem_cons_self ..))
    obtain ⟨a, d, rfl, ha, hb⟩ := map_app_of h
    obtain ⟨m, i1, i2⟩ := opts_back l d (fun y hy => hg y (List.mem_cons_of_mem _ hy)) hb
    have ha : a.map kt = [(1, sFund), (1, x.w), (5, [123])] ++ ((aMix x.a x.b x.c).flatMap mixK ++ [(5, [125])]) := ha
    obtain ⟨a1, a2, rfl, ha1, ha2⟩ := map_app_of ha
    obtain ⟨t, q, rfl, k1, k2, k3⟩ := head_back (r := a2 ++ d) ha1
    obtain ⟨cs, ks, j1, j2, j3⟩ := mix_back _ a2 d (good_mix h5) ha2
    refine ⟨⟨x.w, cs, ks, t.line, t.col⟩ :: m, ?_, by simp [i2, sB, j2, j3, AOpt.bk, aBk]⟩
    have hw : isW t sFund = true := by unfold isW wrd; rw [k1, k2]; decide
    rw [List.cons_append, List.cons_append, blocksP_cons, fundP_cons, if_pos hw]
    rw [List.cons_append] at k3
    rw [List.append_assoc, k3]
    simp only [j1, i1]
/-- what SyntaxAgain states, of lists -/
theorem again_law {l : List AOpt} (hl : ∀ x ∈ l, x.ok) (hn : l.length ≤ 200) : ∃ ts m ts2 m2, scanR (l.flatMap AOpt.text) = ⟨ts, 0, 0, 0⟩ ∧ blocksP ts = .ok m ∧ (∀ b ∈ m, GoodX b) ∧ (blocksL m).length ≤ 60000 ∧
    scanR (blocksL m) = ⟨ts2, 0, 0, 0⟩ ∧ blocksP ts2 = .ok m2 ∧ m2.map sB = m.map sB ∧ (∀ b ∈ m2, GoodX b) ∧ blocksL m2 = blocksL m := by
  have hlen : (l.flatMap AOpt.text).length ≤ 200 * l.length ∧ (blocksL (l.map AOpt.bk)).length ≤ 300 * l.length := by
    clear hn
    induction l with
    | nil => exact ⟨by simp, by simp [blocksL]⟩
    | cons x l ih =>
      obtain ⟨_, _, _, _, _, h6, h7⟩ := AOpt.facts (hl x (List.mem_cons_self ..))
      have := ih fun y hy => hl y (List.mem_cons_of_mem _ hy)
      refine ⟨?_, ?_⟩
      · rw [List.flatMap_cons, List.length_append, List.length_cons]; omega
      · show (blockL x.bk ++ blocksL (l.map AOpt.bk)).length ≤ _
        rw [List.length_append, List.length_cons]; omega
  obtain ⟨ts, h1, h2⟩ := scan_opts l hl ((l.flatMap AOpt.text).length + 1) 1 1 [] (by omega)
  obtain ⟨m, h3, h4⟩ := opts_back l ts hl h2
  have hg : ∀ b ∈ m, GoodX b := mem_congr goodX_congr h4 (fun b hb => by
    obtain ⟨x, hx, rfl⟩ := List.mem_map.1 hb
    exact (AOpt.facts (hl x hx)).2.2.2.2.1)
  have hb := blocksL_congr h4
  obtain ⟨ts2, m2, h5, h6, h7⟩ := text_back m hg (by rw [hb]; omega)
  refine ⟨ts, m, ts2, m2, ?_, h3, hg, by rw [hb]; omega, h5, h6, h7, mem_congr goodX_congr h7 hg, blocksL_congr h7⟩
  unfold scanR
  rw [if_neg (by omega), h1, List.nil_append]
end Syn
end Go.Proofs.Ytjnaeldaajckkaa
