/- Plain: words and gaps between them, and a wrong byte. -/
import Derived.Test.YtjnaeldaajckkaaTokU
set_option linter.unusedVariables false
set_option linter.unusedSimpArgs false
namespace Go.Proofs.Ytjnaeldaajckkaa
open Go.RowKit Tok

namespace Tok
def words : List ByteArray := [⟨#[102, 117, 110, 100]⟩, ⟨#[97]⟩, ⟨#[123]⟩, ⟨#[103, 97, 116, 101]⟩, ⟨#[53, 37]⟩, ⟨#[59]⟩, ⟨#[49, 55, 58, 48, 48]⟩, ⟨#[45, 51]⟩, ⟨#[125]⟩]
def gaps : List ByteArray := [⟨#[32]⟩, ⟨#[10]⟩, ⟨#[35, 32, 99, 32, 123, 10]⟩, ⟨#[32, 9]⟩, ⟨#[13, 10, 35, 10]⟩]
def GapOk (g : List UInt8) : Prop := g = [] ∨ ∃ x ∈ gaps, g = x.data.toList
def WordOk (u : List UInt8) : Prop := ∃ x ∈ words, u = x.data.toList
theorem words_facts : ∀ x ∈ words, lenL x.data.toList = x.data.toList.length ∧ x.data.toList.length ≤ 5 ∧ x.data.toList.length ≠ 0 ∧ (∀ c ∈ x.data.toList, c ≠ 10) := by decide
theorem gaps_facts : ∀ x ∈ gaps, x.data.toList.length ≤ 6 := by decide
theorem GapOk.len {g : List UInt8} (h : GapOk g) : g.length ≤ 6 := by
  rcases h with rfl | ⟨x, hx, rfl⟩
  · simp
  · exact gaps_facts x hx
theorem WordOk.len {g : List UInt8} (h : WordOk g) : g.length ≤ 5 := by
  obtain ⟨x, hx, rfl⟩ := h; exact (words_facts x hx).2.1
theorem scanF_nl (f : Nat) (r : List UInt8) (ln col : Nat) (acc : List T) : scanF (f + 1) (10 :: r) ln col acc = scanF f r (ln + 1) 1 acc := by
  rw [scanF, if_pos rfl]
theorem scanF_sp (f : Nat) (c : UInt8) (r : List UInt8) (ln col : Nat) (acc : List T) (h : c ≠ 10) (hs : isSp c = true) : scanF (f + 1) (c :: r) ln col acc = scanF f r ln (col + 1) acc := by
  rw [scanF, if_neg h, if_pos hs]
theorem scanF_cm (f : Nat) (r : List UInt8) (ln col : Nat) (acc : List T) : scanF (f + 1) (35 :: r) ln col acc = scanF f ((35 :: r).drop (cmt (35 :: r))) ln (col + cmt (35 :: r)) acc := by
  rw [scanF, if_neg (by decide), if_neg (by decide), if_pos rfl]
theorem gap_scan (g : List UInt8) (hg : GapOk g) (f : Nat) (ln col : Nat) (acc : List T) (r : List UInt8) (hf : (g ++ r).length < f) :
    ∃ f', r.length < f' ∧ scanF f (g ++ r) ln col acc = scanF f' r (posF ln col g).1 (posF ln col g).2 acc := by
  rcases hg with rfl | ⟨x, hx, rfl⟩
  · exact ⟨f, by simpa using hf, rfl⟩
  · simp only [gaps, List.mem_cons, List.not_mem_nil, or_false] at hx
    rcases hx with rfl | rfl | rfl | rfl | rfl
    · change (32 :: r).length < f at hf
      rw [List.length_cons] at hf
      obtain ⟨f', rfl⟩ : ∃ f', f = f' + 1 := ⟨f - 1, by omega⟩
      exact ⟨f', by omega, scanF_sp _ _ _ _ _ _ (by decide) (by decide)⟩
    · change (10 :: r).length < f at hf
      rw [List.length_cons] at hf
      obtain ⟨f', rfl⟩ : ∃ f', f = f' + 1 := ⟨f - 1, by omega⟩
      exact ⟨f', by omega, scanF_nl _ _ _ _ _⟩
    · change (35 :: 32 :: 99 :: 32 :: 123 :: 10 :: r).length < f at hf
      simp only [List.length_cons] at hf
      obtain ⟨f', rfl⟩ : ∃ f', f = f' + 1 + 1 := ⟨f - 2, by omega⟩
      refine ⟨f', by omega, ?_⟩
      change scanF (f' + 1 + 1) (35 :: 32 :: 99 :: 32 :: 123 :: 10 :: r) ln col acc = scanF f' r (ln + 1) 1 acc
      have hc : cmt (35 :: 32 :: 99 :: 32 :: 123 :: 10 :: r) = 5 := by simp [cmt_cons]
      rw [scanF_cm, hc]
      exact scanF_nl _ _ _ _ _
    · change (32 :: 9 :: r).length < f at hf
      simp only [List.length_cons] at hf
      obtain ⟨f', rfl⟩ : ∃ f', f = f' + 1 + 1 := ⟨f - 2, by omega⟩
      refine ⟨f', by omega, ?_⟩
      change scanF (f' + 1 + 1) (32 :: 9 :: r) ln col acc = scanF f' r ln (col + 1 + 1) acc
      rw [scanF_sp _ _ _ _ _ _ (by decide) (by decide), scanF_sp _ _ _ _ _ _ (by decide) (by decide)]
    · change (13 :: 10 :: 35 :: 10 :: r).length < f at hf
      simp only [List.length_cons] at hf
      obtain ⟨f', rfl⟩ : ∃ f', f = f' + 1 + 1 + 1 + 1 := ⟨f - 4, by omega⟩
      refine ⟨f', by omega, ?_⟩
      change scanF (f' + 1 + 1 + 1 + 1) (13 :: 10 :: 35 :: 10 :: r) ln col acc = scanF f' r (ln + 1 + 1) 1 acc
      have hc : cmt (35 :: 10 :: r) = 1 := by simp [cmt_cons]
      rw [scanF_sp _ _ _ _ _ _ (by decide) (by decide), scanF_nl, scanF_cm, hc]
      exact scanF_nl _ _ _ _ _
theorem posF_flat (l : List UInt8) (h : ∀ c ∈ l, c ≠ 10) : ∀ ln col, posF ln col l = (ln, col + l.length) := by
  induction l with
  | nil => intro ln col; rfl
  | cons c t ih =>
    intro ln col
    rw [posF, if_neg (h c (by simp)), ih fun d hd => h d (by simp [hd])]
    simp; omega
theorem word_scan (u : List UInt8) (hu : WordOk u) (f : Nat) (ln col : Nat) (acc : List T) (r : List UInt8) (hf : (u ++ 32 :: r).length < f) :
    ∃ f', r.length < f' ∧ scanF f (u ++ 32 :: r) ln col acc = scanF f' r (posF ln col (u ++ [32])).1 (posF ln col (u ++ [32])).2 (acc ++ [⟨kindL u, u, ln, col⟩]) := by
  obtain ⟨x, hx, rfl⟩ := hu
  obtain ⟨h1, h2, h3, h4⟩ := words_facts x hx
  generalize x.data.toList = u at *
  have hG := good_mk u ln col (by omega)
  rw [h1, List.take_length] at hG
  rw [List.length_append, List.length_cons] at hf
  obtain ⟨f', rfl⟩ : ∃ f', f = f' + 1 + 1 := ⟨f - 2, by omega⟩
  have hs := scanF_token (f' + 1) _ hG (32 :: r) (neutral_space r) ln col acc
  simp only at hs
  refine ⟨f', by omega, ?_⟩
  rw [hs, scanF_space, posF_app, posF_flat u h4]
  rfl
abbrev Pc := List UInt8 × List UInt8
def cL (ps : List Pc) : List UInt8 := ps.flatMap fun p => p.1 ++ (p.2 ++ [32])
def PcOk (ps : List Pc) : Prop := ∀ p ∈ ps, GapOk p.1 ∧ WordOk p.2
theorem cL_cons (p : Pc) (ps : List Pc) : cL (p :: ps) = p.1 ++ (p.2 ++ [32]) ++ cL ps := by simp [cL]
theorem cL_snoc (p : Pc) (ps : List Pc) : cL (ps ++ [p]) = cL ps ++ (p.1 ++ (p.2 ++ [32])) := by simp [cL]
theorem PcOk.snoc {ps : List Pc} (h : PcOk ps) {p : Pc} (h1 : GapOk p.1) (h2 : WordOk p.2) : PcOk (ps ++ [p]) := by
  intro q hq
  rcases List.mem_append.1 hq with hq | hq
  · exact h q hq
  · simp at hq; subst hq; exact ⟨h1, h2⟩
theorem cL_len (ps : List Pc) (h : PcOk ps) : (cL ps).length ≤ 12 * ps.length := by
  induction ps with
  | nil => simp [cL]
  | cons p ps ih =>
    have h1 := h p (by simp)
    have h2 := ih fun q hq => h q (by simp [hq])
    have h3 := h1.1.len
    have h4 := h1.2.len
    rw [cL_cons]
    simp only [List.length_append, List.length_cons, List.length_nil]
    omega
theorem scanF_cL : ∀ (ps : List Pc), PcOk ps → ∀ (f ln col : Nat) (acc : List T) (r : List UInt8), (cL ps ++ r).length < f →
    ∃ f' ts, r.length < f' ∧ scanF f (cL ps ++ r) ln col acc = scanF f' r (posF ln col (cL ps)).1 (posF ln col (cL ps)).2 (acc ++ ts) ∧ ts.map (fun t => (t.kind, t.text)) = ps.map (fun p => (kindL p.2, p.2))
  | [], _, f, ln, col, acc, r, hf => ⟨f, [], by simpa [cL] using hf, by simp [cL, posF], rfl⟩
  | p :: ps, h, f, ln, col, acc, r, hf => by
    have h1 := h p (by simp)
    have e : cL (p :: ps) ++ r = p.1 ++ (p.2 ++ 32 :: (cL ps ++ r)) := by rw [cL_cons]; simp
    rw [e] at hf ⊢
    obtain ⟨f1, hf1, e1⟩ := gap_scan p.1 h1.1 f ln col acc _ hf
    obtain ⟨f2, hf2, e2⟩ := word_scan p.2 h1.2 f1 (posF ln col p.1).1 (posF ln col p.1).2 acc _ hf1
    obtain ⟨f3, ts, hf3, e3, e4⟩ := scanF_cL ps (fun q hq => h q (by simp [hq])) f2 _ _ (acc ++ [⟨kindL p.2, p.2, (posF ln col p.1).1, (posF ln col p.1).2⟩]) r hf2
    refine ⟨f3, ⟨kindL p.2, p.2, (posF ln col p.1).1, (posF ln col p.1).2⟩ :: ts, hf3, ?_, by simp [e4]⟩
    rw [e1, e2, e3, cL_cons]
    simp only [posF_app]
    simp only [List.append_assoc, List.cons_append, List.nil_append]
theorem scanR_cL (ps : List Pc) (h : PcOk ps) (hn : (cL ps).length ≤ 65536) : ∃ ts, scanR (cL ps) = ⟨ts, 0, 0, 0⟩ ∧ ts.map (fun t => (t.kind, t.text)) = ps.map (fun p => (kindL p.2, p.2)) := by
  obtain ⟨f', ts, h1, h2, h3⟩ := scanF_cL ps h ((cL ps).length + 1) 1 1 [] [] (by simp)
  refine ⟨ts, ?_, h3⟩
  unfold scanR
  rw [if_neg (by omega)]
  rw [List.append_nil] at h2
  rw [h2]
  obtain ⟨f2, rfl⟩ : ∃ f2, f' = f2 + 1 := ⟨f' - 1, by simp at h1; omega⟩
  rw [scanF]; simp
theorem bang_no (r : List UInt8) : lenL (33 :: r) = 0 := by
  have w : wordL (33 :: r) = 0 := by show (if ltrI ((33 : UInt8).toNat) = true then 1 + (r.takeWhile wch).length else 0) = 0; exact if_neg (by decide)
  have rl : runL (33 :: r) = 0 := by rw [runL_cons, if_neg (by decide)]
  have ti : timeB (33 :: r) = false := by unfold timeB; rw [rl]; rfl
  have mi : isMin (33 :: r) = false := by
    cases hh : isMin (33 :: r)
    · rfl
    · exact absurd (isMin_head _ _ hh) (by decide)
  have nu : numberL (33 :: r) = 0 := by unfold numberL numN0; rw [mi]; simp [rl]
  have sg : ¬ 0 ≤ signI (((33 : UInt8) :: r).headD 0).toNat := by show ¬ 0 ≤ signI ((33 : UInt8).toNat); decide
  rw [lenL_eq, w, ti, nu, if_neg (by omega), if_neg (by simp), if_neg (by omega), if_neg sg]
theorem scanR_bang (ps : List Pc) (h : PcOk ps) (g : List UInt8) (hg : GapOk g) (q : List UInt8) (hn : (cL ps ++ (g ++ 33 :: q)).length ≤ 65536) :
    scanR (cL ps ++ (g ++ 33 :: q)) = ⟨[], (posF 1 1 (cL ps ++ g)).1, (posF 1 1 (cL ps ++ g)).2, 100⟩ := by
  obtain ⟨f', ts, h1, h2, h3⟩ := scanF_cL ps h ((cL ps ++ (g ++ 33 :: q)).length + 1) 1 1 [] (g ++ 33 :: q) (by omega)
  obtain ⟨f2, h4, h5⟩ := gap_scan g hg f' (posF 1 1 (cL ps)).1 (posF 1 1 (cL ps)).2 ([] ++ ts) (33 :: q) h1
  unfold scanR
  rw [if_neg (by omega), h2, h5, posF_app]
  obtain ⟨f3, rfl⟩ : ∃ f3, f2 = f3 + 1 := ⟨f2 - 1, by omega⟩
  rw [scanF, if_neg (by decide), if_neg (by decide), if_neg (by decide), if_pos (bang_no q)]
def bare (ps : List Pc) : List Pc := ps.map fun p => ([], p.2)
theorem bare_ok {ps : List Pc} (h : PcOk ps) : PcOk (bare ps) := by
  intro q hq
  obtain ⟨p, hp, rfl⟩ := List.mem_map.1 hq
  exact ⟨.inl rfl, (h p hp).2⟩
theorem bare_snoc (ps : List Pc) (p : Pc) : cL (bare (ps ++ [p])) = cL (bare ps) ++ (p.2 ++ [32]) := by simp [bare, cL]
theorem bare_len (ps : List Pc) : (bare ps).length = ps.length := by simp [bare]
/-- the three scans of the law -/
theorem mix_scan (ps : List Pc) (h : PcOk ps) (g : List UInt8) (hg : GapOk g) (hn : ps.length ≤ 1000) :
    (∃ t1 t2, scanR (cL (bare ps)) = ⟨t1, 0, 0, 0⟩ ∧ scanR (cL ps) = ⟨t2, 0, 0, 0⟩ ∧ SameKT t1 t2 ∧ t1.length = ps.length) ∧
    ∃ x y, scanR (cL ps ++ (g ++ 33 :: cL (bare ps))) = ⟨[], x, y, 100⟩ ∧ posOf (cL ps ++ (g ++ [33])) (cL ps ++ g).length = (x, y) := by
  have hb := bare_ok h
  have l1 := cL_len ps h
  have l2 := cL_len _ hb
  have l3 := hg.len
  rw [bare_len] at l2
  obtain ⟨t1, a1, a2⟩ := scanR_cL _ hb (by omega)
  obtain ⟨t2, b1, b2⟩ := scanR_cL _ h (by omega)
  refine ⟨⟨t1, t2, a1, b1, ?_, ?_⟩, _, _, scanR_bang ps h g hg _ (by simp only [List.length_append, List.length_cons]; omega), ?_⟩
  · unfold SameKT; rw [a2, b2]; simp [bare]
  · have := congrArg List.length a2
    simpa [bare] using this
  · unfold posOf
    rw [← List.append_assoc, List.take_left]
end Tok
end Go.Proofs.Ytjnaeldaajckkaa
