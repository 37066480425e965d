/- The program's Format, at blocks that have a text. -/
import Derived.Test.YtjnaeldaajckkaaSynK
import Derived.BigQuiet
set_option linter.unusedVariables false
set_option linter.unusedSimpArgs false
namespace Go.Proofs.Ytjnaeldaajckkaa
open Go.RowKit Tok Syn

/-- an item of a finished row -/
theorem rdD_get {α : Type} {w : World} {D : Nat → Prop} {R : α → List Value → Prop} {size : Nat} {v : Value} {l : List α} {xs : List Value} (hs : ∀ a c, R a c → c.length = size) (hc : CellsR R l xs) (h : RdD w D size v l.length xs) {k : Nat} {a : α} (hk : l[k]? = some a) :
    ∃ g off cap c, v = .slice (some ⟨g, off, none⟩) l.length cap ∧ R a c ∧ D g ∧ l.length ≤ 9223372036854775807 ∧ ∀ j u, c[j]? = some u → w.cell? ⟨g, off + k * size + j, none⟩ = some u := by
  obtain ⟨⟨h1, h2, h3⟩, h4⟩ := h
  obtain ⟨c, hR, hj⟩ := hc.get hs k a hk
  have hlt : k < l.length := by
    rcases Nat.lt_or_ge k l.length with h | h
    · exact h
    · rw [List.getElem?_eq_none h] at hk; cases hk
  rcases h3 with ⟨_, h0⟩ | ⟨g, off, cap, hv, hx⟩
  · omega
  · exact ⟨g, off, cap, c, hv, hR, h4 g (by rw [hv]; rfl), h2, fun j u hu => by rw [Nat.add_assoc]; exact hx _ u (hj j u hu)⟩
theorem strD_form {w : World} {D : Nat → Prop} {v : Value} {l : List (List UInt8)} (h : StrD w D v l) : ∃ A c, v = .slice A l.length c := by
  obtain ⟨⟨_, _, h | ⟨g, off, cap, h, _⟩⟩, _⟩ := h
  · exact ⟨none, 0, by rw [h.1, h.2]⟩
  · exact ⟨_, _, h⟩
theorem bksD_form {w : World} {D : Nat → Prop} {v : Value} {l : List Bk} (h : BksD w D v l) : (∃ A c, v = .slice A l.length c) ∧ l.length ≤ 9223372036854775807 := by
  obtain ⟨xs, _, ⟨_, h2, h | ⟨g, off, cap, h, _⟩⟩, _⟩ := h
  · exact ⟨⟨none, 0, by rw [h.1, h.2]⟩, h2⟩
  · exact ⟨⟨_, _, h⟩, h2⟩
theorem clsD_len {w : World} {D : Nat → Prop} {v : Value} {l : List Cl} (h : ClsD w D v l) : l.length ≤ 9223372036854775807 := by obtain ⟨xs, _, ⟨_, h2, _⟩, _⟩ := h; exact h2
theorem cbsD_len {w : World} {D : Nat → Prop} {v : Value} {l : List Cb} (h : CbsD w D v l) : l.length ≤ 9223372036854775807 := by obtain ⟨xs, _, ⟨_, h2, _⟩, _⟩ := h; exact h2
theorem cls_get {w : World} {D : Nat → Prop} {A : Option Addr} {n cp : Nat} {l : List Cl} (h : ClsD w D (.slice A n cp) l) {k : Nat} {c : Cl} (hk : l[k]? = some c) :
    ∃ g off A1 c1, A = some ⟨g, off, none⟩ ∧ w.cell? ⟨g, off + k * 4, none⟩ = some (strV c.word) ∧ w.cell? ⟨g, off + k * 4 + 1, none⟩ = some (.slice A1 c.vals.length c1) ∧ w.cell? ⟨g, off + k * 4 + 2, none⟩ = some (.int .i64 c.line) ∧ w.cell? ⟨g, off + k * 4 + 3, none⟩ = some (.int .i64 c.col) ∧ StrD w D (.slice A1 c.vals.length c1) c.vals := by
  obtain ⟨xs, h1, h2⟩ := h
  obtain ⟨g, off, cap, cc, hv, ⟨u, rfl, hu⟩, _, _, hj⟩ := rdD_get ClR.len h1 h2 hk
  injection hv with hA
  obtain ⟨A1, c1, rfl⟩ := strD_form hu
  exact ⟨g, off, A1, c1, hA, hj 0 _ rfl, hj 1 _ rfl, hj 2 _ rfl, hj 3 _ rfl, hu⟩
theorem cbs_get {w : World} {D : Nat → Prop} {A : Option Addr} {n cp : Nat} {l : List Cb} (h : CbsD w D (.slice A n cp) l) {k : Nat} {c : Cb} (hk : l[k]? = some c) :
    ∃ g off A1 c1, A = some ⟨g, off, none⟩ ∧ w.cell? ⟨g, off + k * 4, none⟩ = some (strV c.name) ∧ w.cell? ⟨g, off + k * 4 + 1, none⟩ = some (.slice A1 c.cls.length c1) ∧ w.cell? ⟨g, off + k * 4 + 2, none⟩ = some (.int .i64 c.line) ∧ w.cell? ⟨g, off + k * 4 + 3, none⟩ = some (.int .i64 c.col) ∧ ClsD w D (.slice A1 c.cls.length c1) c.cls := by
  obtain ⟨xs, h1, h2⟩ := h
  obtain ⟨g, off, cap, cc, hv, ⟨u, rfl, hu⟩, _, _, hj⟩ := rdD_get CbR.len h1 h2 hk
  injection hv with hA
  obtain ⟨A1, c1, rfl⟩ := clsD_form hu
  exact ⟨g, off, A1, c1, hA, hj 0 _ rfl, hj 1 _ rfl, hj 2 _ rfl, hj 3 _ rfl, hu⟩
theorem bks_get {w : World} {D : Nat → Prop} {A : Option Addr} {n cp : Nat} {l : List Bk} (h : BksD w D (.slice A n cp) l) {k : Nat} {b : Bk} (hk : l[k]? = some b) :
    ∃ g off A1 c1 A2 c2, A = some ⟨g, off, none⟩ ∧ w.cell? ⟨g, off + k * 5, none⟩ = some (strV b.name) ∧ w.cell? ⟨g, off + k * 5 + 1, none⟩ = some (.slice A1 b.cls.length c1) ∧ w.cell? ⟨g, off + k * 5 + 2, none⟩ = some (.slice A2 b.cbs.length c2) ∧ w.cell? ⟨g, off + k * 5 + 3, none⟩ = some (.int .i64 b.line) ∧ w.cell? ⟨g, off + k * 5 + 4, none⟩ = some (.int .i64 b.col) ∧
      ClsD w D (.slice A1 b.cls.length c1) b.cls ∧ CbsD w D (.slice A2 b.cbs.length c2) b.cbs := by
  obtain ⟨xs, h1, h2⟩ := h
  obtain ⟨g, off, cap, cc, hv, ⟨u1, u2, rfl, hu1, hu2⟩, _, _, hj⟩ := rdD_get BkR.len h1 h2 hk
  injection hv with hA
  obtain ⟨A1, c1, rfl⟩ := clsD_form hu1
  obtain ⟨A2, c2, rfl⟩ := cbsD_form hu2
  exact ⟨g, off, A1, c1, A2, c2, hA, hj 0 _ rfl, hj 1 _ rfl, hj 2 _ rfl, hj 3 _ rfl, hj 4 _ rfl, hu1, hu2⟩
theorem cbs_get2 {w w' : World} {D : Nat → Prop} {A : Option Addr} {n cp : Nat} {l : List Cb} (h : CbsD w D (.slice A n cp) l) (hk' : KeepsD D w w') {k : Nat} {c : Cb} (hk : l[k]? = some c) :
    ∃ g off A1 c1, A = some ⟨g, off, none⟩ ∧ w'.cell? ⟨g, off + k * 4, none⟩ = some (strV c.name) ∧ w'.cell? ⟨g, off + k * 4 + 1, none⟩ = some (.slice A1 c.cls.length c1) ∧ w'.cell? ⟨g, off + k * 4 + 2, none⟩ = some (.int .i64 c.line) ∧ w'.cell? ⟨g, off + k * 4 + 3, none⟩ = some (.int .i64 c.col) ∧ ClsD w D (.slice A1 c.cls.length c1) c.cls := by
  obtain ⟨xs, h1, h2⟩ := h
  obtain ⟨g, off, cap, cc, hv, ⟨u, rfl, hu⟩, hg, _, hj⟩ := rdD_get CbR.len h1 h2 hk
  injection hv with hA
  obtain ⟨A1, c1, rfl⟩ := clsD_form hu
  have hc : ∀ j, w'.cell? ⟨g, off + k * 4 + j, none⟩ = w.cell? ⟨g, off + k * 4 + j, none⟩ := fun j => World.cell?_of_block (a := ⟨g, off + k * 4 + j, none⟩) (hk' g hg)
  exact ⟨g, off, A1, c1, hA, (hc 0).trans (hj 0 _ rfl), (hc 1).trans (hj 1 _ rfl), (hc 2).trans (hj 2 _ rfl), (hc 3).trans (hj 3 _ rfl), hu⟩
theorem bks_get2 {w w' : World} {D : Nat → Prop} {A : Option Addr} {n cp : Nat} {l : List Bk} (h : BksD w D (.slice A n cp) l) (hk' : KeepsD D w w') {k : Nat} {b : Bk} (hk : l[k]? = some b) :
    ∃ g off A1 c1 A2 c2, A = some ⟨g, off, none⟩ ∧ w'.cell? ⟨g, off + k * 5, none⟩ = some (strV b.name) ∧ w'.cell? ⟨g, off + k * 5 + 1, none⟩ = some (.slice A1 b.cls.length c1) ∧ w'.cell? ⟨g, off + k * 5 + 2, none⟩ = some (.slice A2 b.cbs.length c2) ∧ w'.cell? ⟨g, off + k * 5 + 3, none⟩ = some (.int .i64 b.line) ∧ w'.cell? ⟨g, off + k * 5 + 4, none⟩ = some (.int .i64 b.col) ∧
      ClsD w D (.slice A1 b.cls.length c1) b.cls ∧ CbsD w D (.slice A2 b.cbs.length c2) b.cbs := by
  obtain ⟨xs, h1, h2⟩ := h
  obtain ⟨g, off, cap, cc, hv, ⟨u1, u2, rfl, hu1, hu2⟩, hg, _, hj⟩ := rdD_get BkR.len h1 h2 hk
  injection hv with hA
  obtain ⟨A1, c1, rfl⟩ := clsD_form hu1
  obtain ⟨A2, c2, rfl⟩ := cbsD_form hu2
  have hc : ∀ j, w'.cell? ⟨g, off + k * 5 + j, none⟩ = w.cell? ⟨g, off + k * 5 + j, none⟩ := fun j => World.cell?_of_block (a := ⟨g, off + k * 5 + j, none⟩) (hk' g hg)
  exact ⟨g, off, A1, c1, A2, c2, hA, (hc 0).trans (hj 0 _ rfl), (hc 1).trans (hj 1 _ rfl), (hc 2).trans (hj 2 _ rfl), (hc 3).trans (hj 3 _ rfl), (hc 4).trans (hj 4 _ rfl), hu1, hu2⟩
theorem takeF {α : Type} (f : α → List UInt8) (l : List α) (k : Nat) (v : α) (h : l[k]? = some v) : (l.take (k + 1)).flatMap f = (l.take k).flatMap f ++ f v := by
  rw [List.take_add_one, List.flatMap_append, h]; simp
theorem flatF {α : Type} (f : α → List UInt8) (l : List α) (k : Nat) : ((l.take k).flatMap f).length ≤ (l.flatMap f).length := by
  conv => rhs; rw [← List.take_append_drop k l]
  rw [List.flatMap_append, List.length_append]; omega
theorem Wr.below0 {bp : Nat} {a b : World} (h : Below b.heap.size a b) : True := trivial
set_option maxRecDepth 100000 in
set_option maxHeartbeats 4000000 in
theorem format_good {l : List Bk} {lv : Value} {D : Nat → Prop} {w : World} (hl : BksD w D lv l) (hD : ∀ k, D k → k < w.heap.size) (hg : ∀ b ∈ l, GoodX b) (hn : (blocksL l).length ≤ 65536) :
    Calls Try.prog 38 #[lv] w fun e w' => e = .returned (.tuple #[.string ⟨(blocksL l).toArray⟩, .int .i64 0]) ∧ Below w.heap.size w w' := by
  obtain ⟨⟨A, cp, rfl⟩, hmx⟩ := bksD_form hl
  have hk0 := BlkK.new w #[.pointer none, .slice none 0 0, .bool true] 91
  obtain ⟨w1, hw1⟩ : ∃ x, x = w.alloc (.cells #[.pointer none, .slice none 0 0, .bool true] 91) := ⟨_, rfl⟩
  have hB1 : Below w.heap.size w w1 := by rw [hw1]; exact (Below.refl _ _).alloc (Nat.le_refl _) _
  have hs1 : w1.heap.size = w.heap.size + 1 := by rw [hw1]; simp
  rw [← hw1] at hk0
  have HP1 : Hid (PrB w1 w.heap.size []) := Lib.hid ⟨_, _, .inl rfl, hk0, World.ownsRow_nil _ _ _ _, fun _ => rfl⟩
  have HL := Lib.hid (hl.up (KeepsD.below hB1 hD) (fun _ h => h))
  have HB1 := Lib.hid hB1
  have HG := Lib.hid hg
  have HN := Lib.hid hn
  clear hk0 hl hB1 hg hn
  have HS1 := Lib.hid hs1
  have HW1 := Lib.hid hw1
  clear hs1
  go_enter Try.func38, Try.ntmps38
  go_wp2_with fail
  rw [← hw1]
  clear hw1
  go_loopg [17] l.length (fun m i wr => ∃ k : Nat, k ≤ l.length ∧ l.length - k ≤ m ∧ i = .int .i64 (k : Int) ∧ PrB wr w.heap.size ((l.take k).flatMap blockL) ∧ Wr w.heap.size w1 wr)
  case atStart => exact ⟨0, by omega, by omega, rfl, by rw [List.take_zero]; exact HP1.out, Wr.refl _ _⟩
  case round =>
    obtain ⟨k, hk, hm, rfl, hp, hw⟩ := hrel
    obtain ⟨G1, hG1⟩ : ∃ G, G = gk := ⟨_, rfl⟩
    subst hG1
    obtain ⟨wo, hwo⟩ : ∃ x, x = wr := ⟨_, rfl⟩
    subst hwo
    have HP := Lib.hid hp
    have HW := Lib.hid hw
    have hbl := hp.lt
    clear hp hw
    by_cases hlt : k < l.length
    · obtain ⟨b, hb⟩ : ∃ b, l[k]? = some b := ⟨_, List.getElem?_eq_getElem hlt⟩
      obtain ⟨g, off, A1, p1, A2, p2, rfl, x0, x1, x2, x3, x4, hu1, hu2⟩ := bks_get2 HL.out (KeepsD.wr HW.out hD) hb
      have hgx := HG.out b (List.mem_of_getElem? hb)
      have hfl := flatF blockL l (k + 1)
      have htk := takeF blockL l k b hb
      rw [htk, List.length_append] at hfl
      have hnn := HN.out
      simp only [blocksL] at hnn
      have hlb : (blockL b).length = 4 + (1 + b.name.length + (3 + ((b.cls.flatMap (fun c : Cl => [32, 32] ++ clauseL c)).length + ((b.cbs.flatMap classL).length + 2)))) := by simp only [blockL, sFund, List.length_append, List.length_cons, List.length_nil]; omega
      obtain ⟨a1, ha1⟩ : ∃ x, x = (l.take k).flatMap blockL := ⟨_, rfl⟩
      have hp1 := HP.out
      rw [← ha1] at hp1 hfl
      have HTK := Lib.hid htk
      have HA1 := Lib.hid ha1
      have HGX := Lib.hid hgx
      have HU1 := Lib.hid hu1
      have HU2 := Lib.hid hu2
      have hal := (Below.refl _ wo).alloc (Nat.le_refl _) (.cells #[.string ⟨b.name.toArray⟩, .slice A1 b.cls.length p1, .slice A2 b.cbs.length p2, .int .i64 b.line, .int .i64 b.col] 75)
      have HK1 := Lib.hid (BlkK.new wo #[.string ⟨b.name.toArray⟩, .slice A1 b.cls.length p1, .slice A2 b.cbs.length p2, .int .i64 b.line, .int .i64 b.col] 75)
      have HP2 := Lib.hid (hp1.below hal)
      have HW2 := Lib.hid (HW.out.below (Nat.le_of_lt hbl) hal)
      have hnb : ¬ wo.heap.size = w.heap.size := by omega
      have hml1 := clsD_len hu1
      have hml2 := cbsD_len hu2
      simp only [strV] at x0
      have HB := Lib.hid hb
      clear hp1 htk ha1 hgx hu1 hu2 hal hb HP
      go_wp2_with fail
      obtain ⟨wa, hwa⟩ : ∃ x, x = wo.alloc (.cells #[.string ⟨b.name.toArray⟩, .slice A1 b.cls.length p1, .slice A2 b.cbs.length p2, .int .i64 b.line, .int .i64 b.col] 75) := ⟨_, rfl⟩
      rw [← hwa] at HK1 HP2 HW2 ⊢
      have hbe : wo.heap.size < wa.heap.size := by rw [hwa]; simp
      have HBE := Lib.hid hbe
      have HWA := Lib.hid hwa
      clear hwa hbe x0 x1 x2 x3 x4
      refine wp_region_cc (P := Try.prog) [(0, 21, .pointer (some ⟨w.heap.size, 0, none⟩)), (1, 22, .pointer (some ⟨w.heap.size, 0, none⟩)), (2, 23, .pointer (some ⟨w.heap.size, 0, none⟩)), (3, 24, .pointer (some ⟨w.heap.size, 0, none⟩)), (4, 25, .pointer (some ⟨wo.heap.size, 0, none⟩)), (5, 26, .string ⟨b.name.toArray⟩)] (fun _ => [(7, 28, .string ⟨([102, 117, 110, 100, 32] ++ b.name).toArray⟩), (8, 29, .string ⟨([102, 117, 110, 100, 32] ++ b.name ++ [32, 123, 10]).toArray⟩)]) [7, 8] 6 9 27 30 _ _ (fun W => W.cell? ⟨wo.heap.size, 0, none⟩ = some (.string ⟨b.name.toArray⟩)) (fun u W => u = .string ⟨b.name.toArray⟩ ∧ PrB W w.heap.size a1 ∧ Wr w.heap.size wa.drew W) (fun u x W => u = .string ⟨b.name.toArray⟩ ∧ PrB W w.heap.size (a1 ++ ([102, 117, 110, 100, 32] ++ b.name ++ [32, 123, 10])) ∧ Wr w.heap.size wa.drew W) (by kernel_rfl) (by kernel_rfl) (by rfl) (by rfl) ⟨rfl, rfl⟩ ⟨rfl, rfl⟩ (fun _ => rfl) (by intros; simp only [putsA, List.foldl_cons, List.foldl_nil, Act.put, List.setIfInBounds_toArray, List.set_cons_zero, List.set_cons_succ] <;> rfl) (by intros; simp only [putsA, List.foldl_cons, List.foldl_nil, Act.put, List.setIfInBounds_toArray, List.set_cons_zero, List.set_cons_succ] <;> rfl) ?_ ?_ ?_ ?_ ?_ ?_ ?_ ?_
      · exact HK1.out.cell 0
      · rintro u W ⟨rfl, _, hr⟩
        exact ((show BlkK wa.drew _ _ _ from HK1.out).wr hr hnb (by decide)).cell 0
      · rintro u x W ⟨rfl, _, hr⟩
        exact ((show BlkK wa.drew _ _ _ from HK1.out).wr hr hnb (by decide)).cell 0
      · skip
        refine ⟨⟨_, rfl, rfl, .inl ⟨by rfl, fun _ _ => by rfl⟩⟩, ?_⟩
        simp only [Act.put, List.setIfInBounds_toArray, List.set_cons_zero, List.set_cons_succ]
        refine ⟨⟨_, rfl, rfl, .inl ⟨by rfl, fun _ _ => by rfl⟩⟩, ?_⟩
        simp only [Act.put, List.setIfInBounds_toArray, List.set_cons_zero, List.set_cons_succ]
        refine ⟨⟨_, rfl, rfl, .inl ⟨by rfl, fun _ _ => by rfl⟩⟩, ?_⟩
        simp only [Act.put, List.setIfInBounds_toArray, List.set_cons_zero, List.set_cons_succ]
        refine ⟨⟨_, rfl, rfl, .inl ⟨by rfl, fun _ _ => by rfl⟩⟩, ?_⟩
        simp only [Act.put, List.setIfInBounds_toArray, List.set_cons_zero, List.set_cons_succ]
        refine ⟨⟨_, rfl, rfl, .inl ⟨by rfl, fun _ _ => by rfl⟩⟩, ?_⟩
        simp only [Act.put, List.setIfInBounds_toArray, List.set_cons_zero, List.set_cons_succ]
        refine ⟨⟨_, rfl, rfl, .inl ⟨by rfl, fun W hW => by simp [execOp, Act.eval, go_sem, hW]⟩⟩, ?_⟩
        simp only [Act.put, List.setIfInBounds_toArray, List.set_cons_zero, List.set_cons_succ]
        exact trivial
      · rintro u W ⟨rfl, _⟩
        have hba : 5 + b.name.length ≤ 9223372036854775807 := by omega
        have hbb : 5 + b.name.length + 3 ≤ 9223372036854775807 := by omega
        have hbc : b.name.length + 5 ≤ 9223372036854775807 := by omega
        have hbd : b.name.length + 5 + 3 ≤ 9223372036854775807 := by omega
        have hbe2 : b.name.length + 3 + 5 ≤ 9223372036854775807 := by omega
        refine ⟨⟨_, rfl, rfl, .inl ⟨by rfl, fun W hW => by simp [execOp, Act.eval, go_sem, str_app, hba, hbb, hbc, hbd, hbe2]⟩⟩, ?_⟩
        simp only [Act.put, List.setIfInBounds_toArray, List.set_cons_zero, List.set_cons_succ]
        refine ⟨⟨_, rfl, rfl, .inl ⟨by rfl, fun W hW => by simp [execOp, Act.eval, go_sem, str_app, hba, hbb, hbc, hbd, hbe2]⟩⟩, ?_⟩
        exact trivial
      · refine GY.call (by simp [execOp, Act.eval, go_sem]) ((pword_good (HP2.out.drew) HGX.out.1 (by omega)).mono ?_)
        rintro e W ⟨rfl, hp, hr⟩
        exact ⟨_, rfl, rfl, hp, hr⟩
      · rintro u W ⟨rfl, hp, hr⟩
        refine GY.call (by simp [execOp, Act.eval, go_sem]) ((write_pr ⟨(([102, 117, 110, 100, 32] ++ b.name ++ [32, 123, 10])).toArray⟩ hp (by rw [bsize]; simp only [List.length_append, List.length_cons, List.length_nil]; omega)).mono ?_)
        rintro e W2 ⟨rfl, hp2, hr2⟩
        exact ⟨_, rfl, rfl, hp2, hr.trans hr2⟩
      rintro u x W ⟨rfl, hp3, hr3⟩
      simp only [putsA, List.foldl_cons, List.foldl_nil, Act.put, List.setIfInBounds_toArray, List.set_cons_zero, List.set_cons_succ]
      obtain ⟨a2, ha2⟩ : ∃ x, x = a1 ++ ([102, 117, 110, 100, 32] ++ b.name ++ [32, 123, 10]) := ⟨_, rfl⟩
      rw [← ha2] at hp3
      have hk3 := (show BlkK wa.drew _ _ _ from HK1.out).wr hr3 hnb (by decide)
      have HP3 := Lib.hid hp3
      have HW3 := Lib.hid (HW2.out.trans ((Wr.refl _ wa).drew.trans hr3))
      have HK3 := Lib.hid hk3
      have d1 := hk3.cell 1
      simp only [List.getElem?_toArray, List.getElem?_cons_zero, List.getElem?_cons_succ] at d1
      have hla2 : a2.length = a1.length + (8 + b.name.length) := by rw [ha2]; simp only [List.length_append, List.length_cons, List.length_nil]; omega
      have HA2 := Lib.hid ha2
      clear hp3 hr3 hk3 ha2
      go_wp2_with fail
      go_loopg [34] b.cls.length (fun m i wr => ∃ j : Nat, j ≤ b.cls.length ∧ b.cls.length - j ≤ m ∧ i = .int .i64 (j : Int) ∧ PrB wr w.heap.size (a2 ++ (b.cls.take j).flatMap (fun c : Cl => [32, 32] ++ clauseL c)) ∧ Wr w.heap.size w1 wr ∧ BlkK wr wo.heap.size #[.string ⟨b.name.toArray⟩, .slice A1 b.cls.length p1, .slice A2 b.cbs.length p2, .int .i64 b.line, .int .i64 b.col] 75)
      case atStart => exact ⟨0, by omega, by omega, rfl, by rw [List.take_zero]; simpa using HP3.out, HW3.out, HK3.out⟩
      case round =>
        obtain ⟨j, hj, hm2, rfl, hp4, hw4, hk4⟩ := hrel
        have HP4 := Lib.hid hp4
        have HW4 := Lib.hid hw4
        have HK4 := Lib.hid hk4
        have hbl4 := hp4.lt
        clear hp4 hw4 hk4 d1
        by_cases hlt2 : j < b.cls.length
        · obtain ⟨x, hx⟩ : ∃ x, b.cls[j]? = some x := ⟨_, List.getElem?_eq_getElem hlt2⟩
          obtain ⟨g2, off2, B1, q1, rfl, z0, z1, z2, z3, hv⟩ := cls_get (HU1.out.up (KeepsD.wr HW4.out hD) (fun _ h => h)) hx
          have hgt := HGX.out.2.1 x (List.mem_of_getElem? hx)
          have hfl2 := flatF (fun c : Cl => [32, 32] ++ clauseL c) b.cls (j + 1)
          have htk2 := takeF (fun c : Cl => [32, 32] ++ clauseL c) b.cls j x hx
          rw [htk2] at hfl2
          simp only [List.length_append, List.length_cons, List.length_nil] at hfl2
          have hal := (Below.refl _ wr).alloc (Nat.le_refl _) (.cells #[.string ⟨x.word.toArray⟩, .slice B1 x.vals.length q1, .int .i64 x.line, .int .i64 x.col] 81)
          have HTK2 := Lib.hid htk2
          have HGT := Lib.hid hgt
          have HP41 := Lib.hid (HP4.out.below hal)
          have HW41 := Lib.hid (HW4.out.below (Nat.le_of_lt hbl4) hal)
          have HK41 := Lib.hid (HK4.out.below hal)
          have HV := Lib.hid (hv.up (KeepsD.below hal (fun k hk => by have := hD k hk; omega)) (fun _ h => h))
          simp only [strV] at z0
          clear htk2 hgt hal hv hx
          go_wp2_with fail
          refine (pclause_good (ind := [32, 32]) HP41.out HGT.out HV.out hD (by simp only [List.length_append, List.length_cons, List.length_nil]; omega)).mono ?_
          rintro e W5 ⟨rfl, hp5, hw5⟩
          have HP5 := Lib.hid hp5
          have HW5 := Lib.hid (HW41.out.trans hw5)
          have HK5 := Lib.hid (HK41.out.wr hw5 hnb (by decide))
          clear hp5 hw5 z0 z1 z2 z3
          go_wp2
          go_roundg (gk - 1)
          case rel => exact ⟨j + 1, by omega, by omega, by go_num, by rw [HTK2.out, ← List.append_assoc]; exact HP5.out, HW5.out, HK5.out⟩
          case measure => omega
        · have hje : j = b.cls.length := by omega
          have d2 := HK4.out.cell 2
          simp only [List.getElem?_toArray, List.getElem?_cons_zero, List.getElem?_cons_succ] at d2
          have hp5 := HP4.out
          rw [hje, List.take_length] at hp5
          obtain ⟨a3, ha3⟩ : ∃ x, x = a2 ++ b.cls.flatMap (fun c : Cl => [32, 32] ++ clauseL c) := ⟨_, rfl⟩
          rw [← ha3] at hp5
          have hla3 : a3.length = a2.length + (b.cls.flatMap (fun c : Cl => [32, 32] ++ clauseL c)).length := by rw [ha3, List.length_append]
          have HA3 := Lib.hid ha3
          have HP5 := Lib.hid hp5
          have HJE := Lib.hid hje
          clear hp5 ha3 hje HP4
          go_wp2_with fail
          go_loopg [45] b.cbs.length (fun m i wr => ∃ j : Nat, j ≤ b.cbs.length ∧ b.cbs.length - j ≤ m ∧ i = .int .i64 (j : Int) ∧ PrB wr w.heap.size (a3 ++ (b.cbs.take j).flatMap classL) ∧ Wr w.heap.size w1 wr)
          case atStart => exact ⟨0, by omega, by omega, rfl, by rw [List.take_zero]; simpa using HP5.out, HW4.out⟩
          case round =>
            obtain ⟨j3, hj3, hm3, rfl, hp6, hw6⟩ := hrel
            obtain ⟨G3, hG3⟩ : ∃ G, G = gk := ⟨_, rfl⟩
            subst hG3
            obtain ⟨w6, hw6e⟩ : ∃ x, x = wr := ⟨_, rfl⟩
            subst hw6e
            have HP6 := Lib.hid hp6
            have HW6 := Lib.hid hw6
            have hbl6 := hp6.lt
            clear hp6 hw6 d2
            by_cases hlt3 : j3 < b.cbs.length
            · obtain ⟨c, hc⟩ : ∃ c, b.cbs[j3]? = some c := ⟨_, List.getElem?_eq_getElem hlt3⟩
              obtain ⟨g3, off3, A3, p3, rfl, y0, y1, y2, y3, hu3⟩ := cbs_get2 HU2.out (KeepsD.wr HW6.out hD) hc
              have hgk := HGX.out.2.2 c (List.mem_of_getElem? hc)
              have hfl3 := flatF classL b.cbs (j3 + 1)
              have htk3 := takeF classL b.cbs j3 c hc
              rw [htk3, List.length_append] at hfl3
              have hlc : (classL c).length = 2 + (5 + (1 + c.name.length + (3 + ((c.cls.flatMap (fun c : Cl => [32, 32, 32, 32] ++ clauseL c)).length + 4)))) := by simp only [classL, sClass, List.length_append, List.length_cons, List.length_nil]; omega
              obtain ⟨a4, ha4⟩ : ∃ x, x = a3 ++ (b.cbs.take j3).flatMap classL := ⟨_, rfl⟩
              have hp7 := HP6.out
              rw [← ha4] at hp7
              have hla4 : a4.length = a3.length + ((b.cbs.take j3).flatMap classL).length := by rw [ha4, List.length_append]
              have HTK3 := Lib.hid htk3
              have HA4 := Lib.hid ha4
              have HGK := Lib.hid hgk
              have HU3 := Lib.hid hu3
              have hal := (Below.refl _ w6).alloc (Nat.le_refl _) (.cells #[.string ⟨c.name.toArray⟩, .slice A3 c.cls.length p3, .int .i64 c.line, .int .i64 c.col] 84)
              have HK7 := Lib.hid (BlkK.new w6 #[.string ⟨c.name.toArray⟩, .slice A3 c.cls.length p3, .int .i64 c.line, .int .i64 c.col] 84)
              have HP7 := Lib.hid (hp7.below hal)
              have HW7 := Lib.hid (HW6.out.below (Nat.le_of_lt hbl6) hal)
              have hnb6 : ¬ w6.heap.size = w.heap.size := by omega
              have hml3 := clsD_len hu3
              simp only [strV] at y0
              have HC := Lib.hid hc
              clear hp7 htk3 ha4 hgk hu3 hal hc HP6
              go_wp2_with fail
              obtain ⟨wb, hwb⟩ : ∃ x, x = w6.alloc (.cells #[.string ⟨c.name.toArray⟩, .slice A3 c.cls.length p3, .int .i64 c.line, .int .i64 c.col] 84) := ⟨_, rfl⟩
              rw [← hwb] at HK7 HP7 HW7 ⊢
              have HWB := Lib.hid hwb
              clear hwb y0 y1 y2 y3
              refine wp_region_cc (P := Try.prog) [(0, 49, .pointer (some ⟨w.heap.size, 0, none⟩)), (1, 50, .pointer (some ⟨w.heap.size, 0, none⟩)), (2, 51, .pointer (some ⟨w.heap.size, 0, none⟩)), (3, 52, .pointer (some ⟨w.heap.size, 0, none⟩)), (4, 53, .pointer (some ⟨w6.heap.size, 0, none⟩)), (5, 54, .string ⟨c.name.toArray⟩)] (fun _ => [(7, 56, .string ⟨([32, 32, 99, 108, 97, 115, 115, 32] ++ c.name).toArray⟩), (8, 57, .string ⟨([32, 32, 99, 108, 97, 115, 115, 32] ++ c.name ++ [32, 123, 10]).toArray⟩)]) [7, 8] 6 9 55 58 _ _ (fun W => W.cell? ⟨w6.heap.size, 0, none⟩ = some (.string ⟨c.name.toArray⟩)) (fun u W => u = .string ⟨c.name.toArray⟩ ∧ PrB W w.heap.size a4 ∧ Wr w.heap.size wb.drew W) (fun u x W => u = .string ⟨c.name.toArray⟩ ∧ PrB W w.heap.size (a4 ++ ([32, 32, 99, 108, 97, 115, 115, 32] ++ c.name ++ [32, 123, 10])) ∧ Wr w.heap.size wb.drew W) (by kernel_rfl) (by kernel_rfl) (by rfl) (by rfl) ⟨rfl, rfl⟩ ⟨rfl, rfl⟩ (fun _ => rfl) (by intros; simp only [putsA, List.foldl_cons, List.foldl_nil, Act.put, List.setIfInBounds_toArray, List.set_cons_zero, List.set_cons_succ] <;> rfl) (by intros; simp only [putsA, List.foldl_cons, List.foldl_nil, Act.put, List.setIfInBounds_toArray, List.set_cons_zero, List.set_cons_succ] <;> rfl) ?_ ?_ ?_ ?_ ?_ ?_ ?_ ?_
              · exact HK7.out.cell 0
              · rintro u W ⟨rfl, _, hr⟩
                exact ((show BlkK wb.drew _ _ _ from HK7.out).wr hr hnb6 (by decide)).cell 0
              · rintro u x W ⟨rfl, _, hr⟩
                exact ((show BlkK wb.drew _ _ _ from HK7.out).wr hr hnb6 (by decide)).cell 0
              · skip
                refine ⟨⟨_, rfl, rfl, .inl ⟨by rfl, fun _ _ => by rfl⟩⟩, ?_⟩
                simp only [Act.put, List.setIfInBounds_toArray, List.set_cons_zero, List.set_cons_succ]
                refine ⟨⟨_, rfl, rfl, .inl ⟨by rfl, fun _ _ => by rfl⟩⟩, ?_⟩
                simp only [Act.put, List.setIfInBounds_toArray, List.set_cons_zero, List.set_cons_succ]
                refine ⟨⟨_, rfl, rfl, .inl ⟨by rfl, fun _ _ => by rfl⟩⟩, ?_⟩
                simp only [Act.put, List.setIfInBounds_toArray, List.set_cons_zero, List.set_cons_succ]
                refine ⟨⟨_, rfl, rfl, .inl ⟨by rfl, fun _ _ => by rfl⟩⟩, ?_⟩
                simp only [Act.put, List.setIfInBounds_toArray, List.set_cons_zero, List.set_cons_succ]
                refine ⟨⟨_, rfl, rfl, .inl ⟨by rfl, fun _ _ => by rfl⟩⟩, ?_⟩
                simp only [Act.put, List.setIfInBounds_toArray, List.set_cons_zero, List.set_cons_succ]
                refine ⟨⟨_, rfl, rfl, .inl ⟨by rfl, fun W hW => by simp [execOp, Act.eval, go_sem, hW]⟩⟩, ?_⟩
                simp only [Act.put, List.setIfInBounds_toArray, List.set_cons_zero, List.set_cons_succ]
                exact trivial
              · rintro u W ⟨rfl, _⟩
                have hba : 8 + c.name.length ≤ 9223372036854775807 := by omega
                have hbb : 8 + c.name.length + 3 ≤ 9223372036854775807 := by omega
                have hbc : c.name.length + 8 ≤ 9223372036854775807 := by omega
                have hbd : c.name.length + 8 + 3 ≤ 9223372036854775807 := by omega
                have hbe2 : c.name.length + 3 + 8 ≤ 9223372036854775807 := by omega
                refine ⟨⟨_, rfl, rfl, .inl ⟨by rfl, fun W hW => by simp [execOp, Act.eval, go_sem, str_app, hba, hbb, hbc, hbd, hbe2]⟩⟩, ?_⟩
                simp only [Act.put, List.setIfInBounds_toArray, List.set_cons_zero, List.set_cons_succ]
                refine ⟨⟨_, rfl, rfl, .inl ⟨by rfl, fun W hW => by simp [execOp, Act.eval, go_sem, str_app, hba, hbb, hbc, hbd, hbe2]⟩⟩, ?_⟩
                exact trivial
              · refine GY.call (by simp [execOp, Act.eval, go_sem]) ((pword_good (HP7.out.drew) HGK.out.1 (by omega)).mono ?_)
                rintro e W ⟨rfl, hp, hr⟩
                exact ⟨_, rfl, rfl, hp, hr⟩
              · rintro u W ⟨rfl, hp, hr⟩
                refine GY.call (by simp [execOp, Act.eval, go_sem]) ((write_pr ⟨(([32, 32, 99, 108, 97, 115, 115, 32] ++ c.name ++ [32, 123, 10])).toArray⟩ hp (by rw [bsize]; simp only [List.length_append, List.length_cons, List.length_nil]; omega)).mono ?_)
                rintro e W2 ⟨rfl, hp2, hr2⟩
                exact ⟨_, rfl, rfl, hp2, hr.trans hr2⟩
              rintro u x W8 ⟨rfl, hp8, hr8⟩
              simp only [putsA, List.foldl_cons, List.foldl_nil, Act.put, List.setIfInBounds_toArray, List.set_cons_zero, List.set_cons_succ]
              obtain ⟨a5, ha5⟩ : ∃ x, x = a4 ++ ([32, 32, 99, 108, 97, 115, 115, 32] ++ c.name ++ [32, 123, 10]) := ⟨_, rfl⟩
              rw [← ha5] at hp8
              have hk8 := (show BlkK wb.drew _ _ _ from HK7.out).wr hr8 hnb6 (by decide)
              have HP8 := Lib.hid hp8
              have HW8 := Lib.hid (HW7.out.trans ((Wr.refl _ wb).drew.trans hr8))
              have d1 := hk8.cell 1
              simp only [List.getElem?_toArray, List.getElem?_cons_zero, List.getElem?_cons_succ] at d1
              have hla5 : a5.length = a4.length + (11 + c.name.length) := by rw [ha5]; simp only [List.length_append, List.length_cons, List.length_nil]; omega
              have HA5 := Lib.hid ha5
              clear hp8 hr8 hk8 ha5
              go_wp2_with fail
              go_loopg [62] c.cls.length (fun m i wr => ∃ j : Nat, j ≤ c.cls.length ∧ c.cls.length - j ≤ m ∧ i = .int .i64 (j : Int) ∧ PrB wr w.heap.size (a5 ++ (c.cls.take j).flatMap (fun c : Cl => [32, 32, 32, 32] ++ clauseL c)) ∧ Wr w.heap.size w1 wr)
              case atStart => exact ⟨0, by omega, by omega, rfl, by rw [List.take_zero]; simpa using HP8.out, HW8.out⟩
              case round =>
                obtain ⟨j, hj, hm2, rfl, hp4, hw4⟩ := hrel
                have HP4 := Lib.hid hp4
                have HW4 := Lib.hid hw4
                have hbl4 := hp4.lt
                clear hp4 hw4 d1
                by_cases hlt2 : j < c.cls.length
                · obtain ⟨x, hx⟩ : ∃ x, c.cls[j]? = some x := ⟨_, List.getElem?_eq_getElem hlt2⟩
                  obtain ⟨g2, off2, B1, q1, rfl, z0, z1, z2, z3, hv⟩ := cls_get (HU3.out.up (KeepsD.wr HW4.out hD) (fun _ h => h)) hx
                  have hgt := HGK.out.2 x (List.mem_of_getElem? hx)
                  have hfl2 := flatF (fun c : Cl => [32, 32, 32, 32] ++ clauseL c) c.cls (j + 1)
                  have htk2 := takeF (fun c : Cl => [32, 32, 32, 32] ++ clauseL c) c.cls j x hx
                  rw [htk2] at hfl2
                  simp only [List.length_append, List.length_cons, List.length_nil] at hfl2
                  have hal := (Below.refl _ wr).alloc (Nat.le_refl _) (.cells #[.string ⟨x.word.toArray⟩, .slice B1 x.vals.length q1, .int .i64 x.line, .int .i64 x.col] 81)
                  have HTK2 := Lib.hid htk2
                  have HGT := Lib.hid hgt
                  have HP41 := Lib.hid (HP4.out.below hal)
                  have HW41 := Lib.hid (HW4.out.below (Nat.le_of_lt hbl4) hal)
                  have HV := Lib.hid (hv.up (KeepsD.below hal (fun k hk => by have := hD k hk; omega)) (fun _ h => h))
                  simp only [strV] at z0
                  clear htk2 hgt hal hv hx
                  go_wp2_with fail
                  refine (pclause_good (ind := [32, 32, 32, 32]) HP41.out HGT.out HV.out hD (by simp only [List.length_append, List.length_cons, List.length_nil]; omega)).mono ?_
                  rintro e W5 ⟨rfl, hp5, hw5⟩
                  have HP5 := Lib.hid hp5
                  have HW5 := Lib.hid (HW41.out.trans hw5)
                  clear hp5 hw5 z0 z1 z2 z3
                  go_wp2
                  go_roundg (gk - 1)
                  case rel => exact ⟨j + 1, by omega, by omega, by go_num, by rw [HTK2.out, ← List.append_assoc]; exact HP5.out, HW5.out⟩
                  case measure => omega
                · have hje : j = c.cls.length := by omega
                  have hp5 := HP4.out
                  rw [hje, List.take_length] at hp5
                  have HP9 := Lib.hid hp5
                  have HJE4 := Lib.hid hje
                  clear hp5 hje HP4
                  go_wp2_with fail
                  refine (write_pr ⟨#[32, 32, 125, 10]⟩ HP9.out (by have e2 : (⟨#[32, 32, 125, 10]⟩ : ByteArray).size = 4 := rfl; rw [e2, List.length_append]; omega)).mono ?_
                  rintro e W9 ⟨rfl, hp9, hw9⟩
                  have HP10 := Lib.hid hp9
                  have HW10 := Lib.hid (HW4.out.trans hw9)
                  clear hp9 hw9
                  go_wp2
                  go_roundg (G3 - 1)
                  case rel =>
                    refine ⟨j3 + 1, by omega, by omega, by go_num, ?_, HW10.out⟩
                    rw [HTK3.out, ← List.append_assoc, ← HA4.out]
                    have h1 := HP10.out
                    rw [HA5.out] at h1
                    simpa [classL, sClass] using h1
                  case measure => omega
            · have hje3 : j3 = b.cbs.length := by omega
              have hp7 := HP6.out
              rw [hje3, List.take_length] at hp7
              have HP7 := Lib.hid hp7
              have HJE3 := Lib.hid hje3
              clear hp7 hje3 HP6
              go_wp2_with fail
              refine (write_pr ⟨#[125, 10]⟩ HP7.out (by have e2 : (⟨#[125, 10]⟩ : ByteArray).size = 2 := rfl; rw [e2, List.length_append]; omega)).mono ?_
              rintro e W9 ⟨rfl, hp9, hw9⟩
              have HP10 := Lib.hid hp9
              have HW10 := Lib.hid (HW6.out.trans hw9)
              clear hp9 hw9
              go_wp2
              go_roundg (G1 - 1)
              case rel =>
                refine ⟨k + 1, by omega, by omega, by go_num, ?_, HW10.out⟩
                rw [HTK.out, ← HA1.out]
                have h1 := HP10.out
                rw [HA3.out, HA2.out] at h1
                simpa [blockL, sFund] using h1
              case measure => omega
    · have hke : k = l.length := by omega
      have hp1 := HP.out
      rw [hke, List.take_length] at hp1
      have HKE := Lib.hid hke
      obtain ⟨X, hX⟩ : ∃ x, x = l.flatMap blockL := ⟨_, rfl⟩
      rw [← hX] at hp1
      have hnx := HN.out
      simp only [blocksL] at hnx
      rw [← hX] at hnx
      have HX : Hid (X = blocksL l) := Lib.hid hX
      have HP2 := Lib.hid hp1
      have hle : ¬ (65536 : Int) < (X.length : Int) := by omega
      clear hX hnx
      obtain ⟨c2, f2⟩ := hp1.ok
      clear hp1 hke
      go_wp2_with fail
      refine (len_pr HP2.out).mono ?_
      rintro e W2 ⟨rfl, rfl⟩
      go_wp2_with fail
      refine (string_pr HP2.out).mono ?_
      rintro e W3 ⟨rfl, hb3⟩
      go_wp2
      rw [HX.out]
      go_ret2
      exact ⟨rfl, HB1.out.trans (HW.out.1.trans hb3)⟩
end Go.Proofs.Ytjnaeldaajckkaa
