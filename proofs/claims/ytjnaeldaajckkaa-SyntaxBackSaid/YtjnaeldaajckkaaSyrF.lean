/- The reference's Parse. -/
import Derived.Test.YtjnaeldaajckkaaSyrE
import Derived.Test.YtjnaeldaajckkaaTokG
import Derived.BigQuiet
set_option linter.unusedVariables false
set_option linter.unusedSimpArgs false
namespace Go.Proofs.Ytjnaeldaajckkaa
open Go.RowKit Tok Syn

/-- a round of x = append(x, call()) -/
theorem BldR.round0 {α : Type} {W0 W W2 : World} {R : World → (Nat → Prop) → α → List Value → Prop} {D D' : Nat → Prop} {B bp g cap : Nat} {T : TypeId} {size : Nat} {v : Value} {l : List α} {a : α} {xs c : List Value} {o : Obj}
    (hR : ∀ {w w' : World} {D D' : Nat → Prop}, KeepsD D w w' → (∀ k, D k → D' k) → ∀ a c, R w D a c → R w' D' a c)
    (h1 : CellsR (R W0 D) l xs) (h2 : W0.ownsRow B T size v l.length xs) (h3 : ∀ g, v.ownBlock = some g → ¬ D g)
    (hD : ∀ k, D k → k < W0.heap.size) (hg : W0.grownBy W (some bp)) (hbp : ¬ D bp) (hbB : bp < B)
    (hDD : ∀ k, D k → D' k) (hnew : ∀ k, D' k → D k ∨ (W0.heap.size ≤ k ∧ k < W.heap.size)) (ha : R W D' a c)
    (ho : W2.ownsRow B T size (.slice (some ⟨g, 0, none⟩) (l.length + 1) cap) (l.length + 1) (xs ++ c)) (hg2 : (W.alloc o).grownBy W2 v.ownBlock) (hv : v.ownBlock = some g ∨ g = W.heap.size + 1) :
    BldR W2 R D' B T size (.slice (some ⟨g, 0, none⟩) (l.length + 1) cap) (l ++ [a]) := by
  have hs := hg.size
  have hDW : ∀ k, D' k → k < W.heap.size := fun k hk => by
    rcases hnew k hk with q | q
    · have := hD k q; omega
    · exact q.2
  have hvn : ∀ k, v.ownBlock = some k → ¬ D' k := fun k hk hd => by
    rcases hnew k hd with q | q
    · exact h3 k hk q
    · have := (h2.lt k hk).2; omega
  have k1 : KeepsD D W0 W := .grown hg hD fun g e => by cases e; exact hbp
  have k2 : KeepsD D' W W2 := by
    intro k hk
    have q := hDW k hk
    rw [hg2.block k (by simp; omega) (fun e => hvn k e.symm hk)]
    exact (((Below.refl W.heap.size W).alloc (Nat.le_refl _) o).block k q)
  refine ⟨xs ++ c, CellsR.app (hR k2 (fun _ h => h) _ _ ha) (h1.mono fun a c h => hR k2 (fun _ h => h) _ _ (hR k1 hDD _ _ h)), ?_, ?_⟩
  · rw [List.length_append]
    exact ho
  · intro k hk hd
    simp only [Value.ownBlock, Option.some.injEq] at hk
    subst hk
    rcases hv with q | q
    · exact hvn g q hd
    · have := hDW g hd; omega
/-- the reference's blocks under construction -/
structure RaS (bp : Nat) (w : World) (tv : Value) (L : List T) (wr : World) (bad : Bool) (acc : List Bk) (rr : List T) (v : Value) (D : Nat → Prop) : Prop where
  pr : RP wr bp tv L rr bad
  z : StA wr w.heap.size [.int .i64 0, .int .i64 0]
  row : bad = false → BldR wr BkR D (bp + 1) 75 5 v acc
  form : ∃ A n cp, v = .slice A n cp
  gr : Below w.heap.size w wr
  vp : blocksP L = if bad then .error rr else preK acc (blocksP rr)
  len : bad = false → acc.length + rr.length ≤ 65536
  dd : bad = false → ∀ k, D k → bp < k ∧ k < wr.heap.size
  b1 : w.heap.size < bp
section
variable {bp : Nat} {w : World} {tv : Value} {L : List T} {wr w' W0 W W2 : World} {bad : Bool} {acc : List Bk} {rr rr2 : List T} {v : Value} {D E : Nat → Prop}
/-- a fund more -/
theorem RaS.app {xs : List Value} {c : Bk} {u1 u2 : Value} {g cap : Nat} {o : Obj}
    (h : RaS bp w tv L W0 false acc rr v D) (x1 : CellsR (BkR W0 D) acc xs) (x2 : W0.ownsRow (bp + 1) 75 5 v acc.length xs) (x3 : ∀ g, v.ownBlock = some g → ¬ D g)
    (hc1 : ClsD W E u1 c.cls) (hc2 : CbsD W E u2 c.cbs) (hE : ∀ k, E k → W0.heap.size ≤ k ∧ k < W.heap.size) (hp : RP W bp tv L rr2 false) (hg : W0.grownBy W (some bp))
    (hv : preK acc (blocksP rr) = preK (acc ++ [c]) (blocksP rr2)) (hl : rr2.length < rr.length)
    (h1 : W2.ownsRow (bp + 1) 75 5 (.slice (some ⟨g, 0, none⟩) (acc.length + 1) cap) (acc.length + 1) (xs ++ csV (.agg #[strV c.name, u1, u2, .int .i64 c.line, .int .i64 c.col])))
    (h2 : (W.alloc o).grownBy W2 v.ownBlock) (h3 : v.ownBlock = some g ∨ g = W.heap.size + 1) :
    RaS bp w tv L W2 false (acc ++ [c]) rr2 (.slice (some ⟨g, 0, none⟩) (acc.length + 1) cap) (DD D E) := by
  have hsz := hg.size
  have hlt := h.pr.lt
  have hb1 := h.b1
  have hdd := h.dd rfl
  have x2l : ∀ k, v.ownBlock = some k → bp < k := fun k hk => (x2.lt k hk).1
  have hB1 : Below (bp + 1) W W2 := ((Below.refl (bp + 1) W).alloc (by omega) o).grown h2 (by simp; omega) x2l
  have hgB : Below w.heap.size W0 W := ⟨hg.os, hg.tape, hg.output, hg.size, fun k hk => hg.block k (by have := h.gr.size; omega) (fun e => by injection e with e; omega)⟩
  have hd' : ∀ k, DD D E k → D k ∨ (W0.heap.size ≤ k ∧ k < W.heap.size) := fun k hk => hk.imp id fun e => hE k e
  have nbp : ¬ D bp := fun e => by have := (hdd bp e).1; omega
  have hrow := BldR.round0 (D' := DD D E) (a := c) BkR.up x1 x2 x3 (fun k hk => (hdd k hk).2) hg nbp (by omega) (fun k hk => .inl hk) hd' ⟨_, _, rfl, hc1.up (KeepsD.refl _ _) fun k hk => .inr hk, hc2.up (KeepsD.refl _ _) fun k hk => .inr hk⟩ h1 h2 h3
  exact
    { pr := hp.above hB1 (by omega)
      z := (h.z.grown hg (fun e => by injection e with e; omega)).above hB1 (by omega)
      row := fun _ => hrow
      form := ⟨_, _, _, rfl⟩
      gr := (h.gr.trans hgB).trans (hB1.mono (by omega))
      vp := by have := h.vp; rw [if_neg (by simp), hv] at this; rw [if_neg (by simp)]; exact this
      len := fun _ => by have := h.len rfl; simp; omega
      dd := fun _ k hk => by
        have := hB1.size
        rcases hd' k hk with q | q
        · have := hdd k q; omega
        · omega
      b1 := hb1 }
theorem RaS.app' {xs : List Value} {g n cap : Nat} {o : Obj} {s : List T}
    (h : RaS bp w tv L W0 false acc rr v D) (x2 : W0.ownsRow (bp + 1) 75 5 v acc.length xs) (hp : RP W bp tv L s true) (hg : W0.grownBy W (some bp)) (hs : blocksP rr = .error s) (h2 : (W.alloc o).grownBy W2 v.ownBlock) :
    RaS bp w tv L W2 true acc s (.slice (some ⟨g, 0, none⟩) n cap) D := by
  have hsz := hg.size
  have hlt := h.pr.lt
  have hb1 := h.b1
  have x2l : ∀ k, v.ownBlock = some k → bp < k := fun k hk => (x2.lt k hk).1
  have hB1 : Below (bp + 1) W W2 := ((Below.refl (bp + 1) W).alloc (by omega) o).grown h2 (by simp; omega) x2l
  have hgB : Below w.heap.size W0 W := ⟨hg.os, hg.tape, hg.output, hg.size, fun k hk => hg.block k (by have := h.gr.size; omega) (fun e => by injection e with e; omega)⟩
  exact
    { pr := hp.above hB1 (by omega)
      z := (h.z.grown hg (fun e => by injection e with e; omega)).above hB1 (by omega)
      row := fun e => by cases e
      form := ⟨_, _, _, rfl⟩
      gr := (h.gr.trans hgB).trans (hB1.mono (by omega))
      vp := by have := h.vp; rw [if_neg (by simp), hs] at this; rw [if_pos rfl]; exact this
      len := fun e => by cases e
      dd := fun e => by cases e
      b1 := hb1 }
end
theorem blocks_badn {r s : List T} (h : fundP r = .error s) (hr : r ≠ []) : blocksP r = .error s := blocks_bad hr h
set_option maxRecDepth 100000 in
set_option maxHeartbeats 4000000 in
theorem rparse_any (s : ByteArray) (w : World) (hs : s.size ≤ maxLen) :
    Calls Try.prog 34 #[.string s] w fun e w' => ∃ v D, e = .returned (.tuple #[v, .agg #[.int .i64 (parseR s.data.toList).pl, .int .i64 (parseR s.data.toList).pc], .int .i64 (parseR s.data.toList).err]) ∧
      BksD w' D v (parseR s.data.toList).l ∧ (∀ k, D k → w.heap.size ≤ k ∧ k < w'.heap.size) ∧ Below w.heap.size w w' := by
  have hB0 := (Below.refl w.heap.size w).alloc (Nat.le_refl _) (.cells #[.int .i64 0, .int .i64 0] 24)
  have HZ0 := Lib.hid (StA.new w [.int .i64 0, .int .i64 0] 24)
  have HB0 := Lib.hid hB0
  clear hB0
  have NILD : ∀ (W : World), BksD W (fun _ => False) (.slice none 0 0) [] := fun W => ⟨[], rfl, ⟨rfl, Nat.zero_le _, .inl ⟨rfl, rfl⟩⟩, fun g e => by cases e⟩
  have ND := Lib.hid NILD
  clear NILD
  go_enter Try.func34, Try.ntmps34
  go_wp2_with fail
  refine (rscan_any s _ hs).mono ?_
  rintro e w1 ⟨v, r, hr, rfl, hown, hb1⟩
  have hlen : r.toks.length ≤ 65536 := by rw [hr]; exact scanR_len _
  obtain ⟨A, cp, rfl⟩ := own_form hown
  have HR := Lib.hid hr
  clear hr
  have hal := (Below.refl _ w1).alloc (Nat.le_refl _) (.cells #[.int .i64 r.pl, .int .i64 r.pc] 24)
  have hs1 := hb1.size
  simp at hs1
  have hB1 := HB0.out.trans (hb1.mono HB0.out.size)
  have HZ1 := Lib.hid ((HZ0.out.below hb1).below hal)
  have HB1 := Lib.hid (hB1.trans (hal.mono hB1.size))
  have HO := Lib.hid (ownsRow_below hown hal)
  have HO1 := Lib.hid hown
  have hp6 := StA.new w1 [.int .i64 r.pl, .int .i64 r.pc] 24
  have d0 := hp6.c 0 _ rfl
  have d1 := hp6.c 1 _ rfl
  have z0 := HZ1.out.c 0 _ rfl
  have z1 := HZ1.out.c 1 _ rfl
  have fz0 := HZ1.out.f 0
  have fz1 := HZ1.out.f 1
  have nz : ¬ w1.heap.size = w.heap.size := by omega
  have nz2 : ¬ w.heap.size = w1.heap.size := by omega
  clear hown hb1 hal hp6 hB1 HZ0 HB0
  by_cases he : r.err = 0
  · go_wp2_with fail
    go_loopg [9] (r.toks.length + 2) (fun n v wr => ∃ bad acc rr D, rr.length + (bif bad then 0 else 1) < n ∧ RaS (w1.heap.size + 1) w (.slice A r.toks.length cp) r.toks wr bad acc rr v D)
    case atStart =>
      have hnew := StA.new (w1.alloc (.cells #[.int .i64 r.pl, .int .i64 r.pc] 24)) [.slice A r.toks.length cp, .int .i64 0, .bool false] 79
      rw [World.size_alloc] at hnew
      have ha2 := (Below.refl _ (w1.alloc (.cells #[.int .i64 r.pl, .int .i64 r.pc] 24))).alloc (Nat.le_refl _) (.cells #[.slice A r.toks.length cp, .int .i64 0, .bool false] 79)
      refine ⟨false, [], r.toks, fun _ => False, by simp, ?_⟩
      exact
        { pr :=
            { c0 := hnew.c 0 _ rfl
              c1 := by rw [Nat.sub_self]; exact hnew.c 1 _ rfl
              c2 := hnew.c 2 _ rfl
              f := hnew.f
              rd := Reads.of_own (ownsRow_below HO.out ha2)
              su := List.suffix_refl _
              len := hlen
              tb := fun g off n cap e => by have := (HO1.out.lt g (by rw [e]; rfl)).2; omega
              lt := hnew.lt }
          z := HZ1.out.below ha2
          row := fun _ => BldR.nil _ _ _ _ _ _
          form := ⟨_, _, _, rfl⟩
          gr := HB1.out.trans (ha2.mono (by simp; omega))
          vp := by rw [if_neg (by simp), preK_nil]
          len := fun _ => by simp; omega
          dd := fun _ k h => h.elim
          b1 := by omega }
    case round =>
      obtain ⟨bad, acc, rr, D, hn, HQ⟩ := hrel
      have HQ := Lib.hid HQ
      obtain ⟨A3, n3', cp3, rfl⟩ := HQ.out.form
      have q1 := HQ.out.pr.c1
      have q2 := HQ.out.pr.c2
      have hrl := HQ.out.pr.rl
      have hltp := HQ.out.pr.lt
      obtain ⟨at_, hat⟩ : ∃ a, a = r.toks.length - rr.length := ⟨_, rfl⟩
      rw [← hat] at q1
      have HAT := Lib.hid hat
      clear d0 d1 z0 z1 fz0 fz1 HO HO1 HZ1 HB1
      have z0 := HQ.out.z.c 0 _ rfl
      have z1 := HQ.out.z.c 1 _ rfl
      have fz0 := HQ.out.z.f 0
      have fz1 := HQ.out.z.f 1
      cases bad
      · have hn : rr.length + 1 < gk := hn
        have hlen2 := HQ.out.len rfl
        cases rr with
        | nil =>
          have hlt : ¬ at_ < r.toks.length := by simp at hat; omega
          clear hat
          go_wp2
          refine bodyPost_ret (v := .tuple #[.slice A3 n3' cp3, .agg #[.int .i64 0, .int .i64 0], .int .i64 0]) (by simp [results, Try.results34, go_sem, z0, z1]) rfl ?_
          have hvp := HQ.out.vp
          rw [if_neg (by simp), blocksP_nil] at hvp
          have hpar : parseR s.data.toList = ⟨acc, 0, 0, 0⟩ := by
            rw [HR.out] at he hvp
            exact parse_yes he (by rw [hvp]; simp [preK])
          rw [hpar]
          have hdd := HQ.out.dd rfl
          have hd0 : ∀ k, D k → k < wr.heap.size := fun k hk => (hdd k hk).2
          have hown : ∀ k, (Value.slice A3 n3' cp3).ownBlock = some k → w1.heap.size + 1 < k ∧ k < wr.heap.size := fun k hk => by
            obtain ⟨xs, _, x2, _⟩ := HQ.out.row rfl
            have := x2.lt _ hk; omega
          have hb0 := HQ.out.b1
          have k2 := (HQ.out.row rfl).setAt BkR.up ⟨w.heap.size, 0, none⟩ (.int .i64 0) hd0 (fun h => by have := (hdd _ h).1; simp only at this; omega) (fun h => by have := (hown _ h).1; simp only at this; omega)
          have k3 := k2.setAt BkR.up ⟨w.heap.size, 1, none⟩ (.int .i64 0) (fun k hk => by have := hd0 k hk; simpa [World.setCell] using this) (fun h => by have := (hdd _ h).1; simp only at this; omega) (fun h => by have := (hown _ h).1; simp only at this; omega)
          have hgr := HQ.out.gr
          have hgs := hgr.size
          refine ⟨_, fun k => D k ∨ (Value.slice A3 n3' cp3).ownBlock = some k, rfl, k3.fin (D' := fun k => D k ∨ (Value.slice A3 n3' cp3).ownBlock = some k) (fun h hd a c => BkR.up h hd a c) (fun _ => Iff.rfl), ?_, ?_⟩
          · rintro k (hk | hk)
            · have := hdd k hk; simp [World.setCell]; omega
            · have := hown k hk; simp [World.setCell]; omega
          · exact (hgr.setCell (p := ⟨w.heap.size, 0, none⟩) (Nat.le_refl _) _).setCell (p := ⟨w.heap.size, 1, none⟩) (Nat.le_refl _) _
        | cons t0 r0 =>
          have hne : (t0 :: r0) ≠ [] := by simp
          have hlt : at_ < r.toks.length := by rw [List.length_cons] at hat hrl; omega
          generalize t0 :: r0 = rr at *
          clear hat
          obtain ⟨xs, x1, x2, x3⟩ := HQ.out.row rfl
          have hnlen : n3' = acc.length := by
            obtain ⟨A9, c9, h9⟩ := own_form x2
            injection h9
          subst hnlen
          go_wp2_with fail
          refine (rfund_any HQ.out.pr).mono ?_
          rintro e w5 ⟨hg5, nm, A1, n1, cp1, A2, n2, cp2, ln, cl, rfl, he5, hy5⟩
          have hs5 := hg5.size
          have hoW : w5.ownsRow (w1.heap.size + 1 + 1) 75 5 (.slice A3 acc.length cp3) acc.length xs := x2.kept hg5 (by cases hv : (Value.slice A3 acc.length cp3).ownBlock with | none => exact .inl rfl | some g => exact .inr fun e => by injection e with e; have := (x2.lt g hv).1; omega)
          obtain ⟨i0, hi, hz0, hz1, hz2⟩ := info_parts Try.info75
          have HX1 := Lib.hid x1
          have HX2 := Lib.hid x2
          have HX3 := Lib.hid x3
          have HG5 := Lib.hid hg5
          have HE5 := Lib.hid he5
          have HY5 := Lib.hid hy5
          have HOW := Lib.hid hoW
          have HNE := Lib.hid hne
          clear x1 x2 x3 hg5 he5 hy5 hoW q1 q2 z0 z1 fz0 fz1 hne
          go_wp2_with (at_builtin; refine wpList_append_lies _ rfl _ _ 51 rfl (w1.heap.size + 1 + 1) 75 i0 _ 5 80 Try.underlying51 hi hz0 hz1 hz2 rfl (by decide) _ _ xs rfl (HOW.out.alloc _) ⟨w5.heap.size, 0, none⟩ 1 1 [.string ⟨nm.toArray⟩, .slice A1 n1 cp1, .slice A2 n2 cp2, .int .i64 ln, .int .i64 cl] rfl rfl ?_ ?_ ?_ ?_ ?_ ?_ (w5.heap.size + 1) ?_ ?_; exact cells_new _ _ _; (simp [Value.oneCell']); omega; exact small_maxLen (by omega); omega; (first | omega | (simp; omega)); (first | rfl | simp))
          intro g cap w6 h1 h2 h3 h4
          cases hc : fundP rr
          · rename_i s5
            have hcb := blocks_badn hc HNE.out
            have hrs : s5.length ≤ rr.length := by have h9 := fund_tl rr; rw [hc] at h9; exact List.IsSuffix.length_le h9
            have HN := Lib.hid (HQ.out.app' (g := g) (n := acc.length + 1) (cap := cap) HX2.out (HE5.out s5 hc) HG5.out hcb h2)
            clear h1 h2 h3 h4
            go_wp2
            go_roundg (gk - 1)
            case measure => omega
            case rel => exact ⟨true, acc, s5, _, by show s5.length + 0 < gk - 1; omega, HN.out⟩
          · rename_i q
            obtain ⟨c, rr2⟩ := q
            obtain ⟨hvm, hl⟩ := blocks_more (acc := acc) hc
            obtain ⟨hp, rfl, rfl, rfl, rfl, rfl, E, hc1, hc2, hE⟩ := HY5.out c rr2 hc
            have HN := Lib.hid (HQ.out.app HX1.out HX2.out HX3.out hc1 hc2 hE hp HG5.out hvm hl h1 h2 h3)
            clear h1 h2 h3 h4 hp hc1 hc2 hE
            go_wp2
            go_roundg (gk - 1)
            case measure => omega
            case rel => exact ⟨false, _, rr2, _, by show rr2.length + 1 < gk - 1; omega, HN.out⟩
      · have hvp := HQ.out.vp
        rw [if_pos rfl] at hvp
        have hpar : parseR s.data.toList = ⟨[], (hdT rr).line, (hdT rr).col, 110⟩ := by
          rw [HR.out] at he hvp
          exact parse_no he hvp
        have HPAR := Lib.hid hpar
        have hgr := HQ.out.gr
        have hgs := hgr.size
        clear hvp hpar
        cases rr with
        | nil =>
          have hlt : ¬ at_ < r.toks.length := by simp at hat; omega
          clear hat
          go_wp2
          refine bodyPost_ret (v := .tuple #[.slice none 0 0, .agg #[.int .i64 0, .int .i64 0], .int .i64 110]) (by simp [results, Try.results34, go_sem, z0, z1]) rfl ?_
          rw [HPAR.out]
          exact ⟨_, fun _ => False, rfl, ND.out _, fun k h => h.elim, (hgr.setCell (p := ⟨w.heap.size, 0, none⟩) (Nat.le_refl _) _).setCell (p := ⟨w.heap.size, 1, none⟩) (Nat.le_refl _) _⟩
        | cons t0 r0 =>
          have hlt : at_ < r.toks.length := by rw [List.length_cons] at hat hrl; omega
          have hgt := suff_get HQ.out.pr.su
          rw [← hat] at hgt
          simp only [List.head?_cons] at hgt
          obtain ⟨g, off, cap, hsl, hc⟩ := HQ.out.pr.rd.some (by omega)
          injection hsl with hA _ hcp
          subst hA
          subst hcp
          have q := cellsOf_get _ at_ t0 hgt
          have a2 := hc _ _ q.2.2.1
          have a3 := hc _ _ q.2.2.2
          rw [← Nat.add_assoc] at a2 a3
          have hgl : g < w1.heap.size + 1 := HQ.out.pr.tb g off _ _ rfl
          have hmx : r.toks.length ≤ 9223372036854775807 := by omega
          clear hat hgt hc q
          go_wp2_with fail
          go_region
          go_wp2_with fail
          refine bodyPost_ret (v := .tuple #[.slice none 0 0, .agg #[.int .i64 t0.line, .int .i64 t0.col], .int .i64 110]) (by simp [results, Try.results34, go_sem, z0, z1]) rfl ?_
          rw [HPAR.out]
          exact ⟨_, fun _ => False, rfl, ND.out _, fun k h => h.elim, ((hgr.setCell (p := ⟨w.heap.size, 0, none⟩) (Nat.le_refl _) _).setCell (p := ⟨w.heap.size, 1, none⟩) (Nat.le_refl _) _).drew⟩
  · have HE := Lib.hid he
    go_wp2_with fail
    go_region
    go_wp2_with fail
    refine bodyPost_ret (v := .tuple #[.slice none 0 0, .agg #[.int .i64 r.pl, .int .i64 r.pc], .int .i64 r.err]) (by simp [results, Try.results34, go_sem, z0, z1]) rfl ?_
    have hpar : parseR s.data.toList = ⟨[], r.pl, r.pc, r.err⟩ := by rw [HR.out] at HE ⊢; exact parse_bad HE.out
    rw [hpar]
    refine ⟨_, fun _ => False, rfl, ND.out _, fun k h => h.elim, ?_⟩
    exact ((HB1.out.setCell (p := ⟨w.heap.size, 0, none⟩) (Nat.le_refl _) _).setCell (p := ⟨w.heap.size, 1, none⟩) (Nat.le_refl _) _).drew
end Go.Proofs.Ytjnaeldaajckkaa
