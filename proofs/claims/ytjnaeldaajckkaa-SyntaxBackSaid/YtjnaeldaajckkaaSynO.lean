/- The law's SameTexts, sameClauses, same: at lists that are equal. -/
import Derived.Test.YtjnaeldaajckkaaSynL
import Derived.BigQuiet
set_option linter.unusedVariables false
set_option linter.unusedSimpArgs false
namespace Go.Proofs.Ytjnaeldaajckkaa
open Go.RowKit Tok Syn

theorem cell_lt {w : World} {g o : Nat} {v : Value} (h : w.cell? ⟨g, o, none⟩ = some v) : g < w.heap.size := by
  rcases Nat.lt_or_ge g w.heap.size with h2 | h2
  · exact h2
  · simp [World.cell?, Array.getElem?_eq_none h2] at h
theorem str_get {w : World} {D : Nat → Prop} {A : Option Addr} {n cp : Nat} {l : List (List UInt8)} (h : StrD w D (.slice A n cp) l) {k : Nat} {x : List UInt8} (hk : l[k]? = some x) :
    ∃ g off, A = some ⟨g, off, none⟩ ∧ w.cell? ⟨g, off + k, none⟩ = some (.string ⟨x.toArray⟩) := by
  obtain ⟨⟨h1, h2, h3⟩, h4⟩ := h
  have hlt : k < l.length := by
    rcases Nat.lt_or_ge k l.length with h | h
    · exact h
    · rw [List.getElem?_eq_none h] at hk; cases hk
  rcases h3 with ⟨_, h0⟩ | ⟨g, off, cap, hv, hx⟩
  · omega
  · injection hv with hA
    exact ⟨g, off, hA, hx k _ (by rw [List.getElem?_map, hk]; rfl)⟩
set_option maxRecDepth 100000 in
set_option maxHeartbeats 4000000 in
theorem stexts_any {va vb : Value} {l : List (List UInt8)} {Da Db : Nat → Prop} {w : World} (ha : StrD w Da va l) (hb : StrD w Db vb l) :
    Calls Try.prog 82 #[va, vb] w fun e w' => e = .returned (.bool true) ∧ ∃ m, w' = w.drewN m := by
  have hn : l.length ≤ 9223372036854775807 := ha.1.2.1
  obtain ⟨A, ca, rfl⟩ := strD_form ha
  obtain ⟨B, cb, rfl⟩ := strD_form hb
  have HA := Lib.hid ha
  have HB := Lib.hid hb
  clear ha hb
  go_enter Try.func82, Try.ntmps82
  go_wp2
  go_loopg [5] l.length (fun m i wr => ∃ k d : Nat, k ≤ l.length ∧ l.length - k ≤ m ∧ i = .int .i64 (k : Int) ∧ wr = w.drewN d)
  case atStart => exact ⟨0, 0, by omega, by omega, rfl, rfl⟩
  case round =>
    obtain ⟨k, d, hk, hm, rfl, rfl⟩ := hrel
    by_cases hlt : k < l.length
    · obtain ⟨x, hx⟩ : ∃ x, l[k]? = some x := ⟨_, List.getElem?_eq_getElem hlt⟩
      obtain ⟨g1, o1, rfl, c1⟩ := str_get HA.out hx
      obtain ⟨g2, o2, rfl, c2⟩ := str_get HB.out hx
      clear hx
      go_wp2
      go_quiet (fail)
      go_wp2
      go_roundg (gk - 1)
      case measure => omega
      case rel => exact ⟨k + 1, d + nq, by omega, by omega, by go_num, rfl⟩
    · go_wp2
      go_ret
      exact ⟨rfl, d, rfl⟩
namespace Syn
def EqC (ex : Bool) (c d : Cl) : Prop := c.word = d.word ∧ c.vals = d.vals ∧ (ex = true → c.line = d.line ∧ c.col = d.col)
def EqCs (ex : Bool) (a b : List Cl) : Prop := a.length = b.length ∧ ∀ (k : Nat) (c d : Cl), a[k]? = some c → b[k]? = some d → EqC ex c d
end Syn
set_option maxRecDepth 100000 in
set_option maxHeartbeats 4000000 in
theorem scls_any {va vb : Value} {a b : List Cl} {Da Db : Nat → Prop} {w : World} (ex : Bool) (ha : ClsD w Da va a) (hb : ClsD w Db vb b) (he : EqCs ex a b) :
    Calls Try.prog 53 #[va, vb, .bool ex] w fun e w' => e = .returned (.bool true) ∧ ∃ m, w' = w.drewN m := by
  have hn := clsD_len ha
  obtain ⟨A, ca, rfl⟩ := clsD_form ha
  obtain ⟨B, cb, rfl⟩ := clsD_form hb
  have HA := Lib.hid ha
  have HB := Lib.hid hb
  have hl := he.1
  have HE := Lib.hid he.2
  rw [← hl]
  have HL := Lib.hid hl
  clear ha hb he hl
  go_enter Try.func53, Try.ntmps53
  go_wp2
  go_loopg [7] a.length (fun m i wr => ∃ k d : Nat, k ≤ a.length ∧ a.length - k ≤ m ∧ i = .int .i64 (k : Int) ∧ wr = w.drewN d)
  case atStart => exact ⟨0, 0, by omega, by omega, rfl, rfl⟩
  case round =>
    obtain ⟨k, d, hk, hm, rfl, rfl⟩ := hrel
    by_cases hlt : k < a.length
    · obtain ⟨x, hx⟩ : ∃ x, a[k]? = some x := ⟨_, List.getElem?_eq_getElem hlt⟩
      obtain ⟨y, hy⟩ : ∃ y, b[k]? = some y := ⟨_, List.getElem?_eq_getElem (by have := HL.out; omega)⟩
      obtain ⟨g1, o1, A1, p1, rfl, c0, c1, c2, c3, hv1⟩ := cls_get HA.out hx
      obtain ⟨g2, o2, A2, p2, rfl, d0, d1, d2, d3, hv2⟩ := cls_get HB.out hy
      obtain ⟨e1, e2, e3⟩ := HE.out k x y hx hy
      rw [← e1] at d0
      rw [← e2] at d1 hv2
      simp only [strV] at c0 d0
      have hst : ∀ n, Calls Try.prog 82 #[.slice A1 x.vals.length p1, .slice A2 x.vals.length p2] (w.drewN (d + n)) fun e w' => e = .returned (.bool true) ∧ ∃ m, w' = w.drewN (d + m) := fun n =>
        (stexts_any (w := w.drewN (d + n)) (hv1.up (KeepsD.refl _ _) fun _ h => h) (hv2.up (KeepsD.refl _ _) fun _ h => h)).mono fun e w' ⟨he, m, hm⟩ => ⟨he, n + m, by rw [hm, World.drewN_drewN, Nat.add_assoc]⟩
      have HST := Lib.hid hst
      clear hx hy hv1 hv2 e1 e2 hst
      cases ex
      · go_wp2
        go_quiet (exact HST.out _)
        go_wp2
        go_roundg (gk - 1)
        case measure => omega
        case rel => exact ⟨k + 1, d + nq, by omega, by omega, by go_num, rfl⟩
      · obtain ⟨e4, e5⟩ := e3 rfl
        rw [← e4] at d2
        rw [← e5] at d3
        clear e3 e4 e5
        go_wp2
        go_quiet (exact HST.out _)
        go_wp2
        go_roundg (gk - 1)
        case measure => omega
        case rel => exact ⟨k + 1, d + nq, by omega, by omega, by go_num, rfl⟩
    · go_wp2
      go_ret
      exact ⟨rfl, d, rfl⟩
namespace Syn
def EqK (ex : Bool) (c d : Cb) : Prop := c.name = d.name ∧ EqCs ex c.cls d.cls ∧ (ex = true → c.line = d.line ∧ c.col = d.col)
def EqB (ex : Bool) (c d : Bk) : Prop := c.name = d.name ∧ EqCs ex c.cls d.cls ∧ (c.cbs.length = d.cbs.length ∧ ∀ (k : Nat) (x y : Cb), c.cbs[k]? = some x → d.cbs[k]? = some y → EqK ex x y) ∧ (ex = true → c.line = d.line ∧ c.col = d.col)
def EqBs (ex : Bool) (a b : List Bk) : Prop := a.length = b.length ∧ ∀ (k : Nat) (c d : Bk), a[k]? = some c → b[k]? = some d → EqB ex c d
end Syn
set_option maxRecDepth 100000 in
set_option maxHeartbeats 4000000 in
theorem same_any {va vb : Value} {a b : List Bk} {Da Db : Nat → Prop} {w : World} (ex : Bool) (ha : BksD w Da va a) (hb : BksD w Db vb b) (he : EqBs ex a b) (hda : ∀ k, Da k → k < w.heap.size) (hdb : ∀ k, Db k → k < w.heap.size) :
    Calls Try.prog 36 #[va, vb, .bool ex] w fun e w' => e = .returned (.bool true) ∧ Below w.heap.size w w' := by
  obtain ⟨⟨A, ca, rfl⟩, hn⟩ := bksD_form ha
  obtain ⟨⟨B, cb, rfl⟩, _⟩ := bksD_form hb
  have HA := Lib.hid ha
  have HB := Lib.hid hb
  have hl := he.1
  have HE := Lib.hid he.2
  rw [← hl]
  have HL := Lib.hid hl
  clear ha hb he hl
  go_enter Try.func36, Try.ntmps36
  go_wp2
  go_loopg [7] a.length (fun m i wr => ∃ k : Nat, k ≤ a.length ∧ a.length - k ≤ m ∧ i = .int .i64 (k : Int) ∧ Below w.heap.size w wr)
  case atStart => exact ⟨0, by omega, by omega, rfl, Below.refl _ _⟩
  case round =>
    obtain ⟨k, hk, hm, rfl, hbl⟩ := hrel
    obtain ⟨G1, hG1⟩ : ∃ G, G = gk := ⟨_, rfl⟩
    subst hG1
    have HBL := Lib.hid hbl
    clear hbl
    by_cases hlt : k < a.length
    · obtain ⟨x, hx⟩ : ∃ x, a[k]? = some x := ⟨_, List.getElem?_eq_getElem hlt⟩
      obtain ⟨y, hy⟩ : ∃ y, b[k]? = some y := ⟨_, List.getElem?_eq_getElem (by have := HL.out; omega)⟩
      obtain ⟨g1, o1, A1, p1, A2, p2, rfl, x0, x1, x2, x3, x4, hu1, hu2⟩ := bks_get (HA.out.up (KeepsD.below HBL.out hda) fun _ h => h) hx
      obtain ⟨g2, o2, B1, q1, B2, q2, rfl, y0, y1, y2, y3, y4, hv1, hv2⟩ := bks_get (HB.out.up (KeepsD.below HBL.out hdb) fun _ h => h) hy
      obtain ⟨e1, e2, e3, e4⟩ := HE.out k x y hx hy
      rw [← e1] at y0
      rw [← e2.1] at y1
      rw [← e3.1] at y2 hv2
      rw [← e2.1] at hv1
      simp only [strV] at x0 y0
      have lg1 := cell_lt x1
      have lg2 := cell_lt y1
      have n1 : ¬ g1 = wr.heap.size := by omega
      have n2 : ¬ g1 = wr.heap.size + 1 := by omega
      have n3 : ¬ g2 = wr.heap.size := by omega
      have n4 : ¬ g2 = wr.heap.size + 1 := by omega
      go_wp2_with fail
      go_region
      · skip
        obtain ⟨W, hW⟩ : ∃ W, W = ((wr.alloc (.cells #[.string ⟨y.name.toArray⟩, .slice A1 x.cls.length p1, .slice A2 x.cbs.length p2, .int .i64 x.line, .int .i64 x.col] 75)).alloc (.cells #[.string ⟨y.name.toArray⟩, .slice B1 x.cls.length q1, .slice B2 x.cbs.length q2, .int .i64 y.line, .int .i64 y.col] 75)).drew := ⟨_, rfl⟩
        rw [e3.1] at hW
        try rw [e3.1]
        rw [← hW]
        have hbW : Below wr.heap.size wr W := by rw [hW]; exact (((Below.refl _ wr).alloc (Nat.le_refl _) _).alloc (by simp) _).drew
        have f1 : ∀ j u, ([.string ⟨y.name.toArray⟩, .slice A1 x.cls.length p1, .slice A2 x.cbs.length p2, .int .i64 x.line, .int .i64 x.col] : List Value)[j]? = some u → W.cell? ⟨wr.heap.size, j, none⟩ = some u := by
          intro j u h
          rw [e3.1] at h
          rw [hW]
          exact cell_alloc (cells_at wr _ _ _ rfl j u h) _
        have f2 : ∀ j u, ([.string ⟨y.name.toArray⟩, .slice B1 x.cls.length q1, .slice B2 x.cbs.length q2, .int .i64 y.line, .int .i64 y.col] : List Value)[j]? = some u → W.cell? ⟨wr.heap.size + 1, j, none⟩ = some u := by
          intro j u h
          rw [e3.1] at h
          rw [hW]
          exact cells_at (wr.alloc _) _ _ _ (by simp) j u h
        have X0 := f1 0 _ rfl
        have X1 := f1 1 _ rfl
        have X2 := f1 2 _ rfl
        have X3 := f1 3 _ rfl
        have X4 := f1 4 _ rfl
        have Y0 := f2 0 _ rfl
        have Y1 := f2 1 _ rfl
        have Y2 := f2 2 _ rfl
        have Y3 := f2 3 _ rfl
        have Y4 := f2 4 _ rfl
        have HU1 := Lib.hid (hu1.up (KeepsD.below hbW (fun k hk => by have := hda k hk; have := HBL.out.size; omega)) fun _ h => h)
        have HV1 := Lib.hid (hv1.up (KeepsD.below hbW (fun k hk => by have := hdb k hk; have := HBL.out.size; omega)) fun _ h => h)
        have HU2 := Lib.hid (hu2.up (KeepsD.below hbW (fun k hk => by have := hda k hk; have := HBL.out.size; omega)) fun _ h => h)
        have HV2 := Lib.hid (hv2.up (KeepsD.below hbW (fun k hk => by have := hdb k hk; have := HBL.out.size; omega)) fun _ h => h)
        have HBW := Lib.hid (HBL.out.trans (hbW.mono HBL.out.size))
        have hml := cbsD_len hu2
        have HE2 := Lib.hid e2
        have HE3 := Lib.hid e3
        have HWW := Lib.hid hW
        have hl3 := e3.1
        clear hW hbW f1 f2 hu1 hu2 hv1 hv2 x0 x1 x2 x3 x4 y0 y1 y2 y3 y4 e2 e3 hx hy n1 n2 n3 n4 lg1 lg2
        cases ex
        · go_wp2_with fail
          refine (scls_any false HU1.out HV1.out HE2.out).mono ?_
          rintro e W2 ⟨rfl, m0, rfl⟩
          go_wp2_with fail
          go_loopg [10] x.cbs.length (fun m i wr => ∃ j d : Nat, j ≤ x.cbs.length ∧ x.cbs.length - j ≤ m ∧ i = .int .i64 (j : Int) ∧ wr = W.drewN d)
          case atStart => exact ⟨0, m0, by omega, by omega, rfl, rfl⟩
          case round =>
            obtain ⟨j, d, hj, hm2, rfl, rfl⟩ := hrel
            by_cases hlt2 : j < x.cbs.length
            · obtain ⟨s, hs⟩ : ∃ s, x.cbs[j]? = some s := ⟨_, List.getElem?_eq_getElem hlt2⟩
              obtain ⟨t, ht⟩ : ∃ t, y.cbs[j]? = some t := ⟨_, List.getElem?_eq_getElem (by have := HE3.out.1; omega)⟩
              obtain ⟨g3, o3, A3, p3, rfl, c0, c1, c2, c3, hv3⟩ := cbs_get HU2.out hs
              obtain ⟨g4, o4, B3, q3, rfl, d0, d1, d2, d3, hv4⟩ := cbs_get HV2.out ht
              obtain ⟨k1, k2, k3⟩ := HE3.out.2 j s t hs ht
              rw [← k1] at d0
              rw [← k2.1] at d1 hv4
              simp only [strV] at c0 d0
              have hst : ∀ n, Calls Try.prog 53 #[.slice A3 s.cls.length p3, .slice B3 s.cls.length q3, .bool false] (W.drewN (d + n)) fun e w' => e = .returned (.bool true) ∧ ∃ m, w' = W.drewN (d + m) := fun n =>
                (scls_any (w := W.drewN (d + n)) false (hv3.up (KeepsD.refl _ _) fun _ h => h) (by rw [k2.1] at hv4 ⊢; exact hv4.up (KeepsD.refl _ _) fun _ h => h) k2).mono fun e w' ⟨he, m, hm⟩ => ⟨he, n + m, by rw [hm, World.drewN_drewN, Nat.add_assoc]⟩
              have HST := Lib.hid hst
              clear hs ht hv3 hv4 k1 k2 k3 hst
              go_wp2
              go_quiet (exact HST.out _)
              go_wp2
              go_roundg (gk - 1)
              case measure => omega
              case rel => exact ⟨j + 1, d + nq, by omega, by omega, by go_num, rfl⟩
            · go_wp2
              go_roundg (G1 - 1)
              case measure => omega
              case rel => exact ⟨k + 1, by omega, by omega, by go_num, below_drewN HBW.out _⟩
        · obtain ⟨e5, e6⟩ := e4 rfl
          rw [← e5] at Y3
          rw [← e6] at Y4
          clear e5 e6
          go_wp2_with fail
          refine (scls_any true HU1.out HV1.out HE2.out).mono ?_
          rintro e W2 ⟨rfl, m0, rfl⟩
          go_wp2_with fail
          go_loopg [10] x.cbs.length (fun m i wr => ∃ j d : Nat, j ≤ x.cbs.length ∧ x.cbs.length - j ≤ m ∧ i = .int .i64 (j : Int) ∧ wr = W.drewN d)
          case atStart => exact ⟨0, m0, by omega, by omega, rfl, rfl⟩
          case round =>
            obtain ⟨j, d, hj, hm2, rfl, rfl⟩ := hrel
            by_cases hlt2 : j < x.cbs.length
            · obtain ⟨s, hs⟩ : ∃ s, x.cbs[j]? = some s := ⟨_, List.getElem?_eq_getElem hlt2⟩
              obtain ⟨t, ht⟩ : ∃ t, y.cbs[j]? = some t := ⟨_, List.getElem?_eq_getElem (by have := HE3.out.1; omega)⟩
              obtain ⟨g3, o3, A3, p3, rfl, c0, c1, c2, c3, hv3⟩ := cbs_get HU2.out hs
              obtain ⟨g4, o4, B3, q3, rfl, d0, d1, d2, d3, hv4⟩ := cbs_get HV2.out ht
              obtain ⟨k1, k2, k3⟩ := HE3.out.2 j s t hs ht
              rw [← k1] at d0
              rw [← k2.1] at d1 hv4
              simp only [strV] at c0 d0
              have hst : ∀ n, Calls Try.prog 53 #[.slice A3 s.cls.length p3, .slice B3 s.cls.length q3, .bool true] (W.drewN (d + n)) fun e w' => e = .returned (.bool true) ∧ ∃ m, w' = W.drewN (d + m) := fun n =>
                (scls_any (w := W.drewN (d + n)) true (hv3.up (KeepsD.refl _ _) fun _ h => h) (by rw [k2.1] at hv4 ⊢; exact hv4.up (KeepsD.refl _ _) fun _ h => h) k2).mono fun e w' ⟨he, m, hm⟩ => ⟨he, n + m, by rw [hm, World.drewN_drewN, Nat.add_assoc]⟩
              have HST := Lib.hid hst
              obtain ⟨k4, k5⟩ := k3 rfl
              rw [← k4] at d2
              rw [← k5] at d3
              clear k4 k5
              clear hs ht hv3 hv4 k1 k2 k3 hst
              go_wp2
              go_quiet (exact HST.out _)
              go_wp2
              go_roundg (gk - 1)
              case measure => omega
              case rel => exact ⟨j + 1, d + nq, by omega, by omega, by go_num, rfl⟩
            · go_wp2
              go_roundg (G1 - 1)
              case measure => omega
              case rel => exact ⟨k + 1, by omega, by omega, by go_num, below_drewN HBW.out _⟩
      · skip
        obtain ⟨W, hW⟩ : ∃ W, W = ((wr.alloc (.cells #[.string ⟨y.name.toArray⟩, .slice B1 x.cls.length q1, .slice B2 x.cbs.length q2, .int .i64 y.line, .int .i64 y.col] 75)).alloc (.cells #[.string ⟨y.name.toArray⟩, .slice A1 x.cls.length p1, .slice A2 x.cbs.length p2, .int .i64 x.line, .int .i64 x.col] 75)).drew := ⟨_, rfl⟩
        rw [e3.1] at hW
        try rw [e3.1]
        rw [← hW]
        have hbW : Below wr.heap.size wr W := by rw [hW]; exact (((Below.refl _ wr).alloc (Nat.le_refl _) _).alloc (by simp) _).drew
        have f1 : ∀ j u, ([.string ⟨y.name.toArray⟩, .slice B1 x.cls.length q1, .slice B2 x.cbs.length q2, .int .i64 y.line, .int .i64 y.col] : List Value)[j]? = some u → W.cell? ⟨wr.heap.size, j, none⟩ = some u := by
          intro j u h
          rw [e3.1] at h
          rw [hW]
          exact cell_alloc (cells_at wr _ _ _ rfl j u h) _
        have f2 : ∀ j u, ([.string ⟨y.name.toArray⟩, .slice A1 x.cls.length p1, .slice A2 x.cbs.length p2, .int .i64 x.line, .int .i64 x.col] : List Value)[j]? = some u → W.cell? ⟨wr.heap.size + 1, j, none⟩ = some u := by
          intro j u h
          rw [e3.1] at h
          rw [hW]
          exact cells_at (wr.alloc _) _ _ _ (by simp) j u h
        have X0 := f2 0 _ rfl
        have X1 := f2 1 _ rfl
        have X2 := f2 2 _ rfl
        have X3 := f2 3 _ rfl
        have X4 := f2 4 _ rfl
        have Y0 := f1 0 _ rfl
        have Y1 := f1 1 _ rfl
        have Y2 := f1 2 _ rfl
        have Y3 := f1 3 _ rfl
        have Y4 := f1 4 _ rfl
        have HU1 := Lib.hid (hu1.up (KeepsD.below hbW (fun k hk => by have := hda k hk; have := HBL.out.size; omega)) fun _ h => h)
        have HV1 := Lib.hid (hv1.up (KeepsD.below hbW (fun k hk => by have := hdb k hk; have := HBL.out.size; omega)) fun _ h => h)
        have HU2 := Lib.hid (hu2.up (KeepsD.below hbW (fun k hk => by have := hda k hk; have := HBL.out.size; omega)) fun _ h => h)
        have HV2 := Lib.hid (hv2.up (KeepsD.below hbW (fun k hk => by have := hdb k hk; have := HBL.out.size; omega)) fun _ h => h)
        have HBW := Lib.hid (HBL.out.trans (hbW.mono HBL.out.size))
        have hml := cbsD_len hu2
        have HE2 := Lib.hid e2
        have HE3 := Lib.hid e3
        have HWW := Lib.hid hW
        have hl3 := e3.1
        clear hW hbW f1 f2 hu1 hu2 hv1 hv2 x0 x1 x2 x3 x4 y0 y1 y2 y3 y4 e2 e3 hx hy n1 n2 n3 n4 lg1 lg2
        cases ex
        · go_wp2_with fail
          refine (scls_any false HU1.out HV1.out HE2.out).mono ?_
          rintro e W2 ⟨rfl, m0, rfl⟩
          go_wp2_with fail
          go_loopg [10] x.cbs.length (fun m i wr => ∃ j d : Nat, j ≤ x.cbs.length ∧ x.cbs.length - j ≤ m ∧ i = .int .i64 (j : Int) ∧ wr = W.drewN d)
          case atStart => exact ⟨0, m0, by omega, by omega, rfl, rfl⟩
          case round =>
            obtain ⟨j, d, hj, hm2, rfl, rfl⟩ := hrel
            by_cases hlt2 : j < x.cbs.length
            · obtain ⟨s, hs⟩ : ∃ s, x.cbs[j]? = some s := ⟨_, List.getElem?_eq_getElem hlt2⟩
              obtain ⟨t, ht⟩ : ∃ t, y.cbs[j]? = some t := ⟨_, List.getElem?_eq_getElem (by have := HE3.out.1; omega)⟩
              obtain ⟨g3, o3, A3, p3, rfl, c0, c1, c2, c3, hv3⟩ := cbs_get HU2.out hs
              obtain ⟨g4, o4, B3, q3, rfl, d0, d1, d2, d3, hv4⟩ := cbs_get HV2.out ht
              obtain ⟨k1, k2, k3⟩ := HE3.out.2 j s t hs ht
              rw [← k1] at d0
              rw [← k2.1] at d1 hv4
              simp only [strV] at c0 d0
              have hst : ∀ n, Calls Try.prog 53 #[.slice A3 s.cls.length p3, .slice B3 s.cls.length q3, .bool false] (W.drewN (d + n)) fun e w' => e = .returned (.bool true) ∧ ∃ m, w' = W.drewN (d + m) := fun n =>
                (scls_any (w := W.drewN (d + n)) false (hv3.up (KeepsD.refl _ _) fun _ h => h) (by rw [k2.1] at hv4 ⊢; exact hv4.up (KeepsD.refl _ _) fun _ h => h) k2).mono fun e w' ⟨he, m, hm⟩ => ⟨he, n + m, by rw [hm, World.drewN_drewN, Nat.add_assoc]⟩
              have HST := Lib.hid hst
              clear hs ht hv3 hv4 k1 k2 k3 hst
              go_wp2
              go_quiet (exact HST.out _)
              go_wp2
              go_roundg (gk - 1)
              case measure => omega
              case rel => exact ⟨j + 1, d + nq, by omega, by omega, by go_num, rfl⟩
            · go_wp2
              go_roundg (G1 - 1)
              case measure => omega
              case rel => exact ⟨k + 1, by omega, by omega, by go_num, below_drewN HBW.out _⟩
        · obtain ⟨e5, e6⟩ := e4 rfl
          rw [← e5] at Y3
          rw [← e6] at Y4
          clear e5 e6
          go_wp2_with fail
          refine (scls_any true HU1.out HV1.out HE2.out).mono ?_
          rintro e W2 ⟨rfl, m0, rfl⟩
          go_wp2_with fail
          go_loopg [10] x.cbs.length (fun m i wr => ∃ j d : Nat, j ≤ x.cbs.length ∧ x.cbs.length - j ≤ m ∧ i = .int .i64 (j : Int) ∧ wr = W.drewN d)
          case atStart => exact ⟨0, m0, by omega, by omega, rfl, rfl⟩
          case round =>
            obtain ⟨j, d, hj, hm2, rfl, rfl⟩ := hrel
            by_cases hlt2 : j < x.cbs.length
            · obtain ⟨s, hs⟩ : ∃ s, x.cbs[j]? = some s := ⟨_, List.getElem?_eq_getElem hlt2⟩
              obtain ⟨t, ht⟩ : ∃ t, y.cbs[j]? = some t := ⟨_, List.getElem?_eq_getElem (by have := HE3.out.1; omega)⟩
              obtain ⟨g3, o3, A3, p3, rfl, c0, c1, c2, c3, hv3⟩ := cbs_get HU2.out hs
              obtain ⟨g4, o4, B3, q3, rfl, d0, d1, d2, d3, hv4⟩ := cbs_get HV2.out ht
              obtain ⟨k1, k2, k3⟩ := HE3.out.2 j s t hs ht
              rw [← k1] at d0
              rw [← k2.1] at d1 hv4
              simp only [strV] at c0 d0
              have hst : ∀ n, Calls Try.prog 53 #[.slice A3 s.cls.length p3, .slice B3 s.cls.length q3, .bool true] (W.drewN (d + n)) fun e w' => e = .returned (.bool true) ∧ ∃ m, w' = W.drewN (d + m) := fun n =>
                (scls_any (w := W.drewN (d + n)) true (hv3.up (KeepsD.refl _ _) fun _ h => h) (by rw [k2.1] at hv4 ⊢; exact hv4.up (KeepsD.refl _ _) fun _ h => h) k2).mono fun e w' ⟨he, m, hm⟩ => ⟨he, n + m, by rw [hm, World.drewN_drewN, Nat.add_assoc]⟩
              have HST := Lib.hid hst
              obtain ⟨k4, k5⟩ := k3 rfl
              rw [← k4] at d2
              rw [← k5] at d3
              clear k4 k5
              clear hs ht hv3 hv4 k1 k2 k3 hst
              go_wp2
              go_quiet (exact HST.out _)
              go_wp2
              go_roundg (gk - 1)
              case measure => omega
              case rel => exact ⟨j + 1, d + nq, by omega, by omega, by go_num, rfl⟩
            · go_wp2
              go_roundg (G1 - 1)
              case measure => omega
              case rel => exact ⟨k + 1, by omega, by omega, by go_num, below_drewN HBW.out _⟩
    · go_wp2
      go_ret
      exact ⟨rfl, HBL.out⟩
end Go.Proofs.Ytjnaeldaajckkaa
