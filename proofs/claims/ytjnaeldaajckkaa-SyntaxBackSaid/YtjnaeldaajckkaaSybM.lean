/- Several texts in one: SyrH, SybA, SybB, SybC, SybD. -/
import Derived.Test.YtjnaeldaajckkaaSynL
import Derived.Test.YtjnaeldaajckkaaTokH
import Derived.Test.YtjnaeldaajckkaaTokX
import Derived.BigQuiet
import Derived.Test.YtjnaeldaajckkaaSyX
import Derived.Test.YtjnaeldaajckkaaSyrF
import Derived.Test.YtjnaeldaajckkaaSynP
/- The reference's Format, at blocks that have a text. -/
set_option linter.unusedVariables false
set_option linter.unusedSimpArgs false
namespace Go.Proofs.Ytjnaeldaajckkaa
open Go.RowKit Tok Syn

theorem kindR_tok {u : List UInt8} (hu : tokU u) (hn : u.length ≤ 65536) : kindR ⟨u.toArray⟩ = kindL u := by
  have hp : 0 < u.length := by cases u with | nil => exact absurd rfl hu.2 | cons a b => simp
  have e1 : (⟨u.toArray⟩ : ByteArray).data.toList = u := by simp
  have e2 := bsize u
  unfold kindR
  rw [e1, e2, if_neg (by omega), if_pos hu.1]
theorem kind_good {u : List UInt8} (hu : tokU u) (hn : u.length ≤ 65536) (w : World) : Calls Try.prog 46 #[.string ⟨u.toArray⟩] w fun e w' => e = .returned (.int .i64 (kindL u)) ∧ w = w' := by
  have h := kind_any ⟨u.toArray⟩ w (by rw [bsize]; exact small_maxLen (by omega))
  rw [kindR_tok hu hn] at h
  exact h
theorem str_get2 {w : World} {D : Nat → Prop} {A : Option Addr} {n cp : Nat} {l : List (List UInt8)} (h : StrD w D (.slice A n cp) l) {k : Nat} {x : List UInt8} (hk : l[k]? = some x) :
    ∃ g off, A = some ⟨g, off, none⟩ ∧ w.cell? ⟨g, off + k, none⟩ = some (.string ⟨x.toArray⟩) := by
  obtain ⟨⟨h1, h2, h3⟩, h4⟩ := h
  have hlt : k < l.length := by
    rcases Nat.lt_or_ge k l.length with h | h
    · exact h
    · rw [List.getElem?_eq_none h] at hk; cases hk
  rcases h3 with ⟨_, h0⟩ | ⟨g, off, cap, hv, hx⟩
  · omega
  · injection hv with hA
    exact ⟨g, off, hA, hx k _ (by rw [List.getElem?_map, hk]; rfl)⟩
theorem szl {X : ByteArray} {l : List UInt8} (h : X.data.toList = l) : X.size = l.length := by rw [← h]; exact (len_data X).symm
theorem lit_list (l : List UInt8) : (⟨l.toArray⟩ : ByteArray).data.toList = l := by simp
set_option maxRecDepth 100000 in
set_option maxHeartbeats 4000000 in
theorem rctext_good {c : Cl} {u : Value} {D : Nat → Prop} {w : World} (hg : GoodT c) (hv : StrD w D u c.vals) (hD : ∀ k, D k → k < w.heap.size) (hn : (clauseL c).length ≤ 65536) :
    Calls Try.prog 93 #[.agg #[.string ⟨c.word.toArray⟩, u, .int .i64 c.line, .int .i64 c.col]] w fun e w' => (∃ X : ByteArray, e = .returned (.tuple #[.string X, .bool true]) ∧ X.data.toList = clauseL c) ∧ Below w.heap.size w w' := by
  obtain ⟨A, cp, rfl⟩ := strD_form hv
  have hlc : (clauseL c).length = c.word.length + ((c.vals.flatMap valL).length + 2) := by simp [clauseL]
  have HU := Lib.hid hg
  have hal := (Below.refl _ w).alloc (Nat.le_refl _) (.cells #[.string ⟨c.word.toArray⟩, .slice A c.vals.length cp, .int .i64 c.line, .int .i64 c.col] 81)
  have HV := Lib.hid (hv.up (KeepsD.below hal hD) (fun _ h => h))
  have d0 := cells_new w [.string ⟨c.word.toArray⟩, .slice A c.vals.length cp, .int .i64 c.line, .int .i64 c.col] 81 0 _ rfl
  have d1 := cells_new w [.string ⟨c.word.toArray⟩, .slice A c.vals.length cp, .int .i64 c.line, .int .i64 c.col] 81 1 _ rfl
  simp only [Addr.add, reduceIte, Nat.reduceEqDiff, Nat.one_ne_zero, Nat.zero_add] at d0 d1
  have hne : (c.word == [99, 108, 97, 115, 115]) = false := by
    have := hg.2.1
    simp only [sClass] at this
    exact beq_false_of_ne this
  have hk1 := hg.1.2
  have hsm := hv.1.2.1
  obtain ⟨W, hW⟩ : ∃ W, W = w.alloc (.cells #[.string ⟨c.word.toArray⟩, .slice A c.vals.length cp, .int .i64 c.line, .int .i64 c.col] 81) := ⟨_, rfl⟩
  rw [← hW] at HV hal
  have HAL := Lib.hid hal
  have HW := Lib.hid hW
  clear hg hv hal
  go_enter Try.func93, Try.ntmps93
  go_wp2_with fail
  refine (kind_good HU.out.1.1 (by omega) _).mono ?_
  rintro e w1 ⟨rfl, rfl⟩
  rw [hk1]
  go_wp2_with fail
  rw [← hW] at d0 d1 ⊢
  clear hW hne
  go_loopg [4, 5] c.vals.length (fun m ss i wr => ∃ (k : Nat) (X : ByteArray), k ≤ c.vals.length ∧ c.vals.length - k ≤ m ∧ ss = .string X ∧ i = .int .i64 (k : Int) ∧ X.data.toList = c.word ++ (c.vals.take k).flatMap valL ∧ wr = W)
  case atStart => exact ⟨0, _, by omega, by omega, rfl, rfl, by rw [List.take_zero]; simp, rfl⟩
  case round =>
    obtain ⟨k, X, hk, hm, rfl, rfl, hX, rfl⟩ := hrel
    have hxs := szl hX
    rw [List.length_append] at hxs
    have hflk := flat_le c.vals k
    have hxb : X.size ≤ 65536 := by omega
    have HX := Lib.hid hX
    have HLC := Lib.hid hlc
    clear hX hxs hflk hlc
    by_cases hlt2 : k < c.vals.length
    · obtain ⟨x, hx⟩ : ∃ x, c.vals[k]? = some x := ⟨_, List.getElem?_eq_getElem hlt2⟩
      obtain ⟨g, off, rfl, hxc⟩ := str_get2 HV.out hx
      have hfl := flat_le c.vals (k + 1)
      rw [take_flat _ _ _ hx, List.length_append] at hfl
      have hgv := HU.out.2.2 x (List.mem_of_getElem? hx)
      have HXX := Lib.hid hx
      have hbs := bsize x
      have hlv := HLC.out
      have hxl : x.length ≤ 65536 := by
        by_cases h9 : x = [44]
        · rw [h9]; simp
        · rw [valL_sp h9, List.length_cons] at hfl; omega
      clear hx hfl hlv
      by_cases hcom : x = [44]
      · subst hcom
        go_wp2
        go_roundg (gk - 1)
        case rel => exact ⟨k + 1, _, by omega, by omega, rfl, by go_num, by rw [take_flat _ _ _ HXX.out, valL_com, app_list, HX.out, List.append_assoc], rfl⟩
        case measure => omega
      · obtain ⟨ht, hk0, hk5⟩ := hgv.resolve_left hcom
        have hcb : (x == [44]) = false := beq_false_of_ne hcom
        have HT := Lib.hid ht
        have HCM := Lib.hid hcom
        have hk0b : (kindL x == 0) = false := beq_false_of_ne hk0
        have hk5b : (kindL x == 5) = false := beq_false_of_ne hk5
        clear ht hgv hcom
        go_wp2_with fail
        refine (kind_good HT.out hxl _).mono ?_
        rintro e w3 ⟨rfl, rfl⟩
        go_wp2
        go_roundg (gk - 1)
        case rel => exact ⟨k + 1, _, by omega, by omega, rfl, by go_num, by rw [take_flat _ _ _ HXX.out, valL_sp HCM.out]; simp only [app_list, HX.out]; simp, rfl⟩
        case measure => omega
    · have hke : k = c.vals.length := by omega
      have HKE := Lib.hid hke
      clear hke
      go_wp2
      go_ret2
      refine ⟨⟨_, rfl, ?_⟩, HAL.out⟩
      rw [app_list, HX.out, HKE.out, List.take_length]
      simp [clauseL]
theorem blkL_len (b : Bk) : (blockL b).length = 4 + (1 + b.name.length + (3 + ((b.cls.flatMap (fun c : Cl => [32, 32] ++ clauseL c)).length + ((b.cbs.flatMap classL).length + 2)))) := by simp only [blockL, sFund, List.length_append, List.length_cons, List.length_nil]; omega
theorem clsL_len (c : Cb) : (classL c).length = 2 + (5 + (1 + c.name.length + (3 + ((c.cls.flatMap (fun c : Cl => [32, 32, 32, 32] ++ clauseL c)).length + 4)))) := by simp only [classL, sClass, List.length_append, List.length_cons, List.length_nil]; omega
set_option maxRecDepth 100000 in
set_option maxHeartbeats 4000000 in
theorem rbtext_good {b : Bk} {u1 u2 : Value} {D : Nat → Prop} {w : World} (hg : GoodX b) (hu1 : ClsD w D u1 b.cls) (hu2 : CbsD w D u2 b.cbs) (hD : ∀ k, D k → k < w.heap.size) (hn : (blockL b).length ≤ 65536) :
    Calls Try.prog 86 #[.agg #[.string ⟨b.name.toArray⟩, u1, u2, .int .i64 b.line, .int .i64 b.col]] w fun e w' => (∃ X : ByteArray, e = .returned (.tuple #[.string X, .bool true]) ∧ X.data.toList = blockL b) ∧ Below w.heap.size w w' := by
  obtain ⟨A1, p1, rfl⟩ := clsD_form hu1
  obtain ⟨A2, p2, rfl⟩ := cbsD_form hu2
  have hlb := blkL_len b
  have hnm : b.name.length ≤ 65536 := by omega
  have hml1 := clsD_len hu1
  have hml2 := cbsD_len hu2
  have hal := (Below.refl _ w).alloc (Nat.le_refl _) (.cells #[.string ⟨b.name.toArray⟩, .slice A1 b.cls.length p1, .slice A2 b.cbs.length p2, .int .i64 b.line, .int .i64 b.col] 75)
  have HU1 := Lib.hid (hu1.up (KeepsD.below hal hD) (fun _ h => h))
  have HU2 := Lib.hid (hu2.up (KeepsD.below hal hD) (fun _ h => h))
  have HG := Lib.hid hg
  have hk1 := hg.1.2
  have d0 := cells_at w [.string ⟨b.name.toArray⟩, .slice A1 b.cls.length p1, .slice A2 b.cbs.length p2, .int .i64 b.line, .int .i64 b.col] 75 _ rfl 0 _ rfl
  have d1 := cells_at w [.string ⟨b.name.toArray⟩, .slice A1 b.cls.length p1, .slice A2 b.cbs.length p2, .int .i64 b.line, .int .i64 b.col] 75 _ rfl 1 _ rfl
  have d2 := cells_at w [.string ⟨b.name.toArray⟩, .slice A1 b.cls.length p1, .slice A2 b.cbs.length p2, .int .i64 b.line, .int .i64 b.col] 75 _ rfl 2 _ rfl
  obtain ⟨W, hW⟩ : ∃ W, W = w.alloc (.cells #[.string ⟨b.name.toArray⟩, .slice A1 b.cls.length p1, .slice A2 b.cbs.length p2, .int .i64 b.line, .int .i64 b.col] 75) := ⟨_, rfl⟩
  rw [← hW] at hal
  have HU1 : Hid (ClsD W D (.slice A1 b.cls.length p1) b.cls) := by rw [hW]; exact HU1
  have HU2 : Hid (CbsD W D (.slice A2 b.cbs.length p2) b.cbs) := by rw [hW]; exact HU2
  have HDW : Hid (∀ k, D k → k < W.heap.size) := Lib.hid fun k hk => Nat.lt_of_lt_of_le (hD k hk) hal.size
  have HAL := Lib.hid hal
  have HNM := bsize b.name
  clear hg hu1 hu2 hal
  go_enter Try.func86, Try.ntmps86
  go_wp2_with fail
  refine (kind_good HG.out.1.1 (by omega) _).mono ?_
  rintro e w1 ⟨rfl, rfl⟩
  rw [hk1]
  go_wp2_with fail
  rw [← hW] at d0 d1 d2 ⊢
  clear hW hk1
  go_loopg [4, 5, 6] b.cls.length (fun m gd ss i wr => ∃ (k : Nat) (X : ByteArray), k ≤ b.cls.length ∧ b.cls.length - k ≤ m ∧ gd = .bool true ∧ ss = .string X ∧ i = .int .i64 (k : Int) ∧ X.data.toList = (sFund ++ (32 :: b.name ++ [32, 123, 10])) ++ (b.cls.take k).flatMap (fun c : Cl => [32, 32] ++ clauseL c) ∧ Below W.heap.size W wr)
  case atStart => exact ⟨0, _, by omega, by omega, rfl, rfl, rfl, by rw [List.take_zero]; simp only [app_list]; simp [sFund], Below.refl _ _⟩
  case round =>
    obtain ⟨k, X, hk, hm, rfl, rfl, rfl, hX, hB⟩ := hrel
    have hxs := szl hX
    simp only [List.length_append, List.length_cons, List.length_nil, sFund] at hxs
    have hflk := flatF (fun c : Cl => [32, 32] ++ clauseL c) b.cls k
    have hxb : X.size ≤ 65536 := by omega
    clear hxs hflk
    have HX := Lib.hid hX
    have HB := Lib.hid hB
    have e1 := cell_up d1 hB
    have e2 := cell_up d2 hB
    clear hX hB
    by_cases hlt1 : k < b.cls.length
    · obtain ⟨x, hx⟩ : ∃ x, b.cls[k]? = some x := ⟨_, List.getElem?_eq_getElem hlt1⟩
      obtain ⟨g, off, B1, q1, rfl, z0, z1, z2, z3, hv⟩ := cls_get (HU1.out.up (KeepsD.below HB.out HDW.out) (fun _ h => h)) hx
      have hgt := HG.out.2.1 x (List.mem_of_getElem? hx)
      have hfl := flatF (fun c : Cl => [32, 32] ++ clauseL c) b.cls (k + 1)
      have htk := takeF (fun c : Cl => [32, 32] ++ clauseL c) b.cls k x hx
      rw [htk] at hfl
      simp only [List.length_append, List.length_cons, List.length_nil] at hfl
      simp only [strV] at z0
      have hcb : (clauseL x).length ≤ 65524 := by omega
      have HV := Lib.hid hv
      have HTK := Lib.hid htk
      have HGT := Lib.hid hgt
      have HCB := Lib.hid hcb
      clear hx hv htk hgt hfl hcb
      go_wp2_with fail
      refine (rctext_good HGT.out HV.out (fun k hk => Nat.lt_of_lt_of_le (HDW.out k hk) HB.out.size) (by have := HCB.out; omega)).mono ?_
      rintro e w3 ⟨⟨Y, rfl, hY⟩, hB3⟩
      have hys : Y.size ≤ 65524 := by rw [szl hY]; exact HCB.out
      have HY := Lib.hid hY
      have HB3 := Lib.hid (HB.out.trans (hB3.mono HB.out.size))
      clear hY hB3
      go_wp2
      go_roundg (gk - 1)
      case measure => omega
      case rel => exact ⟨k + 1, _, by omega, by omega, rfl, rfl, by go_num, by rw [HTK.out]; simp only [app_list, HX.out, HY.out]; simp, HB3.out⟩
    · have hke : k = b.cls.length := by omega
      have hX1 := HX.out
      rw [hke, List.take_length] at hX1
      have hxs1 := szl hX1
      simp only [List.length_append, List.length_cons, List.length_nil, sFund] at hxs1
      obtain ⟨a1, ha1⟩ : ∃ x, x = (sFund ++ (32 :: b.name ++ [32, 123, 10])) ++ b.cls.flatMap (fun c : Cl => [32, 32] ++ clauseL c) := ⟨_, rfl⟩
      rw [← ha1] at hX1
      have hla1 : a1.length = b.name.length + 8 + (b.cls.flatMap (fun c : Cl => [32, 32] ++ clauseL c)).length := by rw [ha1]; simp only [List.length_append, List.length_cons, List.length_nil, sFund]; omega
      have HA1 := Lib.hid ha1
      have HX1 := Lib.hid hX1
      clear ha1 hX1 hke hxs1 hm HX
      go_wp2_with fail
      go_loopg [4, 5, 9] b.cbs.length (fun m gd ss i wr => ∃ (k : Nat) (X : ByteArray), k ≤ b.cbs.length ∧ b.cbs.length - k ≤ m ∧ gd = .bool true ∧ ss = .string X ∧ i = .int .i64 (k : Int) ∧ X.data.toList = a1 ++ (b.cbs.take k).flatMap classL ∧ Below W.heap.size W wr)
      case atStart => exact ⟨0, _, by omega, by omega, rfl, rfl, rfl, by rw [List.take_zero]; simpa using HX1.out, HB.out⟩
      case round =>
        obtain ⟨k2, X2, hk2, hm2, rfl, rfl, rfl, hX2, hB2⟩ := hrel
        obtain ⟨G2, hG2⟩ : ∃ G, G = gk := ⟨_, rfl⟩
        subst hG2
        obtain ⟨w6, hw6⟩ : ∃ x, x = wr := ⟨_, rfl⟩
        subst hw6
        have hxs2 := szl hX2
        simp only [List.length_append] at hxs2
        have hflk2 := flatF classL b.cbs k2
        have hxb2 : X2.size + 2 ≤ 65536 := by omega
        clear hxs2 hflk2
        have HX2 := Lib.hid hX2
        have HB2 := Lib.hid hB2
        have e2 := cell_up d2 hB2
        clear hX2 hB2
        by_cases hlt2 : k2 < b.cbs.length
        · obtain ⟨c, hc⟩ : ∃ c, b.cbs[k2]? = some c := ⟨_, List.getElem?_eq_getElem hlt2⟩
          obtain ⟨g3, off3, A3, p3, rfl, y0, y1, y2, y3, hu3⟩ := cbs_get (HU2.out.up (KeepsD.below HB2.out HDW.out) (fun _ h => h)) hc
          have hgk := HG.out.2.2 c (List.mem_of_getElem? hc)
          have hfl2 := flatF classL b.cbs (k2 + 1)
          have htk2 := takeF classL b.cbs k2 c hc
          rw [htk2, List.length_append, clsL_len c] at hfl2
          have hkk := hgk.1.2
          have hbn := bsize c.name
          simp only [strV] at y0
          have hal := (Below.refl _ w6).alloc (Nat.le_refl _) (.cells #[.string ⟨c.name.toArray⟩, .slice A3 c.cls.length p3, .int .i64 c.line, .int .i64 c.col] 84)
          have hdw6 : ∀ k, D k → k < w6.heap.size := fun k hk => Nat.lt_of_lt_of_le (HDW.out k hk) HB2.out.size
          have HU3 := Lib.hid (hu3.up (KeepsD.below hal hdw6) (fun _ h => h))
          have f0 := cells_at w6 [.string ⟨c.name.toArray⟩, .slice A3 c.cls.length p3, .int .i64 c.line, .int .i64 c.col] 84 _ rfl 0 _ rfl
          have f1 := cells_at w6 [.string ⟨c.name.toArray⟩, .slice A3 c.cls.length p3, .int .i64 c.line, .int .i64 c.col] 84 _ rfl 1 _ rfl
          have hb7 := HB2.out.trans (hal.mono HB2.out.size)
          have hml3 := clsD_len hu3
          have HTK2 := Lib.hid htk2
          have HGK := Lib.hid hgk
          have hcn : c.name.length ≤ 65536 := by omega
          have hx3b : ((b.cbs.take k2).flatMap classL).length + (11 + c.name.length + ((c.cls.flatMap (fun c : Cl => [32, 32, 32, 32] ++ clauseL c)).length + 4)) ≤ (b.cbs.flatMap classL).length := by omega
          have HX3B := Lib.hid hx3b
          clear hc hu3 htk2 hgk hfl2 hx3b
          go_wp2_with fail
          refine (kind_good HGK.out.1.1 hcn _).mono ?_
          rintro e w7 ⟨rfl, rfl⟩
          rw [hkk]
          go_wp2_with fail
          obtain ⟨W7, hW7⟩ : ∃ x, x = w6.alloc (.cells #[.string ⟨c.name.toArray⟩, .slice A3 c.cls.length p3, .int .i64 c.line, .int .i64 c.col] 84) := ⟨_, rfl⟩
          have HU3' : Hid (ClsD W7 D (.slice A3 c.cls.length p3) c.cls) := by rw [hW7]; exact HU3
          rw [← hW7] at hb7 f0 f1 hal ⊢
          have HB7 := Lib.hid hb7
          have HW7 := Lib.hid hW7
          have HD7 : Hid (∀ k, D k → k < W7.heap.size) := Lib.hid fun k hk => Nat.lt_of_lt_of_le (hdw6 k hk) hal.size
          clear hb7 hW7 hal y0 y1 y2 y3 f0 hkk HU3 hdw6 e2
          go_loopg [4, 5, 11] c.cls.length (fun m gd ss i wr => ∃ (k : Nat) (X : ByteArray), k ≤ c.cls.length ∧ c.cls.length - k ≤ m ∧ gd = .bool true ∧ ss = .string X ∧ i = .int .i64 (k : Int) ∧ X.data.toList = (a1 ++ (b.cbs.take k2).flatMap classL ++ ([32, 32] ++ (sClass ++ (32 :: c.name ++ [32, 123, 10])))) ++ (c.cls.take k).flatMap (fun c : Cl => [32, 32, 32, 32] ++ clauseL c) ∧ Below W7.heap.size W7 wr)
          case atStart => exact ⟨0, _, by omega, by omega, rfl, rfl, rfl, by rw [List.take_zero]; simp only [app_list, HX2.out]; simp [sClass], Below.refl _ _⟩
          case round =>
            obtain ⟨k3, X3, hk3, hm3, rfl, rfl, rfl, hX3, hB3⟩ := hrel
            have hxs3 := szl hX3
            simp only [List.length_append, List.length_cons, List.length_nil, sClass] at hxs3
            have hflk3 := flatF (fun c : Cl => [32, 32, 32, 32] ++ clauseL c) c.cls k3
            have hx3b := HX3B.out
            have hxb3 : X3.size + 4 ≤ 65536 := by omega
            clear hxs3 hflk3 hx3b
            have HX3 := Lib.hid hX3
            have HB3 := Lib.hid hB3
            have f2 := cell_up f1 hB3
            clear hX3 hB3
            by_cases hlt3 : k3 < c.cls.length
            · obtain ⟨x, hx⟩ : ∃ x, c.cls[k3]? = some x := ⟨_, List.getElem?_eq_getElem hlt3⟩
              obtain ⟨g4, off4, B1, q1, rfl, z0, z1, z2, z3, hv⟩ := cls_get (HU3'.out.up (KeepsD.below HB3.out HD7.out) (fun _ h => h)) hx
              have hgt := HGK.out.2 x (List.mem_of_getElem? hx)
              have hfl3 := flatF (fun c : Cl => [32, 32, 32, 32] ++ clauseL c) c.cls (k3 + 1)
              have htk3 := takeF (fun c : Cl => [32, 32, 32, 32] ++ clauseL c) c.cls k3 x hx
              rw [htk3] at hfl3
              simp only [List.length_append, List.length_cons, List.length_nil] at hfl3
              simp only [strV] at z0
              have hx3b := HX3B.out
              have hcb : (clauseL x).length ≤ 65515 := by omega
              have HV := Lib.hid hv
              have HTK3 := Lib.hid htk3
              have HGT := Lib.hid hgt
              have HCB := Lib.hid hcb
              clear hx hv htk3 hgt hfl3 hcb hx3b
              go_wp2_with fail
              refine (rctext_good HGT.out HV.out (fun k hk => Nat.lt_of_lt_of_le (HD7.out k hk) HB3.out.size) (by have := HCB.out; omega)).mono ?_
              rintro e w8 ⟨⟨Y, rfl, hY⟩, hB4⟩
              have hys : Y.size ≤ 65515 := by rw [szl hY]; exact HCB.out
              have HY := Lib.hid hY
              have HB4 := Lib.hid (HB3.out.trans (hB4.mono HB3.out.size))
              clear hY hB4
              go_wp2
              go_roundg (gk - 1)
              case measure => omega
              case rel => exact ⟨k3 + 1, _, by omega, by omega, rfl, rfl, by go_num, by rw [HTK3.out]; simp only [app_list, HX3.out, HY.out]; simp, HB4.out⟩
            · have hke : k3 = c.cls.length := by omega
              have hX4 := HX3.out
              rw [hke, List.take_length] at hX4
              have HX4 := Lib.hid hX4
              have HB5 := Lib.hid (HB7.out.trans (HB3.out.mono HB7.out.size))
              clear hX4 hke HX3
              go_wp2
              go_roundg (G2 - 1)
              case measure => omega
              case rel => exact ⟨k2 + 1, _, by omega, by omega, rfl, rfl, by go_num, by rw [HTK2.out]; simp only [app_list, HX4.out]; simp [classL, sClass], HB5.out⟩
        · have hke : k2 = b.cbs.length := by omega
          have hX4 := HX2.out
          rw [hke, List.take_length] at hX4
          have HX4 := Lib.hid hX4
          clear hX4 hke HX2
          go_wp2
          go_ret2
          refine ⟨⟨_, rfl, ?_⟩, HAL.out.trans (HB2.out.mono HAL.out.size)⟩
          simp only [app_list, HX4.out, HA1.out]
          simp [blockL, sFund]
set_option maxRecDepth 100000 in
set_option maxHeartbeats 4000000 in
theorem rformat_good {l : List Bk} {lv : Value} {D : Nat → Prop} {w : World} (hl : BksD w D lv l) (hD : ∀ k, D k → k < w.heap.size) (hg : ∀ b ∈ l, GoodX b) (hn : (blocksL l).length ≤ 65536) :
    Calls Try.prog 60 #[lv] w fun e w' => e = .returned (.tuple #[.string ⟨(blocksL l).toArray⟩, .int .i64 0]) ∧ Below w.heap.size w w' := by
  obtain ⟨⟨A, cp, rfl⟩, hmx⟩ := bksD_form hl
  have HL := Lib.hid hl
  have HG := Lib.hid hg
  have hnn := hn
  simp only [blocksL] at hnn
  have HN := Lib.hid hn
  clear hl hg hn
  go_enter Try.func60, Try.ntmps60
  go_wp2_with fail
  go_loopg [4, 5, 6] l.length (fun m ss gd i wr => ∃ (k : Nat) (X : ByteArray), k ≤ l.length ∧ l.length - k ≤ m ∧ ss = .string X ∧ gd = .bool true ∧ i = .int .i64 (k : Int) ∧ X.data.toList = (l.take k).flatMap blockL ∧ Below w.heap.size w wr)
  case atStart => exact ⟨0, _, by omega, by omega, rfl, rfl, rfl, by rw [List.take_zero]; rfl, Below.refl _ _⟩
  case round =>
    obtain ⟨k, X, hk, hm, rfl, rfl, rfl, hX, hB⟩ := hrel
    have hxs := szl hX
    have HX := Lib.hid hX
    have HB := Lib.hid hB
    have hfl0 := flatF blockL l k
    obtain ⟨nX, hnX⟩ : ∃ n, n = ((l.take k).flatMap blockL).length := ⟨_, rfl⟩
    rw [← hnX] at hxs hfl0
    have HNX := Lib.hid hnX
    obtain ⟨nT, hnT⟩ : ∃ n, n = (l.flatMap blockL).length := ⟨_, rfl⟩
    rw [← hnT] at hfl0
    have hnn2 := HN.out
    simp only [blocksL] at hnn2
    rw [← hnT] at hnn2
    have HNT := Lib.hid hnT
    clear hX hB hnX hnT hnn
    by_cases hlt : k < l.length
    · obtain ⟨b, hb⟩ : ∃ b, l[k]? = some b := ⟨_, List.getElem?_eq_getElem hlt⟩
      obtain ⟨g, off, A1, p1, A2, p2, rfl, x0, x1, x2, x3, x4, hu1, hu2⟩ := bks_get (HL.out.up (KeepsD.below HB.out hD) (fun _ h => h)) hb
      have hgx := HG.out b (List.mem_of_getElem? hb)
      have hfl := flatF blockL l (k + 1)
      have htk := takeF blockL l k b hb
      rw [htk, List.length_append, ← HNX.out, ← HNT.out] at hfl
      have hbb : (blockL b).length ≤ 65536 := by omega
      have HBBX := Lib.hid hbb
      clear hfl hbb
      simp only [strV] at x0
      have HU1 := Lib.hid hu1
      have HU2 := Lib.hid hu2
      have HTK := Lib.hid htk
      have HGX := Lib.hid hgx
      clear hb hu1 hu2 htk hgx
      go_wp2_with fail
      refine (rbtext_good HGX.out HU1.out HU2.out (fun k hk => Nat.lt_of_lt_of_le (hD k hk) HB.out.size) HBBX.out).mono ?_
      rintro e w3 ⟨⟨Y, rfl, hY⟩, hB3⟩
      have hys : Y.size ≤ 65536 := by rw [szl hY]; exact HBBX.out
      have HY := Lib.hid hY
      have HB3 := Lib.hid (HB.out.trans (hB3.mono HB.out.size))
      clear hY hB3
      go_wp2
      go_roundg (gk - 1)
      case measure => omega
      case rel => exact ⟨k + 1, _, by omega, by omega, rfl, rfl, by go_num, by rw [HTK.out]; simp only [app_list, HX.out, HY.out], HB3.out⟩
    · have hke : k = l.length := by omega
      have hX1 := HX.out
      rw [hke, List.take_length] at hX1
      have hXe : X = ⟨(blocksL l).toArray⟩ := by
        ext1
        apply Array.toList_inj.1
        rw [hX1]
        simp [blocksL]
      have HXE := Lib.hid hXe
      have hle : ¬ (65536 : Int) < (X.size : Int) := by omega
      clear hX1 hXe hke
      go_wp2
      rw [HXE.out]
      go_ret2
      exact ⟨rfl, HB.out⟩
end Go.Proofs.Ytjnaeldaajckkaa
/- The law of x.f = append(x.f, ..) where what is appended comes of a chain of operations in one order, while the load of x.f comes anywhere. -/
set_option linter.unusedVariables false
set_option linter.unusedSimpArgs false
namespace Go.Proofs.Ytjnaeldaajckkaa
open Go.RowKit

theorem put_comm (a : Act) (d1 d2 : Tmp) (u1 u2 : Value) (h : d1 ≠ d2) : (a.put (some d1) u1).put (some d2) u2 = (a.put (some d2) u2).put (some d1) u1 := by
  simp only [Act.put]
  rw [Array.setIfInBounds_comm _ _ h]
def chB (ops : Array Oper) (il ia : Nat) : Array Bool → List Nat → Bool
  | T, [] => decide (Region.ready .any ops T = [il]) && decide (Region.ready .any ops (T.setIfInBounds il true) = [ia])
  | T, j :: c => (decide (Region.ready .any ops T = [il, j]) || decide (Region.ready .any ops T = [j, il])) && decide (Region.ready .any ops (T.setIfInBounds il true) = [j]) && decide (il ≠ j) && chB ops il ia (T.setIfInBounds j true) c
def Chain (P : Program) (ops : Array Oper) (ol : Oper) (dl : Tmp) (v : Value) (E : Act → World → Prop) : List (Nat × Tmp) → Act → World → Prop
  | [], a, w => (execOp a.eval ol).run P w = .ok (.value v) w ∧ E (a.put (some dl) v) w
  | (j, d) :: c, a, w => (execOp a.eval ol).run P w = .ok (.value v) w ∧ ∃ oj RC, ops[j]? = some oj ∧ oj.guard = none ∧ oj.dst = some d ∧ d ≠ dl ∧ GY P a oj w RC ∧ GY P (a.put (some dl) v) oj w RC ∧ ∀ u W, RC u W → Chain P ops ol dl v E c (a.put (some d) u) W
def All : World → Prop := fun _ => True
theorem chain_run {P : Program} {ops : Array Oper} {Q : Exit → Act → World → Prop} {ol : Oper} {il ia : Nat} {dl : Tmp} {v : Value} {E : Act → World → Prop} (hol : ops[il]? = some ol) (gl : ol.guard = none) (hdl : ol.dst = some dl) (m : Nat) :
    ∀ (c : List (Nat × Tmp)) (T : Array Bool) (a : Act) (w : World), chB ops il ia T (c.map (·.1)) = true → Chain P ops ol dl v E c a w →
      (∀ a w, E a w → wpAnyH P .any ops Q All m ((takesL T (c.map (·.1))).setIfInBounds il true) a w) →
      wpAnyH P .any ops Q All (m + c.length + 1) T a w ∧ wpAnyH P .any ops Q All (m + c.length) (T.setIfInBounds il true) (a.put (some dl) v) w
  | [], T, a, w, hB, hC, hE => by
    simp only [List.map_nil, chB, Bool.and_eq_true, decide_eq_true_eq] at hB
    obtain ⟨hl, he⟩ := hC
    have h2 := hE _ _ he
    refine ⟨?_, h2⟩
    refine wpAnyH_ready hB.1 (by simp) (AllReadyH.cons hol (fun K hK => ?_) AllReadyH.nil)
    rw [if_pos (by simp [Region.wanted, gl])]
    unfold Oper.wp
    change Oper.upon _ _ _ _ _ ((execOp a.eval ol).run P w)
    rw [hl]
    refine hK.out _ _ trivial fun _ => ?_
    rw [hdl]; exact h2
  | (j, d) :: c, T, a, w, hB, hC, hE => by
    simp only [List.map_cons, chB, Bool.and_eq_true, decide_eq_true_eq, Bool.or_eq_true] at hB
    obtain ⟨⟨⟨hr1, hr2⟩, hne⟩, hB⟩ := hB
    obtain ⟨hl, oj, RC, hoj, gj, hdj, hdd, g1, g2, hn⟩ := hC
    have h2 : wpAnyH P .any ops Q All (m + ((j, d) :: c).length) (T.setIfInBounds il true) (a.put (some dl) v) w := by
      rw [List.length_cons, ← Nat.add_assoc]
      refine wpAnyH_ready hr2 (by simp) (AllReadyH.cons hoj (fun K hK => ?_) AllReadyH.nil)
      rw [if_pos (by simp [Region.wanted, gj])]
      refine GY.wp g2 ?_
      intro u w1 hu
      refine hK.out _ _ trivial fun _ => ?_
      have ih := (chain_run hol gl hdl m c (T.setIfInBounds j true) _ _ hB (hn u w1 hu) hE).2
      rw [hdj, put_comm _ _ _ _ _ (Ne.symm hdd), Array.setIfInBounds_comm _ _ hne]
      exact ih
    refine ⟨?_, h2⟩
    rcases hr1 with hr1 | hr1
    · refine wpAnyH_ready hr1 (by simp) (AllReadyH.cons hol (fun K hK => ?_) (AllReadyH.cons hoj (fun K hK => ?_) AllReadyH.nil))
      · rw [if_pos (by simp [Region.wanted, gl])]
        unfold Oper.wp
        change Oper.upon _ _ _ _ _ ((execOp a.eval ol).run P w)
        rw [hl]
        refine hK.out _ _ trivial fun _ => ?_
        rw [hdl]; exact h2
      · rw [if_pos (by simp [Region.wanted, gj])]
        refine GY.wp g1 ?_
        intro u w1 hu
        refine hK.out _ _ trivial fun _ => ?_
        have ih := (chain_run hol gl hdl m c (T.setIfInBounds j true) _ _ hB (hn u w1 hu) hE).1
        rw [hdj]
        exact ih
    · refine wpAnyH_ready hr1 (by simp) (AllReadyH.cons hoj (fun K hK => ?_) (AllReadyH.cons hol (fun K hK => ?_) AllReadyH.nil))
      · rw [if_pos (by simp [Region.wanted, gj])]
        refine GY.wp g1 ?_
        intro u w1 hu
        refine hK.out _ _ trivial fun _ => ?_
        have ih := (chain_run hol gl hdl m c (T.setIfInBounds j true) _ _ hB (hn u w1 hu) hE).1
        rw [hdj]
        exact ih
      · rw [if_pos (by simp [Region.wanted, gl])]
        unfold Oper.wp
        change Oper.upon _ _ _ _ _ ((execOp a.eval ol).run P w)
        rw [hl]
        refine hK.out _ _ trivial fun _ => ?_
        rw [hdl]; exact h2
def chOk (ops : Array Oper) (preI : List Nat) (ch : List Nat) (il ia : Nat) (postI : List Nat) (is : Nat) : Bool :=
  let T1 := takesL (Array.replicate ops.size false) preI
  let T5 := (takesL T1 ch).setIfInBounds il true
  let T6 := T5.setIfInBounds ia true
  takesB .any ops (Array.replicate ops.size false) preI && chB ops il ia T1 ch && decide (Region.ready .any ops T5 = [ia]) && takesB .any ops T6 postI && decide (Region.ready .any ops (takesL T6 postI) = [is]) && decide (Region.ready .any ops ((takesL T6 postI).setIfInBounds is true) = []) && Region.noSelect ops && decide (ops.size = 2 + postI.length + ch.length + 1 + preI.length)
/-- what must hold ahead of the append -/
structure EndA (P : Program) (ops : Array Oper) (Q : Exit → Act → World → Prop) (post : List (Nat × Tmp × Value)) (sl xb : Operand) (os : Oper) (da : Tmp) (v : Value) (B : Nat) (e : TypeId) (size n : Nat) (xs : List Value) (bx fo : Nat) (a : Act) (W : World) (cs : List Value) (g0 : Nat) : Prop where
  sl : a.eval sl = v
  xb : a.eval xb = .slice (some ⟨g0, 0, none⟩) 1 1
  cells : ∀ j u, cs[j]? = some u → W.cell? ((⟨g0, 0, none⟩ : Addr).add j) = some u
  len : cs.length = size
  one : ∀ u ∈ cs, u.oneCell' = true
  own : W.ownsRow B e size v n xs
  base : B ≤ W.heap.size
  cell : ∃ x, W.cell? ⟨bx, fo, none⟩ = some x
  froz : W.frozen? ⟨bx, fo, none⟩ = false
  lt : bx < W.heap.size
  other : v.ownBlock ≠ some bx
  pst : ∀ g cap, takesY P ops All post (a.put (some da) (.slice (some ⟨g, 0, none⟩) (n + 1) cap))
  st : ∀ g cap W2, (∃ x, W2.cell? ⟨bx, fo, none⟩ = some x) → W2.frozen? ⟨bx, fo, none⟩ = false → (execOp (putsA (a.put (some da) (.slice (some ⟨g, 0, none⟩) (n + 1) cap)) post).eval os).run P W2 = .ok .skip (W2.setCell ⟨bx, fo, none⟩ (.slice (some ⟨g, 0, none⟩) (n + 1) cap))
  then' : ∀ g cap W2, W2.ownsRow B e size (.slice (some ⟨g, 0, none⟩) (n + 1) cap) (n + 1) (xs ++ cs) → W.grownBy W2 v.ownBlock → (v.ownBlock = some g ∨ g = W.heap.size) → g < W2.heap.size →
      Q .normal (putsA (a.put (some da) (.slice (some ⟨g, 0, none⟩) (n + 1) cap)) post) (W2.setCell ⟨bx, fo, none⟩ (.slice (some ⟨g, 0, none⟩) (n + 1) cap))
theorem wp_region_chain {P : Program} {id : Nat} {Q : Exit → Act → World → Prop} {a : Act} {w : World} {l : List Oper} (pre post : List (Nat × Tmp × Value)) (ch : List (Nat × Tmp)) (il ia is : Nat) (dl da : Tmp)
    (v : Value) (F0 : Act) (B : Nat) (e : TypeId) (size bytes n : Nat) (xs : List Value) (i : TypeInfo) (z : Value) (bx fo : Nat) (sl xb : Operand) (ts : TypeId) {ol oa os : Oper}
    (hm : P.follows .mixedOrders = true) (hB : chOk l.toArray (pre.map (·.1)) (ch.map (·.1)) il ia (post.map (·.1)) is = true)
    (hol : l.toArray[il]? = some ol) (hoa : l.toArray[ia]? = some oa) (hos : l.toArray[is]? = some os)
    (hg : ol.guard = none ∧ oa.guard = none ∧ os.guard = none) (hd : ol.dst = some dl ∧ oa.dst = some da ∧ os.dst = none)
    (hF0 : putsA a pre = F0) (hypre : takesY P l.toArray All pre a)
    (hop : oa.op = .call { callee := .builtin .append, args := #[sl, xb], argTypes := #[ts, ts] })
    (ht : P.underlying ts = some (.slice e)) (hi : P.info? e = some i) (hz : i.zero = some z) (hsize : i.size = size) (hby : i.bytes = bytes) (hzs : z.cells.size = size) (hsz : 0 < size)
    (h63 : n + 1 ≤ maxLen) (hbytes : (n + 1) * bytes ≤ 140737488355328)
    (hch : Chain P l.toArray ol dl v (fun a W => ∃ cs g0, EndA P l.toArray Q post sl xb os da v B e size n xs bx fo a W cs g0) ch F0 w.drew) :
    (Code.region id l.toArray true).wp P Q a w := by
  simp only [chOk, Bool.and_eq_true, decide_eq_true_eq] at hB
  obtain ⟨⟨⟨⟨⟨⟨⟨k1, k2⟩, k11⟩, k14⟩, k12⟩, k13⟩, hs⟩, hsz'⟩ := hB
  obtain ⟨gl, ga, go⟩ := hg
  obtain ⟨hdl, hda, hds⟩ := hd
  refine wp_region_noPanic (wp_region_any hm (wpAny_of_held (S := All) _ _ _ _ ?_))
  generalize Array.replicate l.toArray.size false = L0 at *
  rw [hsz', List.length_map, List.length_map, List.length_map]
  have hN : ∀ (d : Option Tmp) (v : Value) (c : List PanicEntry) (a : Act) (w : World), NoPanic Q (.panic c) (a.put d v) w → NoPanic Q (.panic c) a w := fun _ _ _ _ _ h => h
  refine wpAnyH_takesQ hs hN _ trivial _ pre _ _ k1 hypre ?_
  rw [hF0]
  refine (chain_run hol gl hdl (2 + post.length) ch _ _ _ k2 hch ?_).1
  rintro a1 W ⟨cs, g0, H⟩
  obtain ⟨x0, o3⟩ := H.cell
  rw [show 2 + post.length = (1 + post.length) + 1 by omega]
  refine wpAnyH_ready k11 (by simp) (AllReadyH.cons hoa (fun K hK => ?_) AllReadyH.nil)
  rw [if_pos (by simp [Region.wanted, ga])]
  refine wp_append_lies W sl xb ts hop B e i z size bytes ht hi hz hsize hby hzs hsz v n xs H.sl H.own ⟨g0, 0, none⟩ 1 1 cs H.xb (by rw [H.len, Nat.one_mul]) H.cells H.one (by omega) h63 hbytes H.base W.heap.size rfl ?_
  intro g cap W2 h1 h2 h3 h4
  have n2 : ∃ x, W2.cell? ⟨bx, fo, none⟩ = some x := ⟨x0, h2.cell o3 (fun e => H.other e.symm)⟩
  have n3 : W2.frozen? ⟨bx, fo, none⟩ = false := by
    rw [h2.frozen_far ⟨bx, fo, none⟩ H.lt (fun e => H.other e.symm)]; exact H.froz
  refine hK.out _ _ trivial fun _ => ?_
  rw [hda]
  refine wpAnyH_takesQ hs hN _ trivial 1 post _ _ k14 (H.pst _ _) ?_
  refine wpAnyH_ready k12 (by simp) (AllReadyH.cons hos (fun K2 hK2 => ?_) AllReadyH.nil)
  rw [if_pos (by simp [Region.wanted, go])]
  have hy := H.st g cap W2 n2 n3
  unfold Oper.wp
  change Oper.upon _ _ _ _ _ ((execOp _ os).run P W2)
  rw [hy]
  refine hK2.out _ _ trivial fun _ => ?_
  rw [hds]
  exact wpAnyH_done k13 (NoPanic.normal (H.then' g cap W2 h1 h2 h3 h4)) _
end Go.Proofs.Ytjnaeldaajckkaa
/- law11.clauses: what it draws. -/
set_option linter.unusedVariables false
set_option linter.unusedSimpArgs false
namespace Go.Proofs.Ytjnaeldaajckkaa
open Go.RowKit Tok Syn

theorem Chain.step {P : Program} {ops : Array Oper} {ol : Oper} {dl : Tmp} {v : Value} {E : Act → World → Prop} {j : Nat} {d : Tmp} {c : List (Nat × Tmp)} {a : Act} {w : World} (RC : Value → World → Prop) {oj : Oper}
    (hl : (execOp a.eval ol).run P w = .ok (.value v) w) (ho : ops[j]? = some oj) (hg : oj.guard = none) (hd : oj.dst = some d) (hn : d ≠ dl) (g1 : GY P a oj w RC) (g2 : GY P (a.put (some dl) v) oj w RC)
    (h : ∀ u W, RC u W → Chain P ops ol dl v E c (a.put (some d) u) W) : Chain P ops ol dl v E ((j, d) :: c) a w := ⟨hl, oj, RC, ho, hg, hd, hn, g1, g2, h⟩
theorem Chain.last {P : Program} {ops : Array Oper} {ol : Oper} {dl : Tmp} {v : Value} {E : Act → World → Prop} {a : Act} {w : World}
    (hl : (execOp a.eval ol).run P w = .ok (.value v) w) (h : E (a.put (some dl) v) w) : Chain P ops ol dl v E [] a w := ⟨hl, h⟩
theorem grownBy_own {a b c : World} {bt : Nat} {r : Option Nat} (h : a.grownBy b (some bt)) (k : b.grownBy c r) (hr : ∀ q, r = some q → a.heap.size ≤ q) : a.grownBy c (some bt) :=
  ⟨k.os.trans h.os, k.tape.trans h.tape, k.output.trans h.output, Nat.le_trans h.size k.size, fun q hq hn => (k.block q (Nat.lt_of_lt_of_le hq h.size) (fun e => by have := hr q e.symm; omega)).trans (h.block q hq hn)⟩
def valsB : List ByteArray := [⟨#[97]⟩, ⟨#[99, 108, 97, 115, 115]⟩, ⟨#[53, 37]⟩, ⟨#[49, 50]⟩, ⟨#[45, 49, 46, 53]⟩, ⟨#[49, 55, 58, 48, 48]⟩, ⟨#[44]⟩, ⟨#[85, 83, 68]⟩, ⟨#[48, 46, 50, 53, 37]⟩]
def aVals : List (List UInt8) := valsB.map (·.data.toList)
/-- a clause that is drawn -/
structure LawC (c : Cl) : Prop where
  word : c.word ∈ wordsA.map (·.data.toList)
  vals : ∀ x ∈ c.vals, x ∈ aVals
  len : c.vals.length ≤ 4
  line : c.line = 0
  col : c.col = 0
theorem strV_of (y : ByteArray) : strV y.data.toList = .string y := by simp [strV]
/-- a clause under construction -/
structure LvS (w6 : World) (bt bx : Nat) (W : World) (wd : List UInt8) (v : Value) (vs : List (List UInt8)) (at2 : Nat) : Prop where
  st : StA W bx [strV wd, v, .int .i64 0, .int .i64 0]
  own : W.ownsRow (bx + 1) 9 1 v vs.length (vs.map strV)
  ht : IsTape W bt at2
  gr : w6.grownBy W (some bt)
  vals : ∀ x ∈ vs, x ∈ aVals
  len : vs.length ≤ 4
  bx : bx = w6.heap.size
/-- clauses under construction -/
structure LcS (w : World) (bt : Nat) (W : World) (v : Value) (l : List Cl) (at2 : Nat) : Prop where
  row : ∃ D, BldR W ClR D w.heap.size 81 4 v l ∧ ∀ k, D k → w.heap.size ≤ k ∧ k < W.heap.size
  ht : IsTape W bt at2
  gr : w.grownBy W (some bt)
  good : ∀ c ∈ l, LawC c
theorem LvS.grown {w6 W W' : World} {bt bx at2 at3 : Nat} {wd : List UInt8} {v : Value} {vs : List (List UInt8)} (h : LvS w6 bt bx W wd v vs at2) (hg : W.grownBy W' (some bt)) (ht : IsTape W' bt at3) (hb : bt < w6.heap.size) : LvS w6 bt bx W' wd v vs at3 :=
  ⟨h.st.grown hg (fun e => by injection e with e; have := h.bx; omega), h.own.kept hg (by
    cases hv : v.ownBlock with
    | none => exact .inl rfl
    | some q => exact .inr fun e => by injection e with e; have := (h.own.lt q hv).1; have := h.bx; omega), ht, grownBy_trans h.gr hg, h.vals, h.len, h.bx⟩
/-- a value more -/
theorem LvS.app {w6 W0 W W2 : World} {bt bx at2 at3 g cap : Nat} {wd y : List UInt8} {v : Value} {vs : List (List UInt8)} (h : LvS w6 bt bx W0 wd v vs at2) (hg : W0.grownBy W (some bt)) (ht : IsTape W bt at3) (hb : bt < w6.heap.size) (hl : vs.length < 4) (hy : y ∈ aVals)
    (ho : W2.ownsRow (bx + 1) 9 1 (.slice (some ⟨g, 0, none⟩) (vs.length + 1) cap) (vs.length + 1) (vs.map strV ++ [strV y])) (hg2 : W.grownBy W2 v.ownBlock) (hv : v.ownBlock = some g ∨ g = W.heap.size) :
    LvS w6 bt bx (W2.setCell ⟨bx, 1, none⟩ (.slice (some ⟨g, 0, none⟩) (vs.length + 1) cap)) wd (.slice (some ⟨g, 0, none⟩) (vs.length + 1) cap) (vs ++ [y]) at3 := by
  have k := h.grown hg ht hb
  have hbx := h.bx
  have hvo : ∀ q, v.ownBlock = some q → bx + 1 ≤ q := fun q hq => (h.own.lt q hq).1
  have hst := k.st.grown hg2 (fun e => by have := hvo bx e; omega)
  have hs := hst.set 1 (.slice (some ⟨g, 0, none⟩) (vs.length + 1) cap) (by simp)
  refine ⟨hs, ?_, ?_, ?_, fun x hx => (List.mem_append.1 hx).elim (h.vals x) (fun e => by rw [List.mem_singleton.1 e]; exact hy), by rw [List.length_append]; simp; omega, hbx⟩
  · rw [List.length_append, List.map_append]
    exact ownsRow_setCell_below ho (show bx < bx + 1 by omega) _
  · have h1 := ht.grown hg2 (fun q hq => by have := hvo q hq; omega)
    refine h1.grown (row := some bx) (grownBy_setCell ⟨bx, 1, none⟩ rfl _) ?_
    intro q hq
    have e : bx = q := by injection hq
    omega
  · have h1 := grownBy_own k.gr hg2 (fun q hq => by have := hvo q hq; omega)
    refine grownBy_own (r := some bx) h1 (grownBy_setCell ⟨bx, 1, none⟩ rfl _) ?_
    intro q hq
    have e : bx = q := by injection hq
    omega
theorem LcS.grown {w W W' : World} {bt at2 at3 : Nat} {v : Value} {l : List Cl} (h : LcS w bt W v l at2) (hg : W.grownBy W' (some bt)) (ht : IsTape W' bt at3) (hb : bt < w.heap.size) : LcS w bt W' v l at3 := by
  obtain ⟨D, h1, h2⟩ := h.row
  refine ⟨⟨D, h1.upg (fun a b => ClR.up a b) hg (fun k hk => (h2 k hk).2) (fun q hq => ?_) (fun _ h => h) (fun _ h => .inl h), fun k hk => ⟨(h2 k hk).1, Nat.lt_of_lt_of_le (h2 k hk).2 hg.size⟩⟩, ht, grownBy_trans h.gr hg, h.good⟩
  injection hq with hq
  subst hq
  refine ⟨fun hd => by have := (h2 _ hd).1; omega, fun e => ?_⟩
  obtain ⟨xs, _, x2, _⟩ := h1
  have := (x2.lt _ e).1
  omega
/-- a clause more -/
theorem LcS.app {w W0 w6 W W2 : World} {bt bx at1 at2 g cap : Nat} {wd : List UInt8} {v u : Value} {l : List Cl} {vs : List (List UInt8)} {D : Nat → Prop} {xs : List Value} {o : Obj} (h : LcS w bt W0 v l at1) (hv6 : LvS w6 bt bx W wd u vs at2)
    (x1 : CellsR (ClR W0 D) l xs) (x2 : W0.ownsRow w.heap.size 81 4 v l.length xs) (x3 : ∀ g, v.ownBlock = some g → ¬ D g) (hD : ∀ k, D k → w.heap.size ≤ k ∧ k < W0.heap.size)
    (hw : wd ∈ wordsA.map (·.data.toList)) (h06 : W0.grownBy w6 (some bt)) (hb : bt < w.heap.size)
    (ho : W2.ownsRow w.heap.size 81 4 (.slice (some ⟨g, 0, none⟩) (l.length + 1) cap) (l.length + 1) (xs ++ [strV wd, u, .int .i64 0, .int .i64 0])) (hg2 : (W.alloc o).grownBy W2 v.ownBlock) (hv : v.ownBlock = some g ∨ g = W.heap.size + 1) :
    LcS w bt W2 (.slice (some ⟨g, 0, none⟩) (l.length + 1) cap) (l ++ [⟨wd, vs, 0, 0⟩]) at2 := by
  have h05 : W0.grownBy W (some bt) := grownBy_trans h06 hv6.gr
  have hs06 := h06.size
  have hsw := h.gr.size
  have hs5 := h05.size
  have hs6 := hg2.size
  have hbx := hv6.bx
  simp only [World.size_alloc] at hs6
  have hvo : ∀ q, v.ownBlock = some q → w.heap.size ≤ q := fun q hq => (x2.lt q hq).1
  refine ⟨⟨fun k => D k ∨ u.ownBlock = some k, ?_, ?_⟩, ?_, ?_, ?_⟩
  · refine BldR.round0 (W0 := W0) (W := W) (D := D) (bp := bt) (o := o) (c := [strV wd, u, .int .i64 0, .int .i64 0]) (fun a b => ClR.up a b) x1 x2 x3 (fun k hk => (hD k hk).2) h05 (fun hd => by have := (hD _ hd).1; omega) hb (fun _ h => .inl h) (fun k hk => ?_) ⟨u, rfl, .of_own hv6.own fun q hq => .inr hq⟩ ho hg2 hv
    rcases hk with hk | hk
    · exact .inl hk
    · have := hv6.own.lt k hk; exact .inr ⟨by omega, by omega⟩
  · rintro k (hk | hk)
    · have := hD k hk; omega
    · have := hv6.own.lt k hk; omega
  · exact (hv6.ht.alloc' o).grown hg2 (fun q hq => by have := hvo q hq; omega)
  · exact grownBy_own (grownBy_trans (grownBy_trans h.gr h05) (World.grownBy_alloc _ o _)) hg2 hvo
  · intro c hc
    rcases List.mem_append.1 hc with hc | hc
    · exact h.good c hc
    · rw [List.mem_singleton.1 hc]; exact ⟨hw, hv6.vals, hv6.len, rfl, rfl⟩
set_option maxRecDepth 100000 in
set_option maxHeartbeats 4000000 in
theorem lclauses_any (bt at_ : Nat) (w : World) (ht : IsTape w bt at_) (hat : at_ < 900000) :
    Calls Try.prog 54 #[.pointer (some ⟨bt, 0, none⟩)] w fun e w' => ∃ (l : List Cl) (v : Value) (E : Nat → Prop) (at2 : Nat), e = .returned v ∧ ClsD w' E v l ∧ (∀ k, E k → w.heap.size ≤ k ∧ k < w'.heap.size) ∧ (∀ c ∈ l, LawC c) ∧ l.length ≤ 3 ∧ IsTape w' bt at2 ∧ at2 ≤ at_ + 40 ∧ w.grownBy w' (some bt) := by
  have hbt := ht.lt
  have H0 : Hid (LcS w bt w (.slice none 0 0) [] at_) := Lib.hid ⟨⟨fun _ => False, BldR.nil _ _ _ _ _ _, fun _ h => h.elim⟩, ht, grownBy_refl _ _, fun _ h => by cases h⟩
  clear ht
  go_enter Try.func54, Try.ntmps54
  go_wp2_with fail
  go_loopg [3, 4] 4 (fun m acc i wr => ∃ (n : Nat) (l : List Cl) (at' : Nat), n ≤ 3 ∧ 3 - n < m ∧ l.length = n ∧ i = .int .i64 (n : Int) ∧ at' ≤ at_ + 11 * n ∧ LcS w bt wr acc l at')
  case atStart => exact ⟨0, [], _, by omega, by omega, rfl, rfl, by omega, H0.out⟩
  case round =>
    obtain ⟨n, l, at', hn, hm, hln, rfl, hat', hL⟩ := hrel
    obtain ⟨G2, hG2⟩ : ∃ G, G = gk := ⟨_, rfl⟩
    subst hG2
    obtain ⟨w4, hw4⟩ : ∃ x, x = wr := ⟨_, rfl⟩
    subst hw4
    have HL := Lib.hid hL
    have HLN := Lib.hid hln
    clear hL hln
    go_wp2_with fail
    refine (next_any bt at' 4 _ HL.out.ht (by omega) (by omega)).mono ?_
    rintro e w5 ⟨v5, rfl, ht5, hg5⟩
    have hb5 := foldI_bd v5 4 (by omega)
    generalize foldI v5 4 = r at *
    have HL5 := Lib.hid (HL.out.grown hg5 ht5 hbt)
    clear ht5 hg5 HL
    by_cases hx : (n : Int) < r
    · go_wp2_with fail
      refine (lword_any bt (at' + 1) w5 HL5.out.ht (by omega)).mono ?_
      rintro e w6 ⟨y, hy, rfl, ht6, hg6⟩
      have HY := Lib.hid hy
      have HG6 := Lib.hid hg6
      have hlt6 := ht6.lt
      have hb6 : bt < w6.heap.size := hlt6
      have HV := Lib.hid (show LvS w6 bt w6.heap.size (w6.alloc (.cells #[.string y, .slice none 0 0, .int .i64 0, .int .i64 0] 81)) y.data.toList (.slice none 0 0) [] (at' + 2) from ⟨by rw [strV_of]; exact StA.new w6 [.string y, .slice none 0 0, .int .i64 0, .int .i64 0] 81, World.ownsRow_nil _ _ _ _, ht6.alloc' _, World.grownBy_alloc _ _ _, (fun _ h => by cases h), by decide, rfl⟩)
      clear hy hg6 ht6 hlt6
      go_wp2_with fail
      go_loopg [6] 5 (fun m i wr => ∃ (vs : List (List UInt8)) (v : Value) (at2 : Nat), vs.length ≤ 4 ∧ 4 - vs.length < m ∧ i = .int .i64 (vs.length : Int) ∧ at2 ≤ at' + 2 + 2 * vs.length ∧ LvS w6 bt w6.heap.size wr y.data.toList v vs at2)
      case atStart => exact ⟨[], _, _, by simp, by simp, rfl, by simp, HV.out⟩
      case round =>
        obtain ⟨vs, v, at2, h4, hm2, rfl, hat2, hQ⟩ := hrel
        have HQ := Lib.hid hQ
        clear hQ HV
        go_wp2_with fail
        refine (next_any bt at2 5 _ HQ.out.ht (by omega) (by omega)).mono ?_
        rintro e w8 ⟨v8, rfl, ht8, hg8⟩
        have hb8 := foldI_bd v8 5 (by omega)
        generalize foldI v8 5 = r8 at *
        have HQ8 := Lib.hid (HQ.out.grown hg8 ht8 hb6)
        clear ht8 hg8 HQ
        obtain ⟨k8, hk8⟩ : ∃ k, k = vs.length := ⟨_, rfl⟩
        rw [← hk8] at h4 hm2 hat2 ⊢
        have HK8 := Lib.hid hk8
        clear hk8
        by_cases hx8 : (k8 : Int) < r8
        · go_wp2_with fail
          obtain ⟨i0, hi, hz0, hz1, hz2⟩ := info_parts Try.info9
          have hd0 : StA w8.drew w6.heap.size [strV y.data.toList, v, .int .i64 0, .int .i64 0] := HQ8.out.st.below (Below.refl _ _).drew
          refine wp_region_chain (P := Try.prog) [(0, 22, .pointer (some ⟨w6.heap.size, 1, none⟩)), (2, 24, .pointer (some ⟨bt, 0, none⟩))] [(7, 29, .pointer (some ⟨w6.heap.size, 1, none⟩))] [(3, 25), (4, 26), (5, 27)] 1 6 8 23 28 v _ (w6.heap.size + 1) 9 1 16 vs.length (vs.map strV) i0 _ w6.heap.size 1 _ _ 40 (by kernel_rfl) (by kernel_rfl) (by rfl) (by rfl) (by rfl) ⟨rfl, rfl, rfl⟩ ⟨rfl, rfl, rfl⟩ (by intros; simp only [putsA, List.foldl_cons, List.foldl_nil, Act.put, List.setIfInBounds_toArray, List.set_cons_zero, List.set_cons_succ] <;> rfl) ?_ rfl (by kernel_rfl) hi hz0 hz1 hz2 rfl (by decide) ?_ ?_ ?_
          · refine ⟨⟨_, rfl, rfl, .inl ⟨by rfl, fun _ _ => by rfl⟩⟩, ?_⟩
            simp only [Act.put, List.setIfInBounds_toArray, List.set_cons_zero, List.set_cons_succ]
            refine ⟨⟨_, rfl, rfl, .inl ⟨by rfl, fun _ _ => by rfl⟩⟩, ?_⟩
            simp only [Act.put, List.setIfInBounds_toArray, List.set_cons_zero, List.set_cons_succ]
            exact trivial
          · exact small_maxLen (by have := HK8.out; omega)
          · have := HK8.out; omega
          obtain ⟨W1, hW1⟩ : ∃ x, x = w8.drew.alloc (.cells (valsB.map Value.string).toArray 9) := ⟨_, rfl⟩
          have hg1 : w8.grownBy W1 (some bt) := by rw [hW1]; exact grownBy_below ((Below.refl w8.heap.size w8).drew.alloc (by simp) _) _
          have hc1 : ∀ j u, valsB[j]? = some u → W1.cell? ⟨w8.heap.size, j, none⟩ = some (.string u) := by rw [hW1]; exact strs_new w8.drew valsB 9
          have ht1 : IsTape W1 bt (at2 + 1) := by rw [hW1]; exact IsTape.alloc' (IsTape.below HQ8.out.ht (Below.refl _ _).drew) _
          have q1 := HQ8.out.grown hg1 ht1 hb6
          have hsz8 := HQ8.out.gr.size
          refine Chain.step (fun u W => u = .slice (some ⟨w8.heap.size, 0, none⟩) 9 9 ∧ W = W1) (by have h1 := hd0.c 1 _ rfl; simp [execOp, Act.eval, go_sem, h1]) (by rfl) rfl rfl (by decide) (GY.value (v := .slice (some ⟨w8.heap.size, 0, none⟩) 9 9) (w' := W1) (by rw [hW1]; simp [execOp, Act.eval, go_sem, valsB]) ⟨rfl, rfl⟩) (GY.value (v := .slice (some ⟨w8.heap.size, 0, none⟩) 9 9) (w' := W1) (by rw [hW1]; simp [execOp, Act.eval, go_sem, valsB]) ⟨rfl, rfl⟩) ?_
          rintro u W ⟨rfl, rfl⟩
          refine Chain.step (fun u W2 => ∃ z ∈ valsB, u = .string z ∧ IsTape W2 bt (at2 + 2) ∧ W.grownBy W2 (some bt)) (by have h1 := q1.st.c 1 _ rfl; simp [execOp, Act.eval, go_sem, h1]) (by rfl) rfl rfl (by decide) ?_ ?_ ?_
          · refine GY.call (by simp [execOp, Act.eval, go_sem]) ((one_n bt (at2 + 1) w8.heap.size 9 9 valsB _ rfl ht1 (by omega) (by omega) (by omega) (by omega) hc1).mono ?_)
            rintro e w9 ⟨z, hz, rfl, ht9, hg9⟩
            exact ⟨_, rfl, z, hz, rfl, ht9, hg9⟩
          · refine GY.call (by simp [execOp, Act.eval, go_sem]) ((one_n bt (at2 + 1) w8.heap.size 9 9 valsB _ rfl ht1 (by omega) (by omega) (by omega) (by omega) hc1).mono ?_)
            rintro e w9 ⟨z, hz, rfl, ht9, hg9⟩
            exact ⟨_, rfl, z, hz, rfl, ht9, hg9⟩
          rintro u W2 ⟨z, hz, rfl, ht9, hg9⟩
          have q2 := q1.grown hg9 ht9 hb6
          have q3 := q2.grown (World.grownBy_alloc W2 (.cells #[.string z] 9) (some bt)) (ht9.alloc' _) hb6
          refine Chain.step (fun u W3 => u = .slice (some ⟨W2.heap.size, 0, none⟩) 1 1 ∧ W3 = W2.alloc (.cells #[.string z] 9)) (by have h1 := q2.st.c 1 _ rfl; simp [execOp, Act.eval, go_sem, h1]) (by rfl) rfl rfl (by decide) (GY.value (v := .slice (some ⟨W2.heap.size, 0, none⟩) 1 1) (w' := W2.alloc (.cells #[.string z] 9)) (by simp [execOp, Act.eval, go_sem]) ⟨rfl, rfl⟩) (GY.value (v := .slice (some ⟨W2.heap.size, 0, none⟩) 1 1) (w' := W2.alloc (.cells #[.string z] 9)) (by simp [execOp, Act.eval, go_sem]) ⟨rfl, rfl⟩) ?_
          rintro u W3 ⟨rfl, rfl⟩
          refine Chain.last (by have h1 := q3.st.c 1 _ rfl; simp [execOp, Act.eval, go_sem, h1]) ⟨[.string z], W2.heap.size, ?_⟩
          refine { sl := rfl, xb := rfl, cells := cells_new W2 [.string z] 9, len := rfl, one := by simp [Value.oneCell'], own := q3.own, base := q3.st.lt, cell := ⟨_, q3.st.c 1 _ rfl⟩, froz := q3.st.f 1, lt := q3.st.lt, other := fun e => by have := (q3.own.lt _ e).1; omega, pst := fun _ _ => ⟨⟨_, rfl, rfl, .inl ⟨by rfl, fun _ _ => by rfl⟩⟩, trivial⟩, st := ?_, then' := ?_ }
          · rintro g cap W4 ⟨x, hx⟩ hf
            simp only [putsA, List.foldl_cons, List.foldl_nil, Act.put, List.setIfInBounds_toArray, List.set_cons_zero, List.set_cons_succ]
            simp [execOp, Act.eval, go_sem, hx, hf]
          intro g cap W4 h1 h2 h3 h4
          simp only [putsA, List.foldl_cons, List.foldl_nil, Act.put, List.setIfInBounds_toArray, List.set_cons_zero, List.set_cons_succ]
          have HN := Lib.hid (HQ8.out.app (y := z.data.toList) (at3 := at2 + 2) (grownBy_trans hg1 (grownBy_trans hg9 (World.grownBy_alloc W2 _ _))) (ht9.alloc' _) hb6 (by have := HK8.out; omega) (List.mem_map.2 ⟨z, hz, rfl⟩) (by rw [strV_of]; exact h1) h2 h3)
          clear h1 h2 h3 h4 q1 q2 q3 hg1 hc1 ht1 hsz8 hW1 ht9 hg9 hz hd0 hi hz0 hz1 hz2 HQ8
          go_wp2
          go_roundg (gk - 1)
          case measure => omega
          case rel => exact ⟨vs ++ [z.data.toList], _, at2 + 2, by rw [List.length_append, ← HK8.out]; simp; omega, by rw [List.length_append, ← HK8.out]; simp; omega, by rw [List.length_append, ← HK8.out]; go_num, by rw [List.length_append, ← HK8.out]; simp; omega, HN.out⟩
        · obtain ⟨D, ⟨xs, x1, x2, x3⟩, hD⟩ := HL5.out.row
          obtain ⟨A, cp, hu3⟩ := own_form x2
          subst hu3
          obtain ⟨A3, c3, hv3⟩ := own_form HQ8.out.own
          subst hv3
          have z0 := HQ8.out.st.c 0 _ rfl
          have z1 := HQ8.out.st.c 1 _ rfl
          have z2 := HQ8.out.st.c 2 _ rfl
          have z3 := HQ8.out.st.c 3 _ rfl
          rw [strV_of] at z0
          have hg58 := grownBy_trans HG6.out HQ8.out.gr
          have hoW : w8.ownsRow w.heap.size 81 4 (.slice A l.length cp) l.length xs := x2.kept hg58 (by cases hv : (Value.slice A l.length cp).ownBlock with | none => exact .inl rfl | some q => exact .inr fun e => by injection e with e; have := (x2.lt q hv).1; omega)
          have hs8 : w.heap.size ≤ w8.heap.size := Nat.le_trans HL5.out.gr.size hg58.size
          obtain ⟨i0, hi, hz0, hz1, hz2⟩ := info_parts Try.info81
          have hl3 : l.length ≤ 3 := by have := HLN.out; omega
          have HX1 := Lib.hid x1
          have HX2 := Lib.hid x2
          have HX3 := Lib.hid x3
          have HDD := Lib.hid hD
          have HOW := Lib.hid hoW
          clear x1 x2 x3 hD hoW hg58
          go_wp2_with (at_builtin; refine wpList_append_lies _ rfl _ _ 72 rfl w.heap.size 81 i0 _ 4 56 Try.underlying72 hi hz0 hz1 hz2 rfl (by decide) _ _ xs rfl (HOW.out.alloc _) ⟨w8.heap.size, 0, none⟩ 1 1 [.string y, .slice A3 vs.length c3, .int .i64 0, .int .i64 0] rfl rfl ?_ ?_ ?_ ?_ ?_ ?_ (w8.heap.size + 1) ?_ ?_; exact cells_new _ _ _; (simp [Value.oneCell']); omega; exact small_maxLen (by omega); omega; (first | omega | (simp; omega)); (first | rfl | simp))
          intro g cap w9 h1 h2 h3 h4
          have HN := Lib.hid (HL5.out.app HQ8.out HX1.out HX2.out HX3.out HDD.out (List.mem_map.2 ⟨y, HY.out, rfl⟩) HG6.out hbt (by rw [strV_of]; exact h1) h2 h3)
          clear h1 h2 h3 h4 z0 z1 z2 z3 hi hz0 hz1 hz2
          go_wp2
          go_roundg (G2 - 1)
          case measure => omega
          case rel => exact ⟨n + 1, _, at2 + 1, by omega, by omega, by rw [List.length_append, HLN.out]; rfl, by go_num, by omega, HN.out⟩
    · obtain ⟨D, hbl, hD⟩ := HL5.out.row
      obtain ⟨xs, x1, x2, x3⟩ := hbl
      obtain ⟨A, cp, hu3⟩ := own_form x2
      subst hu3
      have HX1 := Lib.hid x1
      have HX2 := Lib.hid x2
      have HX3 := Lib.hid x3
      have HDD := Lib.hid hD
      clear x1 x2 x3 hD
      go_wp2
      go_ret
      refine ⟨l, _, fun k => D k ∨ (Value.slice A l.length cp).ownBlock = some k, at' + 1, rfl, BldR.fin (D := D) ⟨xs, HX1.out, HX2.out, HX3.out⟩ (fun a b => ClR.up a b) (fun _ => Iff.rfl), ?_, HL5.out.good, by rw [HLN.out]; omega, HL5.out.ht, by omega, HL5.out.gr⟩
      rintro k (hk | hk)
      · exact HDD.out k hk
      · exact HX2.out.lt k hk
end Go.Proofs.Ytjnaeldaajckkaa
/- law11.blocks: what it draws. -/
set_option linter.unusedVariables false
set_option linter.unusedSimpArgs false
namespace Go.Proofs.Ytjnaeldaajckkaa
open Go.RowKit Tok Syn

def clsB : List ByteArray := [⟨#[99, 108, 97, 115, 115]⟩, ⟨#[97]⟩, ⟨#[98]⟩]
/-- a class that is drawn -/
structure LawK (c : Cb) : Prop where
  name : c.name ∈ clsB.map (·.data.toList)
  cls : ∀ x ∈ c.cls, LawC x
  len : c.cls.length ≤ 3
  line : c.line = 0
  col : c.col = 0
/-- a block that is drawn -/
structure LawB (b : Bk) : Prop where
  name : b.name ∈ wordsA.map (·.data.toList)
  cls : ∀ x ∈ b.cls, LawC x
  len : b.cls.length ≤ 3
  cbs : ∀ x ∈ b.cbs, LawK x
  len2 : b.cbs.length ≤ 2
  line : b.line = 0
  col : b.col = 0
/-- a block under construction -/
structure LkS (lo bt bx : Nat) (w5 W : World) (wd : List UInt8) (u1 : Value) (cl : List Cl) (v : Value) (ks : List Cb) (at2 : Nat) : Prop where
  st : StA W bx [strV wd, u1, v, .int .i64 0, .int .i64 0]
  row : ∃ D, ClsD W D u1 cl ∧ BldR W CbR D (bx + 1) 84 4 v ks ∧ ∀ k, D k → lo ≤ k ∧ k < W.heap.size ∧ k ≠ bx
  ht : IsTape W bt at2
  gr : w5.grownBy W (some bt)
  good : ∀ c ∈ ks, LawK c
  len : ks.length ≤ 2
  bx : lo ≤ bx
  lo : lo = w5.heap.size
/-- blocks under construction -/
structure LbS (w : World) (bt : Nat) (W : World) (v : Value) (l : List Bk) (at2 : Nat) : Prop where
  row : ∃ D, BldR W BkR D w.heap.size 75 5 v l ∧ ∀ k, D k → w.heap.size ≤ k ∧ k < W.heap.size
  ht : IsTape W bt at2
  gr : w.grownBy W (some bt)
  good : ∀ c ∈ l, LawB c
theorem LkS.own {lo bt bx at2 : Nat} {w5 W : World} {wd : List UInt8} {u1 v : Value} {cl : List Cl} {ks : List Cb} (h : LkS lo bt bx w5 W wd u1 cl v ks at2) : ∃ xs, W.ownsRow (bx + 1) 84 4 v ks.length xs := by
  obtain ⟨D, _, ⟨xs, _, x2, _⟩, _⟩ := h.row
  exact ⟨xs, x2⟩
theorem LkS.grown {lo bt bx at2 at3 : Nat} {w5 W W' : World} {wd : List UInt8} {u1 v : Value} {cl : List Cl} {ks : List Cb} (h : LkS lo bt bx w5 W wd u1 cl v ks at2) (hg : W.grownBy W' (some bt)) (ht : IsTape W' bt at3) (hb : bt < lo) : LkS lo bt bx w5 W' wd u1 cl v ks at3 := by
  obtain ⟨D, h1, h2, h3⟩ := h.row
  have hbx := h.bx
  have hD : ∀ k, D k → k < W.heap.size := fun k hk => (h3 k hk).2.1
  have hnb : ∀ q, some bt = some q → ¬ D q := fun q hq hd => by injection hq with hq; have := (h3 q hd).1; omega
  refine ⟨h.st.grown hg (fun e => by injection e with e; omega), ⟨D, h1.up (.grown hg hD hnb) (fun _ h => h), h2.upg (fun a b => CbR.up a b) hg hD (fun q hq => ⟨hnb q hq, fun e => ?_⟩) (fun _ h => h) (fun _ h => .inl h), fun k hk => ⟨(h3 k hk).1, Nat.lt_of_lt_of_le (h3 k hk).2.1 hg.size, (h3 k hk).2.2⟩⟩, ht, grownBy_trans h.gr hg, h.good, h.len, h.bx, h.lo⟩
  injection hq with hq
  obtain ⟨xs, _, x2, _⟩ := h2
  have := (x2.lt _ e).1
  omega
/-- a class more -/
theorem LkS.app {lo bt bx at2 at3 g cap : Nat} {w5 W0 Wz W W2 : World} {wd nm : List UInt8} {u1 v u : Value} {cl c2 : List Cl} {ks : List Cb} {D E : Nat → Prop} {xs : List Value} {o : Obj} (h : LkS lo bt bx w5 W0 wd u1 cl v ks at2)
    (hc1 : ClsD W0 D u1 cl) (x1 : CellsR (CbR W0 D) ks xs) (x2 : W0.ownsRow (bx + 1) 84 4 v ks.length xs) (x3 : ∀ g, v.ownBlock = some g → ¬ D g) (hD : ∀ k, D k → lo ≤ k ∧ k < W0.heap.size ∧ k ≠ bx)
    (hz : W0.grownBy Wz (some bt)) (hg : Wz.grownBy W (some bt)) (ht : IsTape W bt at3) (hb : bt < lo)
    (hc2 : ClsD W E u c2) (hE : ∀ k, E k → Wz.heap.size ≤ k ∧ k < W.heap.size) (hk : LawK ⟨nm, c2, 0, 0⟩) (hl : ks.length < 2)
    (ho : W2.ownsRow (bx + 1) 84 4 (.slice (some ⟨g, 0, none⟩) (ks.length + 1) cap) (ks.length + 1) (xs ++ [strV nm, u, .int .i64 0, .int .i64 0])) (hg2 : (W.alloc o).grownBy W2 v.ownBlock) (hv : v.ownBlock = some g ∨ g = (W.alloc o).heap.size) :
    LkS lo bt bx w5 (W2.setCell ⟨bx, 2, none⟩ (.slice (some ⟨g, 0, none⟩) (ks.length + 1) cap)) wd u1 cl (.slice (some ⟨g, 0, none⟩) (ks.length + 1) cap) (ks ++ [⟨nm, c2, 0, 0⟩]) at3 := by
  have hbx := h.bx
  have hlo := h.lo
  have hgW := grownBy_trans hz hg
  have hsz := hz.size
  have hsw := hgW.size
  have hs2 := hg2.size
  simp only [World.size_alloc] at hs2 hv
  have hlt := h.st.lt
  have hvo : ∀ q, v.ownBlock = some q → bx + 1 ≤ q := fun q hq => (x2.lt q hq).1
  have hnb : ∀ q, some bt = some q → ¬ D q := fun q hq hd => by injection hq with hq; have := (hD q hd).1; omega
  have hDl : ∀ k, D k → k < W0.heap.size := fun k hk => (hD k hk).2.1
  have hdx : ¬ D bx := fun hd => (hD bx hd).2.2 rfl
  have hex : ¬ E bx := fun hd => by have := (hE bx hd).1; omega
  have k1 : KeepsD D W0 W := .grown hgW hDl hnb
  have k2 : KeepsD D W (W.alloc o) := .below ((Below.refl _ _).alloc (Nat.le_refl _) o) (fun k hk => by have := hDl k hk; omega)
  have k3 : KeepsD D (W.alloc o) W2 := .grown hg2 (fun k hk => by have := hDl k hk; simp; omega) x3
  have k4 : KeepsD D W2 (W2.setCell ⟨bx, 2, none⟩ (.slice (some ⟨g, 0, none⟩) (ks.length + 1) cap)) := .set _ _ hdx
  have hst := ((((h.st.grown hgW (fun e => by injection e with e; omega)).below ((Below.refl _ _).alloc (Nat.le_refl _) o)).grown hg2 (fun e => by have := hvo bx e; omega)).set 2 (.slice (some ⟨g, 0, none⟩) (ks.length + 1) cap) (by simp))
  refine ⟨hst, ⟨fun k => D k ∨ E k, hc1.up ((k1.trans k2).trans (k3.trans k4)) (fun _ h => .inl h), ?_, ?_⟩, ?_, ?_, ?_, by rw [List.length_append]; simp; omega, h.bx, h.lo⟩
  · refine BldR.round (W0 := W0) (W := W) (D := D) (bp := bt) (o := o) (c := [strV nm, u, .int .i64 0, .int .i64 0]) (fun a b => CbR.up a b) x1 x2 x3 hDl hgW (hnb bt rfl) (by omega) (fun _ h => .inl h) (fun k hk => ?_) ⟨u, rfl, hc2.up (.refl _ _) (fun _ h => .inr h)⟩ (by omega) (fun hd => hd.elim hdx hex) (by omega) ho hg2 hv
    rcases hk with hk | hk
    · exact .inl hk
    · have := hE k hk; exact .inr ⟨by omega, by omega⟩
  · rintro k (hk | hk)
    · have := hD k hk; simp [World.setCell]; omega
    · have := hE k hk; simp [World.setCell]; omega
  · have h1 := (IsTape.alloc' ht o).grown hg2 (fun q hq => by have := hvo q hq; omega)
    refine IsTape.grown (row := some bx) h1 (grownBy_setCell ⟨bx, 2, none⟩ rfl _) ?_
    intro q hq
    have e : bx = q := by injection hq
    omega
  · have h1 := grownBy_own (grownBy_trans (grownBy_trans h.gr hgW) (World.grownBy_alloc W o _)) hg2 (fun q hq => by have := hvo q hq; omega)
    refine grownBy_own (r := some bx) h1 (grownBy_setCell ⟨bx, 2, none⟩ rfl _) ?_
    intro q hq
    have e : bx = q := by injection hq
    omega
  · intro c hc
    rcases List.mem_append.1 hc with hc | hc
    · exact h.good c hc
    · rw [List.mem_singleton.1 hc]; exact hk
theorem LbS.grown {w W W' : World} {bt at2 at3 : Nat} {v : Value} {l : List Bk} (h : LbS w bt W v l at2) (hg : W.grownBy W' (some bt)) (ht : IsTape W' bt at3) (hb : bt < w.heap.size) : LbS w bt W' v l at3 := by
  obtain ⟨D, h1, h2⟩ := h.row
  refine ⟨⟨D, h1.upg (fun a b => BkR.up a b) hg (fun k hk => (h2 k hk).2) (fun q hq => ?_) (fun _ h => h) (fun _ h => .inl h), fun k hk => ⟨(h2 k hk).1, Nat.lt_of_lt_of_le (h2 k hk).2 hg.size⟩⟩, ht, grownBy_trans h.gr hg, h.good⟩
  injection hq with hq
  subst hq
  refine ⟨fun hd => by have := (h2 _ hd).1; omega, fun e => ?_⟩
  obtain ⟨xs, _, x2, _⟩ := h1
  have := (x2.lt _ e).1
  omega
/-- a block more -/
theorem LbS.app {lo bt bx at1 at2 g cap : Nat} {w W0 w5 W W2 : World} {wd : List UInt8} {u1 v u : Value} {cl : List Cl} {ks : List Cb} {l : List Bk} {D : Nat → Prop} {xs : List Value} {o : Obj} (h : LbS w bt W0 v l at1) (hk : LkS lo bt bx w5 W wd u1 cl u ks at2)
    (x1 : CellsR (BkR W0 D) l xs) (x2 : W0.ownsRow w.heap.size 75 5 v l.length xs) (x3 : ∀ g, v.ownBlock = some g → ¬ D g) (hD : ∀ k, D k → w.heap.size ≤ k ∧ k < W0.heap.size)
    (hbk : LawB ⟨wd, cl, ks, 0, 0⟩) (h05 : W0.grownBy w5 (some bt)) (hb : bt < w.heap.size)
    (ho : W2.ownsRow w.heap.size 75 5 (.slice (some ⟨g, 0, none⟩) (l.length + 1) cap) (l.length + 1) (xs ++ [strV wd, u1, u, .int .i64 0, .int .i64 0])) (hg2 : (W.alloc o).grownBy W2 v.ownBlock) (hv : v.ownBlock = some g ∨ g = W.heap.size + 1) :
    LbS w bt W2 (.slice (some ⟨g, 0, none⟩) (l.length + 1) cap) (l ++ [⟨wd, cl, ks, 0, 0⟩]) at2 := by
  have h0W := grownBy_trans h05 hk.gr
  have hs05 := h05.size
  have hsw := h.gr.size
  have hs5 := h0W.size
  have hs6 := hg2.size
  have hbx := hk.bx
  have hlo := hk.lo
  simp only [World.size_alloc] at hs6
  have hvo : ∀ q, v.ownBlock = some q → w.heap.size ≤ q := fun q hq => (x2.lt q hq).1
  obtain ⟨F, f1, f2, f3⟩ := hk.row
  have f2' := f2
  obtain ⟨ys, y1, y2, y3⟩ := f2'
  have hfin := f2.fin (D' := fun k => F k ∨ u.ownBlock = some k) (fun a b => CbR.up a b) (fun _ => Iff.rfl)
  refine ⟨⟨fun k => D k ∨ (F k ∨ u.ownBlock = some k), ?_, ?_⟩, ?_, ?_, ?_⟩
  · refine BldR.round0 (W0 := W0) (W := W) (D := D) (bp := bt) (o := o) (c := [strV wd, u1, u, .int .i64 0, .int .i64 0]) (fun a b => BkR.up a b) x1 x2 x3 (fun k hk => (hD k hk).2) h0W (fun hd => by have := (hD _ hd).1; omega) hb (fun _ h => .inl h) (fun k hk => ?_) ⟨u1, u, rfl, f1.up (.refl _ _) (fun _ h => .inr (.inl h)), CbsD.up hfin (.refl _ _) (fun _ h => .inr h)⟩ ho hg2 hv
    rcases hk with hk | hk | hk
    · exact .inl hk
    · have := f3 k hk; exact .inr ⟨by omega, by omega⟩
    · have := y2.lt k hk; exact .inr ⟨by omega, by omega⟩
  · rintro k (hk | hk | hk)
    · have := hD k hk; omega
    · have := f3 k hk; omega
    · have := y2.lt k hk; omega
  · exact (IsTape.alloc' hk.ht o).grown hg2 (fun q hq => by have := hvo q hq; omega)
  · exact grownBy_own (grownBy_trans (grownBy_trans h.gr h0W) (World.grownBy_alloc _ o _)) hg2 hvo
  · intro c hc
    rcases List.mem_append.1 hc with hc | hc
    · exact h.good c hc
    · rw [List.mem_singleton.1 hc]; exact hbk
theorem clsD_form' {w : World} {D : Nat → Prop} {v : Value} {l : List Cl} (h : ClsD w D v l) : ∃ A c, v = .slice A l.length c := clsD_form h
set_option maxRecDepth 100000 in
set_option maxHeartbeats 4000000 in
theorem lblocks_any (bt at_ : Nat) (w : World) (ht : IsTape w bt at_) (hat : at_ < 100000) :
    Calls Try.prog 37 #[.pointer (some ⟨bt, 0, none⟩)] w fun e w' => ∃ (l : List Bk) (v : Value) (E : Nat → Prop), e = .returned v ∧ BksD w' E v l ∧ (∀ k, E k → w.heap.size ≤ k ∧ k < w'.heap.size) ∧ (∀ c ∈ l, LawB c) ∧ l.length ≤ 2 ∧ w.grownBy w' (some bt) := by
  have hbt := ht.lt
  have H0 : Hid (LbS w bt w (.slice none 0 0) [] at_) := Lib.hid ⟨⟨fun _ => False, BldR.nil _ _ _ _ _ _, fun _ h => h.elim⟩, ht, grownBy_refl _ _, fun _ h => by cases h⟩
  clear ht
  go_enter Try.func37, Try.ntmps37
  go_wp2_with fail
  go_loopg [3, 4] 3 (fun m acc i wr => ∃ (n : Nat) (l : List Bk) (at' : Nat), n ≤ 2 ∧ 2 - n < m ∧ l.length = n ∧ i = .int .i64 (n : Int) ∧ at' ≤ at_ + 150 * n ∧ LbS w bt wr acc l at')
  case atStart => exact ⟨0, [], _, by omega, by omega, rfl, rfl, by omega, H0.out⟩
  case round =>
    obtain ⟨n, l, at', hn, hm, hln, rfl, hat', hL⟩ := hrel
    obtain ⟨G2, hG2⟩ : ∃ G, G = gk := ⟨_, rfl⟩
    subst hG2
    obtain ⟨w4, hw4⟩ : ∃ x, x = wr := ⟨_, rfl⟩
    subst hw4
    have HL := Lib.hid hL
    have HLN := Lib.hid hln
    clear hL hln
    go_wp2_with fail
    refine (next_any bt at' 3 _ HL.out.ht (by omega) (by omega)).mono ?_
    rintro e w5 ⟨v5, rfl, ht5, hg5⟩
    have hb5 := foldI_bd v5 3 (by omega)
    generalize foldI v5 3 = r at *
    have HL5 := Lib.hid (HL.out.grown hg5 ht5 hbt)
    clear ht5 hg5 HL
    by_cases hx : (n : Int) < r
    · go_wp2_with fail
      refine (lword_any bt (at' + 1) w5 HL5.out.ht (by omega)).mono ?_
      rintro e w6 ⟨y, hy, rfl, ht6, hg6⟩
      have HY := Lib.hid hy
      have HG6 := Lib.hid hg6
      have HT6 := Lib.hid ht6
      clear hy hg6 ht6
      go_wp2_with fail
      refine (lclauses_any bt (at' + 1 + 1) w6 HT6.out (by omega)).mono ?_
      rintro e w7 ⟨cl, u1, E1, at7, rfl, hc7, hE7, hgd7, hl7, ht7, hat7, hg7⟩
      obtain ⟨A1, p1, hu1⟩ := clsD_form hc7
      subst hu1
      obtain ⟨n1, hn1⟩ : ∃ k, k = cl.length := ⟨_, rfl⟩
      rw [← hn1] at hc7 ⊢
      have hlt6 : bt < w6.heap.size := HT6.out.lt
      have HK := Lib.hid (show LkS w6.heap.size bt w7.heap.size w6 (w7.alloc (.cells #[.string y, .slice A1 n1 p1, .slice none 0 0, .int .i64 0, .int .i64 0] 75)) y.data.toList (.slice A1 n1 p1) cl (.slice none 0 0) [] at7 from
        ⟨by rw [strV_of]; exact StA.new w7 [.string y, .slice A1 n1 p1, .slice none 0 0, .int .i64 0, .int .i64 0] 75, ⟨E1, hc7.up (.below ((Below.refl _ _).alloc (Nat.le_refl _) _) (fun k hk => (hE7 k hk).2)) (fun _ h => h), BldR.nil _ _ _ _ _ _, fun k hk => ⟨(hE7 k hk).1, by have := (hE7 k hk).2; simp; omega, by have := (hE7 k hk).2; omega⟩⟩, IsTape.alloc' ht7 _, grownBy_trans hg7 (World.grownBy_alloc _ _ _), (fun _ h => by cases h), by decide, hg7.size, rfl⟩)
      have HGD := Lib.hid hgd7
      have HL7 := Lib.hid (show cl.length ≤ 3 from hl7)
      clear hc7 hE7 hgd7 ht7 hg7 hn1 hl7
      go_wp2_with fail
      go_loopg [6] 3 (fun m i wr => ∃ (ks : List Cb) (v : Value) (at2 : Nat), ks.length ≤ 2 ∧ 2 - ks.length < m ∧ i = .int .i64 (ks.length : Int) ∧ at2 ≤ at7 + 45 * ks.length ∧ LkS w6.heap.size bt w7.heap.size w6 wr y.data.toList (.slice A1 n1 p1) cl v ks at2)
      case atStart => exact ⟨[], _, _, by simp, by simp, rfl, by simp, HK.out⟩
      case round =>
        obtain ⟨ks, v, at2, h4, hm2, rfl, hat2, hQ⟩ := hrel
        have HQ := Lib.hid hQ
        clear hQ HK
        go_wp2_with fail
        refine (next_any bt at2 3 _ HQ.out.ht (by omega) (by omega)).mono ?_
        rintro e w8 ⟨v8, rfl, ht8, hg8⟩
        have hb8 := foldI_bd v8 3 (by omega)
        generalize foldI v8 3 = r8 at *
        have HQ8 := Lib.hid (HQ.out.grown hg8 ht8 hlt6)
        clear ht8 hg8 HQ
        obtain ⟨k8, hk8⟩ : ∃ k, k = ks.length := ⟨_, rfl⟩
        rw [← hk8] at h4 hm2 hat2 ⊢
        have HK8 := Lib.hid hk8
        clear hk8
        by_cases hx8 : (k8 : Int) < r8
        · go_wp2_with fail
          obtain ⟨i0, hi, hz0, hz1, hz2⟩ := info_parts Try.info84
          obtain ⟨D, hc1, ⟨xs, x1, x2, x3⟩, hD⟩ := HQ8.out.row
          have hd0 : StA w8.drew w7.heap.size [strV y.data.toList, .slice A1 n1 p1, v, .int .i64 0, .int .i64 0] := HQ8.out.st.below (Below.refl _ _).drew
          refine wp_region_chain (P := Try.prog) [(0, 24, .pointer (some ⟨w7.heap.size, 2, none⟩)), (2, 26, .pointer (some ⟨bt, 0, none⟩)), (5, 29, .pointer (some ⟨bt, 0, none⟩))] [(10, 34, .pointer (some ⟨w7.heap.size, 2, none⟩))] [(3, 27), (4, 28), (6, 30), (7, 31), (8, 32)] 1 9 11 25 33 v _ (w7.heap.size + 1) 84 4 56 ks.length xs i0 _ w7.heap.size 2 _ _ 73 (by kernel_rfl) (by kernel_rfl) (by rfl) (by rfl) (by rfl) ⟨rfl, rfl, rfl⟩ ⟨rfl, rfl, rfl⟩ (by intros; simp only [putsA, List.foldl_cons, List.foldl_nil, Act.put, List.setIfInBounds_toArray, List.set_cons_zero, List.set_cons_succ] <;> rfl) ?_ rfl (by kernel_rfl) hi hz0 hz1 hz2 rfl (by decide) ?_ ?_ ?_
          · refine ⟨⟨_, rfl, rfl, .inl ⟨by rfl, fun _ _ => by rfl⟩⟩, ?_⟩
            simp only [Act.put, List.setIfInBounds_toArray, List.set_cons_zero, List.set_cons_succ]
            refine ⟨⟨_, rfl, rfl, .inl ⟨by rfl, fun _ _ => by rfl⟩⟩, ?_⟩
            simp only [Act.put, List.setIfInBounds_toArray, List.set_cons_zero, List.set_cons_succ]
            refine ⟨⟨_, rfl, rfl, .inl ⟨by rfl, fun _ _ => by rfl⟩⟩, ?_⟩
            simp only [Act.put, List.setIfInBounds_toArray, List.set_cons_zero, List.set_cons_succ]
            exact trivial
          · exact small_maxLen (by have := HK8.out; omega)
          · have := HK8.out; omega
          obtain ⟨W1, hW1⟩ : ∃ x, x = w8.drew.alloc (.cells (clsB.map Value.string).toArray 9) := ⟨_, rfl⟩
          have hg1 : w8.grownBy W1 (some bt) := by rw [hW1]; exact grownBy_below ((Below.refl w8.heap.size w8).drew.alloc (by simp) _) _
          have hc1' : ∀ j u, clsB[j]? = some u → W1.cell? ⟨w8.heap.size, j, none⟩ = some (.string u) := by rw [hW1]; exact strs_new w8.drew clsB 9
          have ht1 : IsTape W1 bt (at2 + 1) := by rw [hW1]; exact IsTape.alloc' (IsTape.below HQ8.out.ht (Below.refl _ _).drew) _
          have q1 := HQ8.out.grown hg1 ht1 hlt6
          have hsz8 := HQ8.out.gr.size
          refine Chain.step (fun u W => u = .slice (some ⟨w8.heap.size, 0, none⟩) 3 3 ∧ W = W1) (by have h1 := hd0.c 2 _ rfl; simp [execOp, Act.eval, go_sem, h1]) (by rfl) rfl rfl (by decide) (GY.value (v := .slice (some ⟨w8.heap.size, 0, none⟩) 3 3) (w' := W1) (by rw [hW1]; simp [execOp, Act.eval, go_sem, clsB]) ⟨rfl, rfl⟩) (GY.value (v := .slice (some ⟨w8.heap.size, 0, none⟩) 3 3) (w' := W1) (by rw [hW1]; simp [execOp, Act.eval, go_sem, clsB]) ⟨rfl, rfl⟩) ?_
          rintro u W ⟨rfl, rfl⟩
          simp only [Act.put, List.setIfInBounds_toArray, List.set_cons_zero, List.set_cons_succ]
          refine Chain.step (fun u W2 => ∃ z ∈ clsB, u = .string z ∧ IsTape W2 bt (at2 + 2) ∧ W.grownBy W2 (some bt)) (by have h1 := q1.st.c 2 _ rfl; simp [execOp, Act.eval, go_sem, h1]) (by rfl) rfl rfl (by decide) ?_ ?_ ?_
          · refine GY.call (by simp [execOp, Act.eval, go_sem]) ((one_n bt (at2 + 1) w8.heap.size 3 3 clsB _ rfl ht1 (by omega) (by omega) (by omega) (by omega) hc1').mono ?_)
            rintro e w9 ⟨z, hz, rfl, ht9, hg9⟩
            exact ⟨_, rfl, z, hz, rfl, ht9, hg9⟩
          · refine GY.call (by simp [execOp, Act.eval, go_sem]) ((one_n bt (at2 + 1) w8.heap.size 3 3 clsB _ rfl ht1 (by omega) (by omega) (by omega) (by omega) hc1').mono ?_)
            rintro e w9 ⟨z, hz, rfl, ht9, hg9⟩
            exact ⟨_, rfl, z, hz, rfl, ht9, hg9⟩
          rintro u W2 ⟨z, hz, rfl, ht9, hg9⟩
          simp only [Act.put, List.setIfInBounds_toArray, List.set_cons_zero, List.set_cons_succ]
          have q2 := q1.grown hg9 ht9 hlt6
          refine Chain.step (fun u W3 => ∃ (c2 : List Cl) (A2 : Option Addr) (p2 : Nat) (E2 : Nat → Prop) (at3 : Nat), u = .slice A2 c2.length p2 ∧ ClsD W3 E2 u c2 ∧ (∀ k, E2 k → W2.heap.size ≤ k ∧ k < W3.heap.size) ∧ (∀ c ∈ c2, LawC c) ∧ c2.length ≤ 3 ∧ IsTape W3 bt at3 ∧ at3 ≤ at2 + 42 ∧ W2.grownBy W3 (some bt)) (by have h1 := q2.st.c 2 _ rfl; simp [execOp, Act.eval, go_sem, h1]) (by rfl) rfl rfl (by decide) ?_ ?_ ?_
          · refine GY.call (by simp [execOp, Act.eval, go_sem]) ((lclauses_any bt (at2 + 2) W2 ht9 (by omega)).mono ?_)
            rintro e w9 ⟨c2, u, E2, at3, rfl, g1, g2, g3, g4, g5, g6, g7⟩
            obtain ⟨A2, p2, hu⟩ := clsD_form g1
            exact ⟨_, rfl, c2, A2, p2, E2, at3, hu, g1, g2, g3, g4, g5, by omega, g7⟩
          · refine GY.call (by simp [execOp, Act.eval, go_sem]) ((lclauses_any bt (at2 + 2) W2 ht9 (by omega)).mono ?_)
            rintro e w9 ⟨c2, u, E2, at3, rfl, g1, g2, g3, g4, g5, g6, g7⟩
            obtain ⟨A2, p2, hu⟩ := clsD_form g1
            exact ⟨_, rfl, c2, A2, p2, E2, at3, hu, g1, g2, g3, g4, g5, by omega, g7⟩
          rintro u W3 ⟨c2, A2, p2, E2, at3, rfl, g1, g2, g3, g4, g5, g6, g7⟩
          simp only [Act.put, List.setIfInBounds_toArray, List.set_cons_zero, List.set_cons_succ]
          have q3 := q2.grown g7 g5 hlt6
          refine Chain.step (fun u W4 => u = .agg #[.string z, .slice A2 c2.length p2, .int .i64 0, .int .i64 0] ∧ W4 = W3) (by have h1 := q3.st.c 2 _ rfl; simp [execOp, Act.eval, go_sem, h1]) (by rfl) rfl rfl (by decide) (GY.value (v := .agg #[.string z, .slice A2 c2.length p2, .int .i64 0, .int .i64 0]) (w' := W3) (by simp [execOp, Act.eval, go_sem]) ⟨rfl, rfl⟩) (GY.value (v := .agg #[.string z, .slice A2 c2.length p2, .int .i64 0, .int .i64 0]) (w' := W3) (by simp [execOp, Act.eval, go_sem]) ⟨rfl, rfl⟩) ?_
          rintro u W4 ⟨rfl, rfl⟩
          simp only [Act.put, List.setIfInBounds_toArray, List.set_cons_zero, List.set_cons_succ]
          have q4 := q3.grown (World.grownBy_alloc W4 (.cells #[.string z, .slice A2 c2.length p2, .int .i64 0, .int .i64 0] 84) (some bt)) (IsTape.alloc' g5 _) hlt6
          refine Chain.step (fun u W5 => u = .slice (some ⟨W4.heap.size, 0, none⟩) 1 1 ∧ W5 = W4.alloc (.cells #[.string z, .slice A2 c2.length p2, .int .i64 0, .int .i64 0] 84)) (by have h1 := q3.st.c 2 _ rfl; simp [execOp, Act.eval, go_sem, h1]) (by rfl) rfl rfl (by decide) (GY.value (v := .slice (some ⟨W4.heap.size, 0, none⟩) 1 1) (w' := W4.alloc (.cells #[.string z, .slice A2 c2.length p2, .int .i64 0, .int .i64 0] 84)) (by simp [execOp, Act.eval, go_sem]) ⟨rfl, rfl⟩) (GY.value (v := .slice (some ⟨W4.heap.size, 0, none⟩) 1 1) (w' := W4.alloc (.cells #[.string z, .slice A2 c2.length p2, .int .i64 0, .int .i64 0] 84)) (by simp [execOp, Act.eval, go_sem]) ⟨rfl, rfl⟩) ?_
          rintro u W5 ⟨rfl, rfl⟩
          simp only [Act.put, List.setIfInBounds_toArray, List.set_cons_zero, List.set_cons_succ]
          have hgz := grownBy_trans hg1 hg9
          have hgw := grownBy_trans hgz (grownBy_trans g7 (World.grownBy_alloc W4 (.cells #[.string z, .slice A2 c2.length p2, .int .i64 0, .int .i64 0] 84) (some bt)))
          have hoW := x2.kept hgw (by cases hv : v.ownBlock with | none => exact .inl rfl | some q => exact .inr fun e => by injection e with e; have := (x2.lt q hv).1; have := HQ8.out.bx; omega)
          refine Chain.last (by have h1 := q4.st.c 2 _ rfl; simp [execOp, Act.eval, go_sem, h1]) ⟨[.string z, .slice A2 c2.length p2, .int .i64 0, .int .i64 0], W4.heap.size, ?_⟩
          refine { sl := rfl, xb := rfl, cells := cells_new W4 [.string z, .slice A2 c2.length p2, .int .i64 0, .int .i64 0] 84, len := rfl, one := by simp [Value.oneCell'], own := hoW, base := q4.st.lt, cell := ⟨_, q4.st.c 2 _ rfl⟩, froz := q4.st.f 2, lt := q4.st.lt, other := fun e => by have := (hoW.lt _ e).1; omega, pst := ?_, st := ?_, then' := ?_ }
          · intro g cap
            simp only [Act.put, List.setIfInBounds_toArray, List.set_cons_zero, List.set_cons_succ]
            exact ⟨⟨_, rfl, rfl, .inl ⟨by rfl, fun W hW => by simp [execOp, Act.eval, go_sem]⟩⟩, trivial⟩
          · rintro g cap W6 ⟨x, hx⟩ hf
            simp only [putsA, List.foldl_cons, List.foldl_nil, Act.put, List.setIfInBounds_toArray, List.set_cons_zero, List.set_cons_succ]
            simp [execOp, Act.eval, go_sem, hx, hf]
          intro g cap W6 h1 h2 h3 h4
          simp only [putsA, List.foldl_cons, List.foldl_nil, Act.put, List.setIfInBounds_toArray, List.set_cons_zero, List.set_cons_succ]
          have HN := Lib.hid (HQ8.out.app (nm := z.data.toList) (at3 := at3) hc1 x1 x2 x3 hD hgz g7 g5 hlt6 g1 g2 ⟨List.mem_map.2 ⟨z, hz, rfl⟩, g3, g4, rfl, rfl⟩ (by have := HK8.out; omega) (by rw [strV_of]; exact h1) h2 h3)
          clear h1 h2 h3 h4 q1 q2 q3 q4 hg1 hc1 hc1' ht1 hsz8 hW1 ht9 hg9 hz hd0 hi hz0 hz1 hz2 HQ8 x1 x2 x3 hD g1 g2 g3 g4 g5 g7 hgz hgw hoW
          go_wp2
          go_roundg (gk - 1)
          case measure => omega
          case rel => exact ⟨ks ++ [⟨z.data.toList, c2, 0, 0⟩], _, at3, by rw [List.length_append, ← HK8.out]; simp; omega, by rw [List.length_append, ← HK8.out]; simp; omega, by rw [List.length_append, ← HK8.out]; go_num, by rw [List.length_append, ← HK8.out]; simp; omega, HN.out⟩
        · obtain ⟨D, ⟨xs, x1, x2, x3⟩, hD⟩ := HL5.out.row
          obtain ⟨A, cp, hu3⟩ := own_form x2
          subst hu3
          obtain ⟨ys, hys⟩ := HQ8.out.own
          obtain ⟨A3, c3, hv3⟩ := own_form hys
          subst hv3
          have z0 := HQ8.out.st.c 0 _ rfl
          have z1 := HQ8.out.st.c 1 _ rfl
          have z2 := HQ8.out.st.c 2 _ rfl
          have z3 := HQ8.out.st.c 3 _ rfl
          have z4 := HQ8.out.st.c 4 _ rfl
          rw [strV_of] at z0
          have hg58 := grownBy_trans HG6.out HQ8.out.gr
          have hoW : w8.ownsRow w.heap.size 75 5 (.slice A l.length cp) l.length xs := x2.kept hg58 (by cases hv : (Value.slice A l.length cp).ownBlock with | none => exact .inl rfl | some q => exact .inr fun e => by injection e with e; have := (x2.lt q hv).1; omega)
          have hs8 : w.heap.size ≤ w8.heap.size := Nat.le_trans HL5.out.gr.size hg58.size
          obtain ⟨i0, hi, hz0, hz1, hz2⟩ := info_parts Try.info75
          have hl3 : l.length ≤ 2 := by have := HLN.out; omega
          have HX1 := Lib.hid x1
          have HX2 := Lib.hid x2
          have HX3 := Lib.hid x3
          have HDD := Lib.hid hD
          have HOW := Lib.hid hoW
          clear x1 x2 x3 hD hoW hg58 hys
          go_wp2_with (at_builtin; refine wpList_append_lies _ rfl _ _ 51 rfl w.heap.size 75 i0 _ 5 80 Try.underlying51 hi hz0 hz1 hz2 rfl (by decide) _ _ xs rfl (HOW.out.alloc _) ⟨w8.heap.size, 0, none⟩ 1 1 [.string y, .slice A1 n1 p1, .slice A3 ks.length c3, .int .i64 0, .int .i64 0] rfl rfl ?_ ?_ ?_ ?_ ?_ ?_ (w8.heap.size + 1) ?_ ?_; exact cells_new _ _ _; (simp [Value.oneCell']); omega; exact small_maxLen (by omega); omega; (first | omega | (simp; omega)); (first | rfl | simp))
          intro g cap w9 h1 h2 h3 h4
          have HN := Lib.hid (HL5.out.app HQ8.out HX1.out HX2.out HX3.out HDD.out ⟨List.mem_map.2 ⟨y, HY.out, rfl⟩, HGD.out, HL7.out, HQ8.out.good, HQ8.out.len, rfl, rfl⟩ HG6.out hbt (by rw [strV_of]; exact h1) h2 h3)
          clear h1 h2 h3 h4 z0 z1 z2 z3 z4 hi hz0 hz1 hz2
          go_wp2
          go_roundg (G2 - 1)
          case measure => omega
          case rel => exact ⟨n + 1, _, at2 + 1, by omega, by omega, by rw [List.length_append, HLN.out]; rfl, by go_num, by omega, HN.out⟩
    · obtain ⟨D, hbl, hD⟩ := HL5.out.row
      obtain ⟨xs, x1, x2, x3⟩ := hbl
      obtain ⟨A, cp, hu3⟩ := own_form x2
      subst hu3
      have HX1 := Lib.hid x1
      have HX2 := Lib.hid x2
      have HX3 := Lib.hid x3
      have HDD := Lib.hid hD
      clear x1 x2 x3 hD
      go_wp2
      go_ret
      refine ⟨l, _, fun k => D k ∨ (Value.slice A l.length cp).ownBlock = some k, rfl, BldR.fin (D := D) ⟨xs, HX1.out, HX2.out, HX3.out⟩ (fun a b => BkR.up a b) (fun _ => Iff.rfl), ?_, HL5.out.good, by rw [HLN.out]; omega, HL5.out.gr⟩
      rintro k (hk | hk)
      · exact HDD.out k hk
      · exact HX2.out.lt k hk
end Go.Proofs.Ytjnaeldaajckkaa
/- SyntaxFormats at blocks that have a text, and SyntaxBack. -/
set_option linter.unusedVariables false
set_option linter.unusedSimpArgs false
namespace Go.Proofs.Ytjnaeldaajckkaa
open Go.RowKit Tok Syn

theorem flat_bd {α : Type} (f : α → List UInt8) (n : Nat) : ∀ (l : List α), (∀ x ∈ l, (f x).length ≤ n) → (l.flatMap f).length ≤ l.length * n
  | [], _ => by simp
  | a :: l, h => by
    have h1 := flat_bd f n l fun x hx => h x (List.mem_cons_of_mem _ hx)
    have h2 := h a (List.mem_cons_self ..)
    rw [List.flatMap_cons, List.length_append, List.length_cons, Nat.succ_mul]
    omega
theorem lawWords : ∀ x ∈ wordsA.map (·.data.toList), wordU x ∧ x ≠ sClass ∧ x.length ≤ 8 := by unfold wordU tokU; decide +kernel
theorem lawVals : ∀ x ∈ aVals, (x = [44] ∨ (tokU x ∧ kindL x ≠ 0 ∧ kindL x ≠ 5)) ∧ (valL x).length ≤ 6 := by unfold tokU; decide +kernel
theorem lawNames : ∀ x ∈ clsB.map (·.data.toList), wordU x ∧ x.length ≤ 5 := by unfold wordU tokU; decide +kernel
theorem LawC.good {c : Cl} (h : LawC c) : GoodT c := ⟨(lawWords _ h.word).1, (lawWords _ h.word).2.1, fun v hv => (lawVals v (h.vals v hv)).1⟩
theorem LawC.le {c : Cl} (h : LawC c) : (clauseL c).length ≤ 34 := by
  have h1 := (lawWords _ h.word).2.2
  have h2 := flat_bd valL 6 c.vals fun x hx => (lawVals x (h.vals x hx)).2
  have h3 := h.len
  have h4 : c.vals.length * 6 ≤ 4 * 6 := Nat.mul_le_mul_right _ h3
  simp only [clauseL, List.length_append, List.length_cons, List.length_nil]
  omega
theorem LawK.le {k : Cb} (h : LawK k) : (classL k).length ≤ 140 := by
  have h1 := (lawNames _ h.name).2
  have h2 := flat_bd (fun c : Cl => [32, 32, 32, 32] ++ clauseL c) 38 k.cls fun x hx => by have := (h.cls x hx).le; simp only [List.length_append, List.length_cons, List.length_nil]; omega
  have h3 := h.len
  have h4 : k.cls.length * 38 ≤ 3 * 38 := Nat.mul_le_mul_right _ h3
  rw [clsL_len]
  omega
theorem LawB.le {b : Bk} (h : LawB b) : (blockL b).length ≤ 420 := by
  have h1 := (lawWords _ h.name).2.2
  have h2 := flat_bd (fun c : Cl => [32, 32] ++ clauseL c) 36 b.cls fun x hx => by have := (h.cls x hx).le; simp only [List.length_append, List.length_cons, List.length_nil]; omega
  have h3 := h.len
  have h4 : b.cls.length * 36 ≤ 3 * 36 := Nat.mul_le_mul_right _ h3
  have h5 := flat_bd classL 140 b.cbs fun x hx => (h.cbs x hx).le
  have h6 := h.len2
  have h7 : b.cbs.length * 140 ≤ 2 * 140 := Nat.mul_le_mul_right _ h6
  rw [blkL_len]
  omega
theorem LawB.good {b : Bk} (h : LawB b) : GoodX b := ⟨(lawWords _ h.name).1, fun c hc => (h.cls c hc).good, fun k hk => ⟨(lawNames _ (h.cbs k hk).name).1, fun c hc => ((h.cbs k hk).cls c hc).good⟩⟩
theorem lawBs_le {l : List Bk} (h : ∀ b ∈ l, LawB b) (h2 : l.length ≤ 2) : (blocksL l).length ≤ 840 := by
  have h5 := flat_bd blockL 420 l fun x hx => (h x hx).le
  have h7 : l.length * 420 ≤ 2 * 420 := Nat.mul_le_mul_right _ h2
  unfold blocksL
  omega
set_option maxRecDepth 100000 in
set_option maxHeartbeats 4000000 in
theorem lformats_good {l : List Bk} {lv : Value} {D : Nat → Prop} {w : World} (hl : BksD w D lv l) (hD : ∀ k, D k → k < w.heap.size) (hg : ∀ b ∈ l, GoodX b) (hn : (blocksL l).length ≤ 65536) :
    Calls Try.prog 39 #[lv] w fun e w' => e = .returned (.bool true) ∧ Below w.heap.size w w' := by
  have HL := Lib.hid hl
  have HG := Lib.hid hg
  have HN := Lib.hid hn
  have HD := Lib.hid hD
  clear hl hg hn hD
  go_enter Try.func39, Try.ntmps39
  go_wp2_with fail
  refine (format_good HL.out HD.out HG.out HN.out).mono ?_
  rintro e w1 ⟨rfl, hB1⟩
  have HL1 := Lib.hid (HL.out.up (KeepsD.below hB1 HD.out) fun _ h => h)
  have HD1 : Hid (∀ k, D k → k < w1.heap.size) := Lib.hid fun k hk => Nat.lt_of_lt_of_le (HD.out k hk) hB1.size
  have HB1 := Lib.hid hB1
  clear hB1
  go_wp2_with fail
  refine (rformat_good HL1.out HD1.out HG.out HN.out).mono ?_
  rintro e w2 ⟨rfl, hB2⟩
  have HB2 := Lib.hid (HB1.out.trans (hB2.mono HB1.out.size))
  clear hB2
  go_wp2_with fail
  refine (known11_any _).mono ?_
  rintro e w3 ⟨rfl, hB3⟩
  have HB3 := Lib.hid (HB2.out.trans (hB3.mono HB2.out.size))
  clear hB3
  go_wp2
  go_ret
  exact ⟨rfl, HB3.out⟩
set_option maxRecDepth 100000 in
set_option maxHeartbeats 4000000 in
theorem back_any (a : Option Addr) (len cap : Nat) (z : List Int) (w : World) (hr : IsRow .i64 w a len cap z) :
    Calls Try.prog 12 #[.slice a len cap] w fun e w' => e = .returned (.bool true) ∧ Below w.heap.size w w' := by
  have ht0 := hr.tape 34
  clear hr
  have hB0 := (Below.refl w.heap.size w).alloc (Nat.le_refl _) (.cells #[.slice a len cap, .int .i64 0] 34)
  go_enter Try.func12, Try.ntmps12
  go_wp2_with fail
  refine (lblocks_any w.heap.size 0 _ ht0 (by omega)).mono ?_
  rintro e w2 ⟨l, lv, D1, rfl, hbk, hD1, hgd, hl2, hg2⟩
  have hB2 := hB0.trans (below_grownBy hg2 (Nat.le_refl _) hB0.size)
  have hgx : ∀ b ∈ l, GoodX b := fun b hb => (hgd b hb).good
  have hle := lawBs_le hgd hl2
  obtain ⟨ts, m, k1, k2, k3⟩ := text_back l hgx (by omega)
  have r1 : parseR (blocksL l) = ⟨m, 0, 0, 0⟩ := parse_yes (by rw [k1]) (by rw [k1]; exact k2)
  have hp1 := fun W : World => parse_any ⟨(blocksL l).toArray⟩ W (by rw [bsize]; exact small_maxLen (by omega))
  have e1 : (⟨(blocksL l).toArray⟩ : ByteArray).data.toList = blocksL l := by simp
  rw [e1, r1] at hp1
  have P1 := Lib.hid hp1
  have HLE := Lib.hid (show (blocksL l).length ≤ 65536 by omega)
  have HGX := Lib.hid hgx
  have HEQ := Lib.hid (eqBs_of k3.symm)
  have HBK := Lib.hid hbk
  have HD1 : Hid (∀ k, D1 k → k < w2.heap.size) := Lib.hid fun k hk => (hD1 k hk).2
  clear ht0 hB0 hbk hD1 hgd hl2 hg2 hgx hle k1 k2 k3 r1 hp1 e1
  go_wp2_with fail
  refine (format_good HBK.out HD1.out HGX.out HLE.out).mono ?_
  rintro e w3 ⟨rfl, hB3⟩
  have HBK3 := Lib.hid (HBK.out.up (KeepsD.below hB3 HD1.out) fun _ h => h)
  have HD3 : Hid (∀ k, D1 k → k < w3.heap.size) := Lib.hid fun k hk => Nat.lt_of_lt_of_le (HD1.out k hk) hB3.size
  have hB4 := hB2.trans (hB3.mono hB2.size)
  clear hB2 hB3
  go_wp2_with fail
  refine (P1.out _).mono ?_
  rintro e w5 ⟨v2, D2, rfl, hb2, hd2, hB5⟩
  have a5 := (Below.refl _ w5).alloc (Nat.le_refl _) (.cells #[.int .i64 0, .int .i64 0] 24)
  have a6 := hB5.trans (a5.mono hB5.size)
  have HBK5 := Lib.hid (HBK3.out.up (KeepsD.below a6 HD3.out) fun _ h => h)
  have HD5 : Hid (∀ k, D1 k → k < (w5.alloc (.cells #[.int .i64 0, .int .i64 0] 24)).heap.size) := Lib.hid fun k hk => Nat.lt_of_lt_of_le (HD3.out k hk) a6.size
  have HC5 := Lib.hid (hb2.up (KeepsD.below a5 (fun k hk => (hd2 k hk).2)) fun _ h => h)
  have HE5 : Hid (∀ k, D2 k → k < (w5.alloc (.cells #[.int .i64 0, .int .i64 0] 24)).heap.size) := Lib.hid fun k hk => by have := (hd2 k hk).2; simp; omega
  have hB7 := hB4.trans (a6.mono hB4.size)
  clear hB4 hB5 hb2 hd2 a5 a6
  simp only
  go_wp2_with fail
  refine (known11_any _).mono ?_
  rintro e w8 ⟨rfl, hB8⟩
  have HBK8 := Lib.hid (HBK5.out.up (KeepsD.below hB8 HD5.out) fun _ h => h)
  have HD8 : Hid (∀ k, D1 k → k < w8.heap.size) := Lib.hid fun k hk => Nat.lt_of_lt_of_le (HD5.out k hk) hB8.size
  have HC8 := Lib.hid (HC5.out.up (KeepsD.below hB8 HE5.out) fun _ h => h)
  have HE8 : Hid (∀ k, D2 k → k < w8.heap.size) := Lib.hid fun k hk => Nat.lt_of_lt_of_le (HE5.out k hk) hB8.size
  have hB9 := hB7.trans (hB8.mono hB7.size)
  clear hB7 hB8
  go_wp2_with fail
  refine (same_any false HBK8.out HC8.out HEQ.out HD8.out HE8.out).mono ?_
  rintro e w10 ⟨rfl, hB10⟩
  have HBK10 := Lib.hid (HBK8.out.up (KeepsD.below hB10 HD8.out) fun _ h => h)
  have HD10 : Hid (∀ k, D1 k → k < w10.heap.size) := Lib.hid fun k hk => Nat.lt_of_lt_of_le (HD8.out k hk) hB10.size
  have hB11 := hB9.trans (hB10.mono hB9.size)
  clear hB9 hB10
  go_wp2_with fail
  refine (lformats_good HBK10.out HD10.out HGX.out HLE.out).mono ?_
  rintro e w12 ⟨rfl, hB12⟩
  go_wp2
  go_ret
  exact ⟨rfl, hB11.trans (hB12.mono hB11.size)⟩
end Go.Proofs.Ytjnaeldaajckkaa
