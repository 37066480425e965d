/- slices.insertionSortCmpFunc over divide's own comparison, walked. -/
import Derived.Test.YtnkmhbiklffjlaaApD
set_option linter.unusedVariables false
set_option linter.unusedSimpArgs false
namespace Go.Proofs.Ytnkmhbiklffjlaa
open Go.RowKit Ap

/-- block d holds whole numbers from off on, and may be written -/
def Row (w : World) (d off : Nat) (l : List Int) : Prop := (∀ k x, l[k]? = some x → w.cell? ⟨d, off + k, none⟩ = some (.int .i64 x)) ∧ ∀ o, w.frozen? ⟨d, o, none⟩ = false
theorem Row.set {w : World} {d off : Nat} {l : List Int} (h : Row w d off l) (k : Nat) (x : Int) : Row (w.setCell ⟨d, off + k, none⟩ (.int .i64 x)) d off (l.set k x) := by
  refine ⟨fun j y hj => ?_, fun o => by rw [World.frozen?_setCell]; exact h.2 o⟩
  by_cases e : j = k
  · subst e
    rw [List.getElem?_set_self'] at hj
    cases hq : l[j]? with
    | none => rw [hq] at hj; simp at hj
    | some z =>
      rw [hq] at hj
      have : x = y := by simpa using hj
      subst this
      exact World.cell?_setCell_same _ _ _ (h.1 j z hq)
  · rw [List.getElem?_set_ne (by omega)] at hj
    rw [World.cell?_setCell_other _ _ _ _ (fun e => by injection e with e1 e2; omega)]
    exact h.1 j y hj
theorem Row.grown {w w' : World} {d off : Nat} {l : List Int} {row : Option Nat} (h : Row w d off l) (hg : w.grownBy w' row) (hr : row ≠ some d) (hd : d < w.heap.size) : Row w' d off l := by
  have hb := hg.block d hd (fun e => hr e.symm)
  exact ⟨fun k x hk => by rw [World.cell?_of_block (w := w) hb]; exact h.1 k x hk, fun o => by rw [World.frozen?_of_block (w := w) hb]; exact h.2 o⟩
theorem Row.drewN {w : World} {d off : Nat} {l : List Int} (h : Row w d off l) (n : Nat) : Row (w.drewN n) d off l := h

/-- the comparison's memory: block B holds the slice of rests, in block g -/
def Cmp (w : World) (B d : Nat) (rs : List Nat) : Prop := ∃ g off n cap, w.cell? ⟨B, 0, none⟩ = some (.slice (some ⟨g, off, none⟩) n cap) ∧ n = rs.length ∧ (∀ (k x : Nat), rs[k]? = some x → w.cell? ⟨g, off + k, none⟩ = some (.int .i64 (x : Int))) ∧ B ≠ d ∧ g ≠ d ∧ B < w.heap.size ∧ g < w.heap.size ∧ (∀ x ∈ rs, x ≤ 4000000000000000000)
theorem Cmp.grown {w w' : World} {B d : Nat} {rs : List Nat} (h : Cmp w B d rs) (hg : w.grownBy w' (some d)) : Cmp w' B d rs := by
  obtain ⟨g, off, n, cap, h1, h2, h3, h4, h5, h6, h7, h8⟩ := h
  have hs := hg.size
  refine ⟨g, off, n, cap, ?_, h2, fun k x hk => ?_, h4, h5, by omega, by omega, h8⟩
  · rw [World.cell?_of_block (w := w) (hg.block B h6 (fun e => h4 (by injection e)))]; exact h1
  · rw [World.cell?_of_block (w := w) (hg.block g h7 (fun e => h5 (by injection e)))]; exact h3 k x hk

set_option maxRecDepth 100000 in
set_option maxHeartbeats 1000000 in
theorem cmp_any (i j B d : Nat) (rs : List Nat) (w : World) (h : Cmp w B d rs) (hi : i < rs.length) (hj : j < rs.length) :
    Calls Try.prog 42 #[.int .i64 i, .int .i64 j, .pointer (some ⟨B, 0, none⟩)] w fun e w' => e = .returned (.int .i64 ((rs.getD j 0 : Nat) - (rs.getD i 0 : Nat) : Int)) ∧ ∃ n, w' = w.drewN n := by
  obtain ⟨g, off, n, cap, h1, rfl, h3, h4, h5, h6, h7, h8⟩ := h
  obtain ⟨x, hx⟩ : ∃ x, x = rs.getD i 0 := ⟨_, rfl⟩
  obtain ⟨y, hy⟩ : ∃ y, y = rs.getD j 0 := ⟨_, rfl⟩
  have ex : rs[i]? = some x := by rw [hx]; simp [List.getD, hi]
  have ey : rs[j]? = some y := by rw [hy]; simp [List.getD, hj]
  have cx := h3 i x ex
  have cy := h3 j y ey
  have bx := h8 x (List.mem_of_getElem? ex)
  have by' := h8 y (List.mem_of_getElem? ey)
  rw [← hx, ← hy]
  have hw : IntKind.i64.wrap ((y : Int) - (x : Int)) = (y : Int) - x := IntWalk.i64_in _ (by omega)
  clear hx hy ex ey h3 h4 h5 h6 h7 h8 bx by'
  go_enter Try.func42, Try.ntmps42
  go_wp2
  go_quiet (fail)
  go_wp2
  go_ret
  exact ⟨rfl, _, rfl⟩

set_option maxRecDepth 100000 in
set_option maxHeartbeats 4000000 in
theorem isort_any (d off n cap B a b : Nat) (P M T : List Nat) (rs : List Nat) (w : World) (hrow : Row w d off ((P ++ M ++ T).map Int.ofNat)) (hd : d < w.heap.size) (hc : Cmp w B d rs)
    (ha : P.length = a) (hb : a + M.length = b) (hn : b ≤ n) (hT : (P ++ M ++ T).length = n) (hbig : n ≤ 1000000) (hM : ∀ x ∈ M, x < rs.length) (hlt : M.Pairwise (· < ·)) :
    Calls Try.prog 69 #[.slice (some ⟨d, off, none⟩) n cap, .int .i64 a, .int .i64 b, .func (.func 42) #[] #[.pointer (some ⟨B, 0, none⟩)]] w fun e w' =>
      e = .returned (.tuple #[]) ∧ w.grownBy w' (some d) ∧ ∃ M' : List Nat, M'.Perm M ∧ M'.Pairwise (R (rs.getD · 0)) ∧ Row w' d off ((P ++ M' ++ T).map Int.ofNat) := by
  have HT := Lib.hid hT
  have HP := Lib.hid (And.intro ha (And.intro hb hn))
  have HM := Lib.hid (And.intro hM hlt)
  have HR := Lib.hid hrow
  have HC := Lib.hid hc
  clear hM hlt hrow hc hT hb ha
  go_enter Try.func69, Try.ntmps69
  go_wp2
  go_loopg [8, 9] b (fun m iv jv wr => ∃ (i : Nat) (S : List Nat), iv = .int .i64 i ∧ a + 1 ≤ i ∧ b ≤ i + m ∧ S.Perm (M.take (i - a)) ∧ S.Pairwise (R (rs.getD · 0)) ∧ Row wr d off ((P ++ S ++ (M.drop (i - a) ++ T)).map Int.ofNat) ∧ w.grownBy wr (some d))
  case atStart =>
    have hP := HP.out
    refine ⟨a + 1, M.take 1, congrArg (Value.int .i64) (by unfold wrap64; omega), Nat.le_refl _, Nat.le_add_left _ _, by rw [Nat.add_sub_cancel_left], ?_, ?_, grownBy_refl _ _⟩
    · cases M <;> simp
    · rw [Nat.add_sub_cancel_left]
      have := HR.out
      have e : P ++ M.take 1 ++ (M.drop 1 ++ T) = P ++ M ++ T := by rw [List.append_assoc P (M.take 1), ← List.append_assoc (M.take 1), List.take_append_drop, List.append_assoc]
      rw [e]; exact this
  case round =>
    obtain ⟨i, S, rfl, hai, hm, hSp, hss, hrw, hg⟩ := hrel
    by_cases hib : i < b
    · have hk : i - a < M.length := by have := HP.out; omega
      obtain ⟨x, hx⟩ : ∃ x, M[i - a]? = some x := ⟨M[i - a], by simp [hk]⟩
      have hdrop : M.drop (i - a) = x :: M.drop (i - a + 1) := by
        rw [List.drop_eq_getElem_cons hk]; congr 1
        rw [List.getElem?_eq_getElem hk] at hx; exact Option.some.inj hx
      have htake : M.take (i - a + 1) = M.take (i - a) ++ [x] := by
        rw [List.take_add_one, hx]; rfl
      have hxl : x < rs.length := HM.out.1 x (List.mem_of_getElem? hx)
      have hlow : ∀ y ∈ M.take (i - a), y < x := by
        have h2 := HM.out.2
        rw [← List.take_append_drop (i - a) M, hdrop] at h2
        intro y hy
        exact (List.pairwise_append.1 h2).2.2 y hy x (by simp)
      have hSl : S.length = i - a := by rw [hSp.length_eq, List.length_take]; omega
      rw [hdrop] at hrw
      have HS := Lib.hid (And.intro (ins_start hSp hlow hss) (And.intro hSl (And.intro hrw htake)))
      have HG := Lib.hid hg
      have hwd : d < wr.heap.size := by have := hg.size; omega
      clear hx hdrop htake hlow hSl hrw hSp hss hg
      go_wp2
      obtain ⟨gk0, rfl⟩ : ∃ m, m = gk := ⟨gk, rfl⟩
      obtain ⟨wr0, rfl⟩ : ∃ m, m = wr := ⟨wr, rfl⟩
      go_loopg [9] i (fun m2 jv w2 => ∃ (j : Nat) (A C : List Nat), jv = .int .i64 j ∧ j = a + A.length ∧ j ≤ m2 ∧ Ins (rs.getD · 0) x (M.take (i - a)) A C ∧ Row w2 d off ((P ++ A ++ x :: (C ++ (M.drop (i - a + 1) ++ T))).map Int.ofNat) ∧ w.grownBy w2 (some d) ∧ A.length + C.length = i - a)
      case atStart => exact ⟨i, S, [], rfl, by have := HS.out.2.1; omega, by omega, HS.out.1, by have := HS.out.2.2.1; simpa using this, HG.out, by have := HS.out.2.1; simpa using this⟩
      case round =>
        obtain ⟨j, A, C, rfl, hj, hm2, hins, hrow2, hg2, hAC⟩ := hrel
        have hwd2 : d < wr.heap.size := by have := hg2.size; omega
        have HI := Lib.hid hins
        have HW := Lib.hid hrow2
        have HG2 := Lib.hid hg2
        have HA := Lib.hid hAC
        clear hins hrow2 hg2 hAC
        rcases List.eq_nil_or_concat A with rfl | ⟨A, z, rfl⟩
        · have hja : ¬ a < j := by simp at hj; omega
          clear hj
          go_wp2
          go_quiet (fail)
          go_wp2
          have he := ins_end HI.out (by intro B' z h; simp at h)
          go_roundg (gk0 - 1)
          case measure => omega
          case rel => exact ⟨i + 1, [] ++ x :: C, by go_num, by omega, by omega, by rw [show i + 1 - a = i - a + 1 by omega, HS.out.2.2.2]; exact he.1, he.2, by rw [show i + 1 - a = i - a + 1 by omega]; exact Row.drewN (by have := HW.out; simpa using this) _, grownBy_drewN HG2.out _⟩
        · rw [List.concat_eq_append] at *
          obtain ⟨k, hjk⟩ : ∃ k, j = k + 1 := ⟨a + A.length, by simp at hj; omega⟩
          have hk2 : k = a + A.length := by simp at hj; omega
          have hja : a < j := by omega
          have HK := Lib.hid (And.intro hk2 hjk)
          have hj1 : (j : Int) - 1 = (k : Int) := by omega
          have hj0 : 1 ≤ j := by omega
          have hjn : j < n := by have := HA.out; have := HP.out; simp at *; omega
          have hkn : k < n := by have := HA.out; have := HP.out; simp at *; omega
          have hz : z < rs.length := HM.out.1 z (List.mem_of_mem_take (HI.out.perm.subset (by simp)))
          have hcz : wr.cell? ⟨d, off + k, none⟩ = some (.int .i64 z) := HW.out.1 k z (by
            rw [List.getElem?_map, show P ++ (A ++ [z]) ++ x :: (C ++ (M.drop (i - a + 1) ++ T)) = (P ++ A) ++ z :: (x :: (C ++ (M.drop (i - a + 1) ++ T))) by simp, get_mid _ _ _ _ (by simp [HP.out.1]; omega)]; rfl)
          have hcx : wr.cell? ⟨d, off + j, none⟩ = some (.int .i64 x) := HW.out.1 j x (by
            rw [List.getElem?_map, get_mid _ _ _ _ (by simp [HP.out.1]; omega)]; rfl)
          have hfz := HW.out.2
          have hwk : IntKind.i64.wrap (k : Int) = (k : Int) := IntWalk.i64_in _ (by omega)
          clear hj hk2 hjk
          have hcm := fun m => cmp_any x z B d rs (wr.drewN m) (HC.out.grown (grownBy_drewN HG2.out _)) hxl hz
          obtain ⟨rz, hrz⟩ : ∃ rz, rz = rs.getD z 0 := ⟨_, rfl⟩
          obtain ⟨rx, hrx⟩ : ∃ rx, rx = rs.getD x 0 := ⟨_, rfl⟩
          rw [← hrz, ← hrx] at hcm
          have HCM := Lib.hid hcm
          have HRZ := Lib.hid (And.intro hrz hrx)
          clear hcm hrz hrx
          by_cases hlt : rz < rx
          · have hlt' : (rz : Int) - rx < 0 := by omega
            go_wp2
            go_quiet (exact Calls.quiet_of (HCM.out _))
            go_wp2
            go_region
            go_wp2
            go_roundg (gk - 1)
            case measure => omega
            case rel =>
              have hK := HK.out
              have hP := HP.out
              refine ⟨k, A, z :: C, congrArg (Value.int .i64) (by first | rfl | omega), hK.1, by omega, ins_step HI.out (by have := HRZ.out; omega), ?_, ?_, by have := HA.out; simp at this ⊢; omega⟩
              · have h := ((HW.out.drewN (nq + 1)).set j (Int.ofNat z)).set k (Int.ofNat x)
                rw [← List.map_set, ← List.map_set, hK.2, show P ++ (A ++ [z]) ++ x :: (C ++ (M.drop (i - a + 1) ++ T)) = (P ++ A) ++ z :: x :: (C ++ (M.drop (i - a + 1) ++ T)) by simp,
                  swap_mid (P ++ A) _ z x k (by simp [hP.1]; omega)] at h
                rw [hK.2]
                exact h
              · exact grownBy_trans (grownBy_trans (grownBy_drewN HG2.out _) (grownBy_setCell _ rfl _)) (grownBy_setCell _ rfl _)
          · have hlt' : ¬ (rz : Int) - rx < 0 := by omega
            go_wp2
            go_quiet (exact Calls.quiet_of (HCM.out _))
            go_wp2
            have he := ins_end HI.out (by
              intro B' z' h
              have h2 : z = z' := by simpa using (List.append_inj_right' h rfl)
              subst h2
              have := HRZ.out
              omega)
            go_roundg (gk0 - 1)
            case measure => omega
            case rel => exact ⟨i + 1, (A ++ [z]) ++ x :: C, by go_num, by omega, by omega, by rw [show i + 1 - a = i - a + 1 by omega, HS.out.2.2.2]; exact he.1, he.2, by rw [show i + 1 - a = i - a + 1 by omega]; exact Row.drewN (by have := HW.out; simpa using this) _, grownBy_drewN HG2.out _⟩
    · have hfin : M.take (i - a) = M := List.take_of_length_le (by have := HP.out; omega)
      have hfin2 : M.drop (i - a) = [] := List.drop_eq_nil_of_le (by have := HP.out; omega)
      rw [hfin] at hSp
      rw [hfin2] at hrw
      have HF := Lib.hid (And.intro hg (And.intro hSp (And.intro hss hrw)))
      clear hg hSp hss hrw hfin hfin2
      go_wp2
      first | go_end0 | refine bodyPost_ret (results_none rfl _ _ _) rfl ?_
      exact ⟨rfl, HF.out.1, S, HF.out.2.1, HF.out.2.2.1, by have := HF.out.2.2.2; simpa using this⟩
end Go.Proofs.Ytnkmhbiklffjlaa
