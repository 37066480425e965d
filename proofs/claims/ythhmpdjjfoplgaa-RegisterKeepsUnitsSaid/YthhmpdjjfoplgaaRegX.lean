/- register.Holders, walked, with the sort's contract as a premise. -/
import Derived.Test.YthhmpdjjfoplgaaRegW
import Derived.Maps.OwnSet
set_option linter.unusedVariables false
set_option linter.unusedSimpArgs false
namespace Go.Proofs.Ythhmpdjjfoplgaa
open Go.RowKit Reg Go.Maps

theorem Try.info64 : (Try.prog.info? 64).map (fun i => (i.zero, i.size, i.bytes)) = some (some (.agg #[.string ByteArray.empty, .int .i64 0]), 2, 24) := by kernel_rfl
/-- the call owns a row with these holders -/
def OwnH (w : World) (B : Nat) (v : Value) (l : List Hol) : Prop := w.ownsRow B 64 2 v l.length (cellsH l)
theorem OwnH.nil (w : World) (B : Nat) : OwnH w B (.slice none 0 0) [] := World.ownsRow_nil _ _ _ _
/-- what slices.SortFunc does with holders -/
def SortH : Prop := ∀ (v : Value) (hs : List Hol) (B : Nat) (w : World), OwnH w B v hs → hs.length ≤ 1000 →
  Calls Try.prog 52 #[v, .func (.func 53) #[] #[]] w fun e w' => e = .returned (.tuple #[]) ∧
    ∃ ds : List Hol, ds.Perm hs ∧ (∀ i j (hi : i < ds.length) (hj : j < ds.length), i < j → sLt ds[j].name ds[i].name = false) ∧ OwnH w' B v ds ∧ w.grownBy w' v.ownBlock
/-- the holders met so far, while the map is ranged over -/
def Got (D : DataW Unit) (l : List Lot) (left : Lit → Bool) (got : List Hol) : Prop :=
  got.Pairwise (fun a b => a.name ≠ b.name) ∧ (∀ h ∈ got, has D (keyS h.name) = true ∧ left (keyS h.name) = false ∧ h.units = tot l h.name) ∧ ∀ s : ByteArray, has D (keyS s) = true → left (keyS s) = false → ∃ h ∈ got, h.name = s
theorem Got.start (D : DataW Unit) (l : List Lot) : Got D l (has D) [] := ⟨List.Pairwise.nil, by simp, fun s h1 h2 => by rw [h1] at h2; cases h2⟩
theorem Got.step {D : DataW Unit} {l : List Lot} {left : Lit → Bool} {got : List Hol} (h : Got D l left got) (hD : MapIs D l) {s : ByteArray} {c : Int} (hlk : left (keyS s) = true) (hat : ∀ zd, D.atKey (keyS s) zd = .lit (.int .i64 c)) :
    Got D l (fun z => left z && !z.sameKey (keyS s)) (got ++ [⟨s, c⟩]) := by
  have hhas : has D (keyS s) = true := has_true_of_atKey hat
  have hc : c = tot l s := by
    have h1 := (hD.2 s).1
    rw [hat] at h1
    simpa using h1
  have hsame : (keyS s).sameKey (keyS s) = true := by simp [Lit.sameKey, keyS]
  refine ⟨?_, ?_, ?_⟩
  · rw [List.pairwise_append]
    refine ⟨h.1, by simp, fun a ha b hb => ?_⟩
    simp only [List.mem_singleton] at hb
    subst hb
    intro e
    have := (h.2.1 a ha).2.1
    rw [show a.name = s from e, hlk] at this
    cases this
  · intro a ha
    rcases List.mem_append.1 ha with ha | ha
    · obtain ⟨h1, h2, h3⟩ := h.2.1 a ha
      exact ⟨h1, by simp [h2], h3⟩
    · simp only [List.mem_singleton] at ha
      subst ha
      exact ⟨hhas, by simp [hsame], hc⟩
  · intro t h1 h2
    by_cases e : t = s
    · subst e; exact ⟨_, List.mem_append_right _ (List.mem_singleton.2 rfl), rfl⟩
    · have hne : keyS t ≠ keyS s := fun he => e (keyS_inj he)
      have h2 : (left (keyS t) && !(keyS t).sameKey (keyS s)) = false := h2
      rw [show (keyS t).sameKey (keyS s) = false from sameKey_ne hne] at h2
      obtain ⟨a, ha, hn⟩ := h.2.2 t h1 (by simpa using h2)
      exact ⟨a, List.mem_append_left _ ha, hn⟩
theorem Got.all {D : DataW Unit} {l : List Lot} {left : Lit → Bool} {got : List Hol} (h : Got D l left got) (hD : MapIs D l) (hl : ∀ z, left z = false) : HSet l got := by
  refine ⟨h.1, fun a => ⟨fun ha => ?_, fun ⟨h1, h2⟩ => ?_⟩⟩
  · obtain ⟨h1, _, h3⟩ := h.2.1 a ha
    exact ⟨(hD.2 a.name).2.1 h1, h3⟩
  · obtain ⟨b, hb, e⟩ := h.2.2 a.name ((hD.2 a.name).2.2 h1) (hl _)
    have : b = a := by
      obtain ⟨_, _, h3⟩ := h.2.1 b hb
      cases a; cases b
      simp only at e h2 h3
      subst e
      rw [h2, h3]
    exact this ▸ hb
theorem ownH_snoc {w : World} {B n : Nat} {v : Value} {l : List Hol} {x : Hol} (h : w.ownsRow B 64 2 v n (cellsH l ++ x.cells)) (hn : n = l.length + 1) : OwnH w B v (l ++ [x]) := by
  subst hn
  unfold OwnH
  rw [cellsH_app, List.length_append]
  simpa [cellsH] using h
theorem name_len {x : Lot} (h : rightB x = true) : (nameOf x).size ≤ maxLen := by
  have h1 := (right_bd h).2.2.2.2
  simp only [acctB, nameB, Bool.and_eq_true, Bool.or_eq_true, decide_eq_true_eq] at h1
  unfold nameOf
  have : ∀ s : ByteArray, s.size ≤ 16 → s.size ≤ maxLen := fun s hs => Nat.le_trans hs (by decide)
  obtain ⟨⟨⟨⟨a1, a2⟩, a3⟩, a4⟩, h2⟩ := h1
  split
  · exact this _ a2
  · rcases h2 with h2 | ⟨⟨⟨b1, b2⟩, b3⟩, b4⟩
    · exact absurd h2 (by assumption)
    · exact this _ b2
theorem lots_at_any {w : World} {A : Option Addr} {cap : Nat} {l : List Lot} (h : LotsAt w (.slice A l.length cap) l) : ∀ k x, l[k]? = some x → ∃ g off, A = some ⟨g, off, none⟩ ∧ CellsAt w g (off + k * 4) x := by
  intro k x hx
  have hk := (List.getElem?_eq_some_iff.1 hx).1
  obtain ⟨g, off, cap', hv, hc⟩ := h.some (by omega)
  injection hv with hv _ _
  exact ⟨g, off, hv, hc k x hx⟩
theorem grownBy_belowR {a b : World} (h : Below a.heap.size a b) (row : Option Nat) : a.grownBy b row := ⟨h.os, h.tape, h.output, h.size, fun k hk _ => h.block k hk⟩
theorem two_new (W : World) (a b : ByteArray) (t : TypeId) (g : Nat) (hg : g = W.heap.size) : (W.alloc (.cells #[.string a, .string b] t)).drew.cell? ⟨g, 0, none⟩ = some (.string a) ∧ (W.alloc (.cells #[.string a, .string b] t)).drew.cell? ⟨g, 1, none⟩ = some (.string b) := by
  subst hg
  refine ⟨show (W.alloc (.cells #[.string a, .string b] t)).cell? _ = _ from ?_, show (W.alloc (.cells #[.string a, .string b] t)).cell? _ = _ from ?_⟩
  · go_cell
  · go_cell
theorem UnitsAt.kept {w w' : World} {b n : Nat} {l : List Lot} (h : UnitsAt w b n l) (hb : Below w.heap.size w w') : UnitsAt w' b n l := by
  obtain ⟨D, ho, hD⟩ := h
  exact ⟨D, ho.kept (grownBy_belowR hb none) (by simp), hD⟩

theorem keyS_inv {key : Value} {kl : Lit} (h : keyOf Try.prog 9 key = some kl) : ∃ s : ByteArray, key = .string s ∧ kl = keyS s := by
  have hk := Try.underlying9
  cases key <;> simp [keyOf, hk, mapKey] at h
  obtain ⟨hs, rfl⟩ := h
  exact ⟨_, rfl, rfl⟩
set_option maxRecDepth 100000 in
set_option maxHeartbeats 4000000 in
theorem holders_at (hsort : SortH) (v : Value) (l : List Lot) (w : World) (h : LotsAt w v l) (hc : checkB l = true) :
    Calls Try.prog 32 #[regV v] w fun e w' => ∃ v' hs, e = .returned (.tuple #[v', .int .i64 0]) ∧ OwnH w' w.heap.size v' hs ∧ IsHold l hs ∧ Below w.heap.size w w' := by
  unfold regV
  obtain ⟨A, cap, hv⟩ := Rd.form h
  subst hv
  have HAT := Lib.hid (lots_at_any h)
  have HL := Lib.hid (fun W hb => LotsAt.below (w' := W) h hb)
  obtain ⟨f1, f2, f3, f4, f5⟩ := check_facts hc
  have H1 := Lib.hid hc
  have HF := Lib.hid f5
  have HS := Lib.hid f3
  have HR := Lib.hid (fun x hx => okL_right f2 x hx)
  have hmm := @run_makeMap Try.prog
  have HW := Lib.hid (show Below w.heap.size w (w.alloc (.cells #[.slice A l.length cap] 24)) from (Below.refl _ _).alloc (Nat.le_refl _) _)
  obtain ⟨n, hn⟩ : ∃ n, n = l.length := ⟨_, rfl⟩
  rw [← hn] at f1 HW HL ⊢
  have HN := Lib.hid hn
  obtain ⟨i0, hi, hz0, hz1, hz2⟩ := info_parts Try.info64
  clear h hc f2 f3 f4 f5 hn
  go_enter Try.func32, Try.ntmps32
  go_wp2_with fail
  refine (check_yes _ l (w.alloc (.cells #[.slice A n cap] 24)) (HL.out _ HW.out) H1.out).mono ?_
  rintro e w1 ⟨rfl, hb⟩
  have k0 : w1.cell? ⟨w.heap.size, 0, none⟩ = some (.slice A n cap) := cell_up (by go_cell) hb
  have hz : w.heap.size < w1.heap.size := by have := hb.size; simp at this; omega
  have HK := Lib.hid (HW.out.trans (hb.mono HW.out.size))
  clear hb
  go_wp2
  go_loopg [20] n (fun m i wr => ∃ k : Nat, k ≤ n ∧ n - k ≤ m ∧ i = .int .i64 k ∧ UnitsAt wr w1.heap.size k (l.take k) ∧ Below w1.heap.size w1 wr)
  case atStart => exact ⟨0, by omega, by omega, rfl, ⟨_, World.ownsMap_made _ _ _ _, by simpa using MapIs.nil⟩, (Below.refl _ _).alloc (Nat.le_refl _) _⟩
  case round =>
    obtain ⟨k, hk, hm, rfl, hun, hbl⟩ := hrel
    have hsz : w1.heap.size ≤ wr.heap.size := hbl.size
    have hmlt : w1.heap.size < wr.heap.size := by obtain ⟨D, ho, _⟩ := hun; exact ho.lt
    have HUN := Lib.hid hun
    have HBL := Lib.hid hbl
    have HB0 := Lib.hid (HK.out.trans (hbl.mono (by omega)))
    clear hun hbl
    by_cases hlt : k < n
    · obtain ⟨x, hx⟩ : ∃ x, l[k]? = some x := ⟨l[k]'(by rw [← HN.out]; exact hlt), by simp [← HN.out, hlt]⟩
      obtain ⟨g, off, rfl, hcc⟩ := HAT.out k x hx
      obtain ⟨c0, c1, c2, c3⟩ := hcc.below HB0.out
      have HX := Lib.hid hx
      clear hx hcc
      have hxr := HR.out x (List.mem_of_getElem? HX.out)
      have hxb := HF.out x (List.mem_of_getElem? HX.out)
      obtain ⟨s, hs⟩ : ∃ s, s = nameOf x := ⟨_, rfl⟩
      have hsl : s.size ≤ maxLen := by rw [hs]; exact name_len hxr
      have HOR := Lib.hid (fun (g : Nat) (W : World) h0 h1 => (show Calls Try.prog 51 #[.slice (some ⟨g, 0, none⟩) 2 2] W fun e w' => e = .returned (.string s) ∧ w' = W by rw [hs]; exact or2_any g x.nom x.hol W h0 h1))
      obtain ⟨t, ht⟩ : ∃ t, t = tot (l.take k) s := ⟨_, rfl⟩
      have htb := tot_bd (l.take k) s (fun y hy => by have := HF.out y (List.mem_of_mem_take hy); omega)
      have hts := (sumU_take l k (fun y hy => by have := HF.out y hy; omega)).1
      have htt := HS.out
      rw [← ht] at htb
      have hadd : IntKind.i64.wrap (t + x.units) = t + x.units := IntWalk.i64_in _ (by omega)
      have hwf : (Lit.int .i64 (t + x.units)).wf = true := WalkArith.wf_i64 (by omega)
      have HT := Lib.hid (And.intro hs (And.intro ht (And.intro hwf hsl)))
      have hkm : k < maxLen := by unfold maxLen; omega
      have HKM := Lib.hid hkm
      have HBB := Lib.hid (fun o1 o2 => below_drew (((Below.refl wr.heap.size wr).alloc (Nat.le_refl _) o1).alloc (by simp) o2))
      have hun3 := HUN.out.kept (HBB.out (.cells #[.string x.nom, .string x.hol, .int .i64 x.ser, .int .i64 x.units] 41) (.cells #[.string x.nom, .string x.hol] 9))
      have hlook := run_units s hsl hun3
      rw [← ht] at hlook
      obtain ⟨w2, hstore, hun2, hg2⟩ := run_store_units x (t + x.units) (by rw [← hs]; exact hsl) hkm hun3 HX.out (by rw [← hs, ← ht]) hwf
      rw [← hs] at hstore
      clear hun3
      have hne : some (w1.heap.size) ≠ some (wr.heap.size) → True := fun _ => trivial
      have hgc : ∀ (j : Nat) (u : Value), (((wr.alloc (.cells #[.string x.nom, .string x.hol, .int .i64 x.ser, .int .i64 x.units] 41)).alloc (.cells #[.string x.nom, .string x.hol] 9)).drew).cell? ⟨wr.heap.size, j, none⟩ = some u → w2.cell? ⟨wr.heap.size, j, none⟩ = some u := fun j u hu => hg2.cell hu (fun e => by have e : wr.heap.size = w1.heap.size := Option.some.inj e; omega)
      have q0 := hgc 0 (.string x.nom) (cell_alloc (show (wr.alloc (.cells #[.string x.nom, .string x.hol, .int .i64 x.ser, .int .i64 x.units] 41)).cell? ⟨wr.heap.size, 0, none⟩ = _ by go_cell) _)
      have q1 := hgc 1 (.string x.hol) (cell_alloc (show (wr.alloc (.cells #[.string x.nom, .string x.hol, .int .i64 x.ser, .int .i64 x.units] 41)).cell? ⟨wr.heap.size, 1, none⟩ = _ by go_cell) _)
      have q2 := hgc 2 (.int .i64 x.ser) (cell_alloc (show (wr.alloc (.cells #[.string x.nom, .string x.hol, .int .i64 x.ser, .int .i64 x.units] 41)).cell? ⟨wr.heap.size, 2, none⟩ = _ by go_cell) _)
      have q3 := hgc 3 (.int .i64 x.units) (cell_alloc (show (wr.alloc (.cells #[.string x.nom, .string x.hol, .int .i64 x.ser, .int .i64 x.units] 41)).cell? ⟨wr.heap.size, 3, none⟩ = _ by go_cell) _)
      clear hne hgc
      have HU2 := Lib.hid hun2
      have HG2 := Lib.hid hg2
      clear hun2 hg2
      clear hxr hxb hs ht htb hts htt hwf hsl hkm
      go_wp2
      go_region_held3 (fun W : World => W.cell? ⟨wr.heap.size, 0, none⟩ = some (.string x.nom) ∧ W.cell? ⟨wr.heap.size, 1, none⟩ = some (.string x.hol) ∧ W.cell? ⟨wr.heap.size, 2, none⟩ = some (.int .i64 x.ser) ∧ W.cell? ⟨wr.heap.size, 3, none⟩ = some (.int .i64 x.units)) (first | exact ⟨q0, q1, q2, q3⟩ | (refine ⟨?_, ?_, ?_, ?_⟩ <;> go_cell)) (first
        | (go_at_call 51; refine (HOR.out _ _ ?_ ?_).mono ?_; refine (two_new _ _ _ _ _ ?_).1; simp; refine (two_new _ _ _ _ _ ?_).2; simp; rintro e w' ⟨rfl, rfl⟩))
      have HUN2 := HU2
      have HB2 := Lib.hid (show Below w1.heap.size w1 w2 from ((HBL.out.trans ((HBB.out _ _).mono hsz)).grown HG2.out (by first | omega | (simp; omega)) (by intro j hj; cases hj; exact Nat.le_refl _)))
      clear hlook hstore
      go_wp2
      go_roundg (gk - 1)
      case measure => omega
      case rel => exact ⟨k + 1, by omega, by omega, by go_num, HUN2.out, HB2.out⟩
    · have hke : k = n := by omega
      have hun : UnitsAt wr w1.heap.size n l := by have := HUN.out; rwa [List.take_of_length_le (by have := HN.out; omega), hke] at this
      obtain ⟨D, hown, hD⟩ := hun
      have HO := Lib.hid hown
      have HD := Lib.hid hD
      have hsd := hown.size_le
      have HSD := Lib.hid hsd
      clear hown hD hsd HUN hke
      go_wp2_with (at_range; refine wpList_range_own _ rfl _ 78 rfl 9 3 Try.lawS Try.underlying78 _ w1.heap.size n D rfl HO.out ?_; intro w0 hrg0 hg0 hs0)
      go_frame
      obtain ⟨r, hr⟩ : ∃ r, r = wr.heap.size := ⟨_, rfl⟩
      rw [← hr] at hrg0 hs0 hmlt ⊢
      have HB1 := Lib.hid (HB0.out.grown hg0 HB0.out.size (by intro j hj; cases hj))
      have hz0' : r < w0.heap.size := by omega
      clear hs0 hg0 hr hsz
      have hrg0' := Lib.hid hrg0
      clear hrg0
      go_loopg [8] n (fun m o w2 => ∃ (left : Lit → Bool) (cnt : Nat) (got : List Hol), cnt ≤ m ∧ got.length + cnt ≤ n ∧ w2.ranges Try.prog 9 (plainElem Try.prog 3) w1.heap.size r n D left cnt ∧ OwnH w2 w0.heap.size o got ∧ Got D l left got ∧ Below w.heap.size w w2 ∧ w0.heap.size ≤ w2.heap.size)
      case atStart => exact ⟨_, _, [], HSD.out, by simpa using HSD.out, hrg0'.out, OwnH.nil _ _, Got.start D l, HB1.out, Nat.le_refl _⟩
      case round =>
        obtain ⟨left, cnt, got, hcm, hgc, hrg, hog, hgt, hbl2, hsz2⟩ := hrel
        have HRG := Lib.hid hrg
        have HOG := Lib.hid hog
        have HGT := Lib.hid hgt
        have HBL2 := Lib.hid hbl2
        clear hrg hog hgt hbl2
        go_wp2_with (at_next; refine wpList_next_ranges _ rfl _ rfl 9 Try.lawS (plainElem Try.prog 3) Value.string (Value.int .i64) (fun key kl hk => by obtain ⟨x, hx, _⟩ := keyS_inv hk; exact ⟨x, hx⟩) (fun v y hv => by obtain ⟨c, rfl, _⟩ := plainElem_int_inv Try.underlying3 hv; exact ⟨c, rfl⟩) w1.heap.size r n _ _ _ rfl HRG.out ?_ ?_)
        · intro hc0 hl0
          have HSET := Lib.hid (HGT.out.all HD.out hl0)
          have hgn : got.length ≤ 1000 := by omega
          clear hc0 hl0 HRG
          go_wp2_with (go_at_call 52; refine (hsort u8 got w0.heap.size wr HOG.out hgn).mono ?_; rintro e w2 ⟨rfl, ds, hp, hsrt, hod, hgr⟩; have HE := Lib.hid (And.intro hp (And.intro hsrt (And.intro hod hgr))); clear hp hsrt hod hgr)
          go_ret2
          obtain ⟨hp, hsrt, hod, hgr⟩ := HE.out
          have hB := HBL2.out.size
          refine ⟨u8, ds, rfl, ownsRow_base hod HB1.out.size, HSET.out.sorted hp hsrt, HBL2.out.grown hgr hB (fun j hj => ?_)⟩
          have := (World.ownsRow.lt HOG.out j hj).1
          have := HB1.out.size
          omega
        · intro x c kl yd yp w2 cnt2 hkey hlk hv hat hrg2 hlt2 hg2 hs2 hen
          obtain ⟨x', ex, hkl⟩ := keyS_inv hkey
          obtain rfl : x = x' := by injection ex
          subst hkl
          obtain ⟨c', hc', hyd, _⟩ := plainElem_int_inv Try.underlying3 hv
          obtain rfl : c = c' := by injection hc'
          have hyd1 : yd = .lit (.int .i64 c) := by simpa using congrArg Prod.fst hyd
          rw [hyd1] at hat
          have HGT2 := Lib.hid (HGT.out.step HD.out hlk hat)
          have hne : some r ≠ u8.ownBlock := by
            intro e
            have := (World.ownsRow.lt HOG.out r e.symm).1
            omega
          have hog2 := World.ownsRow.kept HOG.out hg2 (.inr hne.symm)
          have HOG2 := Lib.hid hog2
          have HRG2 := Lib.hid hrg2
          have HB2 := Lib.hid (HBL2.out.grown hg2 HBL2.out.size (by intro j hj; injection hj with hj; have := HB0.out.size; omega))
          have hsz3 : w0.heap.size ≤ w2.heap.size := by omega
          clear hkey hlk hv hat ex hc' hyd hyd1 hne hog2 hrg2 hg2 hs2 HRG HOG HGT HBL2
          go_wp2_with (at_builtin; refine wpList_append_own_at _ rfl _ _ 60 rfl w0.heap.size 64 i0 _ 2 24 Try.underlying60 hi hz0 hz1 hz2 rfl (by decide) u8 _ _ rfl (World.ownsRow.alloc HOG2.out _) ⟨w2.heap.size, 0, none⟩ 1 1 [.string x, .int .i64 c] rfl ?_ ?_ ?_ ?_ ?_ ?_ ?_; rfl; exact cells_new w2 _ _; (intro u hu; simp at hu; rcases hu with rfl | rfl <;> rfl); exact small_maxLen (by omega); omega; (simp; omega); intro v' w3 hown3 hg3 _ hat3; go_frame)
          have hlb : ∀ j, u8.ownBlock = some j → w0.heap.size ≤ j := fun j hj => (World.ownsRow.lt HOG2.out j hj).1
          have HRG3 := Lib.hid ((HRG2.out.alloc _).kept hg3 (fun e => by have := hlb _ e.symm; omega) (fun e => by have := hlb _ e.symm; omega))
          have HB3 := Lib.hid ((HB2.out.alloc HB2.out.size _).grown hg3 (by have := HB2.out.size; simp; omega) (fun j hj => by have := hlb j hj; have := HB1.out.size; omega))
          have HOG3 := Lib.hid (ownH_snoc (x := ⟨x, c⟩) hown3 rfl)
          have hsz4 : w0.heap.size ≤ w3.heap.size := by have := hg3.size; simp at this; omega
          clear hown3 hg3 hat3 hlb HRG2 HOG2 HB2
          go_wp2
          go_roundg (gk - 1)
          case measure => omega
          case rel => exact ⟨_, cnt2, got ++ [⟨x, c⟩], by omega, by simp; omega, HRG3.out, HOG3.out, HGT2.out, HB3.out, hsz4⟩
end Go.Proofs.Ythhmpdjjfoplgaa
