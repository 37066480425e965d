import Derived.Test.YtmcekgapelanhaaGreatAlQ
import Derived.Test.YtmcekgapelanhaaGreatAlR
import Derived.BigQuiet
import Derived.Deep.CutRange
set_option linter.unusedVariables false
set_option linter.unusedSimpArgs false
set_option maxRecDepth 100000
set_option maxHeartbeats 16000000
namespace Go.Proofs.YtmcekgapelanhaaGreat
open Go.RowKit Big Al Tok Ap
open Lib (hid)
namespace Al
theorem sh_cells {w : World} {g off k : Nat} {s : Sh} (h : ∀ j u, s.cells[j]? = some u → w.cell? ⟨g, off + (k * 5 + j), none⟩ = some u) : w.cell? ⟨g, off + k * 5, none⟩ = some (.string s.name) ∧ w.cell? ⟨g, off + k * 5 + 1, none⟩ = some (.int .i64 s.opening) ∧ w.cell? ⟨g, off + k * 5 + 2, none⟩ = some (.int .i64 s.own) ∧ w.cell? ⟨g, off + k * 5 + 3, none⟩ = some (.int .i64 s.result) ∧ w.cell? ⟨g, off + k * 5 + 4, none⟩ = some (.int .i64 s.net) :=
 ⟨by have := h 0 _ rfl; rwa [← Nat.add_assoc] at this, by have := h 1 _ rfl; rwa [← Nat.add_assoc] at this, by have := h 2 _ rfl; rwa [← Nat.add_assoc] at this, by have := h 3 _ rfl; rwa [← Nat.add_assoc] at this, by have := h 4 _ rfl; rwa [← Nat.add_assoc] at this⟩
end Al
theorem cell_lt {w : World} {g o : Nat} {v : Value} (h : w.cell? ⟨g, o, none⟩ = some v) : g < w.heap.size := by
 rcases Nat.lt_or_ge g w.heap.size with h1 | h1
 ·exact h1
 ·unfold World.cell? at h
  rw [Array.getElem?_eq_none h1] at h
  cases h
theorem ranges_keep {pl : List Pl} {w w' : World} (E : FlowK pl w w') {b o : Nat} {cs : List Value} (h : w.rangeAt b o cs) (hlt : b < w.heap.size) (hne : ∀ p ∈ pl, p.new = false → p.b ≠ b) : w'.rangeAt b o cs := fun j v hj => by
 rw [World.cell?_of_block (w := w) (E.keep b hlt hne)]; exact h j v hj
theorem addr_plus (g o j : Nat) : (⟨g, o, none⟩ : Addr).add j = ⟨g, o + j, none⟩ := by unfold Addr.add; split <;> simp_all
theorem cmp_near (d : Qn) : cmpN d = cmpZ ((d.1.natAbs : Int) * ((1 : Nat) : Int)) (1 * (d.2 : Int)) := rfl
theorem sums_law (a : Option Addr) (len cap : Nat) (z : List Int) (w : World) (hr : IsRow .i64 w a len cap z) :
  Calls Tryz.prog 6 #[.slice a len cap] w fun e w' => e = .returned (.bool true) ∧ Below w.heap.size w w' := by
 have ht0 := hr.tape 44
 clear hr
 go_enter Tryz.func6, Tryz.ntmps6
 go_wp2_with fail
 refine (books_any w.heap.size 0 _ ht0 (by omega)).mono ?_
 rintro e w1 ⟨v, l, at1, rfl, hD, hown, ht1, ha1, hg1⟩
 have hB1 := ((Below.refl w.heap.size w).alloc (Nat.le_refl _) (.cells #[.slice a len cap, .int .i64 0] 44)).trans (below_grownBy hg1 (Nat.le_refl _) (by simp))
 obtain ⟨bt, hbt⟩ : ∃ bt, bt = w.heap.size := ⟨_, rfl⟩
 have hown1 : w1.ownsRow (bt + 1) 47 5 v l.length (cellsB l) := by have := hown; simp at this; rw [hbt]; exact this
 clear hown ht0 hg1
 rw [← hbt] at ht1 ⊢
 obtain ⟨n, hn⟩ : ∃ n, n = l.length := ⟨_, rfl⟩
 have hl := hD.len
 rw [← hn] at hown1 hl
 obtain ⟨g, cp, rfl, hgb, hgl⟩ := form_own hown1 (by omega)
 have HBT := hid hbt
 have HO := hid hown1
 have HD := hid (And.intro hD hn)
 have HB := hid hB1
 clear hown1 hD hB1 hbt hn hgl
 go_wp2_with fail
 refine (range_any bt _ (-1000) 2000000 _ ht1 (by omega) (by omega) (by omega) (by omega)).mono ?_
 rintro e w2 ⟨total, ho1, ho2, rfl, ht2, hg2⟩
 replace HB := hid (HB.out.trans (below_grownBy hg2 (by rw [HBT.out]; exact Nat.le_refl _) HB.out.size))
 replace HO := hid (own_keptB HO.out hg2 (by omega))
 clear ht1 ht2 hg2 ha1
 have HFEW := hid (fun b hb => (HD.out.1.all b hb).few)
 have HBK := hid (fun (W : World) (h : Below w2.heap.size w2 W) => show BksAt W (.slice (some ⟨g, 0, none⟩) n cp) l by have := Rd.of_own (ownsRow_below HO.out h); unfold BksAt; rw [← HD.out.2]; exact this)
 have HAL := hid (alloc_any total l (.slice (some ⟨g, 0, none⟩) n cp) w2 (HBK.out w2 (Below.refl _ _)) HD.out.1.check)
 go_upto_region 5 with (go_at_call 7; refine HAL.out.mono ?_; rintro e w3 ⟨vs, r, hr, rfl, hrd, hb3⟩)
 obtain ⟨ct, V_ct⟩ : ∃ c : List Value, Hid (c = ratZ total 1) := ⟨_, hid rfl⟩
 have HW := hid (rwholeZ V_ct.out (by omega) (by omega))
 have HX := hid (fun (W : World) (h : BksAt W (.slice (some ⟨g, 0, none⟩) n cp) l) => exact_any (total, 1) l _ W h HD.out.1.check (vqz (by omega)) V_ct.out)
 have hl4 : l.length ≤ 4 := by rw [← HD.out.2]; omega
 have hS8 := few_sum hl4 HFEW.out
 have hO8 := few_own hl4 HFEW.out
 have hce : comm total l = total - (sumO l : Int) - ownS l := rfl
 have hcb : (comm total l).natAbs ≤ 10 ^ 10 := by omega
 have hsub : subQ (total, 1) ((sumO l : Int) + ownS l, 1) = some (comm total l, 1) := by
  rw [sub_whole (by omega)]; congr 2; omega
 have hx := exact_step HFEW.out hl4 hsub (Nat.le_trans hcb (by decide)) (show 1 ≤ 10 ^ 10 by decide) (show 1 ≠ 0 by decide)
 have ha := few_alloc hr hl4 HFEW.out (by omega) (by omega)
 replace HB := hid (HB.out.trans (hb3.mono HB.out.size))
 have HF3 := hid hb3
 have HRD := hid hrd
 have HC := hid (And.intro hS8 (And.intro hce hcb))
 clear HAL hr hb3 hrd hS8 hO8 hce hcb hsub
 go_upto_region 6 with (first | (go_at_call 18; refine (HW.out _).mono ?_; rintro e w4 ⟨rfl, hb4⟩) | (go_at_call 9; refine (HX.out _ (HBK.out _ (HF3.out.trans (hb4.mono HF3.out.size)))).mono ?_; rintro e w5 ⟨vx, rfl, hrx, _, hb5⟩))
 have hb45 := hb4.trans (hb5.mono hb4.size)
 replace HB := hid (HB.out.trans (hb45.mono HB.out.size))
 have HF5 := hid (HF3.out.trans (hb45.mono HF3.out.size))
 have hrd5 := Rd.below HRD.out hb45
 clear HX HRD HF3 hb4 hb5 hb45
 rcases ha with ⟨rfl, p1, p2⟩ | ⟨rs, rfl, hR, hnc⟩
 ·have hx2 : exactR (total, 1) l = (211, []) := by
   rcases hx with ⟨_, _, h⟩ | ⟨h, _⟩
   ·exact h
   ·exact absurd ⟨p1, p2⟩ h
  rw [hx2] at hrx ⊢
  obtain ⟨A1, c1, rfl⟩ := Rd.form hrd5
  obtain ⟨A2, c2, rfl⟩ := Rd.form hrx
  clear hrd5 hrx hx hx2 p1 p2
  go_wp2_with fail
  refine (known_any _).mono ?_
  rintro e w6 ⟨rfl, hb6⟩
  go_wp2
  go_ret
  exact ⟨rfl, HB.out.trans (hb6.mono HB.out.size)⟩
 ·obtain ⟨xs, z2, z3, z4⟩ : ∃ xs : List Qn, exactR (total, 1) l = (0, xs) ∧ xs.length = l.length ∧ ∀ (k : Nat) (b : Bk), l[k]? = some b → ∃ r, xs[k]? = some r ∧ exR (comm total l, 1) (sumO l) b = some r := by
   rcases hx with ⟨h1, h2, _⟩ | ⟨_, h⟩
   ·exact absurd ⟨h1, h2⟩ hnc
   ·exact h
  rw [z2] at hrx ⊢
  have hrl : rs.length = l.length := by rw [res_len hR, List.length_map]
  have hL1 : (shL l rs).length = n := by rw [shL_len hrl]; exact HD.out.2.symm
  rw [← HD.out.2] at z3
  replace hrx : Rd w5 66 vx xs.length (cellsQ xs) := hrx
  obtain ⟨ga, oa, ca, rfl, hca⟩ := shs_some hrd5 (by show 0 < (shL l rs).length; omega)
  obtain ⟨gx, ox, cx, rfl, hcx⟩ := qs_some hrx (by omega)
  have hcomm := HC.out.2.1
  have hS8 := HC.out.1
  have hrb := res_bd hR
  have hrb2 : ∀ x ∈ rs, -10000000000 ≤ x ∧ x ≤ 10000000000 := fun x hx => by
   have h5 := hrb x hx
   have h7 := HC.out.2.2
   omega
  have hna := net_all hR hnc
  have hea := take_all (total := total) (l := l) (by omega) hnc
  obtain ⟨c, hc⟩ : ∃ c, c = comm total l := ⟨_, rfl⟩
  obtain ⟨M, hM⟩ : ∃ M, M = max (sumO l) 1 := ⟨_, rfl⟩
  rw [← hc, ← hM] at hea
  have hzz : sumL (l.map Bk.op) = 0 → comm total l = 0 := fun h0 => by
   by_cases h : comm total l = 0
   ·exact h
   ·exact absurd ⟨h0, h⟩ hnc
  have HALL := hid (show ∀ k, k < n → ∃ (b : Bk) (x : Int) (q d : Qn), l[k]? = some b ∧ Few b ∧ (-10000000000 ≤ x ∧ x ≤ 10000000000) ∧ (∀ j u, (shOf b x).cells[j]? = some u → w5.cell? ⟨ga, oa + (k * 5 + j), none⟩ = some u) ∧ w5.rangeAt gx (ox + k * 66) (ratZ q.1 q.2) ∧ mkQ (numE c M b) M = some q ∧ subQ q ((b.op : Int) + b.own + x, 1) = some d ∧ VQ d ∧ cmpN d = -1 ∧ VQ ((d.1.natAbs : Int), d.2) ∧ ((shL l rs).map Sh.net)[k]? = some ((b.op : Int) + b.own + x) from fun k hk => by
   obtain ⟨b, hb⟩ : ∃ b, l[k]? = some b := ⟨_, List.getElem?_eq_getElem (by rw [← HD.out.2]; exact hk)⟩
   obtain ⟨x, hx⟩ : ∃ x, rs[k]? = some x := ⟨_, List.getElem?_eq_getElem (by rw [hrl, ← HD.out.2]; exact hk)⟩
   obtain ⟨q, hq1, hq2⟩ := z4 k b hb
   have hfb := HFEW.out b (List.mem_of_getElem? hb)
   have hxb := hrb2 x (List.mem_of_getElem? hx)
   have hnr := res_near hR hzz (k := k) (o := b.op) (by rw [List.getElem?_map, hb]; rfl) hx
   obtain ⟨d, e1, e2, e3, e4⟩ := near_one hfb hS8 HC.out.2.2 hxb hq2 hnr
   rw [exR_one] at hq2
   refine ⟨b, x, q, d, hb, hfb, hxb, hca k _ (shL_get hb hx), fun t u hu => ?_, by rw [hc, hM]; exact hq2, e1, e2, e3, e4, by rw [List.getElem?_map, shL_get hb hx]; rfl⟩
   have := hcx k q hq1 t u hu
   rw [← Nat.add_assoc] at this; exact this)
  have HTS := hid (fun k => take_some (c := c) (M := M) HFEW.out hl4 (by rw [hc]; exact HC.out.2.2) (by rw [hM]; omega) k)
  have HM := hid (show M ≠ 0 by omega)
  have HNA := hid hna
  have HEA := hid hea
  have HNB := hid (show ∀ x ∈ (shL l rs).map Sh.net, -20000000000 ≤ x ∧ x ≤ 20000000000 from fun y hy => by
   obtain ⟨k, hk⟩ := List.mem_iff_getElem?.1 hy
   have hkn : k < n := by have := (List.getElem?_eq_some_iff.1 hk).1; rw [List.length_map, hL1] at this; exact this
   obtain ⟨b, x, q, d, _, hfb, hxb, _, _, _, _, _, _, _, hn⟩ := HALL.out k hkn
   rw [hk] at hn
   injection hn with hn
   have h1 := hfb.op_le; have h2 := hfb.own
   omega)
  have HNL := hid (show ((shL l rs).map Sh.net).length = n by rw [List.length_map]; exact hL1)
  simp only [hL1, z3]
  generalize (shL l rs).map Sh.net = nets at *
  clear hrd5 hrx hca hcx hx z2 z3 z4 hR hrl hL1 hrb hrb2 hcomm hS8 hzz hc hM hna hea hnc
  obtain ⟨ce, V_ce⟩ : ∃ c : List Value, Hid (c = ratZ 0 1) := ⟨_, hid rfl⟩
  have HZ := hid (rzeroQ V_ce.out)
  have FR := hid (show Fr w5.heap.size w5 w5 from Fr.start w5)
  have FR0 := hid FR.out.le
  go_upto_region 10 with fail
  refine wp_flow_new [⟨true, 1, 11, 3, 0, 0, 27, 63, ce, 0, ce, []⟩] [(63, .agg ce.toArray), (10, .int .i64 0)] _ (by simp only [zz4, zz5, Act.put, zz1, zz2, zz3]; rfl) (by kernel_rfl) (by kernel_rfl) rfl ?_ ?_ ?_ ?_
  ·intro W' hW'
   refine fxo ?_ ?_; (go_big_quiet_step ((go_at_call 24; exact Calls.below_of (HZ.out _))); (try simp only [Act.put, zz1, zz2, zz3]); exact wqn rfl)
   refine fxs (by rfl) ?_
   refine fxo ?_ ?_; (go_big_quiet_step (fail); (try simp only [Act.put, zz1, zz2, zz3]); exact wqn rfl)
   refine fxs (by rfl) ?_
   exact fxn
  ·exact forPl _ _ (Tryz.alR (sizeR V_ce.out)) (forPl0)
  ·exact forPl _ _ (stw rfl (sizeR V_ce.out) (oneR V_ce.out) (fun _ => rfl)) (forPl0)
  intro β wx1 E
  replace FR := hid (FR.out.fnw E rfl)
  obtain ⟨be, hbe⟩ : ∃ b, b = β 1 := ⟨_, rfl⟩
  have ebe := E.atNew (List.mem_cons_self ..) rfl
  simp only at ebe
  rw [← hbe] at ebe
  have hZbe : w5.heap.size ≤ be := by have h1 := ebe.1; have h2 := FR0.out; omega
  have Abe := hid ebe.2
  simp only [newPuts, zz4, zz5, if_true, Bool.false_eq_true, if_false, Act.put, zz1, zz2, zz3]
  rw [← hbe]
  replace FR0 := hid FR.out.le
  clear E ebe hbe
  obtain ⟨WE, hWE⟩ : ∃ x, x = wx1 := ⟨_, rfl⟩
  rw [← hWE] at FR Abe ⊢
  clear hWE
  go_wp2
  go_loopg [10, 12] n (fun m sv iv wr => ∃ (k : Nat) (E : Qn), iv = .int .i64 k ∧ sv = .int .i64 (sI (nets.take k)) ∧ k ≤ n ∧ n ≤ m + k ∧ mkQ (sI ((l.take k).map (numE c M))) M = some E ∧ At wr be 0 (ratZ E.1 E.2) ∧ Fr w5.heap.size w5 wr)
  case atStart => exact ⟨0, (0, 1), rfl, rfl, by omega, by omega, mkQ_one (by decide) HM.out (by simp [sI]), by rw [← V_ce.out]; exact Abe.out, FR.out⟩
  case round =>
   clear FR FR0 Abe
   obtain ⟨k, E, rfl, rfl, hk, hm, hE, hAt, hFR⟩ := hrel
   have vE := mkQ_valid HM.out hE
   obtain ⟨S, hS⟩ : ∃ S, S = sI (nets.take k) := ⟨_, rfl⟩
   have hSb : -80000000000 ≤ S ∧ S ≤ 80000000000 := by
    have h1 := sI_bd (c := 20000000000) (by omega) (nets.take k) (fun x hx => HNB.out x (List.mem_of_mem_take hx))
    have h2 : (nets.take k).length ≤ 4 := by rw [List.length_take]; omega
    generalize (nets.take k).length = y at *
    omega
   obtain ⟨ke, V_ke⟩ : ∃ c : List Value, Hid (c = ratZ E.1 E.2) := ⟨_, hid rfl⟩
   have Abe := hid (show At wr be 0 ke by rw [V_ke.out]; exact hAt)
   have FR := hid hFR
   have FR0 := hid FR.out.le
   clear hAt hFR
   by_cases hkn : k < n
   ·obtain ⟨b, x, q, d, hb, hfb, hxb, hsh, hrq, hq, hd, vd, hcd, vm, hnk⟩ := HALL.out k hkn
    have hob := hfb.own
    have hop := hfb.op_le
    have vq := mkQ_valid HM.out hq
    obtain ⟨E', hE'⟩ := HTS.out (k + 1)
    have htk : sI ((l.take (k + 1)).map (numE c M)) = sI ((l.take k).map (numE c M)) + numE c M b := by
     rw [List.take_add_one, hb, List.map_append]; exact sI_snoc _ _
    have hadd : addQ E q = some E' := add_common HM.out hE hq (by rw [← htk]; exact hE')
    have HE' := hid hE'
    obtain ⟨nt, hnt⟩ : ∃ nt, nt = (b.op : Int) + b.own + x := ⟨_, rfl⟩
    rw [← hnt] at hd hnk
    have hst := sI_take hnk
    rw [← hS] at hst ⊢
    have HST := hid hst
    have ww : IntKind.i64.wrap (S + nt) = S + nt := IntWalk.i64_in _ (by omega)
    have w1' : IntKind.i64.wrap ((b.op : Int) + b.own) = (b.op : Int) + b.own := IntWalk.i64_in _ (by omega)
    have w2' : IntKind.i64.wrap ((b.op : Int) + b.own + x) = nt := by rw [IntWalk.i64_in _ (by omega)]; exact hnt.symm
    obtain ⟨s0, s1, s2, s3, s4⟩ := sh_cells hsh
    have s4' : w5.cell? ⟨ga, oa + k * 5 + 4, none⟩ = some (.int .i64 nt) := by rw [hnt]; exact s4
    have SC := hid (show w5.cell? ⟨ga, oa + k * 5, none⟩ = some (.string b.name) ∧ w5.cell? ⟨ga, oa + k * 5 + 1, none⟩ = some (.int .i64 (b.op : Int)) ∧ w5.cell? ⟨ga, oa + k * 5 + 2, none⟩ = some (.int .i64 b.own) ∧ w5.cell? ⟨ga, oa + k * 5 + 3, none⟩ = some (.int .i64 x) ∧ w5.cell? ⟨ga, oa + k * 5 + 4, none⟩ = some (.int .i64 nt) from And.intro s0 (And.intro s1 (And.intro s2 (And.intro s3 s4'))))
    have hname : w5.cell? ⟨g, k * 5, none⟩ = some (.string b.name) := by
     have h1 := HO.out.cells rfl (k * 5) (.string b.name) (cellsB_get l k b hb 0 _ rfl)
     have hadd : (⟨g, 0, none⟩ : Addr).add (k * 5) = ⟨g, 0 + k * 5, none⟩ := addr_plus g 0 (k * 5)
     rw [hadd, Nat.zero_add] at h1
     exact cell_up h1 HF5.out
    have HNM := hid hname
    obtain ⟨kx, V_kx⟩ : ∃ c : List Value, Hid (c = ratZ q.1 q.2) := ⟨_, hid rfl⟩
    obtain ⟨kn, V_kn⟩ : ∃ c : List Value, Hid (c = ratZ E'.1 E'.2) := ⟨_, hid rfl⟩
    obtain ⟨kd, V_kd⟩ : ∃ c : List Value, Hid (c = ratZ d.1 d.2) := ⟨_, hid rfl⟩
    obtain ⟨kw, V_kw⟩ : ∃ c : List Value, Hid (c = ratZ nt 1) := ⟨_, hid rfl⟩
    obtain ⟨km, V_km⟩ : ∃ c : List Value, Hid (c = ratZ (d.1.natAbs : Int) d.2) := ⟨_, hid rfl⟩
    obtain ⟨k1, V_k1⟩ : ∃ c : List Value, Hid (c = ratZ 1 1) := ⟨_, hid rfl⟩
    have RX5 := hid (show w5.rangeAt gx (ox + k * 66) kx by rw [V_kx.out]; exact hrq)
    have hgx : gx < w5.heap.size := by
     obtain ⟨u, hu⟩ : ∃ u, (ratZ q.1 q.2)[0]? = some u := ⟨_, List.getElem?_eq_getElem (by rw [ratZ_len]; decide)⟩
     exact cell_lt (hrq 0 u hu)
    have HADD := hid (raddQ (cR := kn) (code := 0) V_ke.out V_kx.out vE vq (by rw [hadd]; exact V_kn.out) (by rw [hadd]; rfl))
    have HWN := hid (rwholeZ V_kw.out (by omega) (by omega))
    have HSUB := hid (rsubQ (cR := kd) (code := 0) V_kx.out V_kw.out vq (vqz (by omega)) (by rw [hd]; exact V_kd.out) (by rw [hd]; rfl))
    have HABS := hid (rabsQ V_kd.out V_km.out vd)
    have HONE := hid (roneQ V_k1.out)
    have HCMP := hid (rcompareQ (a := ((d.1.natAbs : Int), d.2)) (b := (1, 1)) (z := -1) V_km.out V_k1.out vm (vqz (by decide)) (by rw [← cmp_near]; exact hcd.symm))
    have RX := hid (ranges_up RX5.out FR.out.below)
    have hgxw : gx < wr.heap.size := Nat.lt_of_lt_of_le hgx FR.out.le
    have r4 := cell_up SC.out.2.2.2.2 FR.out.below
    clear hsh hrq hq hE hE' hd vd hcd vm hnk hb hfb vq vE htk hadd hst s0 s1 s2 s3 s4 s4' hname hnt hS
    go_upto_region 15 with fail
    clear r4
    refine wp_flow [⟨false, 0, 11, 9, be, 0, 27, 84, kn, 0, kn, []⟩] [(78, .agg ke.toArray), (79, .slice (some ⟨gx, ox, none⟩) n cx), (80, .int .i64 (k : Int)), (81, .pointer (some ⟨gx, ox + k * 66, none⟩)), (82, .agg kx.toArray), (83, .tuple #[.agg kn.toArray, .int .i64 0]), (77, .tuple #[.agg kn.toArray, .int .i64 0]), (84, .agg kn.toArray), (85, .int .i64 0)] _ (by simp only [zz4, zz5, Act.put, zz1, zz2, zz3]; rfl) (by kernel_rfl) (by kernel_rfl) ?_ ?_ ?_ ?_ ?_ ?_ ?_
    ·intro W' hW'
     have rd0 := Abe.out.below hW'
     have rx := ranges_up RX.out hW'
     refine fxo (wlg (by rfl) rfl rfl rd0 Tryz.underlying27 rfl (sizeR V_ke.out) (wqn (by simp only [Act.put, zz1, zz2, zz3]))) ?_
     iterate 3 (refine fxo ?_ ?_; (go_big_quiet_step (fail); (try simp only [Act.put, zz1, zz2, zz3]); exact wqn rfl))
     refine fxo (wlq (by rfl) _ _ rfl _ _ rfl _ _ rx Tryz.underlying27 rfl (sizeR V_kx.out) (wqn (by simp only [Act.put, zz1, zz2, zz3]))) ?_
     refine fxo ?_ ?_; (go_big_quiet_step ((go_at_call 25; exact Calls.below_of (HADD.out _))); (try simp only [Act.put, zz1, zz2, zz3]); exact wqn rfl)
     iterate 3 (refine fxo ?_ ?_; (go_big_quiet_step (fail); (try simp only [Act.put, zz1, zz2, zz3]); exact wqn rfl))
     refine fxs (by rfl) ?_
     exact fxn
    ·intro W' hK'
     have rx := ranges_keep hK' RX.out hgxw (forPl _ _ (fun _ => (by show be ≠ gx; omega)) (forPl0))
     refine fxs (by kernel_rfl) ?_
     iterate 3 (first | (refine fxo ?_ ?_; (go_big_quiet_step (fail); (try simp only [Act.put, zz1, zz2, zz3]); exact wqn rfl)) | (refine fxs (by kernel_rfl) ?_))
     refine fxo (wlq (by rfl) _ _ rfl _ _ rfl _ _ rx Tryz.underlying27 rfl (sizeR V_kx.out) (wqn (by simp only [Act.put, zz1, zz2, zz3]))) ?_
     refine fxs (by kernel_rfl) ?_
     iterate 3 (first | (refine fxo ?_ ?_; (go_big_quiet_step (fail); (try simp only [Act.put, zz1, zz2, zz3]); exact wqn rfl)) | (refine fxs (by kernel_rfl) ?_))
     refine fxs (by kernel_rfl) ?_
     exact fxn
    ·exact forPl _ _ (fun h => Bool.noConfusion h) (forPl0)
    ·exact forPl _ _ (fun _ => ⟨Abe.out.lt, rfl, At.room Abe.out (sizeR V_ke.out) (sizeR V_kn.out)⟩) (forPl0)
    ·intro q hq r hr hqn hrn e
     simp only [List.mem_cons, List.not_mem_nil, or_false] at hq hr
     rcases hq with rfl <;> rcases hr with rfl <;> first | rfl | (exact Bool.noConfusion hqn) | (exact Bool.noConfusion hrn) | (exfalso; simp only at e; omega)
    ·exact forPl _ _ (stw rfl (sizeR V_kn.out) (oneR V_kn.out) (fun _ => rfl)) (forPl0)
    intro β wx31 E
    replace FR := hid (FR.out.flow E (forPl _ _ (fun _ => (by show w5.heap.size ≤ be; omega)) (forPl0)))
    replace Abe := hid (show At wx31 be 0 kn from E.atOld (List.mem_cons_self ..) rfl Abe.out.lt)
    simp only [newPuts, zz4, zz5, if_true, Bool.false_eq_true, if_false, Act.put, zz1, zz2, zz3]
    replace FR0 := hid FR.out.le
    clear E
    replace RX := hid (ranges_up RX5.out FR.out.below)
    have R4 := hid (cell_up SC.out.2.2.2.2 FR.out.below)
    clear hgxw
    go_upto_region 16 with fail
    refine wp_flow_new [⟨true, 14, 13, 15, 0, 0, 27, 98, kd, 0, kd, []⟩] [(87, .slice (some ⟨gx, ox, none⟩) n cx), (88, .int .i64 (k : Int)), (89, .pointer (some ⟨gx, ox + k * 66, none⟩)), (90, .agg kx.toArray), (91, .slice (some ⟨ga, oa, none⟩) n ca), (92, .int .i64 (k : Int)), (93, .pointer (some ⟨ga, oa + k * 5, none⟩)), (94, .pointer (some ⟨ga, oa + k * 5 + 4, none⟩)), (95, .int .i64 nt), (96, .agg kw.toArray), (97, .tuple #[.agg kd.toArray, .int .i64 0]), (86, .tuple #[.agg kd.toArray, .int .i64 0]), (98, .agg kd.toArray), (99, .int .i64 0), (14, .int .i64 0)] _ (by simp only [zz4, zz5, Act.put, zz1, zz2, zz3]; rfl) (by kernel_rfl) (by kernel_rfl) rfl ?_ ?_ ?_ ?_
    ·intro W' hW'
     have rx := ranges_up RX.out hW'
     have r4 := cell_up R4.out hW'
     iterate 3 (refine fxo ?_ ?_; (go_big_quiet_step (fail); (try simp only [Act.put, zz1, zz2, zz3]); exact wqn rfl))
     refine fxo (wlq (by rfl) _ _ rfl _ _ rfl _ _ rx Tryz.underlying27 rfl (sizeR V_kx.out) (wqn (by simp only [Act.put, zz1, zz2, zz3]))) ?_
     iterate 4 (refine fxo ?_ ?_; (go_big_quiet_step (fail); (try simp only [Act.put, zz1, zz2, zz3]); exact wqn rfl))
     refine fxo (wcg (by rfl) rfl rfl (fun W h => by simp [loadVar, h, go_sem]) r4 (wqn (by simp only [Act.put, zz1, zz2, zz3]))) ?_
     refine fxo ?_ ?_; (go_big_quiet_step ((go_at_call 18; exact Calls.below_of (HWN.out _))); (try simp only [Act.put, zz1, zz2, zz3]); exact wqn rfl)
     refine fxo ?_ ?_; (go_big_quiet_step ((go_at_call 26; exact Calls.below_of (HSUB.out _))); (try simp only [Act.put, zz1, zz2, zz3]); exact wqn rfl)
     iterate 3 (refine fxo ?_ ?_; (go_big_quiet_step (fail); (try simp only [Act.put, zz1, zz2, zz3]); exact wqn rfl))
     iterate 2 (refine fxs (by rfl) ?_)
     refine fxo ?_ ?_; (go_big_quiet_step (fail); (try simp only [Act.put, zz1, zz2, zz3]); exact wqn rfl)
     exact fxn
    ·exact forPl _ _ (Tryz.alR (sizeR V_kd.out)) (forPl0)
    ·exact forPl _ _ (stw rfl (sizeR V_kd.out) (oneR V_kd.out) (fun _ => rfl)) (forPl0)
    intro β wx32 E
    replace FR := hid (FR.out.fnw E rfl)
    obtain ⟨bd, hbd⟩ : ∃ b, b = β 14 := ⟨_, rfl⟩
    have ebd := E.atNew (List.mem_cons_self ..) rfl
    simp only at ebd
    rw [← hbd] at ebd
    have lbe_bd : be < bd := by have h1 := ebd.1; have h2 := Abe.out.lt; omega
    have hZbd : w5.heap.size ≤ bd := by have h1 := ebd.1; have h2 := FR0.out; omega
    replace Abe := hid (Abe.out.fnw E rfl)
    have Abd := hid ebd.2
    simp only [newPuts, zz4, zz5, if_true, Bool.false_eq_true, if_false, Act.put, zz1, zz2, zz3]
    rw [← hbd]
    replace FR0 := hid FR.out.le
    clear E ebd hbd
    go_upto_region 17 with fail
    refine wp_flow [⟨false, 0, 13, 5, bd, 0, 27, 103, km, 0, km, []⟩] [(101, .agg kd.toArray), (102, .tuple #[.agg km.toArray, .int .i64 0]), (100, .tuple #[.agg km.toArray, .int .i64 0]), (103, .agg km.toArray), (104, .int .i64 0)] _ (by simp only [zz4, zz5, Act.put, zz1, zz2, zz3]; rfl) (by kernel_rfl) (by kernel_rfl) ?_ ?_ ?_ ?_ ?_ ?_ ?_
    ·intro W' hW'
     have rd0 := Abd.out.below hW'
     refine fxo (wlg (by rfl) rfl rfl rd0 Tryz.underlying27 rfl (sizeR V_kd.out) (wqn (by simp only [Act.put, zz1, zz2, zz3]))) ?_
     refine fxo ?_ ?_; (go_big_quiet_step ((go_at_call 27; exact Calls.below_of (HABS.out _))); (try simp only [Act.put, zz1, zz2, zz3]); exact wqn rfl)
     iterate 3 (refine fxo ?_ ?_; (go_big_quiet_step (fail); (try simp only [Act.put, zz1, zz2, zz3]); exact wqn rfl))
     refine fxs (by rfl) ?_
     exact fxn
    ·intro W' hK'
     iterate 2 (refine fxs (by kernel_rfl) ?_)
     iterate 3 (first | (refine fxo ?_ ?_; (go_big_quiet_step (fail); (try simp only [Act.put, zz1, zz2, zz3]); exact wqn rfl)) | (refine fxs (by kernel_rfl) ?_))
     refine fxs (by kernel_rfl) ?_
     exact fxn
    ·exact forPl _ _ (fun h => Bool.noConfusion h) (forPl0)
    ·exact forPl _ _ (fun _ => ⟨Abd.out.lt, rfl, At.room Abd.out (sizeR V_kd.out) (sizeR V_km.out)⟩) (forPl0)
    ·intro q hq r hr hqn hrn e
     simp only [List.mem_cons, List.not_mem_nil, or_false] at hq hr
     rcases hq with rfl <;> rcases hr with rfl <;> first | rfl | (exact Bool.noConfusion hqn) | (exact Bool.noConfusion hrn) | (exfalso; simp only at e; omega)
    ·exact forPl _ _ (stw rfl (sizeR V_km.out) (oneR V_km.out) (fun _ => rfl)) (forPl0)
    intro β wx33 E
    replace FR := hid (FR.out.flow E (forPl _ _ (fun _ => (by show w5.heap.size ≤ bd; omega)) (forPl0)))
    replace Abe := hid (At.flow E Abe.out (forPl _ _ (fun _ => (by show bd ≠ be; omega)) (forPl0)))
    replace Abd := hid (show At wx33 bd 0 km from E.atOld (List.mem_cons_self ..) rfl Abd.out.lt)
    simp only [newPuts, zz4, zz5, if_true, Bool.false_eq_true, if_false, Act.put, zz1, zz2, zz3]
    replace FR0 := hid FR.out.le
    clear E
    have C0 := hid (cell_up SC.out.1 FR.out.below)
    have C1 := hid (cell_up SC.out.2.1 FR.out.below)
    have C2 := hid (cell_up SC.out.2.2.1 FR.out.below)
    have C3 := hid (cell_up SC.out.2.2.2.1 FR.out.below)
    have C4 := hid (cell_up SC.out.2.2.2.2 FR.out.below)
    have CN := hid (cell_up HNM.out FR.out.below)
    go_upto_region 18 with fail
    refine wp_flow_new [] [(105, .agg km.toArray), (106, .agg k1.toArray), (107, .int .i64 (-1)), (108, .bool false), (109, .bool false), (110, .slice (some ⟨ga, oa, none⟩) n ca), (111, .int .i64 (k : Int)), (112, .pointer (some ⟨ga, oa + k * 5, none⟩)), (113, .pointer (some ⟨ga, oa + k * 5, none⟩)), (114, .string b.name), (115, .slice (some ⟨g, 0, none⟩) n cp), (116, .int .i64 (k : Int)), (117, .pointer (some ⟨g, k * 5, none⟩)), (118, .pointer (some ⟨g, k * 5, none⟩)), (119, .string b.name), (120, .bool false), (121, .bool false), (122, .bool false), (123, .slice (some ⟨ga, oa, none⟩) n ca), (124, .int .i64 (k : Int)), (125, .pointer (some ⟨ga, oa + k * 5, none⟩)), (126, .pointer (some ⟨ga, oa + k * 5 + 4, none⟩)), (127, .int .i64 nt), (128, .slice (some ⟨ga, oa, none⟩) n ca), (129, .int .i64 (k : Int)), (130, .pointer (some ⟨ga, oa + k * 5, none⟩)), (131, .pointer (some ⟨ga, oa + k * 5 + 1, none⟩)), (132, .int .i64 (b.op : Int)), (133, .slice (some ⟨ga, oa, none⟩) n ca), (134, .int .i64 (k : Int)), (135, .pointer (some ⟨ga, oa + k * 5, none⟩)), (136, .pointer (some ⟨ga, oa + k * 5 + 2, none⟩)), (137, .int .i64 b.own), (138, .int .i64 ((b.op : Int) + b.own)), (139, .slice (some ⟨ga, oa, none⟩) n ca), (140, .int .i64 (k : Int)), (141, .pointer (some ⟨ga, oa + k * 5, none⟩)), (142, .pointer (some ⟨ga, oa + k * 5 + 3, none⟩)), (143, .int .i64 x), (144, .int .i64 nt), (145, .bool false), (146, .bool false)] _ (by simp only [zz4, zz5, Act.put, zz1, zz2, zz3]; rfl) (by kernel_rfl) (by kernel_rfl) rfl ?_ ?_ ?_ ?_
    ·intro W' hW'
     have rd0 := Abd.out.below hW'
     have c0 := cell_up C0.out hW'
     have c1 := cell_up C1.out hW'
     have c2 := cell_up C2.out hW'
     have c3 := cell_up C3.out hW'
     have c4 := cell_up C4.out hW'
     have cn := cell_up CN.out hW'
     refine fxo (wlg (by rfl) rfl rfl rd0 Tryz.underlying27 rfl (sizeR V_km.out) (wqn (by simp only [Act.put, zz1, zz2, zz3]))) ?_
     refine fxo ?_ ?_; (go_big_quiet_step ((go_at_call 23; exact Calls.below_of (HONE.out _))); (try simp only [Act.put, zz1, zz2, zz3]); exact wqn rfl)
     refine fxo ?_ ?_; (go_big_quiet_step ((go_at_call 28; exact Calls.below_of (HCMP.out _))); (try simp only [Act.put, zz1, zz2, zz3]); exact wqn rfl)
     iterate 6 (refine fxo ?_ ?_; (go_big_quiet_step (fail); (try simp only [Act.put, zz1, zz2, zz3]); exact wqn rfl))
     refine fxo (wcg (by rfl) rfl rfl (fun W h => by simp [loadVar, h, go_sem]) c0 (wqn (by simp only [Act.put, zz1, zz2, zz3]))) ?_
     iterate 4 (refine fxo ?_ ?_; (go_big_quiet_step (fail); (try simp only [Act.put, zz1, zz2, zz3]); exact wqn rfl))
     refine fxo (wcg (by rfl) rfl rfl (fun W h => by simp [loadVar, h, go_sem]) cn (wqn (by simp only [Act.put, zz1, zz2, zz3]))) ?_
     iterate 7 (refine fxo ?_ ?_; (go_big_quiet_step (fail); (try simp only [Act.put, zz1, zz2, zz3]); exact wqn rfl))
     refine fxo (wcg (by rfl) rfl rfl (fun W h => by simp [loadVar, h, go_sem]) c4 (wqn (by simp only [Act.put, zz1, zz2, zz3]))) ?_
     iterate 4 (refine fxo ?_ ?_; (go_big_quiet_step (fail); (try simp only [Act.put, zz1, zz2, zz3]); exact wqn rfl))
     refine fxo (wcg (by rfl) rfl rfl (fun W h => by simp [loadVar, h, go_sem]) c1 (wqn (by simp only [Act.put, zz1, zz2, zz3]))) ?_
     iterate 4 (refine fxo ?_ ?_; (go_big_quiet_step (fail); (try simp only [Act.put, zz1, zz2, zz3]); exact wqn rfl))
     refine fxo (wcg (by rfl) rfl rfl (fun W h => by simp [loadVar, h, go_sem]) c2 (wqn (by simp only [Act.put, zz1, zz2, zz3]))) ?_
     iterate 5 (refine fxo ?_ ?_; (go_big_quiet_step (fail); (try simp only [Act.put, zz1, zz2, zz3]); exact wqn rfl))
     refine fxo (wcg (by rfl) rfl rfl (fun W h => by simp [loadVar, h, go_sem]) c3 (wqn (by simp only [Act.put, zz1, zz2, zz3]))) ?_
     iterate 3 (refine fxo ?_ ?_; (go_big_quiet_step (fail); (try simp only [Act.put, zz1, zz2, zz3]); exact wqn rfl))
     exact fxn
    ·exact forPl0
    ·exact forPl0
    intro β wx34 E
    replace FR := hid (FR.out.fnw E rfl)
    replace Abe := hid (Abe.out.fnw E rfl)
    replace Abd := hid (Abd.out.fnw E rfl)
    have hE := E.below rfl
    simp only [newPuts, zz4, zz5, if_true, Bool.false_eq_true, if_false, Act.put, zz1, zz2, zz3]
    replace FR0 := hid FR.out.le
    clear E
    go_wp2
    go_roundg (gk - 1)
    case measure => omega
    case rel => exact ⟨k + 1, E', by go_num, by rw [HST.out], by omega, by omega, HE'.out, by rw [← V_kn.out]; exact Abe.out, FR.out⟩
   ·obtain rfl : k = n := by omega
    have e1 : nets.take k = nets := List.take_of_length_le (by rw [HNL.out]; exact Nat.le_refl _)
    have e2 : l.take k = l := List.take_of_length_le (by rw [HD.out.2]; exact Nat.le_refl _)
    rw [e2, HEA.out] at hE
    injection hE with hE
    subst hE
    rw [e1, HNA.out] at hS
    rw [e1, HNA.out]
    have VT := hid (show VQ (total, 1) from vqz (by omega))
    have HWT := hid (rwholeZ (cr := ke) (z := total) V_ke.out (by omega) (by omega))
    clear e1 e2 hS vE hm
    go_upto_region 20 with fail
    refine wp_flow_new [] [(147, .bool true), (148, .bool true), (149, .int .i64 total), (150, .int .i64 total), (151, .bool true), (152, .bool true), (153, .bool true), (154, .agg ke.toArray), (155, .int .i64 total), (156, .agg ke.toArray), (157, .bool true), (158, .bool true), (2, .bool true)] _ (by simp only [zz4, zz5, Act.put, zz1, zz2, zz3]; rfl) (by kernel_rfl) (by kernel_rfl) rfl ?_ ?_ ?_ ?_
    ·intro W' hW'
     have rd0 := Abe.out.below hW'
     refine fxo ?_ ?_; (go_big_quiet_step ((go_at_call 11; exact Calls.below_of (known_any _))); (try simp only [Act.put, zz1, zz2, zz3]); exact wqn rfl)
     iterate 6 (refine fxo ?_ ?_; (go_big_quiet_step (fail); (try simp only [Act.put, zz1, zz2, zz3]); exact wqn rfl))
     refine fxo (wlg (by rfl) rfl rfl rd0 Tryz.underlying27 rfl (sizeR V_ke.out) (wqn (by simp only [Act.put, zz1, zz2, zz3]))) ?_
     refine fxo ?_ ?_; (go_big_quiet_step (fail); (try simp only [Act.put, zz1, zz2, zz3]); exact wqn rfl)
     refine fxo ?_ ?_; (go_big_quiet_step ((go_at_call 18; exact Calls.below_of (HWT.out _))); (try simp only [Act.put, zz1, zz2, zz3]); exact wqn rfl)
     refine fxo (wqs (by rfl) rfl rfl rfl (by kernel_rfl) (eqQ (r := (total, 1)) V_ke.out VT.out) (wqn (by simp only [Act.put, zz1, zz2, zz3]))) ?_
     iterate 2 (refine fxo ?_ ?_; (go_big_quiet_step (fail); (try simp only [Act.put, zz1, zz2, zz3]); exact wqn rfl))
     exact fxn
    ·exact forPl0
    ·exact forPl0
    intro β wx35 E
    replace FR := hid (FR.out.fnw E rfl)
    replace Abe := hid (Abe.out.fnw E rfl)
    have hE := E.below rfl
    simp only [newPuts, zz4, zz5, if_true, Bool.false_eq_true, if_false, Act.put, zz1, zz2, zz3]
    replace FR0 := hid FR.out.le
    clear E
    go_wp2
    go_ret
    exact ⟨rfl, HB.out.trans (FR.out.below.mono HB.out.size)⟩
end Go.Proofs.YtmcekgapelanhaaGreat
