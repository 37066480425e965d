import Derived.Test.YtmcekgapelanhaaGreatRcD
import Derived.Test.YtmcekgapelanhaaGreatRcE
import Derived.Test.YtmcekgapelanhaaGreatAlH
set_option linter.unusedVariables false
set_option linter.unusedSimpArgs false
set_option maxRecDepth 100000
set_option maxHeartbeats 8000000
namespace Go.Proofs.YtmcekgapelanhaaGreat
open Go.RowKit Big Al Tok Ap
open Lib (hid)
theorem alloc_bad (total:Int) (l:List Bk) (v:Value) (w:World) (h:BksAt w v l) (hC:checkB l=false) :
  Calls Tryz.prog 7 #[.int .i64 total,v] w fun e w'=>e=.returned (.tuple #[.slice none 0 0,.int .i64 210])∧Below w.heap.size w w':=by
 have HCK:=hid (show Calls Tryz.prog 12 #[v] w (fun e w'=>e=.returned (.int .i64 210)∧Below w.heap.size w w') by have:=acheck_any v l w h;rw [hC] at this;exact this)
 clear h hC
 go_enter Tryz.func7,Tryz.ntmps7
 go_wp2_with (go_at_call 12;refine HCK.out.mono ?_;rintro e wa ⟨rfl,hb⟩;have HB:=hid hb;clear hb)
 go_ret2
 exact ⟨rfl,HB.out⟩
theorem ralloc_bad (total:Int) (l:List Bk) (v:Value) (w:World) (h:BksAt w v l) (hC:checkB l=false) :
  Calls Tryz.prog 8 #[.int .i64 total,v] w fun e w'=>e=.returned (.tuple #[.slice none 0 0,.int .i64 210])∧Below w.heap.size w w':=by
 have HCK:=hid (show Calls Tryz.prog 13 #[v] w (fun e w'=>e=.returned (.int .i64 210)∧Below w.heap.size w w') by have:=rcheck_any v l w h;rw [hC] at this;exact this)
 clear h hC
 go_enter Tryz.func8,Tryz.ntmps8
 go_wp2_with (go_at_call 13;refine HCK.out.mono ?_;rintro e wa ⟨rfl,hb⟩;have HB:=hid hb;clear hb)
 go_ret2
 exact ⟨rfl,HB.out⟩
theorem exact_bad {ct:List Value} (l:List Bk) (v:Value) (w:World) (h:BksAt w v l) (hC:checkB l=false) :
  Calls Tryz.prog 9 #[.agg ct.toArray,v] w fun e w'=>e=.returned (.tuple #[.slice none 0 0,.int .i64 210])∧Below w.heap.size w w':=by
 have HCK:=hid (fun W (h:BksAt W v l)=>show Calls Tryz.prog 12 #[v] W (fun e w'=>e=.returned (.int .i64 210)∧Below W.heap.size W w') by have:=acheck_any v l W h;rw [hC] at this;exact this)
 have HBK:=hid h
 have HFB:=hid (show ∀ W,Fr w.heap.size w W→BksAt W v l from fun W hF=>HBK.out.below hF.below)
 clear h hC
 obtain ⟨B0,hB0⟩:∃ B,B=w.heap.size:=⟨_,rfl⟩
 obtain ⟨w0,hw0⟩:∃ w0,w0=(w.alloc (.cells ct.toArray 27)):=⟨_,rfl⟩
 have AB0:=hid (show At w0 B0 0 ct by rw [hw0];exact (show At (w.alloc (.cells ct.toArray 27)) B0 0 ct from At.fresh _ ct _ (by simp [hB0])))
 have FR:=hid (show Fr B0 w w0 by rw [hw0,hB0];exact (Fr.start w).alloc _)
 have FR0:=hid FR.out.le
 have hZB0:B0≤B0:=Nat.le_refl _
 have HB0:=hid hB0
 go_enter Tryz.func9,Tryz.ntmps9
 go_upto_region 1 with fail
 rw [←hw0,←hB0]
 clear hw0 hB0
 go_wp2_with (go_at_call 12;refine (HCK.out _ (HFB.out _ (by rw [←HB0.out];exact FR.out))).mono ?_;rintro e wa ⟨rfl,hb⟩;replace AB0:=hid (AB0.out.below hb);replace FR:=hid (FR.out.step hb);clear hb)
 go_ret2
 exact ⟨rfl,by rw [HB0.out] at FR;exact FR.out.below⟩
theorem rexact_bad {ct:List Value} (l:List Bk) (v:Value) (w:World) (h:BksAt w v l) (hC:checkB l=false) :
  Calls Tryz.prog 10 #[.agg ct.toArray,v] w fun e w'=>e=.returned (.tuple #[.slice none 0 0,.int .i64 210])∧Below w.heap.size w w':=by
 have HCK:=hid (fun W (h:BksAt W v l)=>show Calls Tryz.prog 13 #[v] W (fun e w'=>e=.returned (.int .i64 210)∧Below W.heap.size W w') by have:=rcheck_any v l W h;rw [hC] at this;exact this)
 have HBK:=hid h
 have HFB:=hid (show ∀ W,Fr w.heap.size w W→BksAt W v l from fun W hF=>HBK.out.below hF.below)
 clear h hC
 obtain ⟨B0,hB0⟩:∃ B,B=w.heap.size:=⟨_,rfl⟩
 obtain ⟨w0,hw0⟩:∃ w0,w0=(w.alloc (.cells ct.toArray 27)):=⟨_,rfl⟩
 have AB0:=hid (show At w0 B0 0 ct by rw [hw0];exact (show At (w.alloc (.cells ct.toArray 27)) B0 0 ct from At.fresh _ ct _ (by simp [hB0])))
 have FR:=hid (show Fr B0 w w0 by rw [hw0,hB0];exact (Fr.start w).alloc _)
 have FR0:=hid FR.out.le
 have hZB0:B0≤B0:=Nat.le_refl _
 have HB0:=hid hB0
 go_enter Tryz.func10,Tryz.ntmps10
 go_upto_region 1 with fail
 rw [←hw0,←hB0]
 clear hw0 hB0
 go_wp2_with (go_at_call 13;refine (HCK.out _ (HFB.out _ (by rw [←HB0.out];exact FR.out))).mono ?_;rintro e wa ⟨rfl,hb⟩;replace AB0:=hid (AB0.out.below hb);replace FR:=hid (FR.out.step hb);clear hb)
 go_ret2
 exact ⟨rfl,by rw [HB0.out] at FR;exact FR.out.below⟩
theorem exact_inv {ct:List Value} {n m:Bool} {p q:Nat} (l:List Bk) (v:Value) (w:World) (h:BksAt w v l) (hC:checkB l=true) (hct:ct=rat n p m q) (hp:p<BB^32) (hq:q<BB^32) (hbad:¬(p<B480∧q<B480∧n=cs1 n p∧m=false∧q≠0∧Nat.gcd p q=1)) :
  Calls Tryz.prog 9 #[.agg ct.toArray,v] w fun e w'=>e=.returned (.tuple #[.slice none 0 0,.int .i64 20])∧Below w.heap.size w w':=by
 have HCK:=hid (fun W (h:BksAt W v l)=>show Calls Tryz.prog 12 #[v] W (fun e w'=>e=.returned (.int .i64 0)∧Below W.heap.size W w') by have:=acheck_any v l W h;rw [hC] at this;exact this)
 have HBK:=hid h
 have HFB:=hid (show ∀ W,Fr w.heap.size w W→BksAt W v l from fun W hF=>HBK.out.below hF.below)
 have V_ct:=hid hct
 have HPV:=hid (pvalid_op (r:=false) hct (decide_eq_false hbad).symm hp hq)
 clear h hC hct hp hq hbad
 obtain ⟨B0,hB0⟩:∃ B,B=w.heap.size:=⟨_,rfl⟩
 obtain ⟨w0,hw0⟩:∃ w0,w0=(w.alloc (.cells ct.toArray 27)):=⟨_,rfl⟩
 have AB0:=hid (show At w0 B0 0 ct by rw [hw0];exact (show At (w.alloc (.cells ct.toArray 27)) B0 0 ct from At.fresh _ ct _ (by simp [hB0])))
 have FR:=hid (show Fr B0 w w0 by rw [hw0,hB0];exact (Fr.start w).alloc _)
 have FR0:=hid FR.out.le
 have hZB0:B0≤B0:=Nat.le_refl _
 have HB0:=hid hB0
 go_enter Tryz.func9,Tryz.ntmps9
 go_upto_region 1 with fail
 rw [←hw0,←hB0]
 clear hw0 hB0
 go_upto_region 4 with (go_at_call 12;refine (HCK.out _ (HFB.out _ (by rw [←HB0.out];exact FR.out))).mono ?_;rintro e wa ⟨rfl,hb⟩;replace AB0:=hid (AB0.out.below hb);replace FR:=hid (FR.out.step hb);clear hb)
 replace FR0:=hid FR.out.le
 refine wfn [] [(27,.agg ct.toArray),(28,.bool false),(29,.bool true)] _ (by simp only [zz4,zz5,zq];rfl) (by kernel_rfl) (by kernel_rfl) rfl ?_ ?_ ?_ ?_
 ·intro W' hW'
  have rd0:=AB0.out.below hW'
  refine fxo (wlg (by rfl) rfl rfl rd0 Tryz.underlying27 rfl (qR V_ct.out) (wqn (by simp only [zq]))) ?_
  refine fxo ?_ ?_;(go_big_quiet_step ((go_at_call 35;exact Calls.below_of (HPV.out _)));(try simp only [zq]);exact wqn rfl)
  refine fxo ?_ ?_;(go_big_quiet_step (fail);(try simp only [zq]);exact wqn rfl)
  exact fxn
 ·exact oN
 ·exact oN
 intro β wx1 E
 replace FR:=hid (FR.out.fnw E rfl)
 replace AB0:=hid (AB0.out.fnw E rfl)
 have hE:=E.below rfl
 simp only [nP,zr,zq]
 replace FR0:=hid FR.out.le
 clear E
 go_wp2_with fail
 go_ret2
 exact ⟨rfl,by rw [HB0.out] at FR;exact FR.out.below⟩
theorem rexact_inv {ct:List Value} {n m:Bool} {p q:Nat} (l:List Bk) (v:Value) (w:World) (h:BksAt w v l) (hC:checkB l=true) (hct:ct=rat n p m q) (hp:p<BB^32) (hq:q<BB^32) (hbad:¬(p<B480∧q<B480∧n=cs1 n p∧m=false∧q≠0∧Nat.gcd p q=1)) :
  Calls Tryz.prog 10 #[.agg ct.toArray,v] w fun e w'=>e=.returned (.tuple #[.slice none 0 0,.int .i64 20])∧Below w.heap.size w w':=by
 have HCK:=hid (fun W (h:BksAt W v l)=>show Calls Tryz.prog 13 #[v] W (fun e w'=>e=.returned (.int .i64 0)∧Below W.heap.size W w') by have:=rcheck_any v l W h;rw [hC] at this;exact this)
 have HBK:=hid h
 have HFB:=hid (show ∀ W,Fr w.heap.size w W→BksAt W v l from fun W hF=>HBK.out.below hF.below)
 have V_ct:=hid hct
 have HPV:=hid (rvalid_no hct hp hq hbad)
 clear h hC hct hp hq hbad
 obtain ⟨B0,hB0⟩:∃ B,B=w.heap.size:=⟨_,rfl⟩
 obtain ⟨w0,hw0⟩:∃ w0,w0=(w.alloc (.cells ct.toArray 27)):=⟨_,rfl⟩
 have AB0:=hid (show At w0 B0 0 ct by rw [hw0];exact (show At (w.alloc (.cells ct.toArray 27)) B0 0 ct from At.fresh _ ct _ (by simp [hB0])))
 have FR:=hid (show Fr B0 w w0 by rw [hw0,hB0];exact (Fr.start w).alloc _)
 have FR0:=hid FR.out.le
 have hZB0:B0≤B0:=Nat.le_refl _
 have HB0:=hid hB0
 go_enter Tryz.func10,Tryz.ntmps10
 go_upto_region 1 with fail
 rw [←hw0,←hB0]
 clear hw0 hB0
 go_upto_region 4 with (go_at_call 13;refine (HCK.out _ (HFB.out _ (by rw [←HB0.out];exact FR.out))).mono ?_;rintro e wa ⟨rfl,hb⟩;replace AB0:=hid (AB0.out.below hb);replace FR:=hid (FR.out.step hb);clear hb)
 replace FR0:=hid FR.out.le
 refine wfn [] [(20,.agg ct.toArray),(21,.bool false),(22,.bool true)] _ (by simp only [zz4,zz5,zq];rfl) (by kernel_rfl) (by kernel_rfl) rfl ?_ ?_ ?_ ?_
 ·intro W' hW'
  have rd0:=AB0.out.below hW'
  refine fxo (wlg (by rfl) rfl rfl rd0 Tryz.underlying27 rfl (qR V_ct.out) (wqn (by simp only [zq]))) ?_
  refine fxo ?_ ?_;(go_big_quiet_step ((go_at_call 43;exact Calls.below_of (HPV.out _)));(try simp only [zq]);exact wqn rfl)
  refine fxo ?_ ?_;(go_big_quiet_step (fail);(try simp only [zq]);exact wqn rfl)
  exact fxn
 ·exact oN
 ·exact oN
 intro β wx1 E
 replace FR:=hid (FR.out.fnw E rfl)
 replace AB0:=hid (AB0.out.fnw E rfl)
 have hE:=E.below rfl
 simp only [nP,zr,zq]
 replace FR0:=hid FR.out.le
 clear E
 go_wp2_with fail
 go_ret2
 exact ⟨rfl,by rw [HB0.out] at FR;exact FR.out.below⟩
end Go.Proofs.YtmcekgapelanhaaGreat
