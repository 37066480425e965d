import Derived.Test.YtmcekgapelanhaaGreatAlI
import Derived.Test.YtmcekgapelanhaaGreatAlH
import Derived.Test.YtmcekgapelanhaaGreatQrB
set_option linter.unusedVariables false
set_option linter.unusedSimpArgs false
set_option maxRecDepth 100000
set_option maxHeartbeats 8000000
namespace Go.Proofs.YtmcekgapelanhaaGreat
open Go.RowKit Big
open Lib (hid)
open Al Tok Ap
namespace Al
def kA:Bk:=⟨⟨#[97]⟩,100,0,-1,0⟩
def kB:Bk:=⟨⟨#[98]⟩,200,100,0,0⟩
def kL:List Bk:=[kA,kB]
def sA:Sh:=⟨⟨#[97]⟩,100,-1,10,109⟩
def sB:Sh:=⟨⟨#[98]⟩,300,0,31,331⟩
theorem k_check:checkB kL=true:=by
 refine check_of (by decide) (by decide) ?_ ?_
 ·intro b hb
  simp only [kL,List.mem_cons,List.not_mem_nil,or_false] at hb
  rcases hb with rfl|rfl
  ·exact ⟨nmAt_name 0,by unfold kA;decide,by unfold kA;decide,by unfold kA;decide,by unfold kA;decide,by unfold kA;decide⟩
  ·exact ⟨nmAt_name 1,by unfold kB;decide,by unfold kB;decide,by unfold kB;decide,by unfold kB;decide,by unfold kB;decide⟩
 ·intro k b hk
  match k with
  | 0=>simp [kL] at hk;rw [←hk];rfl
  | 1=>simp [kL] at hk;rw [←hk];rfl
  | k+2=>simp [kL] at hk
theorem k_parts:Parts 41 [100,300] [10,31]:=by
 refine ⟨[1,0],by decide,List.pairwise_pair.2 (by unfold R;decide),rfl,?_⟩
 intro i hi
 match i with
 | 0=>rfl
 | 1=>rfl
 | k+2=>simp at hi;omega
theorem k_alloc {r:Int × List Sh} (h:AllocR 440 kL r):r=(0,[sA,sB]):=by
 have hc:comm 440 kL=41:=by decide
 have hs:sumO kL=400:=by decide
 have hres:∀ rs,Res (comm 440 kL) (kL.map Bk.op) rs→rs=[10,31]:=by
  intro rs h
  rw [hc] at h
  refine res_unique h ?_
  unfold Res
  rw [if_neg (by decide)]
  exact ⟨[10,31],k_parts,rfl⟩
 cases h with
 | tot h=>exact absurd h (by decide)
 | cap _ h=>rw [hs] at h;exact absurd h (by decide)
 | far _ _ h=>rw [hc] at h;exact absurd h (by decide)
 | net rs s _ _ _ h hm hn =>
  rw [hres rs h] at hm
  simp only [shL,kL,List.zipWith_cons_cons,List.zipWith_nil_right,List.mem_cons,List.not_mem_nil,or_false] at hm
  rcases hm with rfl|rfl<;>exact absurd hn (by decide)
 | ok rs _ _ _ h _ =>
  rw [hres rs h];rfl
theorem k_exact:exactR (440,1) kL=(0,[(437,4),(1323,4)]):=by kernel_rfl
theorem k_mk:mkQ 437 4=some (437,4):=by kernel_rfl
theorem k_vq:VQ (437,4):=⟨by unfold B480;decide,by unfold B480;decide,by decide,by decide⟩
end Al
theorem known_any (w:World):Calls Tryz.prog 11 #[] w fun e w'=>e=.returned (.bool true)∧Below w.heap.size w w':=by
 have HS:=hid (fun (v:Value) (w:World) (h:BksAt w v kL)=>alloc_any 440 kL v w h k_check)
 obtain ⟨ct,V_ct⟩:∃ c:List Value,Hid (c=ratZ 440 1):=⟨_,hid rfl⟩
 obtain ⟨cs,V_cs⟩:∃ c:List Value,Hid (c=sA.cells):=⟨_,hid rfl⟩
 obtain ⟨cR,V_cR⟩:∃ c:List Value,Hid (c=ratZ 437 4):=⟨_,hid rfl⟩
 have HE:=hid (fun (v:Value) (w:World) (h:BksAt w v kL)=>exact_any (440,1) kL v w h k_check (vq_whole (by omega) (by omega)) V_ct.out)
 have HW:=hid (rwholeZ V_ct.out (by omega) (by omega))
 have HO:=hid (mofQ (cR:=cR) (x:=437) (y:=4) (d:=4) rfl (by omega) (by rw [k_mk];exact V_cR.out) (by omega) (by omega) (by omega))
 have HC:=hid (fun W=>show Calls Tryz.prog 12 #[.slice none 0 0] W (fun e w'=>e=.returned (.int .i64 210)∧Below W.heap.size W w') from acheck_any (.slice none 0 0) [] W (rd_nil W 5))
 obtain ⟨B0,hB0⟩:∃ B,B=w.heap.size:=⟨_,rfl⟩
 go_enter Tryz.func11,Tryz.ntmps11
 go_upto_region 2 with (refine wpList_buildRows rfl (s:=5) [kA.cells,kB.cells] rfl (by simp [Act.eval,Act.put,kA,kB,Bk.cells]) rfl (by decide) (by decide) (by intro c hc;simp only [List.mem_cons,List.not_mem_nil,or_false] at hc;rcases hc with rfl|rfl<;>rfl) (by decide) Tryz.underlying28 (by kernel_rfl) (by kernel_rfl) ?_)
 obtain ⟨W1,hW1⟩:∃ W,W=w.alloc (.cells (kA.cells++kB.cells).toArray 47):=⟨_,rfl⟩
 have HB1:=hid (show BksAt W1 (.slice (some ⟨B0,0,none⟩) 2 2) kL by rw [hW1,hB0];exact rd_fresh w 5 2 (cellsB kL) _ (by omega) rfl)
 have HF1:=hid (show Below w.heap.size w W1 by rw [hW1];exact (Below.refl _ _).alloc (Nat.le_refl _) _)
 have HB0:=hid hB0
 rw [←hW1,←hB0]
 clear hW1 hB0
 go_wp2_with (go_at_call 7;refine (HS.out _ _ HB1.out).mono ?_;rintro e w2 ⟨vs,r,hr,rfl,hrd,hb2⟩)
 obtain rfl:=k_alloc hr
 obtain ⟨g1,o1,c1,rfl,hcs⟩:=shs_some hrd (by decide)
 have HB2:=hid (HB1.out.below hb2)
 have HF2:=hid (HF1.out.trans (hb2.mono HF1.out.size))
 have s0:w2.rangeAt g1 o1 sA.cells:=fun j u hu=>by have:=hcs 0 sA rfl j u hu;simpa using this
 have HS0:=hid (show w2.rangeAt g1 o1 cs by rw [V_cs.out];exact s0)
 have HS1:=hid (show w2.cell? ⟨g1,o1+9,none⟩=some (.int .i64 331) from hcs 1 sB rfl 4 _ rfl)
 clear hr hrd hb2 s0 hcs
 go_upto_region 4 with (first|(go_at_call 18;refine (HW.out _).mono ?_;rintro e w3 ⟨rfl,hb3⟩)|(go_at_call 9;refine (HE.out _ _ (HB2.out.below hb3)).mono ?_;rintro e w4 ⟨vx,rfl,hrx,_,hb4⟩))
 rw [k_exact] at hrx ⊢
 obtain ⟨g2,o2,c2,rfl,hcx⟩:=qs_some hrx (by decide)
 have HX0:=hid (show w4.rangeAt g2 o2 cR by rw [V_cR.out];exact fun j u hu=>by have:=hcx 0 (437,4) rfl j u hu;simpa using this)
 have hF3:=HF2.out.trans (hb3.mono HF2.out.size)
 have HF4:=hid (hF3.trans (hb4.mono hF3.size))
 replace HS0:=hid (ranges_up (ranges_up HS0.out hb3) hb4)
 replace HS1:=hid (cU (cU HS1.out hb3) hb4)
 clear hrx hcx hb3 hb4 hF3
 simp only [List.length_cons,List.length_nil,Nat.zero_add,Nat.reduceAdd]
 replace HB0:=hid (show B0=w.heap.size from HB0.out)
 have FR:=hid (show Fr w.heap.size w w4 from ⟨HF4.out,HF4.out.size⟩)
 have FR0:=hid FR.out.le
 refine wfn [] [(20,.int .i64 0),(21,.bool true),(22,.bool true),(23,.slice (some ⟨g1,o1,none⟩) 2 c1),(24,.int .i64 2),(25,.bool true),(26,.bool true),(27,.bool true),(28,.slice (some ⟨g1,o1,none⟩) 2 c1),(29,.pointer (some ⟨g1,o1,none⟩)),(30,.agg cs.toArray),(31,.agg cs.toArray),(32,.bool true),(33,.bool true),(34,.bool true),(35,.slice (some ⟨g1,o1,none⟩) 2 c1),(36,.pointer (some ⟨g1,o1+5,none⟩)),(37,.pointer (some ⟨g1,o1+5+4,none⟩)),(38,.int .i64 331),(39,.bool true),(40,.bool true),(41,.bool true),(42,.int .i64 0),(43,.bool true),(44,.bool true),(45,.bool true),(46,.slice (some ⟨g2,o2,none⟩) 2 c2),(47,.int .i64 2),(48,.bool true),(49,.bool true),(50,.bool true),(51,.slice (some ⟨g2,o2,none⟩) 2 c2),(52,.pointer (some ⟨g2,o2,none⟩)),(53,.agg cR.toArray),(54,.agg cR.toArray),(55,.bool true),(56,.bool true),(57,.bool true),(58,.int .i64 210),(59,.bool true),(60,.bool true),(0,.bool true)] _ (by simp only [zz4,zz5,zq];rfl) (by kernel_rfl) (by kernel_rfl) rfl ?_ ?_ ?_ ?_
 ·intro W' hW'
  have rs:=ranges_up HS0.out hW'
  have s1:=cU HS1.out hW'
  have rx:=ranges_up HX0.out hW'
  iterate 10 (refine fxo ?_ ?_;(go_big_quiet_step (fail);(try simp only [zq]);exact wqn rfl))
  refine fxo (wlq (by rfl) _ _ rfl _ _ rfl _ _ rs Tryz.underlying37 rfl (sizeSh V_cs.out) (wqn (by simp only [zq]))) ?_
  refine fxo (wpQuiet_build_g (by rfl) _ _ rfl _ rfl _ (built_Sh (V_cs.out.trans rfl)) (wqn (by simp only [zq]))) ?_
  refine fxo (wqs (by rfl) rfl rfl rfl (by kernel_rfl) (eqS V_cs.out) (wqn (by simp only [zq]))) ?_
  iterate 5 (refine fxo ?_ ?_;(go_big_quiet_step (fail);(try simp only [zq]);exact wqn rfl))
  refine fxo (wcg (by rfl) rfl rfl (fun W h=>by simp [loadVar,h,go_sem]) s1 (wqn (by simp only [zq]))) ?_
  iterate 14 (refine fxo ?_ ?_;(go_big_quiet_step (fail);(try simp only [zq]);exact wqn rfl))
  refine fxo (wlq (by rfl) _ _ rfl _ _ rfl _ _ rx Tryz.underlying27 rfl (qR V_cR.out) (wqn (by simp only [zq]))) ?_
  refine fxo ?_ ?_;(go_big_quiet_step ((go_at_call 45;exact Calls.below_of (HO.out _)));(try simp only [zq]);exact wqn rfl)
  refine fxo (wqs (by rfl) rfl rfl rfl (by kernel_rfl) (eqQ (r:=(437,4)) V_cR.out k_vq) (wqn (by simp only [zq]))) ?_
  iterate 2 (refine fxo ?_ ?_;(go_big_quiet_step (fail);(try simp only [zq]);exact wqn rfl))
  refine fxo ?_ ?_;(go_big_quiet_step ((go_at_call 12;exact Calls.below_of (HC.out _)));(try simp only [zq]);exact wqn rfl)
  iterate 3 (refine fxo ?_ ?_;(go_big_quiet_step (fail);(try simp only [zq]);exact wqn rfl))
  exact fxn
 ·exact oN
 ·exact oN
 intro β wx1 E
 replace FR:=hid (FR.out.fnw E rfl)
 have hE:=E.below rfl
 simp only [nP,zr,zq]
 replace FR0:=hid FR.out.le
 clear E
 go_wp2
 go_ret
 exact ⟨rfl,FR.out.below⟩
end Go.Proofs.YtmcekgapelanhaaGreat
