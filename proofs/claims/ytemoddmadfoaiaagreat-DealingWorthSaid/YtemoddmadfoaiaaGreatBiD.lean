import Derived.Test.YtemoddmadfoaiaaGreatToA
import Derived.Test.YtemoddmadfoaiaaGreatBigK
import Derived.Deep.CutRange
import Derived.Deep.RegionHeld3
set_option linter.unusedVariables false
set_option linter.unusedSimpArgs false
set_option maxRecDepth 100000
set_option maxHeartbeats 8000000
namespace Go.Proofs.YtemoddmadfoaiaaGreat
open Go.RowKit Big
open Lib (hid)
theorem qcG {P:Program} {id:Nat} {Q:Exit→Act→World→Prop} {a:Act} {w:World} {o0 o1 o2 o3:Oper} (ty:TypeId) (x0 x1 x2 x3 y2 y3:Operand) (d:TypeDesc) (b0 b1 p2 p3:Nat) (c0 c1:List Value)
  (hm:P.follows .mixedOrders=true) (hsel:Region.noSelect #[o0,o1,o2,o3]=true)
  (f0:Region.free .any #[o0,o1,o2,o3] (Array.replicate 4 false) 0=true) (r0:(Region.ready .any #[o0,o1,o2,o3] (Array.replicate 4 false)).contains 0=true)
  (f1:Region.free .any #[o0,o1,o2,o3] ((Array.replicate 4 false).setIfInBounds 0 true) 1=true) (r1:(Region.ready .any #[o0,o1,o2,o3] ((Array.replicate 4 false).setIfInBounds 0 true)).contains 1=true)
  (r2:Region.ready .any #[o0,o1,o2,o3] (((Array.replicate 4 false).setIfInBounds 0 true).setIfInBounds 1 true)=[2])
  (r3:Region.ready .any #[o0,o1,o2,o3] ((((Array.replicate 4 false).setIfInBounds 0 true).setIfInBounds 1 true).setIfInBounds 2 true)=[3])
  (r4:Region.ready .any #[o0,o1,o2,o3] (((((Array.replicate 4 false).setIfInBounds 0 true).setIfInBounds 1 true).setIfInBounds 2 true).setIfInBounds 3 true)=[])
  (g0:o0.guard=none) (g1:o1.guard=none) (g2:o2.guard=none) (g3:o3.guard=none)
  (h0:o0.op=.load ty x0) (h1:o1.op=.load ty x1) (h2:o2.op=.store ty x2 y2) (h3:o3.op=.store ty x3 y3)
  (hu:P.underlying ty=some d) (hd:d.isRow=true) (hi0:(P.info? ty).map (·.size)=some c0.length) (hi1:(P.info? ty).map (·.size)=some c1.length)
  (k0:c0.toArray.all (·.oneCell')=true) (k1:c1.toArray.all (·.oneCell')=true)
  (e0:a.eval x0=.pointer (some ⟨b0,0,none⟩)) (e1:(a.put o0.dst (.agg c0.toArray)).eval x1=.pointer (some ⟨b1,0,none⟩))
  (e2:((a.put o0.dst (.agg c0.toArray)).put o1.dst (.agg c1.toArray)).eval x2=.pointer (some ⟨p2,0,none⟩)) (e2':((a.put o0.dst (.agg c0.toArray)).put o1.dst (.agg c1.toArray)).eval y2=.agg c0.toArray)
  (e3:(((a.put o0.dst (.agg c0.toArray)).put o1.dst (.agg c1.toArray)).put o2.dst undef).eval x3=.pointer (some ⟨p3,0,none⟩)) (e3':(((a.put o0.dst (.agg c0.toArray)).put o1.dst (.agg c1.toArray)).put o2.dst undef).eval y3=.agg c1.toArray)
  (m0:w.rangeAt b0 0 c0) (m1:w.rangeAt b1 0 c1) (t2:w.there p2 0 c0.length) (t3:w.there p3 0 c1.length)
  (hb1:p2≠b1) (hb0:p2=b0) (hp3:p3=b1∨p3≠b1) (hp30:p3≠b0)
  (hfin:Q .normal ((((a.put o0.dst (.agg c0.toArray)).put o1.dst (.agg c1.toArray)).put o2.dst undef).put o3.dst undef) ((w.drew.setCells p2 0 c0).setCells p3 0 c1)) :
  (Code.region id #[o0,o1,o2,o3] true).wp P Q a w:=by
 have dm:∀ {b:Nat} {cs:List Value},w.rangeAt b 0 cs→w.drew.rangeAt b 0 cs:=fun h j v hv=>h j v hv
 have dt:∀ {b n:Nat},w.there b 0 n→w.drew.there b 0 n:=fun h j hj=>h j hj
 have s2:(w.drew.setCells p2 0 c0).rangeAt b0 0 c0∧(w.drew.setCells p2 0 c0).rangeAt b1 0 c1:=⟨by subst hb0;exact World.rangeAt_setCells_same _ _ _ _ (dt t2),qaK (dm m1) _ _ _ hb1⟩;have t3':(w.drew.setCells p2 0 c0).there p3 0 c1.length:=qaW (dt t3) _ _ (by rw [hb0];exact fun h=>hp30 h.symm)
 have s3:((w.drew.setCells p2 0 c0).setCells p3 0 c1).rangeAt b0 0 c0∧((w.drew.setCells p2 0 c0).setCells p3 0 c1).rangeAt b1 0 c1:=by
  refine ⟨qaK s2.1 _ _ _ hp30,?_⟩;rcases hp3 with h|h
  ·subst h;exact World.rangeAt_setCells_same _ _ _ _ t3'
  ·exact qaK s2.2 _ _ _ h
 refine wp_region_noPanic ?_;have hQ:∀ c (a:Act) (d:Option Tmp) (v:Value) (w:World),NoPanic Q (.panic c) (a.put d v) w→NoPanic Q (.panic c) a w:=fun _ _ _ _ _ h=>h
 refine wp_region_held_drew (S:=fun W=>W.rangeAt b0 0 c0∧W.rangeAt b1 0 c1) hm ⟨dm m0,dm m1⟩ (fun hS=>?_);refine wpAnyH_take (i:=0) (oi:=o0) (v:=.agg c0.toArray) rfl hsel f0 r0 (fun c a w h=>hQ _ _ _ _ _ h) (yieldsIf_load_mid (by simp [Region.wanted,g0]) ty x0 h0 b0 0 e0 c0 d (fun _ h=>h.1) hu hd hi0) hS ?_;refine wpAnyH_take (i:=1) (oi:=o1) (v:=.agg c1.toArray) rfl hsel f1 r1 (fun c a w h=>hQ _ _ _ _ _ h) (yieldsIf_load_mid (by simp [Region.wanted,g1]) ty x1 h1 b1 0 e1 c1 d (fun _ h=>h.2) hu hd hi1) hS ?_;refine wpAnyH_ready (rs:=[2]) r2 (by simp) (AllReadyH.cons (o:=o2) rfl (fun K hK=>?_) AllReadyH.nil);rw [if_pos (by simp [Region.wanted,g2])];refine wp_store_mid ty x2 y2 h2 p2 0 c0.toArray e2 e2' (by rw [List.size_toArray];exact dt t2) (by rw [List.size_toArray];exact hi0) k0 ?_;refine hK.out _ _ s2 (fun hS2=>?_);refine wpAnyH_ready (rs:=[3]) r3 (by simp) (AllReadyH.cons (o:=o3) rfl (fun K' hK'=>?_) AllReadyH.nil);rw [if_pos (by simp [Region.wanted,g3])];refine wp_store_mid ty x3 y3 h3 p3 0 c1.toArray e3 e3' (by rw [List.size_toArray];exact t3') (by rw [List.size_toArray];exact hi1) k1 ?_;refine hK'.out _ _ s3 (fun hS3=>?_);exact wpAnyH_done r4 (NoPanic.normal hfin) _
theorem qcM {b:Nat} (a:Addr):∀ (vs:List Value) (o:Nat) (w:World),(w.setCells b o vs).frozen? a=w.frozen? a
 | [],_,_=>rfl
 | v::vs,o,w=>(qcM a vs (o+1) (w.setCell ⟨b,o,none⟩ v)).trans (World.frozen?_setCell _ _ _ _)
theorem qcJ {w:World} {b v u:Nat} (h:qMO w b 0 32 u):qMO (w.setCells b 0 (lv 32 v)) b 0 32 v:=⟨qdB h,fun j hj=>by rw [qcM];exact h.2 j hj⟩
theorem qeA {w:World} {b n v:Nat} (h:qMO w b 0 n v) (vs:List Value) (b2:Nat) (hb:b2≠b):qMO (w.setCells b2 0 vs) b 0 n v:=⟨qaK h.1 vs b2 0 hb,fun j hj=>by rw [qcM];exact h.2 j hj⟩
theorem qbH {b:Nat}:∀ (vs:List Value) (o:Nat) (w:World),(w.setCells b o vs).heap.size=w.heap.size
 | [],_,_=>rfl
 | v::vs,o,w=>(qbH vs (o+1) (w.setCell ⟨b,o,none⟩ v)).trans (by simp)
theorem qjP (cs:List Value) (h:cs.length=32):Tryz.prog.built 25 [(1,.agg cs.toArray)]=some (Value.bool false::cs).toArray :=
 match cs,h with
 | [c0,c1,c2,c3,c4,c5,c6,c7,c8,c9,c10,c11,c12,c13,c14,c15,c16,c17,c18,c19,c20,c21,c22,c23,c24,c25,c26,c27,c28,c29,c30,c31],_=>by kernel_rfl
theorem qsD (a b:Nat) (w:World) (ha:a<BB^32) (hb:b<BB^32) (h0:b≠0) (hbig:¬(a<BB^2∧b<BB^2)) :
  Calls Tryz.prog 163 #[mV a,mV b] w fun e w'=>e=.returned (.tuple #[mV (a / b),mV (a%b)])∧Below w.heap.size w w':=by
 obtain ⟨N,hN32,hN⟩:=qLE a 32 ha;obtain ⟨K,hK32,hK⟩:=qLE b 32 hb;have hNK:¬(N≤2∧K≤2):=fun h=>hbig ⟨Nat.lt_of_lt_of_le hN.1 (Nat.pow_le_pow_right qaX h.1),Nat.lt_of_lt_of_le hK.1 (Nat.pow_le_pow_right qaX h.2)⟩
 obtain ⟨mA,hmA⟩:=qaE a;obtain ⟨mB,hmB⟩:=qaE b
 obtain ⟨nB,hnB⟩:∃ nB,mB=nB+1:=by
  rcases mB with _|n
  ·have:=hmB.1;simp at this;omega
  ·exact ⟨n,rfl⟩
 subst hnB;have hmA2:mA≤1024:=qmA 32 ha hmA;have hnB2:nB+1≤1024:=qmA 32 hb hmB;obtain ⟨q,hq⟩:∃ q,q=a / b:=⟨_,rfl⟩;obtain ⟨r,hr⟩:∃ r,r=a%b:=⟨_,rfl⟩;obtain ⟨w0,hw0,hb0,hs0,hA,hB,hQ,hR⟩:=qqW w a b 23;have HLA:=hid (fun W=>qeC a N W ha hN);have HLB:=hid (fun W=>qeC b K W hb hK);have HTA:=hid (fun W=>qpR false a mA W ha hmA);have HTB:=hid (fun W=>qpR false b (nB+1) W hb hmB);have HW:=hid hb0;have HNUM:=hid (And.intro ha (And.intro hb (And.intro h0 (And.intro hmA hmB))));have HQR:=hid (And.intro hq hr);rw [qbO] at hw0;rw [←hq,←hr];unfold mV;unfold iV at HTA HTB;obtain ⟨ca,hca⟩:∃ ca,ca=lv 32 a:=⟨_,rfl⟩;obtain ⟨cb,hcb⟩:∃ cb,cb=lv 32 b:=⟨_,rfl⟩;obtain ⟨vq,hvq⟩:∃ vq,vq=(lv 32 q).toArray:=⟨_,rfl⟩;obtain ⟨vr,hvr⟩:∃ vr,vr=(lv 32 r).toArray:=⟨_,rfl⟩;have HVQ:=hid hvq;have HVR:=hid hvr;have HCA:=hid hca;have HCB:=hid hcb
 have HLX:=hid (fun W (cs:List Value) (n:Nat) (h:(cs=ca∧n=N)∨(cs=cb∧n=K))=>show Calls Tryz.prog 162 #[.agg cs.toArray] W (fun e w'=>e=.returned (.int .i64 n)∧Below W.heap.size W w') by
  rcases h with ⟨h1,h2⟩|⟨h1,h2⟩
  ·rw [h1,h2,hca];exact HLA.out W
  ·rw [h1,h2,hcb];exact HLB.out W)
 have HTX:=hid (fun W (cs:List Value) (n:Nat) (h:(cs=ca∧n=mA)∨(cs=cb∧n=nB+1))=>show Calls Tryz.prog 132 #[.agg (Value.bool false::cs).toArray] W (fun e w'=>e=.returned (.int .i64 n)∧Below W.heap.size W w') by
  rcases h with ⟨h1,h2⟩|⟨h1,h2⟩
  ·rw [h1,h2,hca];exact HTA.out W
  ·rw [h1,h2,hcb];exact HTB.out W)
 have lca:ca.length=32:=by rw [hca,qlL]
 have lcb:cb.length=32:=by rw [hcb,qlL]
 have HRA:=hid (show w0.rangeAt w.heap.size 0 ca by rw [hca];exact hA);have HRB:=hid (show w0.rangeAt (w.heap.size+1) 0 cb by rw [hcb];exact hB);have HQ:=hid hQ;have HR:=hid hR;have sz:∀ cs:List Value,cs.length=32→(Tryz.prog.info? 23).map (·.size)=some cs.length:=fun cs h=>by rw [h];exact Tryz.infoM
 have HSZ:=hid sz;have HLEN:=hid (And.intro lca lcb);have HU:=hid Tryz.underlying23;rw [←hca,←hcb] at hw0 ⊢;rw [←hvq,←hvr];obtain ⟨va,hva⟩:∃ va,va=ca.toArray:=⟨_,rfl⟩;obtain ⟨vb,hvb⟩:∃ vb,vb=cb.toArray:=⟨_,rfl⟩;rw [←hva,←hvb] at hw0 ⊢;clear hN hK hN32 hK32 hb0 hA hB hQ hR hca hcb lca lcb sz ha hb hq hr hva hvb h0 hvq hvr hmA hmB hbig;go_enter Tryz.func163,Tryz.ntmps163
 go_upto_region 1 with fail
 rw [←hw0];obtain ⟨B0,hB0⟩:∃ B0,B0=w.heap.size:=⟨_,rfl⟩;have HBE:=hid hB0;rw [←hB0] at HRA HRB HQ HR hs0 ⊢;clear hw0 hB0
 go_cut [17] from 10 to 16 (fun p wx=>p=.bool false∧Below w0.heap.size w0 wx)
 case first =>
  go_wp2_with (first
   | (refine wpList_load_mid rfl _ _ rfl B0 0 rfl ca _ HRA.out HU.out rfl (HSZ.out _ HLEN.out.1) ?_))
  refine (HLX.out _ _ _ (.inl ⟨rfl,rfl⟩)).mono ?_;rintro e w1 ⟨rfl,hb1⟩;by_cases hN2:(N:Int)≤2
  ·have hK2:¬(K:Int)≤2:=by omega
   have HRB1:=hid (qaJ HRB.out hb1);have HB1:=hid hb1;clear hb1 hNK
   go_wp2_with (first
    | (refine qaZ (by rfl) _ _ rfl (B0+1) 0 rfl cb _ HRB1.out HU.out rfl (HSZ.out _ HLEN.out.2) ?_))
   refine (HLX.out _ _ _ (.inr ⟨rfl,rfl⟩)).mono ?_;rintro e w2 ⟨rfl,hb2⟩;have hb12:=HB1.out.trans (hb2.mono HB1.out.size);clear hb2;go_wp2_with fail
   go_meet
   exact ⟨congrArg Value.bool (decide_eq_false (by omega)),hb12⟩
  ·clear hNK;go_wp2_with fail
   go_meet
   exact ⟨rfl,hb1⟩
 case rest =>
  obtain ⟨rfl,hb1⟩:=hcut;have hs1:B0+1+1+1+1≤wc.heap.size:=by have:=hb1.size;omega
  have ra:=qaJ HRA.out hb1;have rb:=qaJ HRB.out hb1;have HQ1:=hid (HQ.out.up hb1 (by omega));have HR1:=hid (HR.out.up hb1 (by omega));have HW1:=hid (HW.out.trans (hb1.mono HW.out.size));have sa:=HSZ.out _ HLEN.out.1;have sb:=HSZ.out _ HLEN.out.2;have u49:=HU.out;clear hb1 hNK;go_upto_region 3 with fail
  refine qaS (by kernel_rfl) (by kernel_rfl) ?_
  repeat (first
   | (refine qaF rfl _ _ rfl B0 0 rfl ca _ ra u49 rfl sa ?_;try simp only [Act.put,List.setIfInBounds_toArray,List.set_cons_zero,List.set_cons_succ])
   | (refine qaF rfl _ _ rfl (B0+1) 0 rfl cb _ rb u49 rfl sb ?_;try simp only [Act.put,List.setIfInBounds_toArray,List.set_cons_zero,List.set_cons_succ])
   | (refine wqB rfl _ _ rfl _ rfl _ (qjP _ HLEN.out.1) ?_;try simp only [Act.put,List.setIfInBounds_toArray,List.set_cons_zero,List.set_cons_succ])
   | (refine wqB rfl _ _ rfl _ rfl _ (qjP _ HLEN.out.2) ?_;try simp only [Act.put,List.setIfInBounds_toArray,List.set_cons_zero,List.set_cons_succ])
   | go_big_quiet_step ((go_at_call 132;exact qaA (HTX.out _ _ _ (by first|exact .inl ⟨rfl,rfl⟩|exact .inr ⟨rfl,rfl⟩)))))
  refine wpQuiet_nil ?_;intro w' hw';obtain ⟨p,rfl⟩:=hw';have hbg:=qbG wc p.d p.os;obtain ⟨w3,hw3⟩:∃ w3,w3=gw wc p.d p.os:=⟨_,rfl⟩;rw [←hw3] at hbg ⊢;have ra3:=qaJ ra hbg;have rb3:=qaJ rb hbg;have HQ3:=hid (HQ1.out.up hbg (by omega));have HR3:=hid (HR1.out.up hbg (by omega));have HW3:=hid (HW1.out.trans (hbg.mono HW1.out.size));have hs3:B0+1+1+1+1≤w3.heap.size:=by have:=hbg.size;omega
  clear hbg hw3 ra rb;by_cases hmn:mA≤nB
  ·-- the divisor is the greater
   have hlt:=qwS HNUM.out.2.2.2.1 HNUM.out.2.2.2.2 hmn;have hq0:q=0:=by rw [HQR.out.1];exact Nat.div_eq_of_lt hlt
   have hra:r=a:=by rw [HQR.out.2];exact Nat.mod_eq_of_lt hlt
   obtain ⟨cq,hcq⟩:∃ cq,cq=lv 32 0:=⟨_,rfl⟩;have HVQ2:=hid (show vq=cq.toArray by rw [HVQ.out,hq0,hcq]);have HVR2:=hid (show vr=ca.toArray by rw [HVR.out,hra,HCA.out]);have hrq:w3.rangeAt (B0+1+1) 0 cq:=by rw [hcq];exact HQ3.out.1
   have HONE:=hid (And.intro (show cq.toArray.all (·.oneCell')=true by rw [hcq];exact all_oneCell_toArray (qcE 32 0)) (show ca.toArray.all (·.oneCell')=true by rw [HCA.out];exact all_oneCell_toArray (qcE 32 a)));have lcq:cq.length=32:=by rw [hcq,qlL]
   have hq3:=HQ3.out.there;have hr3:=HR3.out.there;have sq:=HSZ.out _ lcq;clear hcq hlt hq0 hra;go_upto_region 5 with fail
   refine qcG 23 _ _ _ _ _ _ _ (B0+1+1) B0 (B0+1+1) (B0+1+1+1) cq ca (by kernel_rfl) (by kernel_rfl) (by kernel_rfl) (by kernel_rfl) (by kernel_rfl) (by kernel_rfl) (by kernel_rfl) (by kernel_rfl) (by kernel_rfl) rfl rfl rfl rfl rfl rfl rfl rfl u49 rfl sq sa HONE.out.1 HONE.out.2 rfl rfl rfl rfl rfl rfl hrq ra3
    (by rw [lcq];exact hq3) (by rw [HLEN.out.1];exact hr3) (by omega) rfl (.inr (by omega)) (by omega) ?_
   simp only [Act.put,List.setIfInBounds_toArray,List.set_cons_zero,List.set_cons_succ];have hle2:w.heap.size≤B0+1+1:=by rw [←HBE.out];omega
   have hle3:w.heap.size≤B0+1+1+1:=by omega
   have HWE:=hid (qaB hle3 ca 0 _ (qaB hle2 cq 0 _ (qbI HW3.out)));have g1:=World.rangeAt_setCells_same w3.drew (B0+1+1) 0 cq (by rw [lcq];exact hq3);have g2:=qaK g1 ca (B0+1+1+1) 0 (by omega);have g3:=World.rangeAt_setCells_same (w3.drew.setCells (B0+1+1) 0 cq) (B0+1+1+1) 0 ca (by rw [HLEN.out.1];exact qaW (b2:=B0+1+1) (show w3.drew.there (B0+1+1+1) 0 32 from fun j hj=>hr3 j hj) cq 0 (by omega));go_wp2_with fail
   have hld1:=run_loadVar_mid (P:=Tryz.prog) _ _ _ _ _ _ g2 Tryz.underlying23 rfl sq;have hld2:=run_loadVar_mid (P:=Tryz.prog) _ _ _ _ _ _ g3 Tryz.underlying23 rfl sa;refine bodyPost_ret (v:=.tuple #[.agg cq.toArray,.agg ca.toArray]) (by simp [results,Tryz.results163,asAddr,hld1,hld2]) rfl ?_;exact ⟨by rw [HVQ2.out,HVR2.out],HWE.out⟩
  ·obtain ⟨d,hd⟩:∃ d,d=mA - nB:=⟨_,rfl⟩;have hsub:(mA:Int) - (nB:Int)=(d:Int):=by omega
   have hle:¬(mA:Int)≤(nB:Int):=by omega
   have hd2:d≤1024:=by omega
   have hd1:0<d:=by omega
   have HRB:=hid (show a / 2^d<b by rw [hd];exact jaF HNUM.out.2.2.2.1 HNUM.out.2.2.2.2 (by omega));obtain ⟨r1,hr1⟩:∃ r1,r1=a / 2^d:=⟨_,rfl⟩;rw [←hr1] at HRB;have hr1b:r1<BB^32:=Nat.lt_trans HRB.out HNUM.out.2.1;have HSH:=hid (fun W=>qrM a d W HNUM.out.1 hd2);rw [←hr1] at HSH;unfold mV at HSH;rw [←HCA.out] at HSH;obtain ⟨c1,hc1⟩:∃ c1,c1=lv 32 r1:=⟨_,rfl⟩;rw [←hc1] at HSH;have HC1:=hid hc1;have HONE1:=hid (show c1.toArray.all (·.oneCell')=true by rw [hc1];exact all_oneCell_toArray (qcE 32 r1));have HLEN1:=hid (show c1.length=32 by rw [hc1,qlL]);have HR1E:=hid hr1;clear hc1 hr1 hmn hd
   go_wp2_with (first
    | (refine wpList_load_mid rfl _ _ rfl B0 0 rfl ca _ ra3 u49 rfl sa ?_))
   refine (HSH.out _).mono ?_;rintro e w4 ⟨rfl,hb4⟩;have ra4:=qaJ ra3 hb4;have rb4:=qaJ rb3 hb4;have hq4:=HQ3.out.up hb4 (by omega);have hr4:=HR3.out.up hb4 (by omega);have hs4:B0+1+1+1+1≤w4.heap.size:=by have:=hb4.size;omega
   have hW4:=HW3.out.trans (hb4.mono HW3.out.size);have HTH:=hid (show w4.there (B0+1+1+1) 0 c1.toArray.size by rw [List.size_toArray,HLEN1.out];exact hr4.there);have HSA:=hid (show (Tryz.prog.info? 23).map (·.size)=some c1.toArray.size by rw [List.size_toArray];exact HSZ.out _ HLEN1.out);obtain ⟨w5,hw5⟩:∃ w5,w5=w4.setCells (B0+1+1+1) 0 c1:=⟨_,rfl⟩;have hle3:w.heap.size≤B0+1+1+1:=by rw [←HBE.out];omega
   have HRA5:=hid (show w5.rangeAt B0 0 ca by rw [hw5];exact qaK ra4 _ _ _ (by omega));have HRB5:=hid (show w5.rangeAt (B0+1) 0 cb by rw [hw5];exact qaK rb4 _ _ _ (by omega));have HQ5:=hid (show qMO w5 (B0+1+1) 0 32 0 by rw [hw5];exact qeA hq4 _ _ (by omega));have HR5:=hid (show qMO w5 (B0+1+1+1) 0 32 r1 by rw [hw5,HC1.out];exact qcJ hr4);have HW5:=hid (show Below w.heap.size w w5 by rw [hw5];exact qaB hle3 c1 0 _ hW4);have hs5:B0+1+1+1+1≤w5.heap.size:=by rw [hw5,qbH];exact hs4
   have HW5E:=hid hw5;clear hb4 ra4 rb4 hq4 hr4 hW4 hw5;go_upto_region 7 with (refine wpList_store_mid rfl _ _ _ rfl (B0+1+1+1) 0 _ rfl rfl HTH.out HSA.out HONE1.out ?_)
   try simp only [Act.put,List.setIfInBounds_toArray,List.set_cons_zero,List.set_cons_succ]
   try simp only [List.toList_toArray]
   rw [←HW5E.out];clear ra3 rb3 HQ3 HR3 HW3 HRA HTH HSA HW5E;go_wp2_with fail
   go_loopg [8,9] d (fun g iv cv wr=>∃ (Q rr:Nat) (z:Int),(g:Int)=z+1∧-1≤z∧z≤1023∧a / 2^g=Q*b+rr∧rr<b∧iv=.int .i64 z∧wr.rangeAt B0 0 ca∧wr.rangeAt (B0+1) 0 cb∧qMO wr (B0+1+1) 0 32 (Q*2^g)∧qMO wr (B0+1+1+1) 0 32 rr∧Below w.heap.size w wr∧B0+1+1+1+1≤wr.heap.size)
   case atStart=>exact ⟨0,r1,(d:Int) - 1,by omega,by omega,by omega,by rw [Nat.zero_mul,Nat.zero_add];exact HR1E.out.symm,HRB.out,rfl,HRA5.out,HRB5.out,by rw [Nat.zero_mul];exact HQ5.out,HR5.out,HW5.out,hs5⟩
   case round =>
    obtain ⟨Q,rr,z,hg,hz1,hz2,hdiv,hrb,rfl,ra6,rb6,hQ6,hR6,hW6,hs6⟩:=hrel;clear HRA5 HRB5 HQ5 HR5 HW5 hs5 hs3 hs1 HSH HC1 HONE1 HLEN1 HR1E hsub hle;by_cases hz:0≤z
    ·obtain ⟨i,rfl⟩:∃ i:Nat,z=i:=⟨z.toNat,by omega⟩;have hgi:gk=i+1:=by omega
     obtain ⟨c,hc⟩:∃ c,c=a / 2^i%2:=⟨_,rfl⟩;have hc1:c≤1:=by omega
     obtain ⟨t,ht⟩:∃ t,t=2*rr+c:=⟨_,rfl⟩;obtain ⟨v,hv⟩:∃ v,v=t%BB^32:=⟨_,rfl⟩;obtain ⟨c2,hc2⟩:∃ c2,c2=t / BB^32:=⟨_,rfl⟩;have hvc:2*rr+c=v+c2*BB^32:=by rw [←ht,hv,hc2,Nat.mul_comm];exact (Nat.mod_add_div t (BB^32)).symm
     have hvb:v<BB^32:=by rw [hv];exact Nat.mod_lt _ (BP 32)
     have hrr:rr<BB^32:=Nat.lt_trans hrb HNUM.out.2.1;obtain ⟨ov,hov⟩:∃ ov,ov=decide (c2=1):=⟨_,rfl⟩;have HDB:=hid (fun W=>qvS rr c v c2 W hrr hc1 hvb hvc);rw [←hov] at HDB;unfold mV at HDB;obtain ⟨cr,hcr⟩:∃ cr,cr=lv 32 rr:=⟨_,rfl⟩;obtain ⟨cv,hcv⟩:∃ cv,cv=lv 32 v:=⟨_,rfl⟩;rw [←hcr,←hcv] at HDB;have hk32:i / 32<32:=by omega
     have hx6:=(show MagAt wr B0 0 32 a by have:=ra6;rw [HCA.out] at this;exact this).get hk32;have hQm:(Q*2^(i+1))%2^(i+1)=0:=Nat.mul_mod_left _ _;obtain ⟨y,hy⟩:∃ y,y=2^(i%32):=⟨_,rfl⟩;have hset:=jbM hQm hy;have hbw:=jaG (s:=i%32) (by omega);rw [←hy] at hbw;have hbl:=jdH a i;rw [←hc,←hy] at hbl;rw [hgi] at hQ6 hdiv;have hst:=qzM hdiv hrb;rw [←hc,←ht] at hst;obtain ⟨k,hk⟩:∃ k,k=i / 32:=⟨_,rfl⟩;obtain ⟨s,hs⟩:∃ s,s=i%32:=⟨_,rfl⟩;rw [←hk] at hk32 hx6 hset hbl;rw [←hs] at hy hbw;have hs32:s<32:=by omega
     have hi1:(i:Int) / 32=(k:Int):=by omega
     have hi2:(i:Int)%32=(s:Int):=by omega
     have hi3:IntKind.u64.wrap (s:Int)=(s:Int):=by rw [IntKind.wrap_u64];omega
     obtain ⟨x,hx⟩:∃ x,x=lim a k:=⟨_,rfl⟩;have hxl:x<BB:=hx ▸ qaD a k;rw [←hx] at hx6 hbl;rw [Nat.zero_add] at hx6;obtain ⟨x2,hx2⟩:∃ x2,x2=x / y:=⟨_,rfl⟩;have hsh:(x:Int) / 2^s=(x2:Int):=by rw [hx2,hy];simp
     have hx2l:x2<BB:=by rw [hx2];exact Nat.lt_of_le_of_lt (Nat.div_le_self _ _) hxl
     have hand:=jdI hx2l;rw [hx2,hbl,←hx2] at hand;have hcell:=fun p os=>qaC hx6 p os
     have hr6:wr.rangeAt (B0+1+1+1) 0 cr:=by rw [hcr];exact hR6.1
     have lcr:cr.length=32:=by rw [hcr,qlL]
     have sr:=HSZ.out _ lcr;have HST:=hid hst;have HSET:=hid hset;have HBW:=hid hbw;have HQ6:=hid hQ6;have HR6:=hid hR6;have HW6:=hid hW6;have HRA6:=hid ra6;have HRB6:=hid rb6;have HVC:=hid (And.intro hvc (And.intro hvb (And.intro hrb ht)));have HOV:=hid (And.intro hov hcv);have HIK:=hid (And.intro hk (And.intro hs hy));have HGI:=hid hgi;clear hc hv hc2 hvc hvb hrr hov hcr hcv hx6 hQm hset hbw hbl hdiv hst hx hx2 hxl hx2l hQ6 hR6 hW6 ra6 rb6 ht hrb hk hs hy hgi hz1 hg;go_upto_region 11 with fail
     have lcv:cv.length=32:=by rw [HOV.out.2,qlL]
     have kcv:cv.toArray.all (·.oneCell')=true:=by rw [HOV.out.2];exact all_oneCell_toArray (qcE 32 v)
     have sv:=HSZ.out _ lcv;refine qfI 12 #[true,true,true,true,true,true,true,true,true,true,true,true,false,false,false,false] (fun _=>True) (by kernel_rfl) (by kernel_rfl) ?_;simp only [List.take_succ_cons,List.take_zero];refine qaF rfl _ _ rfl (B0+1+1+1) 0 rfl cr _ hr6 u49 rfl sr ?_;simp only [Act.put,List.setIfInBounds_toArray,List.set_cons_zero,List.set_cons_succ]
     repeat (go_big_quiet_step ((go_at_call 187;exact qaA (HDB.out _))))
     refine wpQuiet_nil ?_;intro w' hw';obtain ⟨p7,rfl⟩:=hw';have hbg:=qbG wr p7.d p7.os;obtain ⟨w7,hw7⟩:∃ w7,w7=gw wr p7.d p7.os:=⟨_,rfl⟩;rw [←hw7] at hbg ⊢;have hs7:B0+1+1+1+1≤w7.heap.size:=by have:=hbg.size;omega
     have ra7:=qaJ HRA6.out hbg;have rb7:=qaJ HRB6.out hbg;have hq7:=HQ6.out.up hbg (by omega);have hr7:=HR6.out.up hbg (by omega);have hW7:=HW6.out.trans (hbg.mono HW6.out.size);clear hbg hw7 HRA6 HRB6 HQ6 HR6 HW6 hcell hr6 hsh hand;have ht7:w7.there (B0+1+1+1) 0 cv.length:=by rw [lcv];exact hr7.there
     refine qtF 12 13 14 15 67 68 9 23 _ _ (B0+1+1+1) cv (.bool ov) rfl rfl rfl rfl (by kernel_rfl) (by kernel_rfl) (by kernel_rfl) (by kernel_rfl) (by kernel_rfl) (by kernel_rfl) (by kernel_rfl) (by kernel_rfl) rfl rfl rfl rfl rfl rfl rfl rfl rfl rfl rfl rfl rfl rfl rfl rfl rfl ht7 sv kcv ?_;simp only [Act.put,List.setIfInBounds_toArray,List.set_cons_zero,List.set_cons_succ];obtain ⟨w8,hw8⟩:∃ w8,w8=w7.setCells (B0+1+1+1) 0 cv:=⟨_,rfl⟩;have hle3:w.heap.size≤B0+1+1+1:=by rw [←HBE.out];omega
     have hle2:w.heap.size≤B0+1+1:=by rw [←HBE.out];omega
     have HRA8:=hid (show w8.rangeAt B0 0 ca by rw [hw8];exact qaK ra7 _ _ _ (by omega));have HRB8:=hid (show w8.rangeAt (B0+1) 0 cb by rw [hw8];exact qaK rb7 _ _ _ (by omega));have HQ8:=hid (show qMO w8 (B0+1+1) 0 32 (Q*2^(i+1)) by rw [hw8];exact qeA hq7 _ _ (by omega));have HR8:=hid (show qMO w8 (B0+1+1+1) 0 32 v by rw [hw8,HOV.out.2];exact qcJ hr7);have HW8:=hid (show Below w.heap.size w w8 by rw [hw8];exact qaB hle3 cv 0 _ hW7);have hs8:B0+1+1+1+1≤w8.heap.size:=by rw [hw8,qbH];exact hs7
     have hcv8:w8.rangeAt (B0+1+1+1) 0 cv:=by rw [HOV.out.2];exact HR8.out.1
     have HCV8:=hid hcv8;rw [←hw8];clear hw8 ra7 rb7 hq7 hr7 hW7 ht7 hs7 hcv8;have HI:=hid (And.intro hi1 (And.intro hi2 hi3));clear hi1 hi2 hi3;by_cases hbt:b≤t
     ·obtain ⟨x',hx'⟩:∃ x',x'=t - b:=⟨_,rfl⟩;have hxb:x'+b=v+c2*BB^32:=by rw [←HVC.out.1,←HVC.out.2.2.2,hx'];omega
      have hstp:=HST.out.1 hbt;rw [←hx'] at hstp;have HDF:=hid (fun W=>qgF v b x' W HVC.out.2.1 HNUM.out.2.1 (Nat.lt_trans hstp.2 HNUM.out.2.1) ⟨c2,hxb⟩);unfold mV at HDF;rw [←HOV.out.2,←HCB.out] at HDF;obtain ⟨cx,hcx⟩:∃ cx,cx=lv 32 x':=⟨_,rfl⟩;rw [←hcx] at HDF;have HCX:=hid hcx;have HSTP:=hid hstp;have HCMP:=hid (fun W=>qjM v b W HVC.out.2.1 HNUM.out.2.1);unfold mV at HCMP;rw [←HOV.out.2,←HCB.out] at HCMP
      have HGE:=hid (show ov=false→0≤cmpI v b by
       intro h;have h1:¬c2=1:=by have:=HOV.out.1;rw [h] at this;exact of_decide_eq_false this.symm
       have h2:c2<2:=by
        rcases Nat.lt_or_ge c2 2 with h2|h2
        ·exact h2
        ·have:=Nat.mul_le_mul_right (BB^32) h2
         have h5:=HVC.out.1;have h6:=HVC.out.2.2.1;have h7:=HNUM.out.2.1;have h8:=BP 32;omega
       have h3:c2=0:=by omega
       have h4:=HVC.out.1;rw [←HVC.out.2.2.2,h3] at h4;have h5:¬v<b:=by omega
       unfold cmpI;rw [if_neg h5]
       split<;>omega)
      clear hcx hstp hxb hx' hbt;go_upto_region 12 with fail
      go_cut [75] from 69 to 74 (fun pk wx=>pk=.bool true∧Below w8.heap.size w8 wx)
      case first =>
       cases ov with
       | true =>
        go_wp2_with fail
        go_meet
        exact ⟨rfl,Below.refl _ _⟩
       | false =>
        have hge:=HGE.out rfl;obtain ⟨cm,hcm⟩:∃ cm,cm=cmpI v b:=⟨_,rfl⟩;rw [←hcm] at HCMP hge;clear hcm
        go_wp2_with (first
         | (refine qaZ (by rfl) _ _ rfl (B0+1+1+1) 0 rfl cv _ HCV8.out u49 rfl sv ?_)
         | (refine qaZ (by rfl) _ _ rfl (B0+1) 0 rfl cb _ HRB8.out u49 rfl sb ?_))
        refine (HCMP.out _).mono ?_;rintro e w9 ⟨rfl,hb9⟩;go_wp2_with fail
        go_meet
        exact ⟨rfl,hb9⟩
      case rest =>
       obtain ⟨rfl,hb9⟩:=hcut;have ra9:=qaJ HRA8.out hb9;have rb9:=qaJ HRB8.out hb9;have hq9:=HQ8.out.up hb9 (by omega);have hr9:=HR8.out.up hb9 (by omega);have hW9:=HW8.out.trans (hb9.mono HW8.out.size);have hs9:B0+1+1+1+1≤wc.heap.size:=by have:=hb9.size;omega
       have hcv9:=qaJ HCV8.out hb9;have HRA9:=hid ra9;have HRB9:=hid rb9;have HQ9:=hid hq9;have HR9:=hid hr9;have HW9:=hid hW9;have HCV9:=hid hcv9;have HSV:=hid sv;clear hb9 ra9 rb9 hq9 hr9 hW9 hcv9 HRA8 HRB8 HQ8 HR8 HW8 HCV8 hs8 HCMP HGE
       go_wp2_with (first
        | (refine wpList_load_mid rfl _ _ rfl (B0+1+1+1) 0 rfl cv _ HCV9.out u49 rfl HSV.out ?_)
        | (refine wpList_load_mid rfl _ _ rfl (B0+1) 0 rfl cb _ HRB9.out u49 rfl sb ?_))
       refine (HDF.out _).mono ?_;rintro e wd ⟨rfl,hbd⟩;have hqd:=HQ9.out.up hbd (by omega);have hrd:=HR9.out.up hbd (by omega);have rad:=qaJ HRA9.out hbd;have rbd:=qaJ HRB9.out hbd;have hWd:=HW9.out.trans (hbd.mono HW9.out.size);have hsd:B0+1+1+1+1≤wd.heap.size:=by have:=hbd.size;omega
       have lcx:cx.length=32:=by rw [HCX.out,qlL]
       have HTH:=hid (show wd.there (B0+1+1+1) 0 cx.toArray.size by rw [List.size_toArray,lcx];exact hrd.there);have HSA:=hid (show (Tryz.prog.info? 23).map (·.size)=some cx.toArray.size by rw [List.size_toArray];exact HSZ.out _ lcx);have HONX:=hid (show cx.toArray.all (·.oneCell')=true by rw [HCX.out];exact all_oneCell_toArray (qcE 32 x'));obtain ⟨wf,hwf⟩:∃ wf,wf=wd.setCells (B0+1+1+1) 0 cx:=⟨_,rfl⟩;have HRAf:=hid (show wf.rangeAt B0 0 ca by rw [hwf];exact qaK rad _ _ _ (by omega));have HRBf:=hid (show wf.rangeAt (B0+1) 0 cb by rw [hwf];exact qaK rbd _ _ _ (by omega));have hqf:qMO wf (B0+1+1) 0 32 (Q*2^(i+1)):=by rw [hwf];exact qeA hqd _ _ (by omega)
       have HRf:=hid (show qMO wf (B0+1+1+1) 0 32 x' by rw [hwf,HCX.out];exact qcJ hrd);have HWf:=hid (show Below w.heap.size w wf by rw [hwf];exact qaB hle3 cx 0 _ hWd);have hsf:B0+1+1+1+1≤wf.heap.size:=by rw [hwf,qbH];exact hsd
       have HWFE:=hid hwf;have hset:=HSET.out;obtain ⟨L,hL⟩:∃ L,L=lim (Q*2^(i+1)) k:=⟨_,rfl⟩;rw [←hL] at hset;have cq:=hqf.1.get hk32;have fq:=hqf.2 k hk32;rw [Nat.zero_add] at cq fq;rw [←hL] at cq;obtain ⟨D,hD⟩:∃ D,D=L+y:=⟨_,rfl⟩;rw [←hD] at hset
       have HQf:=hid (show qMO (wf.setCell ⟨B0+1+1,k,none⟩ (.int .u32 (D:Nat))) (B0+1+1) 0 32 ((2*Q+1)*2^i) by
        have:=hqf.set hk32 hset.2.1
        rw [Nat.zero_add,hset.2.2] at this
        rwa [show Q*2^(i+1)+2^i=(2*Q+1)*2^i by rw [Nat.pow_succ,Nat.add_mul,Nat.one_mul,Nat.mul_comm 2 Q,Nat.mul_assoc,Nat.mul_comm (2^i) 2]] at this)
       have hor:=hset.1;have HWg:=hid (qbR HWf.out ⟨B0+1+1,k,none⟩ (.int .u32 (D:Nat)) hle2);clear hbd hqd hrd rad rbd hWd hsd lcx hqf hset hL hwf hs9 hD;go_upto_region 14 with (refine wpList_store_mid rfl _ _ _ rfl (B0+1+1+1) 0 _ rfl rfl HTH.out HSA.out HONX.out ?_)
       try simp only [Act.put,List.setIfInBounds_toArray,List.set_cons_zero,List.set_cons_succ]
       try simp only [List.toList_toArray]
       rw [←HWFE.out];have hi1:=HI.out.1;have hi2:=HI.out.2.1;have hi3:=HI.out.2.2;have hbw:=HBW.out;go_wp2_with fail
       have HGI2:=HGI.out;go_roundg i
       case measure=>omega
       case rel=>exact ⟨2*Q+1,x',(i:Int) - 1,by omega,by omega,by omega,HSTP.out.1,HSTP.out.2,by go_num,fun j u hu=>qbX (HRAf.out j u hu) ⟨B0+1+1,k,none⟩ (.int .u32 (D:Nat)) (show B0+1+1≠B0 by omega),fun j u hu=>qbX (HRBf.out j u hu) ⟨B0+1+1,k,none⟩ (.int .u32 (D:Nat)) (show B0+1+1≠B0+1 by omega),HQf.out,HRf.out.setOther ⟨B0+1+1,k,none⟩ (.int .u32 (D:Nat)) (show B0+1+1≠B0+1+1+1 by omega),HWg.out,by simpa using hsf⟩
     ·have hstp:=HST.out.2 (by omega)
      have hnum:c2=0∧v=t:=by
       have h5:=HVC.out.1;have h6:=HVC.out.2.2.2;have h7:=HNUM.out.2.1
       have h2:c2=0:=by
        rcases Nat.eq_zero_or_pos c2 with h2|h2
        ·exact h2
        ·have:=Nat.mul_le_mul_right (BB^32) h2
         omega
       rw [h2] at h5;exact ⟨h2,by omega⟩
      have hov:ov=false:=by rw [HOV.out.1,hnum.1];rfl
      subst hov;have HCMP:=hid (fun W=>qjM v b W HVC.out.2.1 HNUM.out.2.1);rw [show cmpI v b=-1 by unfold cmpI;rw [if_pos (by omega)]] at HCMP;unfold mV at HCMP;rw [←HOV.out.2,←HCB.out] at HCMP;have HSTP:=hid hstp;have HVT:=hid (And.intro hnum.2 (show t<b by omega));clear hstp hnum hbt;go_upto_region 12 with fail
      go_wp2_with (first
       | (refine qaZ (by rfl) _ _ rfl (B0+1+1+1) 0 rfl cv _ HCV8.out u49 rfl sv ?_)
       | (refine qaZ (by rfl) _ _ rfl (B0+1) 0 rfl cb _ HRB8.out u49 rfl sb ?_))
      refine (HCMP.out _).mono ?_;rintro e w9 ⟨rfl,hb9⟩;have HRA9:=hid (qaJ HRA8.out hb9);have HRB9:=hid (qaJ HRB8.out hb9);have HQ9:=hid (HQ8.out.up hb9 (by omega));have HR9:=hid (HR8.out.up hb9 (by omega));have HW9:=hid (HW8.out.trans (hb9.mono HW8.out.size));have hs9:B0+1+1+1+1≤w9.heap.size:=by have:=hb9.size;omega
      clear hb9;go_wp2_with fail
      have HGI2:=HGI.out;go_roundg i
      case measure=>omega
      case rel=>exact ⟨2*Q,t,(i:Int) - 1,by omega,by omega,by omega,HSTP.out,HVT.out.2,by go_num,HRA9.out,HRB9.out,by
       have:=HQ9.out
       rwa [show Q*2^(i+1)=2*Q*2^i by rw [Nat.pow_succ,Nat.mul_comm 2 Q,Nat.mul_assoc,Nat.mul_comm (2^i) 2]] at this,by have:=HR9.out;rwa [HVT.out.1] at this,HW9.out,hs9⟩
    ·obtain rfl:z=-1:=by omega
     obtain rfl:gk=0:=by omega
     obtain ⟨hQe,hre⟩:=jcZ hdiv hrb;rw [←HQR.out.1] at hQe;rw [←HQR.out.2] at hre;subst hQe hre;rw [Nat.pow_zero,Nat.mul_one] at hQ6;obtain ⟨cq,hcq⟩:∃ cq,cq=lv 32 Q:=⟨_,rfl⟩;obtain ⟨cr,hcr⟩:∃ cr,cr=lv 32 rr:=⟨_,rfl⟩;have HVQ2:=hid (show vq=cq.toArray by rw [HVQ.out,hcq]);have HVR2:=hid (show vr=cr.toArray by rw [HVR.out,hcr]);have hrq:wr.rangeAt (B0+1+1) 0 cq:=by rw [hcq];exact hQ6.1
     have hrr:wr.rangeAt (B0+1+1+1) 0 cr:=by rw [hcr];exact hR6.1
     have lcq:cq.length=32:=by rw [hcq,qlL]
     have lcr:cr.length=32:=by rw [hcr,qlL]
     have kcq:cq.toArray.all (·.oneCell')=true:=by rw [hcq];exact all_oneCell_toArray (qcE 32 Q)
     have kcr:cr.toArray.all (·.oneCell')=true:=by rw [hcr];exact all_oneCell_toArray (qcE 32 rr)
     have hq6:=hQ6.there;have hr6:=hR6.there;have sq:=HSZ.out _ lcq;have sr:=HSZ.out _ lcr;have HW6:=hid hW6;clear hcq hcr hQ6 hR6 hdiv hrb hW6 ra6 rb6 hg hz hz1 hz2;go_upto_region 15 with fail
     refine qcG 23 _ _ _ _ _ _ _ (B0+1+1) (B0+1+1+1) (B0+1+1) (B0+1+1+1) cq cr (by kernel_rfl) (by kernel_rfl) (by kernel_rfl) (by kernel_rfl) (by kernel_rfl) (by kernel_rfl) (by kernel_rfl) (by kernel_rfl) (by kernel_rfl) rfl rfl rfl rfl rfl rfl rfl rfl u49 rfl sq sr kcq kcr rfl rfl rfl rfl rfl rfl hrq hrr
      (by rw [lcq];exact hq6) (by rw [lcr];exact hr6) (by omega) rfl (.inl rfl) (by omega) ?_
     simp only [Act.put,List.setIfInBounds_toArray,List.set_cons_zero,List.set_cons_succ];have hle2:w.heap.size≤B0+1+1:=by rw [←HBE.out];omega
     have hle3:w.heap.size≤B0+1+1+1:=by omega
     have HWE:=hid (qaB hle3 cr 0 _ (qaB hle2 cq 0 _ (qbI HW6.out)));have g1:=World.rangeAt_setCells_same wr.drew (B0+1+1) 0 cq (by rw [lcq];exact hq6);have g2:=qaK g1 cr (B0+1+1+1) 0 (by omega);have g3:=World.rangeAt_setCells_same (wr.drew.setCells (B0+1+1) 0 cq) (B0+1+1+1) 0 cr (by rw [lcr];exact qaW (b2:=B0+1+1) (show wr.drew.there (B0+1+1+1) 0 32 from fun j hj=>hr6 j hj) cq 0 (by omega));go_wp2_with fail
     have hld1:=run_loadVar_mid (P:=Tryz.prog) _ _ _ _ _ _ g2 Tryz.underlying23 rfl sq;have hld2:=run_loadVar_mid (P:=Tryz.prog) _ _ _ _ _ _ g3 Tryz.underlying23 rfl sr;refine bodyPost_ret (v:=.tuple #[.agg cq.toArray,.agg cr.toArray]) (by simp [results,Tryz.results163,asAddr,hld1,hld2]) rfl ?_;exact ⟨by rw [HVQ2.out,HVR2.out],HWE.out⟩
theorem qnU (a b:Nat) (w:World) (ha:a<BB^32) (hb:b<BB^32) (h0:b≠0) :
  Calls Tryz.prog 163 #[mV a,mV b] w fun e w'=>e=.returned (.tuple #[mV (a / b),mV (a%b)])∧Below w.heap.size w w':=by
 by_cases h:a<BB^2∧b<BB^2
 ·exact qnT a b w h.1 h.2 h0
 ·exact qsD a b w ha hb h0 h
end Go.Proofs.YtemoddmadfoaiaaGreat
