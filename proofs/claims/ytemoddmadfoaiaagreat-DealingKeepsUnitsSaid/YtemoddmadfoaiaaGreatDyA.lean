import Derived.Test.YtemoddmadfoaiaaGreatDxA
import Derived.Test.YtemoddmadfoaiaaGreatScD
set_option linter.unusedVariables false
set_option linter.unusedSimpArgs false
set_option maxRecDepth 100000
set_option maxHeartbeats 16000000
namespace Go.Proofs.YtemoddmadfoaiaaGreat
open Go.RowKit Big Reg Ga Dl
open Lib (hid)
theorem keeps_any (a:Option Addr) (len cap:Nat) (z:List Int) (pz:Int) (w:World) (hr:IsRow .i64 w a len cap z) :
  CB 6 #[.slice a len cap,.int .i64 pz] (.bool true) w:=by
 have hln:=jeW hr;have hl9:len≤9223372036854775807:=by unfold maxLen at hln;omega
 obtain ⟨bt,hbt⟩:=nqx (w.heap.size);have hN:=qxI a len cap z w hr hl9;rw [←hbt] at hN;have HBT:=hid hbt;have HN:=hid hN;have HRG:=hid (fun W (h:IsTp W bt)=>show Calls Tryz.prog 16 #[.pointer (some ⟨bt,0,none⟩),.int .i64 6] W (ScRegP 6 bt W) from qoQ bt 6 W h (by decide));have HDL:=hid (fun W (h:IsTp W bt)=>show Calls Tryz.prog 17 #[.pointer (some ⟨bt,0,none⟩),.int .i64 8] W (fun e w'=>∃ (v:Value) (l:List Tk),e=.returned v∧MadeTs 8 l∧w'.ownsRow W.heap.size 60 13 v l.length (cellsT l)∧Drew W bt w') from qyW bt 8 W h (by decide));clear hN hbt hr hl9 hln;go_enter Tryz.func6,Tryz.ntmps6
 go_wp2_with fail
 refine HN.out.mono ?_;rintro e w1 ⟨rfl,ht1,hb1⟩;have HT1:=hid ht1;have HB1:=hid hb1;have hbt1:=ht1.lt;clear ht1 hb1 HN;go_upto_region 3 with (first|(go_at_call 15;refine (qtY bt _ HT1.out).mono ?_;rintro e w2 ⟨p,q,cp,cq,hcp,hcq,rfl,hp,hq,hd⟩;have V_cp:=hid (show cp=rat (decide (p.1<0)) p.1.natAbs false p.2 from hcp);have V_cq:=hid (show cq=rat (decide (q.1<0)) q.1.natAbs false q.2 from hcq);have HPQ:=hid (And.intro hp hq);have D2:=hid hd;clear hcp hcq hp hq hd)|(refine qqM rfl rfl rfl rfl rfl rfl rfl rfl (Tryz.alR (qR V_cp.out)) (Tryz.alR (qR V_cq.out)) rfl rfl rfl rfl (qR V_cp.out) (quY V_cp.out) (qR V_cq.out) (quY V_cq.out) ?_;intro w3 hb3 hA3 hB3 hs3))
 try simp only [zq]
 have lbt:=D2.out.1.lt;obtain ⟨b7,hb7⟩:=nqx (w2.heap.size+1);rw [←hb7] at hB3 ⊢;obtain ⟨b6,hb6⟩:=nqx (w2.heap.size);rw [←hb6] at hA3 lbt hb7 ⊢;have D3:=hid (D2.out.below hb3);have Ab6:=hid hA3;have Ab7:=hid hB3;have l67:b6<b7:=by omega
 clear hA3 hB3 hs3 hb3 D2 hb6 hb7;go_upto_region 4 with (first|(go_at_call 16;refine (HRG.out _ D3.out.1).mono ?_;rintro e w4 ⟨va,l,rfl,hg,hl6,ho,hd⟩;have D4:=hid (D3.out.trans hd);have HD4:=hid hd;obtain ⟨A,q0,rfl⟩:=Rd.form ho.lots;have HG:=hid hg;have HO:=hid ho;have HNIL:=hid (quB ho);have HL6:=hid hl6;clear hg hl6 ho hd)|(go_at_call 17;refine (HDL.out _ D4.out.1).mono ?_;rintro e w5 ⟨vt,ts,rfl,hm,ho,hd⟩;have HD5:=hid hd;have HM:=hid hm;obtain ⟨AT,qT,rfl⟩:=Rd.form (Rd.of_own ho);have HTS:=hid (show TksAt w5 (.slice AT ts.length qT) ts from Rd.of_own ho);clear hm ho hd)|(refine qdW rfl rfl rfl rfl (cs:=[.slice A l.length q0]) ⟨_,Tryz.layRg,by simp⟩ rfl rfl (by kernel_rfl) (by simp [Value.oneCell']) ?_;intro w6 hb6q hA6 hs6))
 try simp only [zq]
 have lb3:=D3.out.1.lt;have lb8:=HD5.out.size;have lb4:=HD4.out.size;replace Ab6:=hid ((Ab6.out.drw HD4.out (by omega)).drw HD5.out (by omega));replace Ab7:=hid ((Ab7.out.drw HD4.out (by omega)).drw HD5.out (by omega));have D5:=hid (D4.out.trans HD5.out);replace HO:=hid (show LotsAt w5 (.slice A l.length q0) l from (HO.out.drawn HD5.out (by omega)).lots);obtain ⟨b8,hb8⟩:=nqx (w5.heap.size);have l68:=Ab6.out.lt;have l78:=Ab7.out.lt;rw [←hb8] at hA6 l68 l78 ⊢;replace Ab6:=hid (Ab6.out.below hb6q);replace Ab7:=hid (Ab7.out.below hb6q);have Ab8:=hid hA6;replace HO:=hid (HO.out.below hb6q);replace HTS:=hid (Rd.below HTS.out hb6q);have HB6:=hid (Drew.fram (D5.out.below hb6q) HBT.out (by have h:=HB1.out;rwa [HBT.out] at h));obtain ⟨n,hn⟩:=nqx (ts.length);obtain ⟨nS,hnS⟩:=nqx (l.length);rw [←hn] at HTS ⊢;rw [←hnS] at HO Ab8 ⊢;have HNT:=hid hn;have HNS:=hid hnS;clear hA6 hs6 hb6q hb8 D3 D4 D5 HD4 HD5 HB1 HT1 HRG HDL hn hnS;obtain ⟨hm0,hm1⟩:=qxP pz 7 (by decide);obtain ⟨pl,hpl⟩:∃ pl:Nat,modI pz 7=(pl:Int):=⟨(modI pz 7).toNat,by omega⟩;have hpl6:pl≤6:=by omega
 have HPL:=hid hpl;clear hpl hm0 hm1;obtain ⟨hFp,hFq⟩:=HPQ.out;obtain ⟨hT,hOK,hn8⟩:=jbM HM.out (by decide);have hCh:=quI HG.out (by have:=HL6.out;omega);have HCH:=hid hCh;have HOK:=hid hOK;have hn8':n≤8:=by rw [HNT.out];exact hn8
 obtain ⟨RD,hRD⟩:=nqx (dealL l ts p q pl 0);have HRD:=hid hRD
 have HDE:=hid (fun W (hW:Below w6.heap.size w6 W)=>show Calls Tryz.prog 19 #[.agg #[.slice A nS q0],.slice AT n qT,.agg cp.toArray,.agg cq.toArray,.int .i64 (pl:Int),.int .i64 0] W (DealP RD W) by
  rw [HRD.out,HNS.out,HNT.out];exact qkB (pl:=pl) (z:=(pl:Int)) (by rw [V_cp.out];rfl) (by rw [V_cq.out];rfl) hFp.pc hFq.pc rfl (by omega) (by decide) (by decide) hCh hT HNIL.out W (by have:=HO.out.below hW;rwa [HNS.out] at this) (by have:=Rd.below HTS.out hW;rwa [HNT.out] at this))
 clear hRD hCh hOK hT hn8;refine qdU [(0,33,.agg #[.slice A nS q0]),(1,34,.slice AT n qT),(2,35,.agg cp.toArray),(3,36,.agg cq.toArray),(4,37,.int .i64 pz)] [(5,[])] 6 11 12 [7,8,9,10] [13,14] 39 10 40 (.tmp 10) (.tmp 40) #[.slice none 0 0] undef (by kernel_rfl) (by kernel_rfl) (by rfl) (by rfl) (by rfl) (by rfl) (by rfl) (by rfl) (by rfl) (by rfl) (by rfl) (by rfl) (by rfl) Tryz.layRg (by kernel_rfl) (by simp only [putsA,List.foldl_cons,List.foldl_nil,zq]) ?_ ?_
 ·have r0:=fun V (h:Below w6.heap.size w6 V)=>(Ab8.out.below h).read (P:=Tryz.prog) Tryz.underlying40 rfl (by kernel_rfl)
  have r1:=fun V (h:Below w6.heap.size w6 V)=>(Ab6.out.below h).read (P:=Tryz.prog) Tryz.underlying27 rfl (qR V_cp.out)
  have r2:=fun V (h:Below w6.heap.size w6 V)=>(Ab7.out.below h).read (P:=Tryz.prog) Tryz.underlying27 rfl (qR V_cq.out)
  refine ⟨⟨_,rfl,rfl,.inl ⟨by rfl,fun V hV=>qaH rfl rfl (r0 V hV)⟩⟩,?_⟩;simp only [zq];refine ⟨⟨_,rfl,rfl,.inl ⟨by rfl,fun _ _=>by rfl⟩⟩,?_⟩;simp only [zq];refine ⟨⟨_,rfl,rfl,.inl ⟨by rfl,fun V hV=>qaH rfl rfl (r1 V hV)⟩⟩,?_⟩;simp only [zq];refine ⟨⟨_,rfl,rfl,.inl ⟨by rfl,fun V hV=>qaH rfl rfl (r2 V hV)⟩⟩,?_⟩;simp only [zq];refine ⟨⟨_,rfl,rfl,.inl ⟨by rfl,fun _ _=>by rfl⟩⟩,?_⟩;simp only [zq];exact trivial
 simp only [putsA,List.foldl_cons,List.foldl_nil,zq];refine ⟨_,_,by rfl,by rfl,by rfl,fun v _=>v=.int .i64 (pl:Int),fun _ _ _ h=>h,fun u W hW _=>GY.callOf (f:=18) (args:=#[.int .i64 pz,.int .i64 7]) (by simp [execOp,Act.eval,go_sem]) ((qxO pz 7 W (by decide)).mono ?_),?_⟩
 ·rintro e w9 ⟨rfl,rfl⟩;exact ⟨_,rfl,Below.refl _ _,by rw [HPL.out]⟩
 rintro v ⟨_,rfl⟩;refine ⟨[],_,rfl,fun _=>trivial,fun u=>by simp only [putsA,List.foldl_cons,List.foldl_nil,zq];rfl,fun u p=>by simp only [putsA,List.foldl_cons,List.foldl_nil,zq],?_⟩;unfold chY TailH;refine ⟨fun b v W=>DlR RD b v W,fun u W hW hK=>GY.callOf (f:=19) (args:=#[.agg #[.slice A nS q0],.slice AT n qT,.agg cp.toArray,.agg cq.toArray,.int .i64 (pl:Int),.int .i64 0]) (by simp [execOp,Act.eval,go_sem]) ((HDE.out W hW).mono ?_),fun b v x y h hb=>h.upB hb,fun b v x y X h hg hX=>h.upG hg hX,?_⟩
 ·rintro e w9 h;exact h.dlr
 rintro b v2 ⟨_,⟨A1,n1,q1,vn,ec,rfl⟩,_⟩;refine ⟨[(7,32,.tuple #[.agg #[.slice A1 n1 q1],vn,.int .i64 ec]),(8,40,.agg #[.slice A1 n1 q1]),(9,41,vn),(10,42,.int .i64 ec)],[(13,11,vn),(14,12,.int .i64 ec)],#[.slice A1 n1 q1],_,rfl,rfl,fun u=>?_,fun u=>by simp only [putsA,List.foldl_cons,List.foldl_nil,zq];rfl,fun u p=>by simp only [putsA,List.foldl_cons,List.foldl_nil,zq],fun p=>by rfl,fun p=>by rfl,by rfl,by simp [Value.oneCell'],fun X W hW hR hA=>⟨?_,?_⟩⟩
 ·skip
  refine ⟨⟨_,rfl,rfl,.inl ⟨by rfl,fun _ _=>by rfl⟩⟩,?_⟩;simp only [zq];refine ⟨⟨_,rfl,rfl,.inl ⟨by rfl,fun _ _=>by rfl⟩⟩,?_⟩;simp only [zq];refine ⟨⟨_,rfl,rfl,.inl ⟨by rfl,fun _ _=>by rfl⟩⟩,?_⟩;simp only [zq];refine ⟨⟨_,rfl,rfl,.inl ⟨by rfl,fun _ _=>by rfl⟩⟩,?_⟩;simp only [zq];exact trivial
 ·skip
  refine ⟨⟨_,rfl,rfl,.inl ⟨by rfl,fun _ _=>by rfl⟩⟩,?_⟩;simp only [zq];refine ⟨⟨_,rfl,rfl,.inl ⟨by rfl,fun _ _=>by rfl⟩⟩,?_⟩;simp only [zq];exact trivial
 simp only [putsA,List.foldl_cons,List.foldl_nil,zq];have HW:=hid hW;have HBW:=hid (HB6.out.trans (hW.mono HB6.out.size));have AX:=hid (show At W X 0 [.slice A1 n1 q1] from hA)
 cases RD with
 | error c =>
  have hc:=jcW HRD.out.symm;obtain ⟨_,_,he⟩:=tup3 hR.2;injection he with _ he
  subst he;clear hR hA hW;rcases hc with rfl|rfl|rfl|rfl
  all_goals go_wp2_with fail
  all_goals refine (qtD _).mono ?_
  all_goals rintro e w9 ⟨rfl,hb9⟩
  all_goals go_wp2
  all_goals go_ret
  all_goals exact ⟨rfl,HBW.out.trans (hb9.mono HBW.out.size)⟩
 | ok rr =>
  obtain ⟨l',N⟩:=rr;obtain ⟨v',bn,he,hOw,hNm,hbn1,hbn2⟩:=hR.2;obtain ⟨e1,e2,e3⟩:=tup3 he;injection e3 with _ e3
  have e4:Value.slice A1 n1 q1=v':=by simpa using e1
  subst e4 e3;obtain ⟨k1,k2,k3,k4⟩:=qyY hFp.pc hFq.pc hpl6 (by decide) (by decide) HCH.out HOK.out HRD.out.symm;rw [←HNT.out] at k2;rw [k2] at e2;subst e2;have HC2:=hid k1;have HLN:=hid k2;have HKN:=hid k3;have HBL:=hid k4;have HO2:=hid hOw.lots;have HNM:=hid (show NtsAt W bn N from hNm);have hl1:=jbQ hOw.lots
  have HCK:=hid (fun V (h:Below W.heap.size W V)=>show CB 25 #[.agg #[.slice A1 n1 q1]] (.int .i64 0) V by
   have h2:=qhQ (.slice A1 n1 q1) l' V (Rd.below HO2.out h);rw [HC2.out] at h2;exact h2.mono fun e w' ⟨h3,h4⟩=>⟨by simpa using h3,h4⟩)
  clear hR hA hW hOw hNm k1 k2 k3 k4 e1 he hbn1 hbn2 HDE HRD HM HG HPL;obtain ⟨cX,V_cX⟩:=nvx ([.slice A1 n1 q1]);replace AX:=hid (show At W X 0 cX by rw [V_cX.out];exact AX.out);replace HCK:=hid (fun V (h:Below W.heap.size W V)=>show CB 25 #[.agg cX.toArray] (.int .i64 0) V by rw [V_cX.out];exact HCK.out V h);have AXW:=AX;go_upto_region 7 with fail
  have FR:=hid (Fr.start W);refine wE [(58,.slice (some ⟨bn,0,none⟩) n n),(59,iT n),(60,.slice AT n qT),(61,iT n),(62,bF),(63,bF),(64,aT cX),(65,iT 0),(66,bF),(67,bF)] (by simp only [zu];rfl) (by kernel_rfl) ?_ ?_
  ·intro W' hW';refine fo4 ?_ ?_ ?_ ?_<|fo2 ?_ ?_<|fxl (abl AX hW') (qfU V_cX.out) Tryz.underlying40 rfl rfl<|fo3 ?_ ?_ ?_<|fxn;all_goals (go_big_quiet_step (exact qaA (HCK.out _ (hW'.trans ((qbG _ _ _).mono hW'.size))));exact wqn rfl)
  intro β W2 E;replace FR:=fnf FR E rfl;simp only [nP,zu];go_upto_region 9 with fail
  go_wp2
  go_loopg [13,14,15,16,17,18,19,20] 6 (fun m cv _ _ _ _ _ _ _ wr=>∃ c:Nat,cv=.int .i64 c∧c≤6∧6≤m+c∧Below W.heap.size W wr)
  case atStart=>exact ⟨0,rfl,by omega,by omega,FR.out.below⟩
  case round =>
   obtain ⟨c,rfl,hc,hm,hb⟩:=hrel;have HBC:=hid hb;clear hb;obtain ⟨G0,hG0⟩:=nqx gk;have HG0:=hid hG0;clear hG0;by_cases hlt:c<6
   ·have hcI:(c:Int)<6:=by omega
    have HROW:=hid (fun t=>jeV (w:=wr) (c:Int) (by omega) (by omega) t);go_upto_region 13 with (first|(go_at_call 14;refine (qxI _ 1 1 [(c:Int)] _ (HROW.out _) (by decide)).mono ?_;rintro e wa ⟨rfl,hta,hba⟩;rw [World.size_alloc] at hta;have HTA:=hid hta;have HBA:=hid hba;clear hta hba)|(go_at_call 26;refine (qgM _ _ HTA.out).mono ?_;rintro e wb ⟨x,hx,rfl,hd⟩;have HDX:=hid hd;have HXA:=hid (qrN _ hx);clear hx hd)|(refine qdW rfl rfl rfl rfl (cs:=acC x.1 x.2) (Tryz.alAc (qeR rfl)) rfl rfl (qeR rfl) (by simp [acC,Value.oneCell']) ?_;intro wc hbc hAc hsc))
    try simp only [zq]
    have z1:=HBC.out.alloc HBC.out.size (.cells #[.int .i64 (c:Int)] 3);have z2:=Drew.fram HDX.out (World.size_alloc _ _).symm HBA.out;have z3:=z1.trans (z2.mono z1.size);have HWC:=hid (show Below W.heap.size W wc from z3.trans (hbc.mono z3.size));obtain ⟨b14,hb14⟩:=nqx (wb.heap.size);rw [←hb14] at hAc ⊢;obtain ⟨ca,V_ca⟩:=nvx (acC x.1 x.2);have Ab14:=hid (show At wc b14 0 ca by rw [V_ca.out];exact hAc);obtain ⟨c8,V_c8⟩:=nvx ([.slice A nS q0]);have Ab8c:=hid (show At wc b8 0 c8 by rw [V_c8.out];exact (Ab8.out.below HW.out).below HWC.out);have AXc:=hid (AXW.out.below HWC.out);obtain ⟨hk1,hk2⟩:=HBL.out x;obtain ⟨u1,hu1⟩:=nqx (balC x l);obtain ⟨u2,hu2⟩:=nqx (balC x l');rw [←hu1] at hk1 hk2;rw [←hu2] at hk1;have hu1b:0≤u1∧u1≤1000000000000000:=by rw [hu1];exact qeX HCH.out
    have hu2b:0≤u2∧u2≤1000000000000000:=by rw [hu2];exact qeX HC2.out
    have HBA1:=hid (fun V (h:Below wc.heap.size wc V)=>show CB 27 #[.agg c8.toArray,.agg ca.toArray] (.tuple #[.int .i64 u1,.int .i64 0]) V by
     have g:=qiH A q0 l x.1 x.2 V (by have:=Rd.below HO.out (HW.out.trans ((HWC.out.trans (h.mono HWC.out.size)).mono HW.out.size));rwa [HNS.out] at this);rw [V_c8.out,V_ca.out,hu1,HNS.out];have e1:balN l x.1 x.2=balC x l:=by unfold balN;rw [HCH.out,HXA.out];rfl
     have e2:balE l x.1 x.2=0:=by unfold balE;rw [HCH.out,HXA.out];rfl
     rw [e1,e2] at g;exact g)
    have HBA2:=hid (fun V (h:Below wc.heap.size wc V)=>show CB 27 #[.agg cX.toArray,.agg ca.toArray] (.tuple #[.int .i64 u2,.int .i64 0]) V by
     have g:=qiH A1 q1 l' x.1 x.2 V (by have:=Rd.below HO2.out (HWC.out.trans (h.mono HWC.out.size));rwa [hl1] at this);rw [V_cX.out,V_ca.out,hu2,hl1];have e1:balN l' x.1 x.2=balC x l':=by unfold balN;rw [HC2.out,HXA.out];rfl
     have e2:balE l' x.1 x.2=0:=by unfold balE;rw [HC2.out,HXA.out];rfl
     rw [e1,e2] at g;exact g)
    have HK1:=hid hk1;have HK2:=hid hk2;clear z1 z2 z3 hAc hsc hb14 hbc HDX HBA HTA HROW hk1 hk2 hu1 hu2 HBC;have FR:=hid (Fr.start wc);refine wE [(77,aT c8),(78,aT ca),(79,.tuple #[iT u1,iT 0]),(76,.tuple #[iT u1,iT 0]),(80,iT u1),(81,iT 0),(15,iT u1),(16,iT 0)] (by simp only [zu];rfl) (by kernel_rfl) ?_ ?_
    ·intro W' hW';refine fxl (abl Ab8c hW') (qfU V_c8.out) Tryz.underlying40 rfl rfl<|fxl (abl Ab14 hW') (qeR V_ca.out) Tryz.underlying54 rfl rfl<|fo4 ?_ ?_ ?_ ?_<|fo2 ?_ ?_<|fxn;all_goals (go_big_quiet_step (exact qaA (HBA1.out _ (hW'.trans ((qbG _ _ _).mono hW'.size))));exact wqn rfl)
    intro β wd E;replace FR:=fnf FR E rfl;replace AXc:=fnh AXc E rfl;replace Ab14:=fnh Ab14 E rfl;simp only [nP,zu];go_upto_region 14 with fail
    refine wE [(83,aT cX),(84,aT ca),(85,.tuple #[iT u2,iT 0]),(82,.tuple #[iT u2,iT 0]),(86,iT u2),(87,iT 0),(17,iT u2),(18,iT 0)] (by simp only [zu];rfl) (by kernel_rfl) ?_ ?_
    ·intro W' hW';refine fxl (abl AXc hW') (qfU V_cX.out) Tryz.underlying40 rfl rfl<|fxl (abl Ab14 hW') (qeR V_ca.out) Tryz.underlying54 rfl rfl<|fo4 ?_ ?_ ?_ ?_<|fo2 ?_ ?_<|fxn;all_goals (go_big_quiet_step (exact qaA (HBA2.out _ (FR.out.below.trans ((hW'.trans ((qbG _ _ _).mono hW'.size)).mono FR.out.below.size))));exact wqn rfl)
    intro β we E;replace FR:=fnf FR E rfl;replace Ab14:=fnh Ab14 E rfl;simp only [nP,zu];go_wp2
    have HWE:=hid (FR.out.below);have HWF:=hid (HWC.out.trans (HWE.out.mono HWC.out.size));have hsumb:=fun k=>qhO (B:=1000000000000000) (by decide) (fun y h=>qzW (c:=x) h) HKN.out k
    have hsumr:=fun k=>qhO (B:=1000000000000000) (by decide) (fun y h=>qwI (c:=x) h) HKN.out k
    have HSB:=hid hsumb;have HSR:=hid hsumr;clear hsumb hsumr;obtain ⟨wf,hwf⟩:=nqx we;go_loopg [17,19,20] n (fun m mv rv iv wz=>∃ k:Nat,iv=.int .i64 k∧k≤n∧n≤m+k∧mv=.int .i64 (u2+sumD (bckC x) (N.take k))∧rv=.int .i64 (sumD (redC x) (N.take k))∧Below we.heap.size we wz)
    case atStart=>exact ⟨0,rfl,by omega,by omega,by simp [sumD],by simp [sumD],Below.refl _ _⟩
    case round =>
     obtain ⟨k,rfl,hk,hmk,rfl,rfl,hb⟩:=hrel;have HBK:=hid hb;clear hb;by_cases hlk:k<n
     ·have hkI:(k:Int)<(n:Int):=by omega
      obtain ⟨y,hy⟩:∃ y,N[k]?=some y:=⟨_,List.getElem?_eq_getElem (by rw [HLN.out];exact hlk)⟩;obtain ⟨vl,hAt,_⟩:=(NtsAt.below (NtsAt.below HNM.out HWF.out) HBK.out) k y hy;have hky:=HKN.out y (List.mem_of_getElem? hy);have hy0:=hky.u0;have hy1:=hky.u1;obtain ⟨cn,V_cn⟩:=nvx (acC y.nom y.hol);have AN:=hid (show At wr bn (k*7+1) cn by rw [V_cn.out];exact At.sub (xs:=[.string y.key]) (ys:=acC y.nom y.hol) (zs:=[.int .i64 y.kind,.int .i64 y.units,.int .i64 y.money,vl]) hAt (by simp));have HKD:=hid (show wr.cell? ⟨bn,k*7+3,none⟩=some (.int .i64 y.kind) by have h:=hAt.cell (j:=3) rfl;exact h);have HUN:=hid (show wr.cell? ⟨bn,k*7+4,none⟩=some (.int .i64 y.units) by have h:=hAt.cell (j:=4) rfl;exact h);have HTB:=hid (qjI (d:=bckC x) hy);have HTR:=hid (qjI (d:=redC x) hy);have hsb:=HSB.out k;have hsr:=HSR.out k;rw [HLN.out] at hsb hsr;have Az14:=hid (Ab14.out.below HBK.out);obtain ⟨sb,hsb0⟩:=nqx (sumD (bckC x) (N.take k));obtain ⟨sr,hsr0⟩:=nqx (sumD (redC x) (N.take k));rw [←hsb0] at hsb HTB ⊢;rw [←hsr0] at hsr HTR ⊢;obtain ⟨r,hr⟩:=nqx (!decide ((y.nom,y.hol)=(x.1,x.2)));have HR:=hid hr;clear hAt hy hky hsb0 hsr0 hr;go_upto_region 19 with fail
      have FR:=hid (Fr.start wr);refine wE [(94,.slice (some ⟨bn,0,none⟩) n n),(95,iT k),(96,pT bn (k*7)),(97,pT bn (k*7+1)),(98,aT cn),(99,aT ca),(100,.bool r)] (by simp only [zu];rfl) (by kernel_rfl) ?_ ?_
      ·intro W' hW';refine fo4 ?_ ?_ ?_ ?_<|fxl (abl AN hW') (qeR V_cn.out) Tryz.underlying54 rfl rfl<|fxl (abl Az14 hW') (qeR V_ca.out) Tryz.underlying54 rfl rfl<|fxo (qnY (by rfl) rfl rfl rfl V_cn.out V_ca.out HR.out (wqn (by simp only [zq])))<|fxn;all_goals (go_big_quiet_step (fail);exact wqn rfl)
      intro β wy E;replace FR:=fnf FR E rfl;simp only [nP,zu];have HBY:=hid (HBK.out.trans (FR.out.below.mono HBK.out.size))
      cases r with
      | true =>
       have hne:¬(y.nom,y.hol)=x:=by
        have h:=HR.out;intro e;rw [decide_eq_true (show (y.nom,y.hol)=(x.1,x.2) from e)] at h
        cases h
       have hb0:bckC x y=0:=by unfold bckC;rw [if_neg hne]
       have hr0:redC x y=0:=by unfold redC;rw [if_neg hne]
       go_wp2
       go_roundg (gk - 1)
       case measure=>omega
       case rel=>exact ⟨k+1,by go_num,by omega,by omega,by rw [HTB.out,hb0,Int.add_zero],by rw [HTR.out,hr0,Int.add_zero],HBY.out⟩
      | false =>
       have heq:(y.nom,y.hol)=x:=by
        have h:=HR.out;exact Decidable.byContradiction fun e=>by rw [decide_eq_false (show ¬(y.nom,y.hol)=(x.1,x.2) from e)] at h;cases h
       have ck:=qcU HKD.out FR.out.below;have cu:=qcU HUN.out FR.out.below;obtain ⟨t,ht⟩:=nqx (decide (y.kind=3∨y.kind=4∨y.kind=5));have HT:=hid ht;have HRE:=hid (fun V=>show CB 28 #[.int .i64 y.kind] (.bool t) V by rw [HT.out];exact qwJ y.kind V);clear ht;go_wp2_with fail
       refine (HRE.out _).mono ?_;rintro e wv ⟨rfl,hb9⟩;have cu:=qcU cu hb9;have HBV:=hid (HBY.out.trans (hb9.mono HBY.out.size));clear hb9 ck;have v1:IntKind.i64.wrap (sr+y.units)=sr+y.units:=IntWalk.i64_in _ (by omega);have v2:IntKind.i64.wrap (u2+sb+y.units)=u2+sb+y.units:=IntWalk.i64_in _ (by omega);have v3:IntKind.i64.wrap (u2+sb - y.units)=u2+sb - y.units:=IntWalk.i64_in _ (by omega)
       cases t with
       | true =>
        have hi:isR y.kind=true:=HT.out.symm;have hb0:bckC x y=y.units:=by unfold bckC;rw [if_pos heq,if_pos hi]
        have hr0:redC x y=y.units:=by unfold redC;rw [if_pos heq,if_pos hi]
        go_wp2
        go_roundg (gk - 1)
        case measure=>omega
        case rel=>exact ⟨k+1,by go_num,by omega,by omega,by rw [HTB.out,hb0,Int.add_assoc],by rw [HTR.out,hr0],HBV.out⟩
       | false =>
        have hi:¬isR y.kind=true:=by show ¬decide _=true;rw [←HT.out];simp
        have hb0:bckC x y=-y.units:=by unfold bckC;rw [if_pos heq,if_neg hi]
        have hr0:redC x y=0:=by unfold redC;rw [if_pos heq,if_neg hi]
        go_wp2
        go_roundg (gk - 1)
        case measure=>omega
        case rel=>exact ⟨k+1,by go_num,by omega,by omega,by rw [HTB.out,hb0];congr 1;omega,by rw [HTR.out,hr0,Int.add_zero],HBV.out⟩
     ·obtain rfl:k=n:=by omega
      have ht:N.take k=N:=List.take_of_length_le (by rw [HLN.out];exact Nat.le_refl _);rw [ht,←HK1.out];obtain ⟨sr,hsr0⟩:=nqx (sumD (redC x) N);have hk2:=HK2.out;rw [←hsr0] at hk2 ⊢;have hgt:¬u1<sr:=by omega
      have HBZ:=hid (HWF.out.trans (HBK.out.mono HWF.out.size));clear ht hsr0;go_wp2
      go_roundg (G0 - 1)
      case measure=>have:=HG0.out;omega
      case rel=>exact ⟨c+1,by go_num,by omega,by have:=HG0.out;omega,HBZ.out⟩
   ·obtain rfl:c=6:=by omega
    go_wp2_with fail
    refine (qtD _).mono ?_;rintro e w9 ⟨rfl,hb9⟩;have z1:=HBW.out.trans (HBC.out.mono HBW.out.size);have HB9:=hid (z1.trans (hb9.mono z1.size));clear hb9 z1;go_wp2
    go_ret
    exact ⟨rfl,HB9.out⟩
end Go.Proofs.YtemoddmadfoaiaaGreat
