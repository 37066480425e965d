import Derived.Test.YtemoddmadfoaiaaGreatBiD
import Derived.Test.YtemoddmadfoaiaaGreatBiX
set_option linter.unusedVariables false
set_option linter.unusedSimpArgs false
set_option maxRecDepth 100000
set_option maxHeartbeats 8000000
namespace Go.Proofs.YtemoddmadfoaiaaGreat
open Go.RowKit Big
open Lib (hid)
theorem jaD (w:World) (na nb:Bool) (a b:Nat) (t:TypeId):∃ w0:World,w0=(((w.alloc (.cells (Value.bool na::lv 32 a).toArray t)).alloc (.cells (Value.bool nb::lv 32 b).toArray t)).alloc (.cells (Value.bool false::lv 32 0).toArray t)).alloc (.cells (Value.bool false::lv 32 0).toArray t) ∧
  Below w.heap.size w w0∧w0.heap.size=w.heap.size+1+1+1+1∧w0.cell? ⟨w.heap.size,0,none⟩=some (.bool na)∧MagAt w0 w.heap.size 1 32 a∧w0.cell? ⟨w.heap.size+1,0,none⟩=some (.bool nb)∧MagAt w0 (w.heap.size+1) 1 32 b ∧
  w0.there (w.heap.size+1+1) 0 33∧w0.there (w.heap.size+1+1+1) 0 33:=by
 obtain ⟨w1,h1,hb1,hs1,hc1,hA⟩:=qgU w na a t;obtain ⟨w2,h2,hb2,hs2,hc2,hB⟩:=qgU w1 nb b t;obtain ⟨w3,h3⟩:∃ w3,w3=w2.alloc (.cells (Value.bool false::lv 32 0).toArray t):=⟨_,rfl⟩;have hs3:w3.heap.size=w2.heap.size+1:=by rw [h3];simp
 have hb3:Below w2.heap.size w2 w3:=by rw [h3];exact (Below.refl _ _).alloc (Nat.le_refl _) _
 have hb4:Below w3.heap.size w3 (w3.alloc (.cells (Value.bool false::lv 32 0).toArray t)):=(Below.refl _ _).alloc (Nat.le_refl _) _;have t3:w3.there w2.heap.size 0 33:=by rw [h3];exact qhT w2 t
 have t4:=qhT w3 t;have t3':=qaT t3 hb4 (by omega);rw [hs3] at t4;rw [hs2,hs1] at t4 t3';have hb24:=hb3.trans (hb4.mono hb3.size);have hb14:=hb2.trans (hb24.mono hb2.size);refine ⟨_,rfl,?_,?_,?_,?_,?_,?_,?_,?_⟩;all_goals rw [←h1,←h2,←h3]
 ·exact hb1.trans (hb14.mono hb1.size)
 ·rw [World.size_alloc,hs3,hs2,hs1]
 ·exact qcU hc1 hb14
 ·exact hA.up hb14
 ·rw [←hs1];exact qcU hc2 hb24
 ·rw [←hs1];exact hB.up hb24
 ·exact t3'
 ·exact t4
theorem qrX:lv 32 1=[.int .u32 1,.int .u32 0,.int .u32 0,.int .u32 0,.int .u32 0,.int .u32 0,.int .u32 0,.int .u32 0,.int .u32 0,.int .u32 0,.int .u32 0,.int .u32 0,.int .u32 0,.int .u32 0,.int .u32 0,.int .u32 0,.int .u32 0,.int .u32 0,.int .u32 0,.int .u32 0,.int .u32 0,.int .u32 0,.int .u32 0,.int .u32 0,.int .u32 0,.int .u32 0,.int .u32 0,.int .u32 0,.int .u32 0,.int .u32 0,.int .u32 0,.int .u32 0]:=by
 have h0:lim 1 0=1:=by unfold lim BB;decide
 have h1:lim 1 1=0:=by unfold lim BB;decide
 rw [qnG (v:=1) (qmK (by omega)),h0,h1];rfl
theorem qvT (na nb:Bool) (a b:Nat) (m n:Nat) (w:World) (ha:a<BB^32) (hb:b<BB^32) (h0:b≠0)
  (hm:m=if na=true∧a%b≠0 then a / b+1 else a / b) (hn:n=if na=true∧a%b≠0 then b - a%b else a%b) :
  Calls Tryz.prog 134 #[iV na a,iV nb b] w fun e w'=>e=.returned (.tuple #[iV (cs1 (na != nb) m) m,iV false n,.int .i64 0])∧Below w.heap.size w w':=by
 obtain ⟨q,hq⟩:∃ q,q=a / b:=⟨_,rfl⟩;obtain ⟨r,hr⟩:∃ r,r=a%b:=⟨_,rfl⟩;have hqb:q<BB^32:=by rw [hq];exact Nat.lt_of_le_of_lt (Nat.div_le_self _ _) ha
 have hrb:r<b:=by rw [hr];exact Nat.mod_lt _ (by omega)
 have hrb2:r<BB^32:=Nat.lt_trans hrb hb;rw [←hr] at hm hn;rw [←hq] at hm
 have hq1:r≠0→q+1<BB^32:=by
  intro h;have h2:2≤b:=by omega
  have h3:q≤a / 2:=by rw [hq];exact Nat.div_le_div_left h2 (by omega)
  have h4:r≤a:=by rw [hr];exact Nat.mod_le _ _
  omega
 have hmb:m<BB^32:=by
  rw [hm];split
  ·rename_i h;exact hq1 h.2
  ·exact hqb
 have hnb:n<BB^32:=by rw [hn];split<;>omega
 obtain ⟨w0,hw0,hb0,hs0,hc0,hA,hc1,hB,hT4,hT5⟩:=jaD w na nb a b 25;obtain ⟨zb,hzb⟩:∃ zb,zb=decide (b=0):=⟨_,rfl⟩;obtain rfl:zb=false:=by rw [hzb];exact decide_eq_false h0
 have HZB:=hid (fun W=>qhP b false W hb hzb);have HDV:=hid (fun W=>qnU a b W ha hb h0);rw [←hq,←hr] at HDV;have HCM:=hid (fun W=>qkW (na != nb) m W hmb);have HCN:=hid (fun W=>qoA n W hnb);have HW:=hid hb0;rw [qbP] at hw0;unfold mV at HZB HDV HCM HCN;obtain ⟨ca,hca⟩:∃ ca,ca=lv 32 a:=⟨_,rfl⟩;obtain ⟨cb,hcb⟩:∃ cb,cb=lv 32 b:=⟨_,rfl⟩;obtain ⟨cq,hcq⟩:∃ cq,cq=lv 32 q:=⟨_,rfl⟩;obtain ⟨cr,hcr⟩:∃ cr,cr=lv 32 r:=⟨_,rfl⟩;rw [←hcb] at HZB;rw [←hca,←hcb,←hcq,←hcr] at HDV;have HRA:=hid (show w0.rangeAt w.heap.size 1 ca by rw [hca];exact hA);have HRB:=hid (show w0.rangeAt (w.heap.size+1) 1 cb by rw [hcb];exact hB);have HT4:=hid hT4;have HT5:=hid hT5;have sa:(Tryz.prog.info? 23).map (·.size)=some ca.length:=by rw [hca];exact qbK a
 have sb:(Tryz.prog.info? 23).map (·.size)=some cb.length:=by rw [hcb];exact qbK b
 have SAB:=hid (And.intro sa sb);have HCC:=hid (And.intro hca (And.intro hcb (And.intro hcq hcr)));have HMN:=hid (And.intro hm (And.intro hn (And.intro hmb hnb)));have HQR:=hid (And.intro hqb (And.intro hrb (And.intro hrb2 (And.intro hq1 hb))));have HU:=hid Tryz.underlying23;unfold iV;obtain ⟨va,hva⟩:∃ va,va=(Value.bool na::lv 32 a).toArray:=⟨_,rfl⟩;obtain ⟨vb,hvb⟩:∃ vb,vb=(Value.bool nb::lv 32 b).toArray:=⟨_,rfl⟩;rw [←hva,←hvb] at hw0 ⊢;obtain ⟨rm,hrm⟩:∃ rm,rm=Value.bool (cs1 (na != nb) m)::lv 32 m:=⟨_,rfl⟩;obtain ⟨rn,hrn⟩:∃ rn,rn=Value.bool false::lv 32 n:=⟨_,rfl⟩;unfold iV at HCM HCN;rw [←hrm] at HCM ⊢;rw [←hrn] at HCN ⊢;have HRMN:=hid (And.intro hrm hrn);clear hq hr hqb hrb hrb2 hm hn hq1 hmb hnb hb0 hA hB hT4 hT5 hzb hca hcb hcq hcr sa sb hva hvb hrm hrn ha hb h0;go_enter Tryz.func134,Tryz.ntmps134
 go_upto_region 1 with fail
 rw [←hw0];obtain ⟨B0,hB0⟩:∃ B0,B0=w.heap.size:=⟨_,rfl⟩;have HBE:=hid hB0;rw [←hB0] at HRA HRB HT4 HT5 hs0 hc0 hc1 ⊢;clear hw0 hB0
 go_wp2_with (first
  | (refine wpList_load_mid rfl _ _ rfl (B0+1) 1 rfl cb _ HRB.out HU.out rfl SAB.out.2 ?_))
 refine (HZB.out _).mono ?_;rintro e w1 ⟨rfl,hb1⟩;have HRA1:=hid (qaJ HRA.out hb1);have HRB1:=hid (qaJ HRB.out hb1);have HB1:=hid hb1;clear hb1;go_upto_region 3 with fail
 go_wp2_with (first
  | (refine wpList_load_mid rfl _ _ rfl (B0+1) 1 rfl cb _ HRB1.out HU.out rfl SAB.out.2 ?_)
  | (refine wpList_load_mid rfl _ _ rfl B0 1 rfl ca _ HRA1.out HU.out rfl SAB.out.1 ?_))
 refine (HDV.out _).mono ?_;rintro e w2 ⟨rfl,hb2⟩;obtain ⟨B7,hB7⟩:∃ B7,B7=w2.heap.size:=⟨_,rfl⟩;have hb02:=HB1.out.trans (hb2.mono HB1.out.size);have hB7b:B0+1+1+1+1≤B7:=by have:=hb02.size;omega
 obtain ⟨w4,hw4⟩:∃ w4,w4=(w2.alloc (.cells (lv 32 0).toArray 23)).alloc (.cells (lv 32 0).toArray 23):=⟨_,rfl⟩;have hO7:qMO w4 B7 0 32 0:=by rw [hw4,hB7];exact (qMO.new w2 32 0 _).up ((Below.refl _ _).alloc (Nat.le_refl _) _) (by simp)
 have hO8:qMO w4 (B7+1) 0 32 0:=by
  rw [hw4,hB7]
  have:=qMO.new (w2.alloc (.cells (lv 32 0).toArray 23)) 32 0 23
  rwa [World.size_alloc] at this
 have hb24:Below B7 w2 w4:=by rw [hw4,hB7];exact ((Below.refl _ _).alloc (Nat.le_refl _) _).alloc (by simp) _
 have hs4:w4.heap.size=B7+1+1:=by rw [hw4,hB7];simp
 rw [qbO] at hw4;have HW4:=hid hw4;have lcq:cq.length=32:=by rw [HCC.out.2.2.1,qlL]
 have lcr:cr.length=32:=by rw [HCC.out.2.2.2,qlL]
 have HSQ:=hid (show (Tryz.prog.info? 23).map (·.size)=some cq.toArray.size by rw [List.size_toArray,lcq];exact Tryz.infoM);have HSR:=hid (show (Tryz.prog.info? 23).map (·.size)=some cr.toArray.size by rw [List.size_toArray,lcr];exact Tryz.infoM);have HKQ:=hid (show cq.toArray.all (·.oneCell')=true by rw [HCC.out.2.2.1];exact all_oneCell_toArray (qcE 32 q));have HKR:=hid (show cr.toArray.all (·.oneCell')=true by rw [HCC.out.2.2.2];exact all_oneCell_toArray (qcE 32 r));have HTQ:=hid (show w4.there B7 0 cq.toArray.size by rw [List.size_toArray,lcq];exact hO7.there);have HTR:=hid (show (w4.setCells B7 0 cq).there (B7+1) 0 cr.toArray.size by rw [List.size_toArray,lcr];exact qaW hO8.there _ _ (by omega));obtain ⟨w5,hw5⟩:∃ w5,w5=(w4.setCells B7 0 cq).setCells (B7+1) 0 cr:=⟨_,rfl⟩;have hO7':qMO w5 B7 0 32 q:=by rw [hw5,HCC.out.2.2.1];exact qeA (qcJ hO7) _ _ (by omega)
 have hO8':qMO w5 (B7+1) 0 32 r:=by rw [hw5,HCC.out.2.2.2];exact qcJ (qeA hO8 _ _ (by omega))
 have hb25:Below B7 w2 w5:=by rw [hw5];exact qaB (by omega) _ _ _ (qaB (Nat.le_refl _) _ _ _ hb24)
 have hs5:w5.heap.size=B7+1+1:=by rw [hw5,qbH,qbH,hs4]
 have hb05:Below w0.heap.size w0 w5:=hb02.trans (hb25.mono (by have:=hb02.size;omega));have HRA5:=hid (qaJ HRA.out hb05);have HRB5:=hid (qaJ HRB.out hb05);have HT45:=hid (qaT HT4.out hb05 (by omega));have HT55:=hid (qaT HT5.out hb05 (by omega));have hd0:=qcU hc0 hb05;have hd1:=qcU hc1 hb05;have HO7:=hid hO7';have HO8:=hid hO8';have HW5:=hid (HW.out.trans (hb05.mono HW.out.size));have HW5E:=hid hw5;have HB7E:=hid hB7;have HLL:=hid (And.intro lcq lcr);clear hb2 hb02 hO7 hO8 hO7' hO8' hb24 hs4 hw4 hw5 hb25 hb05 lcq lcr hc0 hc1 HRA HRB HT4 HT5 HRA1 HRB1 HB1 hB7
 go_upto_region 4 with (first
  | (refine wpList_store_mid rfl _ _ _ rfl w2.heap.size 0 _ rfl rfl (by rw [←HW4.out,←HB7E.out];exact HTQ.out) HSQ.out HKQ.out ?_)
  | (refine wpList_store_mid rfl _ _ _ rfl (w2.heap.size+1) 0 _ rfl rfl (by rw [←HW4.out,←HB7E.out];exact HTR.out) HSR.out HKR.out ?_))
 try simp only [Act.put,List.setIfInBounds_toArray,List.set_cons_zero,List.set_cons_succ]
 try simp only [List.toList_toArray]
 rw [←HW4.out,←HB7E.out,←HW5E.out];obtain ⟨cm,hcm⟩:∃ cm,cm=lv 32 m:=⟨_,rfl⟩;obtain ⟨cn,hcn⟩:∃ cn,cn=lv 32 n:=⟨_,rfl⟩;rw [←hcm] at HCM;rw [←hcn] at HCN
 have HCX:=hid (fun W (x:Bool) (cs rs:List Value) (h:(x=(na != nb)∧cs=cm∧rs=rm)∨(x=false∧cs=cn∧rs=rn))=>show Calls Tryz.prog 139 #[.bool x,.agg cs.toArray] W (fun e w'=>e=.returned (.agg rs.toArray)∧Below W.heap.size W w') by
  rcases h with ⟨h1,h2,h3⟩|⟨h1,h2,h3⟩
  ·rw [h1,h2,h3];exact HCM.out W
  ·rw [h1,h2,h3];exact HCN.out W)
 have sm:(Tryz.prog.info? 23).map (·.size)=some cm.length:=by rw [hcm];exact qbK m
 have sn:(Tryz.prog.info? 23).map (·.size)=some cn.length:=by rw [hcn];exact qbK n
 have lrm:rm.length=33:=by rw [HRMN.out.1,List.length_cons,qlL]
 have lrn:rn.length=33:=by rw [HRMN.out.2,List.length_cons,qlL]
 have krm:rm.toArray.all (·.oneCell')=true:=by rw [HRMN.out.1];exact all_oneCell_toArray (qeL _ m)
 have krn:rn.toArray.all (·.oneCell')=true:=by rw [HRMN.out.2];exact all_oneCell_toArray (qeL _ n)
 have u49:=HU.out;have HCMN:=hid (And.intro hcm hcn);clear hcm hcn
 cases na with
 | false =>
  have hm:m=q:=by rw [HMN.out.1];simp
  have hn:n=r:=by rw [HMN.out.2.1];simp
  have HM:=hid (show w5.rangeAt B7 0 cm by rw [HCMN.out.1,hm];exact HO7.out.1);have HN:=hid (show w5.rangeAt (B7+1) 0 cn by rw [HCMN.out.2,hn];exact HO8.out.1);clear hm hn;go_upto_region 9 with fail
  try simp only [Act.put,List.setIfInBounds_toArray,List.set_cons_zero,List.set_cons_succ]
  have cmr:w5.rangeAt B7 0 cm:=HM.out;have cnr:w5.rangeAt (B7+1) 0 cn:=HN.out;have e0:=fun p os=>qaC hd0 p os
  have e1:=fun p os=>qaC hd1 p os
  refine qbF 9 (by kernel_rfl) (by kernel_rfl) ?_;simp only [List.take_succ_cons,List.take_zero,List.drop_succ_cons,List.drop_zero]
  repeat (first
   | (refine qaF rfl _ _ rfl B7 0 rfl cm _ cmr u49 rfl sm ?_;try simp only [Act.put,List.setIfInBounds_toArray,List.set_cons_zero,List.set_cons_succ])
   | (refine qaF rfl _ _ rfl (B7+1) 0 rfl cn _ cnr u49 rfl sn ?_;try simp only [Act.put,List.setIfInBounds_toArray,List.set_cons_zero,List.set_cons_succ])
   | go_big_quiet_step ((go_at_call 139;exact qaA (HCX.out _ _ _ _ (by first|exact .inl ⟨by first|rfl|(cases nb<;>rfl),rfl,rfl⟩|exact .inr ⟨rfl,rfl,rfl⟩)))))
  refine wpQuiet_nil ?_;intro w' hw';obtain ⟨p,rfl⟩:=hw';have hbg:=qbG w5 p.d p.os;obtain ⟨wx,hwx⟩:∃ wx,wx=gw w5 p.d p.os:=⟨_,rfl⟩;rw [←hwx] at hbg ⊢;have t4:=qaT HT45.out hbg (by omega);have t5:=qaT HT55.out hbg (by omega);have HWX:=hid ((HW5.out).trans (hbg.mono (HW5.out).size));clear hbg hwx e0 e1 cmr cnr;refine wpList_store_mid rfl _ _ _ rfl (B0+1+1) 0 _ rfl rfl (by rw [List.size_toArray,lrm];exact t4) (by rw [List.size_toArray,lrm];exact Tryz.infoI) krm ?_;simp only [Act.put,List.setIfInBounds_toArray,List.set_cons_zero,List.set_cons_succ];have t5':(wx.setCells (B0+1+1) 0 rm).there (B0+1+1+1) 0 33:=qaW t5 rm 0 (by omega);refine wpList_store_mid rfl _ _ _ rfl (B0+1+1+1) 0 _ rfl rfl (by rw [List.size_toArray,lrn];exact t5') (by rw [List.size_toArray,lrn];exact Tryz.infoI) krn ?_;simp only [Act.put,List.setIfInBounds_toArray,List.set_cons_zero,List.set_cons_succ];have hle2:w.heap.size≤B0+1+1:=by rw [←HBE.out];omega
  have hle3:w.heap.size≤B0+1+1+1:=by omega
  have HWE:=hid (qaB hle3 rn 0 _ (qaB hle2 rm 0 _ HWX.out));have g1:=World.rangeAt_setCells_same wx (B0+1+1) 0 rm (by rw [lrm];exact t4);have g2:=qaK g1 rn (B0+1+1+1) 0 (by omega);have g3:=World.rangeAt_setCells_same (wx.setCells (B0+1+1) 0 rm) (B0+1+1+1) 0 rn (by rw [lrn];exact t5')
  try simp only [List.toList_toArray]
  go_wp2_with fail
  have hld1:=run_loadVar_mid (P:=Tryz.prog) _ _ _ _ _ _ g2 Tryz.underlying25 rfl (by rw [lrm];exact Tryz.infoI);have hld2:=run_loadVar_mid (P:=Tryz.prog) _ _ _ _ _ _ g3 Tryz.underlying25 rfl (by rw [lrn];exact Tryz.infoI);refine bodyPost_ret (v:=.tuple #[.agg rm.toArray,.agg rn.toArray,.int .i64 0]) (by simp [results,Tryz.results134,asAddr,hld1,hld2]) rfl ?_;exact ⟨rfl,HWE.out⟩
 | true =>
  obtain ⟨z,hz⟩:∃ z,z=decide (r=0):=⟨_,rfl⟩;have HZR:=hid (fun W=>qhP r z W HQR.out.2.2.1 hz);unfold mV at HZR;rw [←HCC.out.2.2.2] at HZR;have HLR:=hid (show w5.rangeAt (B7+1) 0 cr by rw [HCC.out.2.2.2];exact HO8.out.1);have HSR2:=hid (show (Tryz.prog.info? 23).map (·.size)=some cr.length by rw [HCC.out.2.2.2];exact qbK r);have HZZ:=hid hz;clear hz;go_wp2_with (refine qaZ (by rfl) _ _ rfl (B7+1) 0 rfl cr _ HLR.out u49 rfl HSR2.out ?_)
  refine (HZR.out _).mono ?_;rintro e w6 ⟨rfl,hb6⟩;have hs6:B7+1+1≤w6.heap.size:=by have:=hb6.size;omega
  have HT46:=hid (qaT HT45.out hb6 (by omega));have HT56:=hid (qaT HT55.out hb6 (by omega));have hd06:=qcU hd0 hb6;have hd16:=qcU hd1 hb6;have HO76:=hid (HO7.out.up hb6 (by omega));have HO86:=hid (HO8.out.up hb6 (by omega));have HRB6:=hid (qaJ HRB5.out hb6);have HW6:=hid (HW5.out.trans (hb6.mono HW5.out.size));clear hb6 hd0 hd1
  cases z with
  | true =>
   have hr0:r=0:=of_decide_eq_true HZZ.out.symm;have hm:m=q:=by rw [HMN.out.1,if_neg (by simp [hr0])]
   have hn:n=r:=by rw [HMN.out.2.1,if_neg (by simp [hr0])]
   have HM:=hid (show w6.rangeAt B7 0 cm by rw [HCMN.out.1,hm];exact HO76.out.1);have HN:=hid (show w6.rangeAt (B7+1) 0 cn by rw [HCMN.out.2,hn];exact HO86.out.1);clear hm hn hr0;go_upto_region 9 with fail
   try simp only [Act.put,List.setIfInBounds_toArray,List.set_cons_zero,List.set_cons_succ]
   have cmr:w6.rangeAt B7 0 cm:=HM.out;have cnr:w6.rangeAt (B7+1) 0 cn:=HN.out;have e0:=fun p os=>qaC hd06 p os
   have e1:=fun p os=>qaC hd16 p os
   refine qbF 9 (by kernel_rfl) (by kernel_rfl) ?_;simp only [List.take_succ_cons,List.take_zero,List.drop_succ_cons,List.drop_zero]
   repeat (first
    | (refine qaF rfl _ _ rfl B7 0 rfl cm _ cmr u49 rfl sm ?_;try simp only [Act.put,List.setIfInBounds_toArray,List.set_cons_zero,List.set_cons_succ])
    | (refine qaF rfl _ _ rfl (B7+1) 0 rfl cn _ cnr u49 rfl sn ?_;try simp only [Act.put,List.setIfInBounds_toArray,List.set_cons_zero,List.set_cons_succ])
    | go_big_quiet_step ((go_at_call 139;exact qaA (HCX.out _ _ _ _ (by first|exact .inl ⟨by first|rfl|(cases nb<;>rfl),rfl,rfl⟩|exact .inr ⟨rfl,rfl,rfl⟩)))))
   refine wpQuiet_nil ?_;intro w' hw';obtain ⟨p,rfl⟩:=hw';have hbg:=qbG w6 p.d p.os;obtain ⟨wx,hwx⟩:∃ wx,wx=gw w6 p.d p.os:=⟨_,rfl⟩;rw [←hwx] at hbg ⊢;have t4:=qaT HT46.out hbg (by omega);have t5:=qaT HT56.out hbg (by omega);have HWX:=hid ((HW6.out).trans (hbg.mono (HW6.out).size));clear hbg hwx e0 e1 cmr cnr;refine wpList_store_mid rfl _ _ _ rfl (B0+1+1) 0 _ rfl rfl (by rw [List.size_toArray,lrm];exact t4) (by rw [List.size_toArray,lrm];exact Tryz.infoI) krm ?_;simp only [Act.put,List.setIfInBounds_toArray,List.set_cons_zero,List.set_cons_succ];have t5':(wx.setCells (B0+1+1) 0 rm).there (B0+1+1+1) 0 33:=qaW t5 rm 0 (by omega);refine wpList_store_mid rfl _ _ _ rfl (B0+1+1+1) 0 _ rfl rfl (by rw [List.size_toArray,lrn];exact t5') (by rw [List.size_toArray,lrn];exact Tryz.infoI) krn ?_;simp only [Act.put,List.setIfInBounds_toArray,List.set_cons_zero,List.set_cons_succ];have hle2:w.heap.size≤B0+1+1:=by rw [←HBE.out];omega
   have hle3:w.heap.size≤B0+1+1+1:=by omega
   have HWE:=hid (qaB hle3 rn 0 _ (qaB hle2 rm 0 _ HWX.out));have g1:=World.rangeAt_setCells_same wx (B0+1+1) 0 rm (by rw [lrm];exact t4);have g2:=qaK g1 rn (B0+1+1+1) 0 (by omega);have g3:=World.rangeAt_setCells_same (wx.setCells (B0+1+1) 0 rm) (B0+1+1+1) 0 rn (by rw [lrn];exact t5')
   try simp only [List.toList_toArray]
   go_wp2_with fail
   have hld1:=run_loadVar_mid (P:=Tryz.prog) _ _ _ _ _ _ g2 Tryz.underlying25 rfl (by rw [lrm];exact Tryz.infoI);have hld2:=run_loadVar_mid (P:=Tryz.prog) _ _ _ _ _ _ g3 Tryz.underlying25 rfl (by rw [lrn];exact Tryz.infoI);refine bodyPost_ret (v:=.tuple #[.agg rm.toArray,.agg rn.toArray,.int .i64 0]) (by simp [results,Tryz.results134,asAddr,hld1,hld2]) rfl ?_;exact ⟨rfl,HWE.out⟩
  | false =>
   have hr0:r≠0:=of_decide_eq_false HZZ.out.symm;have hm:m=q+1:=by rw [HMN.out.1,if_pos (by simp [hr0])]
   have hn:n=b - r:=by rw [HMN.out.2.1,if_pos (by simp [hr0])]
   have HDF:=hid (fun W=>qgF b r n W HQR.out.2.2.2.2 HQR.out.2.2.1 HMN.out.2.2.2 ⟨0,by have:=HQR.out.2.1;omega⟩);have HSM:=hid (fun W=>jdO q 1 m 0 W HQR.out.1 (Nat.one_lt_pow (by omega) (by unfold BB;omega)) HMN.out.2.2.1 (by omega));unfold mV at HDF HSM;rw [←HCC.out.2.1,←HCC.out.2.2.2,←HCMN.out.2] at HDF;obtain ⟨c1,hc1⟩:∃ c1,c1=lv 32 1:=⟨_,rfl⟩;rw [←HCC.out.2.2.1,←hc1,←HCMN.out.1] at HSM;have HC1:=hid hc1;have HLR6:=hid (show w6.rangeAt (B7+1) 0 cr by rw [HCC.out.2.2.2];exact HO86.out.1);clear hm hn hr0 hc1
   go_wp2_with (first
    | (refine wpList_load_mid rfl _ _ rfl (B0+1) 1 rfl cb _ HRB6.out u49 rfl SAB.out.2 ?_)
    | (refine wpList_load_mid rfl _ _ rfl (B7+1) 0 rfl cr _ HLR6.out u49 rfl HSR2.out ?_))
   refine (HDF.out _).mono ?_;rintro e w7 ⟨rfl,hb7⟩;have hs7:B7+1+1≤w7.heap.size:=by have:=hb7.size;omega
   have hO77:=HO76.out.up hb7 (by omega);have hO87:=HO86.out.up hb7 (by omega);have lcn:cn.length=32:=by rw [HCMN.out.2,qlL]
   have lcm:cm.length=32:=by rw [HCMN.out.1,qlL]
   have HSN:=hid (show (Tryz.prog.info? 23).map (·.size)=some cn.toArray.size by rw [List.size_toArray,lcn];exact Tryz.infoM);have HSMM:=hid (show (Tryz.prog.info? 23).map (·.size)=some cm.toArray.size by rw [List.size_toArray,lcm];exact Tryz.infoM);have HKN:=hid (show cn.toArray.all (·.oneCell')=true by rw [HCMN.out.2];exact all_oneCell_toArray (qcE 32 n));have HKM:=hid (show cm.toArray.all (·.oneCell')=true by rw [HCMN.out.1];exact all_oneCell_toArray (qcE 32 m));have HTN:=hid (show w7.there (B7+1) 0 cn.toArray.size by rw [List.size_toArray,lcn];exact hO87.there);obtain ⟨w8,hw8⟩:∃ w8,w8=w7.setCells (B7+1) 0 cn:=⟨_,rfl⟩;have hs8:w8.heap.size=w7.heap.size:=by rw [hw8,qbH]
   obtain ⟨B9,hB9⟩:∃ B9,B9=w8.heap.size:=⟨_,rfl⟩;obtain ⟨w10,hw10⟩:∃ w10,w10=w8.alloc (.cells (lv 32 1).toArray 23):=⟨_,rfl⟩;have hO10:qMO w10 B9 0 32 1:=by rw [hw10,hB9];exact qMO.new w8 32 1 _
   have hb810:Below B9 w8 w10:=by rw [hw10,hB9];exact (Below.refl _ _).alloc (Nat.le_refl _) _
   have hb78:Below (B7+1) w7 w8:=by rw [hw8];exact qaB (Nat.le_refl _) _ _ _ (Below.refl _ _)
   have hO78:qMO w8 B7 0 32 q:=by rw [hw8];exact qeA hO77 _ _ (by omega)
   have hO88:qMO w8 (B7+1) 0 32 n:=by rw [hw8,HCMN.out.2];exact qcJ hO87
   rw [hB9] at hb810;have HO710:=hid (hO78.up hb810 (by omega));have HO810:=hid (hO88.up hb810 (by omega));rw [←hB9] at hb810;have hs10:w10.heap.size=B9+1:=by rw [hw10,hB9];simp
   have HT410:=hid (show w10.there (B0+1+1) 0 33 by
    have h7:=qaT HT46.out hb7 (by omega);have h8:w8.there (B0+1+1) 0 33:=by rw [hw8];exact qaW h7 _ _ (by omega)
    exact qaT h8 (by rw [←hB9];exact hb810) (by omega))
   have HT510:=hid (show w10.there (B0+1+1+1) 0 33 by
    have h7:=qaT HT56.out hb7 (by omega);have h8:w8.there (B0+1+1+1) 0 33:=by rw [hw8];exact qaW h7 _ _ (by omega)
    exact qaT h8 (by rw [←hB9];exact hb810) (by omega))
   have hd010:w10.cell? ⟨B0,0,none⟩=some (.bool true):=qcU (by rw [hb78.cell (by simp;omega)];exact qcU hd06 hb7) (by rw [←hB9];exact hb810);have hd110:w10.cell? ⟨B0+1,0,none⟩=some (.bool nb):=qcU (by rw [hb78.cell (by simp;omega)];exact qcU hd16 hb7) (by rw [←hB9];exact hb810)
   have HW10:=hid (show Below w.heap.size w w10 by
    have h7:=HW6.out.trans (hb7.mono HW6.out.size);have h8:Below w.heap.size w w8:=by rw [hw8];exact qaB (by rw [←HBE.out];omega) _ _ _ h7
    exact h8.trans (hb810.mono (by rw [←HBE.out];omega)))
   have HL7:=hid (show w10.rangeAt B7 0 cq by rw [HCC.out.2.2.1];exact HO710.out.1);have HL9:=hid (show w10.rangeAt B9 0 c1 by rw [HC1.out];exact hO10.1);have HSC1:=hid (show (Tryz.prog.info? 23).map (·.size)=some c1.length by rw [HC1.out];exact qbK 1);have HSCQ:=hid (show (Tryz.prog.info? 23).map (·.size)=some cq.length by rw [HCC.out.2.2.1];exact qbK q);rw [qrX] at hw10;have HWE:=hid (And.intro hw8 (And.intro hw10 hB9));have hs9:B7+1+1≤B9:=by omega
   clear hb7 hO77 hO87 lcn hw10 hO10 hb810 hb78 hO78 hO88 hd06 hd16 hw8 hs7 hs8 hB9;go_upto_region 6 with (refine wpList_store_mid rfl _ _ _ rfl (B7+1) 0 _ rfl rfl HTN.out HSN.out HKN.out ?_)
   try simp only [Act.put,List.setIfInBounds_toArray,List.set_cons_zero,List.set_cons_succ]
   try simp only [List.toList_toArray]
   rw [←HWE.out.1];go_upto_region 8 with fail
   rw [←HWE.out.2.1,←HWE.out.2.2]
   go_wp2_with (first
    | (refine wpList_load_mid rfl _ _ rfl B7 0 rfl cq _ HL7.out u49 rfl HSCQ.out ?_)
    | (refine wpList_load_mid rfl _ _ rfl B9 0 rfl c1 _ HL9.out u49 rfl HSC1.out ?_))
   refine (HSM.out _).mono ?_;rintro e w11 ⟨rfl,hb11⟩;have hs11:B9≤w11.heap.size:=by have:=hb11.size;omega
   have hO711:=HO710.out.up hb11 (by omega);have hO811:=HO810.out.up hb11 (by omega);have hT411:=qaT HT410.out hb11 (by omega);have hT511:=qaT HT510.out hb11 (by omega);have hd011:=qcU hd010 hb11;have hd111:=qcU hd110 hb11;have hW11:=HW10.out.trans (hb11.mono HW10.out.size);have HTM:=hid (show w11.there B7 0 cm.toArray.size by rw [List.size_toArray,lcm];exact hO711.there);obtain ⟨w12,hw12⟩:∃ w12,w12=w11.setCells B7 0 cm:=⟨_,rfl⟩;have HM:=hid (show w12.rangeAt B7 0 cm by rw [hw12,HCMN.out.1];exact (qcJ hO711).1);have HN:=hid (show w12.rangeAt (B7+1) 0 cn by rw [hw12,HCMN.out.2];exact (qeA hO811 _ _ (by omega)).1);have HT412:=hid (show w12.there (B0+1+1) 0 33 by rw [hw12];exact qaW hT411 _ _ (by omega));have HT512:=hid (show w12.there (B0+1+1+1) 0 33 by rw [hw12];exact qaW hT511 _ _ (by omega));have hb1112:Below B7 w11 w12:=by rw [hw12];exact qaB (Nat.le_refl _) _ _ _ (Below.refl _ _)
   have hd012:w12.cell? ⟨B0,0,none⟩=some (.bool true):=by rw [hb1112.cell (by simp;omega)];exact hd011
   have hd112:w12.cell? ⟨B0+1,0,none⟩=some (.bool nb):=by rw [hb1112.cell (by simp;omega)];exact hd111
   have HW12:=hid (show Below w.heap.size w w12 by rw [hw12];exact qaB (by rw [←HBE.out];omega) _ _ _ hW11);have hs12:B7+1+1≤w12.heap.size:=by rw [hw12,qbH];omega
   have HW12E:=hid hw12;clear hb11 hO711 hO811 hT411 hT511 hd011 hd111 hd010 hd110 hW11 hw12 hb1112;go_upto_region 9 with (refine wpList_store_mid rfl _ _ _ rfl B7 0 _ rfl rfl HTM.out HSMM.out HKM.out ?_)
   try simp only [Act.put,List.setIfInBounds_toArray,List.set_cons_zero,List.set_cons_succ]
   try simp only [List.toList_toArray]
   rw [←HW12E.out]
   try simp only [Act.put,List.setIfInBounds_toArray,List.set_cons_zero,List.set_cons_succ]
   have cmr:w12.rangeAt B7 0 cm:=HM.out;have cnr:w12.rangeAt (B7+1) 0 cn:=HN.out;have e0:=fun p os=>qaC hd012 p os
   have e1:=fun p os=>qaC hd112 p os
   refine qbF 9 (by kernel_rfl) (by kernel_rfl) ?_;simp only [List.take_succ_cons,List.take_zero,List.drop_succ_cons,List.drop_zero]
   repeat (first
    | (refine qaF rfl _ _ rfl B7 0 rfl cm _ cmr u49 rfl sm ?_;try simp only [Act.put,List.setIfInBounds_toArray,List.set_cons_zero,List.set_cons_succ])
    | (refine qaF rfl _ _ rfl (B7+1) 0 rfl cn _ cnr u49 rfl sn ?_;try simp only [Act.put,List.setIfInBounds_toArray,List.set_cons_zero,List.set_cons_succ])
    | go_big_quiet_step ((go_at_call 139;exact qaA (HCX.out _ _ _ _ (by first|exact .inl ⟨by first|rfl|(cases nb<;>rfl),rfl,rfl⟩|exact .inr ⟨rfl,rfl,rfl⟩)))))
   refine wpQuiet_nil ?_;intro w' hw';obtain ⟨p,rfl⟩:=hw';have hbg:=qbG w12 p.d p.os;obtain ⟨wx,hwx⟩:∃ wx,wx=gw w12 p.d p.os:=⟨_,rfl⟩;rw [←hwx] at hbg ⊢;have t4:=qaT HT412.out hbg (by omega);have t5:=qaT HT512.out hbg (by omega);have HWX:=hid ((HW12.out).trans (hbg.mono (HW12.out).size));clear hbg hwx e0 e1 cmr cnr;refine wpList_store_mid rfl _ _ _ rfl (B0+1+1) 0 _ rfl rfl (by rw [List.size_toArray,lrm];exact t4) (by rw [List.size_toArray,lrm];exact Tryz.infoI) krm ?_;simp only [Act.put,List.setIfInBounds_toArray,List.set_cons_zero,List.set_cons_succ];have t5':(wx.setCells (B0+1+1) 0 rm).there (B0+1+1+1) 0 33:=qaW t5 rm 0 (by omega);refine wpList_store_mid rfl _ _ _ rfl (B0+1+1+1) 0 _ rfl rfl (by rw [List.size_toArray,lrn];exact t5') (by rw [List.size_toArray,lrn];exact Tryz.infoI) krn ?_;simp only [Act.put,List.setIfInBounds_toArray,List.set_cons_zero,List.set_cons_succ];have hle2:w.heap.size≤B0+1+1:=by rw [←HBE.out];omega
   have hle3:w.heap.size≤B0+1+1+1:=by omega
   have HWE:=hid (qaB hle3 rn 0 _ (qaB hle2 rm 0 _ HWX.out));have g1:=World.rangeAt_setCells_same wx (B0+1+1) 0 rm (by rw [lrm];exact t4);have g2:=qaK g1 rn (B0+1+1+1) 0 (by omega);have g3:=World.rangeAt_setCells_same (wx.setCells (B0+1+1) 0 rm) (B0+1+1+1) 0 rn (by rw [lrn];exact t5')
   try simp only [List.toList_toArray]
   go_wp2_with fail
   have hld1:=run_loadVar_mid (P:=Tryz.prog) _ _ _ _ _ _ g2 Tryz.underlying25 rfl (by rw [lrm];exact Tryz.infoI);have hld2:=run_loadVar_mid (P:=Tryz.prog) _ _ _ _ _ _ g3 Tryz.underlying25 rfl (by rw [lrn];exact Tryz.infoI);refine bodyPost_ret (v:=.tuple #[.agg rm.toArray,.agg rn.toArray,.int .i64 0]) (by simp [results,Tryz.results134,asAddr,hld1,hld2]) rfl ?_;exact ⟨rfl,HWE.out⟩
end Go.Proofs.YtemoddmadfoaiaaGreat
namespace Go.Proofs.YtemoddmadfoaiaaGreat
open Go.RowKit
structure EvJ (ops:Array Oper) (fin:Act) (Gr:World→World→Prop) (W:World) (seen:Array Bool) (a:Act) (w:World):Prop where
 ssz:seen.size=ops.size
 closed:∀ j oj,ops[j]?=some oj→seen.getD j false=true→∀ e∈oj.after,Region.binds .any e=true→seen.getD e.on false=true
 size:a.tmps.size=fin.tmps.size
 defers:a.defers=fin.defers
 same:∀ t,(∀ (i:Nat) (o:Oper),ops[i]?=some o→o.dst=some t→seen.getD i false=true)→a.tmps[t]?=fin.tmps[t]?
 gr:Gr W w
section
variable {P:Program} {ops:Array Oper} {fin ini:Act} {W:World} {Gr:World→World→Prop} {seen:Array Bool} {a:Act} {w:World} {G:List Nat} {R:Nat→Value→World→Prop} {F:(Nat→Value)→Act}
theorem EvJ.shut (J:EvJ ops fin Gr W seen a w) {j:Nat} (hr:j∈Region.ready .any ops seen) :
  ∀ k ok,ops[k]?=some ok→(seen.setIfInBounds j true).getD k false=true→∀ e∈ok.after,Region.binds .any e=true→(seen.setIfInBounds j true).getD e.on false=true:=by
 obtain ⟨_,oj,hoj,hall⟩:=mem_ready.1 hr;intro k ok hk hs e he hb;rcases qbE hs with rfl|hs
 ·obtain rfl:=Option.some.inj (hk.symm.trans hoj);exact getD_set_true (hall e he hb)
 ·exact getD_set_true (J.closed k ok hk hs e he hb)
theorem EvJ.sees (C:FlowC ops [] []) (J:EvJ ops fin Gr W seen a w) {j:Nat} {oj:Oper} (hr:j∈Region.ready .any ops seen) (hoj:ops[j]?=some oj) {t:Tmp} (ht:t∈oj.looksAt ops):a.tmps[t]?=fin.tmps[t]? :=
 J.same t fun i o hi hd=>qdW (C.looks j oj hoj t ht (by simp) i o hi hd) hr
theorem EvJ.move (J:EvJ ops fin Gr W seen a w) {j:Nat} {oj:Oper} (hr:j∈Region.ready .any ops seen) (hoj:ops[j]?=some oj)
  {v:Value} (hv:fin.put oj.dst v=fin) {w':World} (hg:Gr W w'):EvJ ops fin Gr W (seen.setIfInBounds j true) (a.put oj.dst v) w':=by
 refine ⟨by simp [J.ssz],J.shut hr,by rw [qdX,J.size],by rw [qdR,J.defers],?_,hg⟩;intro t hw;by_cases e:oj.dst=some t
 ·rw [e] at hv ⊢;have h1:fin.tmps[t]?=(fin.put (some t) v).tmps[t]?:=by rw [hv]
  rw [h1];simp only [Act.put,Array.getElem?_setIfInBounds,J.size,if_true]
 ·rw [qfC e];exact J.same t fun i o hi hd=>(qbE (hw i o hi hd)).resolve_left fun e2=>by subst e2;rw [hoj] at hi;cases hi;exact e hd
theorem EvJ.skip (J:EvJ ops fin Gr W seen a w) {j:Nat} {oj:Oper} (hr:j∈Region.ready .any ops seen) (hoj:ops[j]?=some oj)
  (hv:fin.put oj.dst undef=fin):EvJ ops fin Gr W (seen.setIfInBounds j true) (a.put oj.dst undef) w:=J.move hr hoj hv J.gr
theorem EvJ.stepX {Q:Exit→Act→World→Prop} (C:FlowC ops [] []) (J:EvJ ops fin Gr W seen a w) {j:Nat} {oj:Oper} (hr:j∈Region.ready .any ops seen) (hoj:ops[j]?=some oj)
  (hbe:∀ b,Below w.heap.size w b→Gr W b)
  (h:wpQuiet P ops (fun w'=>∃ p:GB,w'=gw w p.d p.os) (fun a'=>a'=fin) [oj] fin) :
  wpOp P ops Q j (fun a' w'=>EvJ ops fin Gr W (seen.setIfInBounds j true) a' w'∧Below w.heap.size w w') a w:=by
 have hlk:∀ t∈oj.looksAt ops,a.tmps[t]?=fin.tmps[t]?:=fun t ht=>J.sees C hr hoj ht
 have hex:=qnR (a:=a) (b:=fin) (C.sel j oj · · hoj) hlk;have hwa:=qhQ (a:=a) (b:=fin) hlk;simp only [wpQuiet] at h;unfold wpOp;simp only [hoj];rw [hwa];split
 ·rename_i hw
  simp only [hw,if_true] at h;obtain ⟨v,h1,h2⟩:=h;left
  refine Oper.wp_of_quiet (C:=fun w'=>∃ p:GB,w'=gw w p.d p.os) (K:=fun a'=>a'=a.put oj.dst v) (qcK (Below.refl _ _)) ?_ ⟨v,fun w' hw'=>?_,rfl⟩
  ·rintro a' w' ⟨p,rfl⟩ rfl;exact ⟨J.move hr hoj h2 (hbe _ (qbG w p.d p.os)),qbG w p.d p.os⟩
  ·have:=h1 w' hw'
   unfold Oper.quietAt at *;rw [hex];exact this
 ·rename_i hw
  simp only [hw] at h;exact ⟨J.move hr hoj h J.gr,Below.refl _ _⟩
end
section
variable {P:Program} {l:List Oper} {n:Nat}
end
end Go.Proofs.YtemoddmadfoaiaaGreat
