import Derived.Test.YtemoddmadfoaiaaGreatRfF
set_option linter.unusedVariables false
set_option linter.unusedSimpArgs false
set_option maxRecDepth 100000
set_option maxHeartbeats 8000000
namespace Go.Proofs.YtemoddmadfoaiaaGreat
open Go.RowKit Reg
open Lib (hid)
namespace Reg
theorem qqN (l:List Lot) (x:Lot):giveL l [x]=putL l x:=rfl
def issE (l:List Lot) (x:Lot):Int :=
 if checkB l=false then 250 else if acctB x.nom x.hol=false then 251 else if x.ser<0∨73048<x.ser then 252 else if x.units<1∨1000000000000000 - sumU l<x.units then 253 else if 256<(putL l x).length then 254 else 0
def issL (l:List Lot) (x:Lot):List Lot:=if issE l x=0 then putL l x else []
theorem qvH (l:List Lot) (x:Lot) :
  (checkB l=false∧issE l x=250∧issL l x=[]) ∨
  (checkB l=true∧acctB x.nom x.hol=false∧issE l x=251∧issL l x=[]) ∨
  (checkB l=true∧acctB x.nom x.hol=true∧x.ser<0∧issE l x=252∧issL l x=[]) ∨
  (checkB l=true∧acctB x.nom x.hol=true∧¬x.ser<0∧73048<x.ser∧issE l x=252∧issL l x=[]) ∨
  (checkB l=true∧acctB x.nom x.hol=true∧¬x.ser<0∧¬73048<x.ser∧x.units<1∧issE l x=253∧issL l x=[]) ∨
  (checkB l=true∧acctB x.nom x.hol=true∧¬x.ser<0∧¬73048<x.ser∧¬x.units<1∧1000000000000000 - sumU l<x.units∧issE l x=253∧issL l x=[]) ∨
  (checkB l=true∧acctB x.nom x.hol=true∧¬x.ser<0∧¬73048<x.ser∧¬x.units<1∧¬1000000000000000 - sumU l<x.units∧256<(putL l x).length∧issE l x=254∧issL l x=[]) ∨
  (checkB l=true∧acctB x.nom x.hol=true∧¬x.ser<0∧¬73048<x.ser∧¬x.units<1∧¬1000000000000000 - sumU l<x.units∧¬256<(putL l x).length∧issE l x=0∧issL l x=putL l x):=by
 unfold issL issE
 cases h1:checkB l
 ·exact .inl ⟨rfl,by simp,by simp⟩
 refine .inr ?_
 cases h2:acctB x.nom x.hol
 ·exact .inl ⟨rfl,rfl,by simp,by simp⟩
 refine .inr ?_;by_cases h3:x.ser<0
 ·exact .inl ⟨rfl,rfl,h3,by simp [h3],by simp [h3]⟩
 refine .inr ?_;by_cases h4:73048<x.ser
 ·exact .inl ⟨rfl,rfl,h3,h4,by simp [h4],by simp [h4]⟩
 refine .inr ?_;have e1:¬(x.ser<0∨73048<x.ser):=by omega
 by_cases h5:x.units<1
 ·exact .inl ⟨rfl,rfl,h3,h4,h5,by simp [e1,h5],by simp [e1,h5]⟩
 refine .inr ?_;by_cases h6:1000000000000000 - sumU l<x.units
 ·exact .inl ⟨rfl,rfl,h3,h4,h5,h6,by simp [e1,h6],by simp [e1,h6]⟩
 refine .inr ?_;have e2:¬(x.units<1∨1000000000000000 - sumU l<x.units):=by omega
 by_cases h7:256<(putL l x).length
 ·have E:(if true=false then (250:Int) else if true=false then 251 else if x.ser<0∨73048<x.ser then 252 else if x.units<1∨1000000000000000 - sumU l<x.units then 253 else if 256<(putL l x).length then 254 else 0)=254:=by
   rw [if_neg (by simp),if_neg (by simp),if_neg e1,if_neg e2,if_pos h7]
  exact .inl ⟨rfl,rfl,h3,h4,h5,h6,h7,E,by rw [E];simp⟩
 ·have E:(if true=false then (250:Int) else if true=false then 251 else if x.ser<0∨73048<x.ser then 252 else if x.units<1∨1000000000000000 - sumU l<x.units then 253 else if 256<(putL l x).length then 254 else 0)=0:=by
   rw [if_neg (by simp),if_neg (by simp),if_neg e1,if_neg e2,if_neg h7]
  exact .inr ⟨rfl,rfl,h3,h4,h5,h6,h7,E,by rw [E];simp⟩
end Reg
def IssP (la:List Lot) (er:Int) (w:World) (e:Ending) (w':World):Prop :=
 ∃ va,e=.returned (.tuple #[.agg #[va],.int .i64 er])∧Own w' w.heap.size va la∧Below w.heap.size w w'
theorem qfK {w w1:World} {B:Nat} {va:Value} {la:List Lot} {er:Int} {e:Ending} (he:e=.returned (.tuple #[.agg #[va],.int .i64 er])) (ha:Own w1 B va la) (hB:w.heap.size≤B) (hw:Below w.heap.size w w1):IssP la er w e w1 :=
 ⟨va,he,ha.base hB,hw⟩
theorem jaY {l:List Lot} {x:Lot} (h1:checkB l=true) (h5:¬x.units<1) (h6:¬1000000000000000 - sumU l<x.units):(∀ y∈[x],0≤y.units)∧sumU l+sumU [x]≤4000000000000000∧0≤x.units∧x.units≤1000000000000000:=by
 obtain ⟨f1,f2,f3,f4,f5⟩:=qaQ h1;have h0:=(qbB l l.length (fun y hy=>by have:=f5 y hy;omega)).2;rw [List.take_length] at h0;refine ⟨fun y hy=>by simp at hy;subst hy;omega,?_,by omega,by omega⟩;simp [sumU];omega
theorem qvE (v:Value) (l:List Lot) (x:Lot) (w:World) (h:LotsAt w v l) :
  Calls Tryz.prog 92 #[.agg #[v],.agg #[.string x.nom,.string x.hol],.int .i64 x.ser,.int .i64 x.units] w (IssP (issL l x) (issE l x) w):=by
 obtain ⟨A,cap,hv⟩:=Rd.form h;subst hv;have hL:=fun W hb=>LotsAt.below (w':=W) h hb
 have HL:=hid hL;have HW:=hid (W3.below w A l.length cap x.nom x.hol);rcases qvH l x with ⟨h1,e1,e2⟩|⟨h1,h2,e1,e2⟩|⟨h1,h2,h3,e1,e2⟩|⟨h1,h2,h3,h4,e1,e2⟩|⟨h1,h2,h3,h4,h5,e1,e2⟩|⟨h1,h2,h3,h4,h5,h6,e1,e2⟩|⟨h1,h2,h3,h4,h5,h6,h7,e1,e2⟩|⟨h1,h2,h3,h4,h5,h6,h7,e1,e2⟩
 ·rw [e1,e2];have H1:=hid h1;obtain ⟨N,hN⟩:∃ N,N=l.length:=⟨_,rfl⟩;rw [←hN] at HW HL ⊢;have HN:=hid hN;clear h hL h1 e1 e2 hN;go_enter Tryz.func92,Tryz.ntmps92
  go_wp2_with fail
  refine (qhL _ l (W3 w A N cap x.nom x.hol) (HL.out _ HW.out) H1.out).mono ?_;rintro e w1 ⟨rfl,hb⟩;obtain ⟨k0,k1,k2,k3,k4,k5,k6⟩:=W3.kept hb;have HK:=hid hb;clear hb k6;have HK6:=hid (HW.out.trans (HK.out.mono HW.out.size));go_wp2
  refine bodyPost_ret (v:=.tuple #[.agg #[.slice none 0 0],.int .i64 250]) (by simp [results,Tryz.results92,go_sem,k3,k4,k5]) rfl ?_;exact qfK rfl (Own.nil _ _) (Nat.le_refl _) (qbD HK6.out _ _ (by simp;omega))
 ·rw [e1,e2];have H1:=hid h1;have H2:=hid h2;obtain ⟨f1,f2,f3,f4,f5⟩:=qaQ h1;have HU:=hid f5;have HSR:=hid f4;have hu0:=(qbB l l.length (fun y hy=>by have:=f5 y hy;omega)).2;rw [List.take_length] at hu0;obtain ⟨S,hS⟩:∃ S,S=sumU l:=⟨_,rfl⟩;rw [←hS] at f3 hu0;have hsub:IntKind.i64.wrap (1000000000000000 - S)=1000000000000000 - S:=IntWalk.i64_in _ (by omega);have HF1:=hid f1;have HSS:=hid hS;clear f1 f2 f4 f5 hS;obtain ⟨N,hN⟩:∃ N,N=l.length:=⟨_,rfl⟩;rw [←hN] at HW HL ⊢;have HN:=hid hN;clear h hL h1 e1 e2 hN h2;go_enter Tryz.func92,Tryz.ntmps92
  go_wp2_with fail
  refine (qbM _ l (W3 w A N cap x.nom x.hol) (HL.out _ HW.out) H1.out).mono ?_;rintro e w1 ⟨rfl,hb⟩;obtain ⟨k0,k1,k2,k3,k4,k5,k6⟩:=W3.kept hb;have HK:=hid hb;clear hb k6;go_wp2_with fail
  refine (qbS x.nom x.hol false H2.out w1).mono ?_;rintro e w2 ⟨rfl,hb⟩;have hb2:=HK.out.trans (hb.mono HK.out.size);clear hb k0 k1 k2 k3 k4 k5 HK;obtain ⟨k0,k1,k2,k3,k4,k5,k6⟩:=W3.kept hb2;have HK:=hid hb2;clear hb2 k6;have HK6:=hid (HW.out.trans (HK.out.mono HW.out.size));go_wp2
  refine bodyPost_ret (v:=.tuple #[.agg #[.slice none 0 0],.int .i64 251]) (by simp [results,Tryz.results92,go_sem,k3,k4,k5]) rfl ?_;exact qfK rfl (Own.nil _ _) (Nat.le_refl _) (qbD HK6.out _ _ (by simp;omega))
 ·rw [e1,e2];have H1:=hid h1;have H2:=hid h2;obtain ⟨f1,f2,f3,f4,f5⟩:=qaQ h1;have HU:=hid f5;have HSR:=hid f4;have hu0:=(qbB l l.length (fun y hy=>by have:=f5 y hy;omega)).2;rw [List.take_length] at hu0;obtain ⟨S,hS⟩:∃ S,S=sumU l:=⟨_,rfl⟩;rw [←hS] at f3 hu0;have hsub:IntKind.i64.wrap (1000000000000000 - S)=1000000000000000 - S:=IntWalk.i64_in _ (by omega);have HF1:=hid f1;have HSS:=hid hS;clear f1 f2 f4 f5 hS;obtain ⟨N,hN⟩:∃ N,N=l.length:=⟨_,rfl⟩;rw [←hN] at HW HL ⊢;have HN:=hid hN;clear h hL h1 e1 e2 hN h2;go_enter Tryz.func92,Tryz.ntmps92
  go_wp2_with fail
  refine (qbM _ l (W3 w A N cap x.nom x.hol) (HL.out _ HW.out) H1.out).mono ?_;rintro e w1 ⟨rfl,hb⟩;obtain ⟨k0,k1,k2,k3,k4,k5,k6⟩:=W3.kept hb;have HK:=hid hb;clear hb k6;go_wp2_with fail
  refine (qbS x.nom x.hol true H2.out w1).mono ?_;rintro e w2 ⟨rfl,hb⟩;have hb2:=HK.out.trans (hb.mono HK.out.size);clear hb k0 k1 k2 k3 k4 k5 HK;obtain ⟨k0,k1,k2,k3,k4,k5,k6⟩:=W3.kept hb2;have HK:=hid hb2;clear hb2 k6;have HK6:=hid (HW.out.trans (HK.out.mono HW.out.size));go_wp2
  refine bodyPost_ret (v:=.tuple #[.agg #[.slice none 0 0],.int .i64 252]) (by simp [results,Tryz.results92,go_sem,k3,k4,k5]) rfl ?_;exact qfK rfl (Own.nil _ _) (Nat.le_refl _) (qbD HK6.out _ _ (by simp;omega))
 ·rw [e1,e2];have H1:=hid h1;have H2:=hid h2;obtain ⟨f1,f2,f3,f4,f5⟩:=qaQ h1;have HU:=hid f5;have HSR:=hid f4;have hu0:=(qbB l l.length (fun y hy=>by have:=f5 y hy;omega)).2;rw [List.take_length] at hu0;obtain ⟨S,hS⟩:∃ S,S=sumU l:=⟨_,rfl⟩;rw [←hS] at f3 hu0;have hsub:IntKind.i64.wrap (1000000000000000 - S)=1000000000000000 - S:=IntWalk.i64_in _ (by omega);have HF1:=hid f1;have HSS:=hid hS;clear f1 f2 f4 f5 hS;obtain ⟨N,hN⟩:∃ N,N=l.length:=⟨_,rfl⟩;rw [←hN] at HW HL ⊢;have HN:=hid hN;clear h hL h1 e1 e2 hN h2;go_enter Tryz.func92,Tryz.ntmps92
  go_wp2_with fail
  refine (qbM _ l (W3 w A N cap x.nom x.hol) (HL.out _ HW.out) H1.out).mono ?_;rintro e w1 ⟨rfl,hb⟩;obtain ⟨k0,k1,k2,k3,k4,k5,k6⟩:=W3.kept hb;have HK:=hid hb;clear hb k6;go_wp2_with fail
  refine (qbS x.nom x.hol true H2.out w1).mono ?_;rintro e w2 ⟨rfl,hb⟩;have hb2:=HK.out.trans (hb.mono HK.out.size);clear hb k0 k1 k2 k3 k4 k5 HK;obtain ⟨k0,k1,k2,k3,k4,k5,k6⟩:=W3.kept hb2;have HK:=hid hb2;clear hb2 k6;have HK6:=hid (HW.out.trans (HK.out.mono HW.out.size));go_wp2
  refine bodyPost_ret (v:=.tuple #[.agg #[.slice none 0 0],.int .i64 252]) (by simp [results,Tryz.results92,go_sem,k3,k4,k5]) rfl ?_;exact qfK rfl (Own.nil _ _) (Nat.le_refl _) (qbD HK6.out _ _ (by simp;omega))
 ·rw [e1,e2];have H1:=hid h1;have H2:=hid h2;obtain ⟨f1,f2,f3,f4,f5⟩:=qaQ h1;have HU:=hid f5;have HSR:=hid f4;have hu0:=(qbB l l.length (fun y hy=>by have:=f5 y hy;omega)).2;rw [List.take_length] at hu0;obtain ⟨S,hS⟩:∃ S,S=sumU l:=⟨_,rfl⟩;rw [←hS] at f3 hu0;have hsub:IntKind.i64.wrap (1000000000000000 - S)=1000000000000000 - S:=IntWalk.i64_in _ (by omega);have HF1:=hid f1;have HSS:=hid hS;clear f1 f2 f4 f5 hS;obtain ⟨N,hN⟩:∃ N,N=l.length:=⟨_,rfl⟩;rw [←hN] at HW HL ⊢;have HN:=hid hN;clear h hL h1 e1 e2 hN h2;go_enter Tryz.func92,Tryz.ntmps92
  go_wp2_with fail
  refine (qbM _ l (W3 w A N cap x.nom x.hol) (HL.out _ HW.out) H1.out).mono ?_;rintro e w1 ⟨rfl,hb⟩;obtain ⟨k0,k1,k2,k3,k4,k5,k6⟩:=W3.kept hb;have HK:=hid hb;clear hb k6;go_wp2_with fail
  refine (qbS x.nom x.hol true H2.out w1).mono ?_;rintro e w2 ⟨rfl,hb⟩;have hb2:=HK.out.trans (hb.mono HK.out.size);clear hb k0 k1 k2 k3 k4 k5 HK;obtain ⟨k0,k1,k2,k3,k4,k5,k6⟩:=W3.kept hb2;have HK:=hid hb2;clear hb2 k6;have HK6:=hid (HW.out.trans (HK.out.mono HW.out.size));go_wp2
  refine bodyPost_ret (v:=.tuple #[.agg #[.slice none 0 0],.int .i64 253]) (by simp [results,Tryz.results92,go_sem,k3,k4,k5]) rfl ?_;exact qfK rfl (Own.nil _ _) (Nat.le_refl _) (qbD HK6.out _ _ (by simp;omega))
 ·rw [e1,e2];have H1:=hid h1;have H2:=hid h2;obtain ⟨f1,f2,f3,f4,f5⟩:=qaQ h1;have HU:=hid f5;have HSR:=hid f4;have hu0:=(qbB l l.length (fun y hy=>by have:=f5 y hy;omega)).2;rw [List.take_length] at hu0;obtain ⟨S,hS⟩:∃ S,S=sumU l:=⟨_,rfl⟩;rw [←hS] at f3 hu0;have hsub:IntKind.i64.wrap (1000000000000000 - S)=1000000000000000 - S:=IntWalk.i64_in _ (by omega);have HF1:=hid f1;rw [←hS] at h6;have HSS:=hid hS;clear f1 f2 f4 f5 hS;obtain ⟨N,hN⟩:∃ N,N=l.length:=⟨_,rfl⟩;rw [←hN] at HW HL ⊢;have HN:=hid hN;clear h hL h1 e1 e2 hN h2;go_enter Tryz.func92,Tryz.ntmps92
  go_wp2_with fail
  refine (qbM _ l (W3 w A N cap x.nom x.hol) (HL.out _ HW.out) H1.out).mono ?_;rintro e w1 ⟨rfl,hb⟩;obtain ⟨k0,k1,k2,k3,k4,k5,k6⟩:=W3.kept hb;have HK:=hid hb;clear hb k6;go_wp2_with fail
  refine (qbS x.nom x.hol true H2.out w1).mono ?_;rintro e w2 ⟨rfl,hb⟩;have hb2:=HK.out.trans (hb.mono HK.out.size);clear hb k0 k1 k2 k3 k4 k5 HK;obtain ⟨k0,k1,k2,k3,k4,k5,k6⟩:=W3.kept hb2;have HK:=hid hb2;clear hb2 k6;go_wp2_with fail
  refine (qfJ _ l w2 (HL.out _ (HW.out.trans (HK.out.mono HW.out.size))) (fun y hy=>by have:=HU.out y hy;omega) (by have:=HN.out;have:=HF1.out;omega)).mono ?_;rintro e w3 ⟨rfl,hb⟩;rw [←HSS.out];have hb3:=HK.out.trans (hb.mono HK.out.size);clear hb k0 k1 k2 k3 k4 k5 HK;obtain ⟨k0,k1,k2,k3,k4,k5,k6⟩:=W3.kept hb3;have HK:=hid hb3;clear hb3 k6;have HK6:=hid (HW.out.trans (HK.out.mono HW.out.size));go_wp2
  refine bodyPost_ret (v:=.tuple #[.agg #[.slice none 0 0],.int .i64 253]) (by simp [results,Tryz.results92,go_sem,k3,k4,k5]) rfl ?_;exact qfK rfl (Own.nil _ _) (Nat.le_refl _) (qbD HK6.out _ _ (by simp;omega))
 ·rw [e1,e2];have H1:=hid h1;have H2:=hid h2;obtain ⟨f1,f2,f3,f4,f5⟩:=qaQ h1;have HU:=hid f5;have HSR:=hid f4;have hu0:=(qbB l l.length (fun y hy=>by have:=f5 y hy;omega)).2;rw [List.take_length] at hu0;obtain ⟨S,hS⟩:∃ S,S=sumU l:=⟨_,rfl⟩;rw [←hS] at f3 hu0;have hsub:IntKind.i64.wrap (1000000000000000 - S)=1000000000000000 - S:=IntWalk.i64_in _ (by omega);have HF1:=hid f1;rw [←hS] at h6;have HSS:=hid hS;have HBD:=hid (jaY h1 h5 (by rw [←hS];exact h6));obtain ⟨m,hm⟩:∃ m,m=(putL l x).length:=⟨_,rfl⟩;rw [←hm] at h7;have HM:=hid hm;clear hm;clear f1 f2 f4 f5 hS;obtain ⟨N,hN⟩:∃ N,N=l.length:=⟨_,rfl⟩;rw [←hN] at HW HL ⊢;have HN:=hid hN;clear h hL h1 e1 e2 hN h2;go_enter Tryz.func92,Tryz.ntmps92
  go_wp2_with fail
  refine (qbM _ l (W3 w A N cap x.nom x.hol) (HL.out _ HW.out) H1.out).mono ?_;rintro e w1 ⟨rfl,hb⟩;obtain ⟨k0,k1,k2,k3,k4,k5,k6⟩:=W3.kept hb;have HK:=hid hb;clear hb k6;go_wp2_with fail
  refine (qbS x.nom x.hol true H2.out w1).mono ?_;rintro e w2 ⟨rfl,hb⟩;have hb2:=HK.out.trans (hb.mono HK.out.size);clear hb k0 k1 k2 k3 k4 k5 HK;obtain ⟨k0,k1,k2,k3,k4,k5,k6⟩:=W3.kept hb2;have HK:=hid hb2;clear hb2 k6;go_wp2_with fail
  refine (qfJ _ l w2 (HL.out _ (HW.out.trans (HK.out.mono HW.out.size))) (fun y hy=>by have:=HU.out y hy;omega) (by have:=HN.out;have:=HF1.out;omega)).mono ?_;rintro e w3 ⟨rfl,hb⟩;rw [←HSS.out];have hb3:=HK.out.trans (hb.mono HK.out.size);clear hb k0 k1 k2 k3 k4 k5 HK;obtain ⟨k0,k1,k2,k3,k4,k5,k6⟩:=W3.kept hb3;have HK:=hid hb3;clear hb3 k6;go_wp2_with fail
  have HWW:=hid (HW.out.trans (HK.out.mono HW.out.size));have hz3:w.heap.size+1+1<w3.heap.size:=k5;refine (qkP (.slice A N cap) (.slice (some ⟨w3.heap.size,0,none⟩) 1 1) l [x] _ (Rd.alloc (HL.out _ HWW.out) _) (qqJ w3 [x] 56 1 rfl (by simp)) HSR.out (by have:=HN.out;have:=HF1.out;omega) (by simp) (fun y hy=>by have:=HU.out y hy;omega) HBD.out.1 HBD.out.2.1).mono ?_;rintro e w4 ⟨va,rfl,hoa,hb⟩;rw [qqN] at hoa;have HO:=hid (hoa.base (show w3.heap.size≤_ by simp));have hb4:=HK.out.trans (((Below.refl w3.heap.size w3).alloc (Nat.le_refl _) _).trans (hb.mono (by simp)) |>.mono HK.out.size);clear hoa hb k0 k1 k2 k3 k4 k5 HK;obtain ⟨k0,k1,k2,k3,k4,k5,k6⟩:=W3.kept hb4;have HK:=hid hb4;obtain ⟨A5,c5,rfl⟩:=Rd.form HO.out.lots;rw [←HM.out];clear hb4 k6;have HK6:=hid (HW.out.trans (HK.out.mono HW.out.size));go_wp2
  refine bodyPost_ret (v:=.tuple #[.agg #[.slice none 0 0],.int .i64 254]) (by simp [results,Tryz.results92,go_sem,k3,k4,k5]) rfl ?_;exact qfK rfl (Own.nil _ _) (Nat.le_refl _) (qbD HK6.out _ _ (by simp;omega))
 ·rw [e1,e2];have H1:=hid h1;have H2:=hid h2;obtain ⟨f1,f2,f3,f4,f5⟩:=qaQ h1;have HU:=hid f5;have HSR:=hid f4;have hu0:=(qbB l l.length (fun y hy=>by have:=f5 y hy;omega)).2;rw [List.take_length] at hu0;obtain ⟨S,hS⟩:∃ S,S=sumU l:=⟨_,rfl⟩;rw [←hS] at f3 hu0;have hsub:IntKind.i64.wrap (1000000000000000 - S)=1000000000000000 - S:=IntWalk.i64_in _ (by omega);have HF1:=hid f1;rw [←hS] at h6;have HSS:=hid hS;have HBD:=hid (jaY h1 h5 (by rw [←hS];exact h6));obtain ⟨m,hm⟩:∃ m,m=(putL l x).length:=⟨_,rfl⟩;rw [←hm] at h7;have HM:=hid hm;clear hm;clear f1 f2 f4 f5 hS;obtain ⟨N,hN⟩:∃ N,N=l.length:=⟨_,rfl⟩;rw [←hN] at HW HL ⊢;have HN:=hid hN;clear h hL h1 e1 e2 hN h2;go_enter Tryz.func92,Tryz.ntmps92
  go_wp2_with fail
  refine (qbM _ l (W3 w A N cap x.nom x.hol) (HL.out _ HW.out) H1.out).mono ?_;rintro e w1 ⟨rfl,hb⟩;obtain ⟨k0,k1,k2,k3,k4,k5,k6⟩:=W3.kept hb;have HK:=hid hb;clear hb k6;go_wp2_with fail
  refine (qbS x.nom x.hol true H2.out w1).mono ?_;rintro e w2 ⟨rfl,hb⟩;have hb2:=HK.out.trans (hb.mono HK.out.size);clear hb k0 k1 k2 k3 k4 k5 HK;obtain ⟨k0,k1,k2,k3,k4,k5,k6⟩:=W3.kept hb2;have HK:=hid hb2;clear hb2 k6;go_wp2_with fail
  refine (qfJ _ l w2 (HL.out _ (HW.out.trans (HK.out.mono HW.out.size))) (fun y hy=>by have:=HU.out y hy;omega) (by have:=HN.out;have:=HF1.out;omega)).mono ?_;rintro e w3 ⟨rfl,hb⟩;rw [←HSS.out];have hb3:=HK.out.trans (hb.mono HK.out.size);clear hb k0 k1 k2 k3 k4 k5 HK;obtain ⟨k0,k1,k2,k3,k4,k5,k6⟩:=W3.kept hb3;have HK:=hid hb3;clear hb3 k6;go_wp2_with fail
  have HWW:=hid (HW.out.trans (HK.out.mono HW.out.size));have hz3:w.heap.size+1+1<w3.heap.size:=k5;refine (qkP (.slice A N cap) (.slice (some ⟨w3.heap.size,0,none⟩) 1 1) l [x] _ (Rd.alloc (HL.out _ HWW.out) _) (qqJ w3 [x] 56 1 rfl (by simp)) HSR.out (by have:=HN.out;have:=HF1.out;omega) (by simp) (fun y hy=>by have:=HU.out y hy;omega) HBD.out.1 HBD.out.2.1).mono ?_;rintro e w4 ⟨va,rfl,hoa,hb⟩;rw [qqN] at hoa;have HO:=hid (hoa.base (show w3.heap.size≤_ by simp));have hb4:=HK.out.trans (((Below.refl w3.heap.size w3).alloc (Nat.le_refl _) _).trans (hb.mono (by simp)) |>.mono HK.out.size);clear hoa hb k0 k1 k2 k3 k4 k5 HK;obtain ⟨k0,k1,k2,k3,k4,k5,k6⟩:=W3.kept hb4;have HK:=hid hb4;obtain ⟨A5,c5,rfl⟩:=Rd.form HO.out.lots;rw [←HM.out];clear hb4 k6;have HK6:=hid (HW.out.trans (HK.out.mono HW.out.size));go_wp2
  refine bodyPost_ret (v:=.tuple #[.agg #[.slice A5 m c5],.int .i64 0]) (by simp [results,Tryz.results92,go_sem,k3,k4,k5]) rfl ?_;have HO2:=HO.out;rw [←HM.out] at HO2;have q1:=HO2.setCell ⟨w.heap.size+1+1,0,none⟩ (.slice A5 m c5) (HO2.ne (.inr (by simp;omega)));exact ⟨_,rfl,q1.base (by omega),qbD HK6.out _ _ (by simp;omega)⟩
end Go.Proofs.YtemoddmadfoaiaaGreat
namespace Go.Proofs.YtemoddmadfoaiaaGreat
open Go.RowKit Reg
namespace Reg
def toA (nm hl:ByteArray) (y:Lot):Lot:=⟨nm,hl,y.ser,y.units⟩
def movL (l:List Lot) (f1 f2 t1 t2:ByteArray) (n:Int):List Lot:=giveL (takeR f1 f2 l n).1 ((takeR f1 f2 l n).2.map (toA t1 t2))
def trnE (l:List Lot) (f1 f2 t1 t2:ByteArray) (n:Int):Int :=
 if checkB l=false then 250 else if acctB f1 f2=false then 251 else if acctB t1 t2=false then 251 else if n<0∨1000000000000000<n then 253 else if 256<(movL l f1 f2 t1 t2 n).length then 254 else 0
def trnL (l:List Lot) (f1 f2 t1 t2:ByteArray) (n:Int):List Lot:=if trnE l f1 f2 t1 t2 n=0 then movL l f1 f2 t1 t2 n else []
def trnN (l:List Lot) (f1 f2 t1 t2:ByteArray) (n:Int):Int:=if trnE l f1 f2 t1 t2 n=0 then sumU (takeR f1 f2 l n).2 else 0
def TrnIs (l:List Lot) (f1 f2 t1 t2:ByteArray) (n:Int) (er:Int) (la:List Lot) (m:Int):Prop:=trnE l f1 f2 t1 t2 n=er∧trnL l f1 f2 t1 t2 n=la∧trnN l f1 f2 t1 t2 n=m
theorem TrnIs.bad {l:List Lot} {f1 f2 t1 t2:ByteArray} {n er:Int} (h:trnE l f1 f2 t1 t2 n=er) (h0:er≠0):TrnIs l f1 f2 t1 t2 n er [] 0:=⟨h,by unfold trnL;rw [h,if_neg h0],by unfold trnN;rw [h,if_neg h0]⟩
theorem qoQ (m:List Lot) (h:∀ x∈m,0≤x.units):0≤sumU m:=by
 have:=(qbB m m.length h).2
 rwa [List.take_length] at this
end Reg
def W4 (w:World) (A:Option Addr) (n cap:Nat) (f1 f2 t1 t2:ByteArray):World:=(((w.alloc (.cells #[.slice A n cap] 40)).alloc (.cells #[.string f1,.string f2] 54)).alloc (.cells #[.string t1,.string t2] 54)).alloc (.cells #[.slice none 0 0] 40)
theorem W4.size_ {w:World} {A:Option Addr} {n cap:Nat} {f1 f2 t1 t2:ByteArray}:(W4 w A n cap f1 f2 t1 t2).heap.size=w.heap.size+1+1+1+1:=by simp [W4]
theorem W4.below (w:World) (A:Option Addr) (n cap:Nat) (f1 f2 t1 t2:ByteArray):Below w.heap.size w (W4 w A n cap f1 f2 t1 t2):=((((Below.refl w.heap.size w).alloc (Nat.le_refl _) _).alloc (by simp) _).alloc (by simp only [World.size_alloc];omega) _).alloc (by simp only [World.size_alloc];omega) _
theorem W4.kept {w w1:World} {A:Option Addr} {n cap:Nat} {f1 f2 t1 t2:ByteArray} (hb:Below (W4 w A n cap f1 f2 t1 t2).heap.size (W4 w A n cap f1 f2 t1 t2) w1) :
  w1.cell? ⟨w.heap.size,0,none⟩=some (.slice A n cap)∧w1.cell? ⟨w.heap.size+1,0,none⟩=some (.string f1)∧w1.cell? ⟨w.heap.size+1,1,none⟩=some (.string f2)∧w1.cell? ⟨w.heap.size+1+1,0,none⟩=some (.string t1)∧w1.cell? ⟨w.heap.size+1+1,1,none⟩=some (.string t2) ∧
  w1.cell? ⟨w.heap.size+1+1+1,0,none⟩=some (.slice none 0 0)∧w1.frozen? ⟨w.heap.size+1+1+1,0,none⟩=false∧w.heap.size+1+1+1<w1.heap.size∧Below w.heap.size w w1:=by
 have hs:=hb.size;rw [W4.size_] at hs;refine ⟨qcU (by unfold W4;go_cell) hb,qcU (by unfold W4;go_cell) hb,qcU (by unfold W4;go_cell) hb,qcU (by unfold W4;go_cell) hb,qcU (by unfold W4;go_cell) hb,qcU (by unfold W4;go_cell) hb,?_,by omega,(W4.below w A n cap f1 f2 t1 t2).trans (hb.mono (W4.below w A n cap f1 f2 t1 t2).size)⟩;rw [hb.frozen (p:=⟨w.heap.size+1+1+1,0,none⟩) (by rw [W4.size_];simp)];unfold W4;exact World.frozen?_alloc_at _ _ _ _ (by simp)
theorem qqG {w:World} {B g cap n j:Nat} {e:TypeId} {size:Nat} {xs:List Value} {u:Value} (h:w.ownsRow B e size (.slice (some ⟨g,0,none⟩) n cap) n xs):(w.setCell ⟨g,j,none⟩ u).ownsRow B e size (.slice (some ⟨g,0,none⟩) n cap) n (xs.set j u):=by
 obtain ⟨h1,h2⟩:=h;refine ⟨by simpa using h1,?_⟩;rcases h2 with ⟨h,_⟩|⟨g',cap',cur,hv,hbg,hg,hnc,hcm,hcs,htk⟩
 ·cases h
 ·injection hv with e1 e2 e3
  injection e1 with e1
  injection e1 with e1
  subst e1 e3;refine .inr ⟨g,cap,cur.setIfInBounds j u,rfl,hbg,?_,hnc,hcm,by simpa using hcs,?_⟩
  ·simp [World.setCell,Array.getElem?_modify,hg]
  ·rw [Array.toList_setIfInBounds,List.take_set,htk]
namespace Reg
theorem qzU (l:List Lot) (i:Nat) (y:Lot) (nm hl:ByteArray) (h:l[i]?=some y):((cellsL l).set (i*4) (.string nm)).set (i*4+1) (.string hl)=cellsL (l.set i (toA nm hl y)):=by
 induction l generalizing i with
 | nil=>simp at h
 | cons a l ih =>
  cases i with
  | zero=>simp at h;subst h;simp [cellsL,Lot.cells,toA]
  | succ i =>
   have:=ih i (by simpa using h)
   simp only [cellsL,List.flatMap_cons,Lot.cells,List.cons_append,List.nil_append,List.set_cons_succ] at this ⊢;rw [show (i+1)*4+1=(i*4+1+3)+1 by omega,show (i+1)*4=(i*4+3)+1 by omega];simp only [List.set_cons_succ];rw [this]
def mixA (nm hl:ByteArray) (td:List Lot) (k:Nat):List Lot:=(td.take k).map (toA nm hl)++td.drop k
theorem mix_zero (nm hl:ByteArray) (td:List Lot):mixA nm hl td 0=td:=by simp [mixA]
end Reg
theorem Own.toA {w:World} {B g cap i n:Nat} {l:List Lot} {y:Lot} {nm hl:ByteArray} (h:Own w B (.slice (some ⟨g,0,none⟩) n cap) l) (hn:n=l.length) (hy:l[i]?=some y):Own ((w.setCell ⟨g,i*4,none⟩ (.string nm)).setCell ⟨g,i*4+1,none⟩ (.string hl)) B (.slice (some ⟨g,0,none⟩) n cap) (l.set i (Reg.toA nm hl y)):=by
 unfold Own at h ⊢;rw [List.length_set,←hn];rw [←hn] at h
 have:=qqG (j:=i*4+1) (u:=.string hl) (qqG (j:=i*4) (u:=.string nm) h)
 rwa [qzU l i y nm hl hy] at this
end Go.Proofs.YtemoddmadfoaiaaGreat
namespace Go.Proofs.YtemoddmadfoaiaaGreat
open Go.RowKit Reg Go.Maps
theorem IssP.form {la:List Lot} {er:Int} {w:World} {e:Ending} {w':World} (h:IssP la er w e w'):∃ A c,e=.returned (.tuple #[.agg #[.slice A la.length c],.int .i64 er])∧Own w' w.heap.size (.slice A la.length c) la∧Below w.heap.size w w':=by
 obtain ⟨va,rfl,ha,hB⟩:=h;obtain ⟨A,c,rfl⟩:=Rd.form ha.lots;exact ⟨A,c,rfl,ha,hB⟩
end Go.Proofs.YtemoddmadfoaiaaGreat
set_option maxHeartbeats 4000000
namespace Go.Proofs.YtemoddmadfoaiaaGreat
open Go.RowKit Reg
open Lib (hid)
def balN (l:List Lot) (nm hl:ByteArray):Int:=if checkB l=true∧acctB nm hl=true then sumU (ownL nm hl l) else 0
def balE (l:List Lot) (nm hl:ByteArray):Int:=if checkB l=false then 250 else if acctB nm hl=false then 251 else 0
theorem qpS (A:Option Addr) (cap:Nat) (l:List Lot) (nm hl:ByteArray) (w:World) (h:LotsAt w (.slice A l.length cap) l) :
  Calls Tryz.prog 87 #[.agg #[.slice A l.length cap],.agg #[.string nm,.string hl]] w fun e w'=>e=.returned (.tuple #[.int .i64 (balN l nm hl),.int .i64 (balE l nm hl)])∧Below w.heap.size w w':=by
 obtain ⟨w0,hw0,hb0,hs0,c0,c1,c2⟩:=qwR w A l.length cap nm hl;have HL:=hid (fun W hb=>LotsAt.below (w':=W) h hb);have HB0:=hid hb0;unfold balN balE
 cases hc:checkB l with
 | false =>
  have H1:=hid hc;rw [if_neg (by simp),if_pos rfl];obtain ⟨n,hn⟩:∃ n,n=l.length:=⟨_,rfl⟩;rw [←hn] at hw0 HL c0 ⊢;clear h hc hb0 hn;go_enter Tryz.func87,Tryz.ntmps87
  go_wp2_with fail
  rw [←hw0];refine (qhL _ l w0 (HL.out _ HB0.out) H1.out).mono ?_;rintro e w1 ⟨rfl,hb⟩;have HB1:=hid (HB0.out.trans (hb.mono HB0.out.size));clear hb hw0 hs0 c0 c1 c2;go_wp2
  go_ret2
  exact ⟨rfl,HB1.out⟩
 | true =>
  have H1:=hid hc;obtain ⟨f1,f2,f3,f4,f5⟩:=qaQ hc;have HU:=hid f5;obtain ⟨u1,u2⟩:=qfV (nm:=nm) (hl:=hl) f5;have HUO:=hid u1;have hol:=(qiD nm hl l).2;rw [if_neg (show ¬true=false by simp)];obtain ⟨n,hn⟩:∃ n,n=l.length:=⟨_,rfl⟩;rw [←hn] at hw0 HL c0 f1 hol ⊢;have HN:=hid hn;have hol1:(ownL nm hl l).length≤256:=by omega
  cases ha:acctB nm hl with
  | false =>
   have H2:=hid ha;rw [if_neg (by simp),if_pos rfl];clear h hc hb0 hn f2 f3 f4 f5 u1 u2 ha hol;go_enter Tryz.func87,Tryz.ntmps87
   go_wp2_with fail
   rw [←hw0];refine (qbM _ l w0 (HL.out _ HB0.out) H1.out).mono ?_;rintro e w1 ⟨rfl,hb⟩;have HB1:=hid (HB0.out.trans (hb.mono HB0.out.size));have k0:=qcU c0 hb;have k1:=qcU c1 hb;have k2:=qcU c2 hb;clear hb hw0 hs0 c0 c1 c2;go_wp2_with fail
   refine (qbS nm hl false H2.out w1).mono ?_;rintro e w2 ⟨rfl,hb⟩;have HB2:=hid (HB1.out.trans (hb.mono HB1.out.size));clear hb;go_wp2
   go_ret2
   exact ⟨rfl,HB2.out⟩
  | true =>
   have H2:=hid ha;rw [if_pos ⟨rfl,rfl⟩,if_neg (by simp)];clear h hc hb0 hn f2 f3 f4 f5 u1 u2 ha hol;go_enter Tryz.func87,Tryz.ntmps87
   go_wp2_with fail
   rw [←hw0];refine (qbM _ l w0 (HL.out _ HB0.out) H1.out).mono ?_;rintro e w1 ⟨rfl,hb⟩;have HB1:=hid (HB0.out.trans (hb.mono HB0.out.size));have k0:=qcU c0 hb;have k1:=qcU c1 hb;have k2:=qcU c2 hb;clear hb hw0 hs0 c0 c1 c2;go_wp2_with fail
   refine (qbS nm hl true H2.out w1).mono ?_;rintro e w2 ⟨rfl,hb⟩;have HB2:=hid (HB1.out.trans (hb.mono HB1.out.size));have m0:=qcU k0 hb;have m1:=qcU k1 hb;have m2:=qcU k2 hb;clear hb k0 k1 k2;go_wp2_with fail
   refine (jaT (.slice A n cap) l nm hl w2 (HL.out _ HB2.out) (by have:=HN.out;omega)).mono ?_;rintro e w3 ⟨va,vb,rfl,hoa,hob,hap,hb⟩;have HO:=hid hoa;have HB3:=hid (HB2.out.trans (hb.mono HB2.out.size));clear hoa hob hap hb m0 m1 m2;go_wp2_with fail
   refine (qfJ va _ w3 HO.out.lots (fun x hx=>by have:=HUO.out x hx;omega) (by omega)).mono ?_;rintro e w4 ⟨rfl,hb⟩;have HB4:=hid (HB3.out.trans (hb.mono HB3.out.size));clear hb;go_wp2
   go_ret2
   exact ⟨rfl,HB4.out⟩
end Go.Proofs.YtemoddmadfoaiaaGreat
namespace Go.Proofs.YtemoddmadfoaiaaGreat
namespace Reg
def KP (p:Lot→Bool):Prop:=∀ a b,sameKey a b→p a=p b
def amp (p:Lot→Bool) (l:List Lot):Int:=sumU (l.filter p)
theorem jdJ (p:Lot→Bool):amp p []=0:=rfl
theorem qeY (p:Lot→Bool) (x:Lot) (l:List Lot):amp p (x::l)=(if p x=true then x.units else 0)+amp p l:=by
 unfold amp;rw [List.filter_cons];split
 ·rfl
 ·omega
theorem jaK {p:Lot→Bool} (hp:KP p) (nm hl:ByteArray) (l:List Lot) (n:Int) (hn:0≤n) (hu:∀ x∈l,1≤x.units):amp p (takeR nm hl l n).1+amp p (takeR nm hl l n).2=amp p l:=by
 induction l generalizing n with
 | nil=>simp [takeR,jdJ]
 | cons x l ih =>
  have hx:=hu x (by simp);have hu':∀ y∈l,1≤y.units:=fun y hy=>hu y (by simp [hy])
  rw [takeR];by_cases ho:ownB nm hl x=true∧0<n
  ·rw [if_pos ho];obtain ⟨e1,e2⟩:=qqH ho.1;have hi:=ih (n - min n x.units) (by omega) hu';have hk:p ⟨nm,hl,x.ser,min n x.units⟩=p x:=hp _ _ ⟨e1.symm,e2.symm,rfl⟩;have hm:p (x.more (-min n x.units))=p x:=hp _ _ (qdK _ _);simp only
   rw [qeY,qeY,hk];by_cases h:p x=true
   ·split
    ·rw [qeY,hm];simp only [h,if_true,Lot.more];omega
    ·simp only [h,if_true];omega
   ·split
    ·rw [qeY,hm];simp [h];omega
    ·simp [h];omega
  ·rw [if_neg ho];simp only
   rw [if_pos (show 0<x.units by omega),qeY,qeY]
   have:=ih n hn hu'
   omega
theorem qpT {p:Lot→Bool} {l:List Lot} (h:∀ x∈l,p x=true):amp p l=sumU l:=by
 unfold amp;rw [List.filter_eq_self.2 h]
def okLot (x:Lot):Prop:=acctB x.nom x.hol=true∧0≤x.ser∧x.ser≤73048∧1≤x.units
theorem qqT {l:List Lot} (h:checkB l=true):∀ x∈l,okLot x:=by
 obtain ⟨f1,f2,f3,f4,f5⟩:=qaQ h;intro x hx;obtain ⟨g1,g2,g3,g4,g5⟩:=qhI (qfX f2 x hx);exact ⟨g5,g3,g4,g1⟩
theorem qqU {l:List Lot} (hn:l.length≤256) (hs:Srt l) (ho:∀ x∈l,okLot x) (hsum:sumU l≤1000000000000000):checkB l=true:=by
 have hr:∀ x∈l,rightB x=true:=fun x hx=>by
  obtain ⟨h1,h2,h3,h4⟩:=ho x hx;exact qtT h1 h2 h3 h4 (by have:=qjX l (fun y hy=>by have:=(ho y hy).2.2.2;omega) x hx;omega)
 have hok:okL l=true:=okL_yes (n:=l.length) (Nat.le_refl _) (fun k hk=>by
  have hx:l[k]?=some l[k]:=by simp [hk]
  cases k with
  | zero=>rw [qnD hx];exact hr _ (List.getElem_mem hk)
  | succ j =>
   have hy:l[j]?=some l[j]:=by simp [show j<l.length by omega]
   rw [qiG hx hy,hr _ (List.getElem_mem hk)]
   have:=List.pairwise_iff_getElem.1 hs j (j+1) (by omega) hk (by omega)
   simpa using this)
 unfold checkB;rw [hok,decide_eq_true hn,decide_eq_true hsum];rfl
theorem jbW {q:Lot→Prop} (hq:∀ y x,q y→q x→sameKey y x→q (y.more x.units)) {l:List Lot} {x:Lot} (h:∀ z∈l,q z) (hx:q x):∀ z∈putL l x,q z:=by
 intro z hz;rcases qoZ l x z hz with h1|h1|⟨y,hy,hk,rfl⟩
 ·exact h z h1
 ·rw [h1];exact hx
 ·exact hq y x (h y hy) hx hk
theorem jcD (y x:Lot) (hy:okLot y) (hx:okLot x) (_:sameKey y x):okLot (y.more x.units):=⟨hy.1,hy.2.1,hy.2.2.1,by have:=hy.2.2.2;have:=hx.2.2.2;simp only [Lot.more];omega⟩
theorem qxL (nm hl:ByteArray) (l:List Lot) (n:Int) (hn:0≤n) (hu:∀ x∈l,1≤x.units) :
  (∀ z∈(takeR nm hl l n).1,1≤z.units∧∃ y∈l,sameKey z y)∧(∀ z∈(takeR nm hl l n).2,1≤z.units∧z.nom=nm∧z.hol=hl∧∃ y∈l,sameKey z y):=by
 induction l generalizing n with
 | nil=>simp [takeR]
 | cons x l ih =>
  have hx:=hu x (by simp);have hu':∀ y∈l,1≤y.units:=fun y hy=>hu y (by simp [hy])
  rw [takeR];by_cases ho:ownB nm hl x=true∧0<n
  ·rw [if_pos ho];obtain ⟨e1,e2⟩:=qqH ho.1;obtain ⟨i1,i2⟩:=ih (n - min n x.units) (by omega) hu';simp only
   refine ⟨fun z hz=>?_,fun z hz=>?_⟩
   ·split at hz
    ·rcases List.mem_cons.1 hz with rfl|hz
     ·exact ⟨by simp only [Lot.more];omega,x,by simp,qdK _ _⟩
     ·obtain ⟨a,y,hy,hk⟩:=i1 z hz;exact ⟨a,y,by simp [hy],hk⟩
    ·obtain ⟨a,y,hy,hk⟩:=i1 z hz;exact ⟨a,y,by simp [hy],hk⟩
   ·rcases List.mem_cons.1 hz with rfl|hz
    ·exact ⟨by simp only;omega,rfl,rfl,x,by simp,e1.symm,e2.symm,rfl⟩
    ·obtain ⟨a,b,c,y,hy,hk⟩:=i2 z hz;exact ⟨a,b,c,y,by simp [hy],hk⟩
  ·rw [if_neg ho];obtain ⟨i1,i2⟩:=ih n hn hu';simp only
   rw [if_pos (show 0<x.units by omega)];refine ⟨fun z hz=>?_,fun z hz=>?_⟩
   ·rcases List.mem_cons.1 hz with rfl|hz
    ·exact ⟨hx,z,by simp,rfl,rfl,rfl⟩
    ·obtain ⟨a,y,hy,hk⟩:=i1 z hz;exact ⟨a,y,by simp [hy],hk⟩
   ·obtain ⟨a,b,c,y,hy,hk⟩:=i2 z hz;exact ⟨a,b,c,y,by simp [hy],hk⟩
theorem jeB {z y:Lot} (h:sameKey z y) (hy:okLot y) (hz:1≤z.units):okLot z:=⟨by rw [h.1,h.2.1];exact hy.1,by rw [h.2.2];exact hy.2.1,by rw [h.2.2];exact hy.2.2.1,hz⟩
theorem qtD (l:List Lot) (n:Int) (hn:0≤n) (h:∀ x∈l,1≤x.units):sumU (takeP l n).2=min n (sumU l):=by
 induction l generalizing n with
 | nil=>simp [takeP,sumU];omega
 | cons x l ih =>
  have hx:=h x (by simp);have h':∀ y∈l,1≤y.units:=fun y hy=>h y (by simp [hy])
  have h0:=qoQ l (fun y hy=>by have:=h' y hy;omega)
  have:=ih (n - min n x.units) (by omega) h'
  simp only [takeP,sumU];split
  ·simp only [sumU];omega
  ·omega
theorem qxJ (nm hl:ByteArray) (l:List Lot) (n:Int) (hn:0≤n) (h:∀ x∈l,1≤x.units):sumU (takeR nm hl l n).2=min n (sumU (ownL nm hl l)):=by
 rw [(qhU nm hl l n hn h).1];exact qtD _ n hn (fun x hx=>h x (List.mem_filter.1 hx).1)
end Reg
end Go.Proofs.YtemoddmadfoaiaaGreat
