import Derived.Test.YtemoddmadfoaiaaGreatScP
set_option linter.unusedVariables false
set_option linter.unusedSimpArgs false
set_option maxRecDepth 100000
set_option maxHeartbeats 8000000
namespace Go.Proofs.YtemoddmadfoaiaaGreat
open Go.RowKit Reg
open Lib (hid)
theorem qdR (a b:Lot) (m:Bool) (hm:lotLt a b=m) (w:World) :
  CB 82 #[.agg #[.string a.nom,.string a.hol,.int .i64 a.ser,.int .i64 a.units],.agg #[.string b.nom,.string b.hol,.int .i64 b.ser,.int .i64 b.units]] (.bool m) w:=by
 rw [←hm];clear hm;have hL:=lotLt.eq_1 a b
 have q1:(a.nom.toList==b.nom.toList)=decide (a.nom=b.nom):=by
  rw [Bool.eq_iff_iff];exact (qdW a.nom b.nom).trans (by simp)
 have q2:(a.hol.toList==b.hol.toList)=decide (a.hol=b.hol):=by
  rw [Bool.eq_iff_iff];exact (qdW a.hol b.hol).trans (by simp)
 by_cases h1:a.nom=b.nom
 ·rw [if_pos h1] at hL;rw [decide_eq_true h1] at q1;by_cases h2:a.hol=b.hol
  ·rw [if_pos h2] at hL;rw [decide_eq_true h2] at q2;have HL:=hid hL;clear hL h1 h2;go_enter Tryz.func82,Tryz.ntmps82
   go_wp2
   go_ret
   exact ⟨qaI HL.out.symm,((Below.refl _ _).alloc (Nat.le_refl _) _).alloc (by simp) _⟩
  ·rw [if_neg h2] at hL;rw [decide_eq_false h2] at q2;have HL:=hid hL;clear hL h1 h2;go_enter Tryz.func82,Tryz.ntmps82
   go_wp2
   go_ret
   exact ⟨qaI HL.out.symm,((Below.refl _ _).alloc (Nat.le_refl _) _).alloc (by simp) _⟩
 ·rw [if_neg h1] at hL;rw [decide_eq_false h1] at q1;have HL:=hid hL;clear hL h1 q2;go_enter Tryz.func82,Tryz.ntmps82
  go_wp2
  go_ret
  exact ⟨qaI HL.out.symm,((Below.refl _ _).alloc (Nat.le_refl _) _).alloc (by simp) _⟩
theorem Own.drewN {w:World} {B:Nat} {v:Value} {l:List Lot} (h:Own w B v l) (d:Nat):Own (w.drewN d) B v l:=h
namespace Reg
def PutS (l:List Lot) (x:Lot) (l':List Lot):Prop:=l'=l∨(∀ z∈l,¬sameKey z x)∧l'=putR l x
end Reg
def PutP (l:List Lot) (x:Lot) (w:World) (e:Ending) (w':World):Prop:=∃ v' l',e=.returned v'∧PutS l x l'∧Own w' w.heap.size v' l'∧Below w.heap.size w w'
theorem jeI (v:Value) (l:List Lot) (x:Lot) (w:World) (h:LotsAt w v l) (hn:l.length≤1000) :
  Calls Tryz.prog 52 #[v,.agg #[.string x.nom,.string x.hol,.int .i64 x.ser,.int .i64 x.units]] w (PutP l x w):=by
 obtain ⟨i0,hi,hz0,hz1,hz2⟩:=info_parts Tryz.info56;obtain ⟨A,cap,hv⟩:=Rd.form h;subst hv;have HAT:=hid (qqJ h);have HRD:=hid h;have hb0:Below w.heap.size w (w.alloc (.cells #[.string x.nom,.string x.hol,.int .i64 x.ser,.int .i64 x.units] 56)):=(Below.refl _ _).alloc (Nat.le_refl _) _;obtain ⟨w0,hw0⟩:=nqx (w.alloc (.cells #[.string x.nom,.string x.hol,.int .i64 x.ser,.int .i64 x.units] 56));have hs0:w0.heap.size=w.heap.size+1:=by rw [hw0];simp
 have HX:=hid (show CellsAt w0 w.heap.size 0 x from by
  rw [hw0];refine ⟨?_,?_,?_,?_⟩<;>go_cell)
 rw [←hw0] at hb0;have HB0:=hid hb0;have HS0:=hid hs0;obtain ⟨n,hn'⟩:=nqx (l.length);rw [←hn'] at hn ⊢;have HN:=hid hn';clear h hb0 hs0 hn';go_enter Tryz.func52,Tryz.ntmps52
 go_wp2
 rw [←hw0];clear hw0;go_loopg [5,6,7] n (fun m a b i wr=>∃ k:Nat,k≤n∧n - k≤m∧i=.int .i64 k∧b=.bool (foldP x (l.take k)).2∧(∀ z∈l.take k,¬sameKey z x)∧Own wr w0.heap.size a (foldP x (l.take k)).1∧Below w0.heap.size w0 wr)
 case atStart=>exact ⟨0,by omega,by omega,rfl,rfl,by simp,Own.nil _ _,Below.refl _ _⟩
 case round =>
  obtain ⟨k,hk,hm,rfl,rfl,hns,hoa,hbl⟩:=hrel;have hsz:w0.heap.size≤wr.heap.size:=hbl.size;have hwz:w.heap.size<wr.heap.size:=by have:=HS0.out;omega
  obtain ⟨x0,x1,x2,x3⟩:=show CellsAt wr w.heap.size 0 x from ⟨qbC HX.out.1 hbl (by have:=HS0.out;simp;omega),qbC HX.out.2.1 hbl (by have:=HS0.out;simp;omega),qbC HX.out.2.2.1 hbl (by have:=HS0.out;simp;omega),qbC HX.out.2.2.2 hbl (by have:=HS0.out;simp;omega)⟩
  have hfl:=qxW x (l.take k);rw [List.length_take] at hfl;obtain ⟨o,ho⟩:∃ o,o=(foldP x (l.take k)).1:=⟨_,rfl⟩;obtain ⟨d,hd⟩:∃ d,d=(foldP x (l.take k)).2:=⟨_,rfl⟩;rw [←ho] at hoa hfl;rw [←hd];have hol:o.length≤2000:=by omega
  have HOD:=hid (And.intro ho hd);have HOA:=hid hoa;have HBL:=hid hbl;have HNS:=hid hns;clear hoa hbl hfl ho hd hns;by_cases hlt:k<n
  ·obtain ⟨y,hy⟩:∃ y,l[k]?=some y:=⟨l[k]'(by rw [←HN.out];exact hlt),by simp [←HN.out,hlt]⟩;obtain ⟨g,off,rfl,hcc⟩:=HAT.out k y hy;obtain ⟨c0,c1,c2,c3⟩:=hcc.below (HB0.out.trans (HBL.out.mono HB0.out.size));have hgw:g<w.heap.size:=World.block_lt_of_cell? w _ hcc.1;have hne:u5.ownBlock≠some g:=HOA.out.ne (.inr (by have:=HS0.out;omega));have hst:foldP x (l.take (k+1))=stP x (o,d) y:=by rw [qtU x hy,HOD.out.1,HOD.out.2]
   have q1:(y.nom.toList==x.nom.toList)=sEq y.nom x.nom:=rfl;have q2:(y.hol.toList==x.hol.toList)=sEq y.hol x.hol:=rfl;by_cases hk1:sameKey y x
   ·have e1:sEq y.nom x.nom=true:=(qdW _ _).2 hk1.1;have e2:sEq y.hol x.hol=true:=(qdW _ _).2 hk1.2.1;have e3:(y.ser==x.ser)=true:=by simp [hk1.2.2]
    rw [e1] at q1;rw [e2] at q2;have HRW:=hid (HRD.out.below (HB0.out.trans (HBL.out.mono HB0.out.size)));have hnl:0<l.length:=by rw [←HN.out];omega
    obtain ⟨hl1,_,A2,cap2,hv2,hc2⟩:=HRW.out;obtain ⟨g2,off2,hA2,hcl⟩:=hc2 hnl;injection hv2 with hv2 _ hv3
    subst hA2 hv3;injection hv2 with hv2
    injection hv2 with hv2 hv4
    subst hv2 hv4;rw [←HN.out] at hl1;have HL1:=hid hl1;have HCL:=hid hcl;clear hst hk1 e1 e2 hcc hy hl1 hcl hc2 hnl;go_wp2
    go_quiet (fail)
    go_wp2_with (at_builtin;refine wpList_append_own _ rfl _ _ 38 rfl w0.heap.size 56 i0 _ 4 48 Tryz.underlying38 hi hz0 hz1 hz2 rfl (by decide) (.slice none 0 0) 0 [] rfl (World.ownsRow_nil _ _ _ _) ⟨g,off,none⟩ n cap (cellsL l) rfl HL1.out ?_ (qdQ _) (qbS (by omega)) (by omega) hsz ?_;(intro j u hj;rw [qhV];exact HCL.out j u hj);intro v' w1 hown hgrow hnil)
    have HO1:=hid (show Own w1 w0.heap.size v' l by unfold Own;rw [←HN.out];simpa using hown);have HB1:=hid (show Below w0.heap.size w0 w1 from ((qaZ HBL.out _).grown hgrow (by simpa using hsz) (by intro k hk;simp [Value.ownBlock] at hk)));clear hown hgrow hnil;go_wp2
    go_ret
    exact ⟨v',l,rfl,.inl rfl,HO1.out.base HB0.out.size,HB0.out.trans (HB1.out.mono HB0.out.size)⟩
   ·have hns1:∀ z∈l.take (k+1),¬sameKey z x:=by
     rw [show l.take (k+1)=l.take k++[y] by rw [List.take_add_one,hy];rfl];intro z hz;rcases List.mem_append.1 hz with hz|hz
     ·exact HNS.out z hz
     ·simp at hz;subst hz;exact hk1
    have HNS1:=hid hns1
    have hcase:(sEq y.nom x.nom=false)∨(sEq y.nom x.nom=true∧sEq y.hol x.hol=false)∨(sEq y.nom x.nom=true∧sEq y.hol x.hol=true∧(y.ser==x.ser)=false):=by
     cases h1:sEq y.nom x.nom
     ·exact .inl rfl
     ·cases h2:sEq y.hol x.hol
      ·exact .inr (.inl ⟨rfl,rfl⟩)
      ·refine .inr (.inr ⟨rfl,rfl,?_⟩);simp only [beq_eq_false_iff_ne];exact fun h3=>hk1 ⟨(qdW _ _).1 h1,(qdW _ _).1 h2,h3⟩
    clear hcc hy hns1
    cases d with
    | true =>
     have HST:=hid (show foldP x (l.take (k+1))=(o++[y],true) by rw [hst];simp [stP,hk1]);clear hst hk1;rcases hcase with e1|⟨e1,e2⟩|⟨e1,e2,e3⟩
     ·rw [e1] at q1;clear e1 q2;have HOD2:=hid (fun d=>Own.drewN HOA.out d);go_wp2
      go_quiet (fail)
      go_wp2
      go_quiet (fail)
      go_wp2_with (at_builtin;refine qaD rfl _ _ rfl _ w0.heap.size u5 o y rfl (HOD2.out _) _ rfl (by simp) (by omega) hsz ?_;intro v' w1 ho1 hg1 hat1)
      have HO1:=hid ho1;have HB1:=hid (qaQ (qaZ HBL.out _) (HOD2.out _) hg1 hsz);clear ho1 hg1 hat1;go_roundg (gk - 1)
      case measure=>omega
      case rel=>exact ⟨k+1,by omega,by omega,by go_num,by rw [HST.out],HNS1.out,by rw [HST.out];exact HO1.out,HB1.out⟩
     ·rw [e1] at q1;rw [e2] at q2;clear e1 e2;have HOD2:=hid (fun d=>Own.drewN HOA.out d);go_wp2
      go_quiet (fail)
      go_wp2
      go_quiet (fail)
      go_wp2_with (at_builtin;refine qaD rfl _ _ rfl _ w0.heap.size u5 o y rfl (HOD2.out _) _ rfl (by simp) (by omega) hsz ?_;intro v' w1 ho1 hg1 hat1)
      have HO1:=hid ho1;have HB1:=hid (qaQ (qaZ HBL.out _) (HOD2.out _) hg1 hsz);clear ho1 hg1 hat1;go_roundg (gk - 1)
      case measure=>omega
      case rel=>exact ⟨k+1,by omega,by omega,by go_num,by rw [HST.out],HNS1.out,by rw [HST.out];exact HO1.out,HB1.out⟩
     ·rw [e1] at q1;rw [e2] at q2;clear e1 e2;have HOD2:=hid (fun d=>Own.drewN HOA.out d);go_wp2
      go_quiet (fail)
      go_wp2
      go_quiet (fail)
      go_wp2_with (at_builtin;refine qaD rfl _ _ rfl _ w0.heap.size u5 o y rfl (HOD2.out _) _ rfl (by simp) (by omega) hsz ?_;intro v' w1 ho1 hg1 hat1)
      have HO1:=hid ho1;have HB1:=hid (qaQ (qaZ HBL.out _) (HOD2.out _) hg1 hsz);clear ho1 hg1 hat1;go_roundg (gk - 1)
      case measure=>omega
      case rel=>exact ⟨k+1,by omega,by omega,by go_num,by rw [HST.out],HNS1.out,by rw [HST.out];exact HO1.out,HB1.out⟩
    | false =>
     cases hlx:lotLt x y with
     | true =>
      have HST:=hid (show foldP x (l.take (k+1))=(o++[x,y],true) by rw [hst];simp [stP,hk1,hlx]);have HLX:=hid hlx;clear hst hk1 hlx;rcases hcase with e1|⟨e1,e2⟩|⟨e1,e2,e3⟩
      ·rw [e1] at q1;clear e1 q2;go_wp2
       go_quiet (fail)
       go_wp2
       obtain ⟨Wq,hWq⟩:=nqx (wr.drewN nq);have hbq:Below wr.heap.size wr Wq:=by rw [hWq];exact qaZ (Below.refl _ _) _
       have HOQ:=hid (HOA.out.below hbq);have HBQ:=hid (HBL.out.trans (hbq.mono hsz));replace x0:=qcU x0 hbq;replace x1:=qcU x1 hbq;replace x2:=qcU x2 hbq;replace x3:=qcU x3 hbq;replace c0:=qcU c0 hbq;replace c1:=qcU c1 hbq;replace c2:=qcU c2 hbq;replace c3:=qcU c3 hbq;rw [←hWq];have hszq:w0.heap.size≤Wq.heap.size:=HBQ.out.size;clear hWq hbq;have gx0:=qaB x0;have gx1:=qaB x1;have gx2:=qaB x2;have gx3:=qaB x3;have gy0:=qaB c0;have gy1:=qaB c1;have gy2:=qaB c2;have gy3:=qaB c3;refine qaE (by kernel_rfl) (by kernel_rfl) ?_
       repeat (go_big_quiet_step (first|(go_at_call 82;exact qaA (qdR x y _ HLX.out _))))
       refine wpQuiet_nil ?_;clear gx0 gx1 gx2 gx3 gy0 gy1 gy2 gy3;intro w2 hw2;have hb2:Below Wq.heap.size Wq w2:=by obtain ⟨p,rfl⟩:=hw2;exact qbG _ _ _
       have HO2:=hid (HOQ.out.below hb2);have HB2:=hid (HBQ.out.trans (hb2.mono hszq));have hsz2:w0.heap.size≤w2.heap.size:=HB2.out.size;have y0:=qcU c0 hb2;have y1:=qcU c1 hb2;have y2:=qcU c2 hb2;have y3:=qcU c3 hb2;have z0:=qcU x0 hb2;have z1:=qcU x1 hb2;have z2:=qcU x2 hb2;have z3:=qcU x3 hb2;clear hw2 hb2 x0 x1 x2 x3 c0 c1 c2 c3;have hol3:(o++[x]).length≤2001:=by simp;omega
       go_wp2_with (first
        | (at_builtin;refine qaD rfl _ _ rfl _ w0.heap.size u5 o x rfl HO2.out _ rfl (by simp) (by omega) (by first|omega|(simp<;>omega)) ?_;intro v1 w1 ho1 hg1 hat1;have t0:=hg1.cell y0 hne.symm;have t1:=hg1.cell y1 hne.symm;have t2:=hg1.cell y2 hne.symm;have t3:=hg1.cell y3 hne.symm;have HO3:=hid ho1;have HB3:=hid (qaQ HB2.out HO2.out hg1 hsz2);have hsz3:w0.heap.size≤w1.heap.size:=HB3.out.size;clear ho1 hg1 hat1)
        | (at_builtin;refine qaD rfl _ _ rfl _ w0.heap.size v1 (o++[x]) y rfl HO3.out _ rfl (by simp) (by omega) (by first|omega|(simp<;>omega)) ?_;intro v3 w3 ho3 hg3 hat3;have HO1:=hid ho3;have HB1:=hid (qaQ HB3.out HO3.out hg3 hsz3);clear ho3 hg3 hat3))
       go_roundg (gk - 1)
       case measure=>omega
       case rel=>exact ⟨k+1,by omega,by omega,by go_num,by rw [HST.out],HNS1.out,by rw [HST.out];simpa using HO1.out,HB1.out⟩
      ·rw [e1] at q1;rw [e2] at q2;clear e1 e2;go_wp2
       go_quiet (fail)
       go_wp2
       obtain ⟨Wq,hWq⟩:=nqx (wr.drewN nq);have hbq:Below wr.heap.size wr Wq:=by rw [hWq];exact qaZ (Below.refl _ _) _
       have HOQ:=hid (HOA.out.below hbq);have HBQ:=hid (HBL.out.trans (hbq.mono hsz));replace x0:=qcU x0 hbq;replace x1:=qcU x1 hbq;replace x2:=qcU x2 hbq;replace x3:=qcU x3 hbq;replace c0:=qcU c0 hbq;replace c1:=qcU c1 hbq;replace c2:=qcU c2 hbq;replace c3:=qcU c3 hbq;rw [←hWq];have hszq:w0.heap.size≤Wq.heap.size:=HBQ.out.size;clear hWq hbq;have gx0:=qaB x0;have gx1:=qaB x1;have gx2:=qaB x2;have gx3:=qaB x3;have gy0:=qaB c0;have gy1:=qaB c1;have gy2:=qaB c2;have gy3:=qaB c3;refine qaE (by kernel_rfl) (by kernel_rfl) ?_
       repeat (go_big_quiet_step (first|(go_at_call 82;exact qaA (qdR x y _ HLX.out _))))
       refine wpQuiet_nil ?_;clear gx0 gx1 gx2 gx3 gy0 gy1 gy2 gy3;intro w2 hw2;have hb2:Below Wq.heap.size Wq w2:=by obtain ⟨p,rfl⟩:=hw2;exact qbG _ _ _
       have HO2:=hid (HOQ.out.below hb2);have HB2:=hid (HBQ.out.trans (hb2.mono hszq));have hsz2:w0.heap.size≤w2.heap.size:=HB2.out.size;have y0:=qcU c0 hb2;have y1:=qcU c1 hb2;have y2:=qcU c2 hb2;have y3:=qcU c3 hb2;have z0:=qcU x0 hb2;have z1:=qcU x1 hb2;have z2:=qcU x2 hb2;have z3:=qcU x3 hb2;clear hw2 hb2 x0 x1 x2 x3 c0 c1 c2 c3;have hol3:(o++[x]).length≤2001:=by simp;omega
       go_wp2_with (first
        | (at_builtin;refine qaD rfl _ _ rfl _ w0.heap.size u5 o x rfl HO2.out _ rfl (by simp) (by omega) (by first|omega|(simp<;>omega)) ?_;intro v1 w1 ho1 hg1 hat1;have t0:=hg1.cell y0 hne.symm;have t1:=hg1.cell y1 hne.symm;have t2:=hg1.cell y2 hne.symm;have t3:=hg1.cell y3 hne.symm;have HO3:=hid ho1;have HB3:=hid (qaQ HB2.out HO2.out hg1 hsz2);have hsz3:w0.heap.size≤w1.heap.size:=HB3.out.size;clear ho1 hg1 hat1)
        | (at_builtin;refine qaD rfl _ _ rfl _ w0.heap.size v1 (o++[x]) y rfl HO3.out _ rfl (by simp) (by omega) (by first|omega|(simp<;>omega)) ?_;intro v3 w3 ho3 hg3 hat3;have HO1:=hid ho3;have HB1:=hid (qaQ HB3.out HO3.out hg3 hsz3);clear ho3 hg3 hat3))
       go_roundg (gk - 1)
       case measure=>omega
       case rel=>exact ⟨k+1,by omega,by omega,by go_num,by rw [HST.out],HNS1.out,by rw [HST.out];simpa using HO1.out,HB1.out⟩
      ·rw [e1] at q1;rw [e2] at q2;clear e1 e2;go_wp2
       go_quiet (fail)
       go_wp2
       obtain ⟨Wq,hWq⟩:=nqx (wr.drewN nq);have hbq:Below wr.heap.size wr Wq:=by rw [hWq];exact qaZ (Below.refl _ _) _
       have HOQ:=hid (HOA.out.below hbq);have HBQ:=hid (HBL.out.trans (hbq.mono hsz));replace x0:=qcU x0 hbq;replace x1:=qcU x1 hbq;replace x2:=qcU x2 hbq;replace x3:=qcU x3 hbq;replace c0:=qcU c0 hbq;replace c1:=qcU c1 hbq;replace c2:=qcU c2 hbq;replace c3:=qcU c3 hbq;rw [←hWq];have hszq:w0.heap.size≤Wq.heap.size:=HBQ.out.size;clear hWq hbq;have gx0:=qaB x0;have gx1:=qaB x1;have gx2:=qaB x2;have gx3:=qaB x3;have gy0:=qaB c0;have gy1:=qaB c1;have gy2:=qaB c2;have gy3:=qaB c3;refine qaE (by kernel_rfl) (by kernel_rfl) ?_
       repeat (go_big_quiet_step (first|(go_at_call 82;exact qaA (qdR x y _ HLX.out _))))
       refine wpQuiet_nil ?_;clear gx0 gx1 gx2 gx3 gy0 gy1 gy2 gy3;intro w2 hw2;have hb2:Below Wq.heap.size Wq w2:=by obtain ⟨p,rfl⟩:=hw2;exact qbG _ _ _
       have HO2:=hid (HOQ.out.below hb2);have HB2:=hid (HBQ.out.trans (hb2.mono hszq));have hsz2:w0.heap.size≤w2.heap.size:=HB2.out.size;have y0:=qcU c0 hb2;have y1:=qcU c1 hb2;have y2:=qcU c2 hb2;have y3:=qcU c3 hb2;have z0:=qcU x0 hb2;have z1:=qcU x1 hb2;have z2:=qcU x2 hb2;have z3:=qcU x3 hb2;clear hw2 hb2 x0 x1 x2 x3 c0 c1 c2 c3;have hol3:(o++[x]).length≤2001:=by simp;omega
       go_wp2_with (first
        | (at_builtin;refine qaD rfl _ _ rfl _ w0.heap.size u5 o x rfl HO2.out _ rfl (by simp) (by omega) (by first|omega|(simp<;>omega)) ?_;intro v1 w1 ho1 hg1 hat1;have t0:=hg1.cell y0 hne.symm;have t1:=hg1.cell y1 hne.symm;have t2:=hg1.cell y2 hne.symm;have t3:=hg1.cell y3 hne.symm;have HO3:=hid ho1;have HB3:=hid (qaQ HB2.out HO2.out hg1 hsz2);have hsz3:w0.heap.size≤w1.heap.size:=HB3.out.size;clear ho1 hg1 hat1)
        | (at_builtin;refine qaD rfl _ _ rfl _ w0.heap.size v1 (o++[x]) y rfl HO3.out _ rfl (by simp) (by omega) (by first|omega|(simp<;>omega)) ?_;intro v3 w3 ho3 hg3 hat3;have HO1:=hid ho3;have HB1:=hid (qaQ HB3.out HO3.out hg3 hsz3);clear ho3 hg3 hat3))
       go_roundg (gk - 1)
       case measure=>omega
       case rel=>exact ⟨k+1,by omega,by omega,by go_num,by rw [HST.out],HNS1.out,by rw [HST.out];simpa using HO1.out,HB1.out⟩
     | false =>
      have HST:=hid (show foldP x (l.take (k+1))=(o++[y],false) by rw [hst];simp [stP,hk1,hlx]);have HLX:=hid hlx;clear hst hk1 hlx;rcases hcase with e1|⟨e1,e2⟩|⟨e1,e2,e3⟩
      ·rw [e1] at q1;clear e1 q2;go_wp2
       go_quiet (fail)
       go_wp2
       obtain ⟨Wq,hWq⟩:=nqx (wr.drewN nq);have hbq:Below wr.heap.size wr Wq:=by rw [hWq];exact qaZ (Below.refl _ _) _
       have HOQ:=hid (HOA.out.below hbq);have HBQ:=hid (HBL.out.trans (hbq.mono hsz));replace x0:=qcU x0 hbq;replace x1:=qcU x1 hbq;replace x2:=qcU x2 hbq;replace x3:=qcU x3 hbq;replace c0:=qcU c0 hbq;replace c1:=qcU c1 hbq;replace c2:=qcU c2 hbq;replace c3:=qcU c3 hbq;rw [←hWq];have hszq:w0.heap.size≤Wq.heap.size:=HBQ.out.size;clear hWq hbq;have gx0:=qaB x0;have gx1:=qaB x1;have gx2:=qaB x2;have gx3:=qaB x3;have gy0:=qaB c0;have gy1:=qaB c1;have gy2:=qaB c2;have gy3:=qaB c3;refine qaE (by kernel_rfl) (by kernel_rfl) ?_
       repeat (go_big_quiet_step (first|(go_at_call 82;exact qaA (qdR x y _ HLX.out _))))
       refine wpQuiet_nil ?_;clear gx0 gx1 gx2 gx3 gy0 gy1 gy2 gy3;intro w2 hw2;have hb2:Below Wq.heap.size Wq w2:=by obtain ⟨p,rfl⟩:=hw2;exact qbG _ _ _
       have HO2:=hid (HOQ.out.below hb2);have HB2:=hid (HBQ.out.trans (hb2.mono hszq));have hsz2:w0.heap.size≤w2.heap.size:=HB2.out.size;have y0:=qcU c0 hb2;have y1:=qcU c1 hb2;have y2:=qcU c2 hb2;have y3:=qcU c3 hb2;have z0:=qcU x0 hb2;have z1:=qcU x1 hb2;have z2:=qcU x2 hb2;have z3:=qcU x3 hb2;clear hw2 hb2 x0 x1 x2 x3 c0 c1 c2 c3;go_wp2_with (at_builtin;refine qaD rfl _ _ rfl _ w0.heap.size u5 o y rfl HO2.out _ rfl (by simp) (by omega) (by first|omega|(simp<;>omega)) ?_;intro v' w1 ho1 hg1 hat1)
       have HO1:=hid ho1;have HB1:=hid (qaQ HB2.out HO2.out hg1 hsz2);clear ho1 hg1 hat1 y0 y1 y2 y3 z0 z1 z2 z3;go_roundg (gk - 1)
       case measure=>omega
       case rel=>exact ⟨k+1,by omega,by omega,by go_num,by rw [HST.out],HNS1.out,by rw [HST.out];exact HO1.out,HB1.out⟩
      ·rw [e1] at q1;rw [e2] at q2;clear e1 e2;go_wp2
       go_quiet (fail)
       go_wp2
       obtain ⟨Wq,hWq⟩:=nqx (wr.drewN nq);have hbq:Below wr.heap.size wr Wq:=by rw [hWq];exact qaZ (Below.refl _ _) _
       have HOQ:=hid (HOA.out.below hbq);have HBQ:=hid (HBL.out.trans (hbq.mono hsz));replace x0:=qcU x0 hbq;replace x1:=qcU x1 hbq;replace x2:=qcU x2 hbq;replace x3:=qcU x3 hbq;replace c0:=qcU c0 hbq;replace c1:=qcU c1 hbq;replace c2:=qcU c2 hbq;replace c3:=qcU c3 hbq;rw [←hWq];have hszq:w0.heap.size≤Wq.heap.size:=HBQ.out.size;clear hWq hbq;have gx0:=qaB x0;have gx1:=qaB x1;have gx2:=qaB x2;have gx3:=qaB x3;have gy0:=qaB c0;have gy1:=qaB c1;have gy2:=qaB c2;have gy3:=qaB c3;refine qaE (by kernel_rfl) (by kernel_rfl) ?_
       repeat (go_big_quiet_step (first|(go_at_call 82;exact qaA (qdR x y _ HLX.out _))))
       refine wpQuiet_nil ?_;clear gx0 gx1 gx2 gx3 gy0 gy1 gy2 gy3;intro w2 hw2;have hb2:Below Wq.heap.size Wq w2:=by obtain ⟨p,rfl⟩:=hw2;exact qbG _ _ _
       have HO2:=hid (HOQ.out.below hb2);have HB2:=hid (HBQ.out.trans (hb2.mono hszq));have hsz2:w0.heap.size≤w2.heap.size:=HB2.out.size;have y0:=qcU c0 hb2;have y1:=qcU c1 hb2;have y2:=qcU c2 hb2;have y3:=qcU c3 hb2;have z0:=qcU x0 hb2;have z1:=qcU x1 hb2;have z2:=qcU x2 hb2;have z3:=qcU x3 hb2;clear hw2 hb2 x0 x1 x2 x3 c0 c1 c2 c3;go_wp2_with (at_builtin;refine qaD rfl _ _ rfl _ w0.heap.size u5 o y rfl HO2.out _ rfl (by simp) (by omega) (by first|omega|(simp<;>omega)) ?_;intro v' w1 ho1 hg1 hat1)
       have HO1:=hid ho1;have HB1:=hid (qaQ HB2.out HO2.out hg1 hsz2);clear ho1 hg1 hat1 y0 y1 y2 y3 z0 z1 z2 z3;go_roundg (gk - 1)
       case measure=>omega
       case rel=>exact ⟨k+1,by omega,by omega,by go_num,by rw [HST.out],HNS1.out,by rw [HST.out];exact HO1.out,HB1.out⟩
      ·rw [e1] at q1;rw [e2] at q2;clear e1 e2;go_wp2
       go_quiet (fail)
       go_wp2
       obtain ⟨Wq,hWq⟩:=nqx (wr.drewN nq);have hbq:Below wr.heap.size wr Wq:=by rw [hWq];exact qaZ (Below.refl _ _) _
       have HOQ:=hid (HOA.out.below hbq);have HBQ:=hid (HBL.out.trans (hbq.mono hsz));replace x0:=qcU x0 hbq;replace x1:=qcU x1 hbq;replace x2:=qcU x2 hbq;replace x3:=qcU x3 hbq;replace c0:=qcU c0 hbq;replace c1:=qcU c1 hbq;replace c2:=qcU c2 hbq;replace c3:=qcU c3 hbq;rw [←hWq];have hszq:w0.heap.size≤Wq.heap.size:=HBQ.out.size;clear hWq hbq;have gx0:=qaB x0;have gx1:=qaB x1;have gx2:=qaB x2;have gx3:=qaB x3;have gy0:=qaB c0;have gy1:=qaB c1;have gy2:=qaB c2;have gy3:=qaB c3;refine qaE (by kernel_rfl) (by kernel_rfl) ?_
       repeat (go_big_quiet_step (first|(go_at_call 82;exact qaA (qdR x y _ HLX.out _))))
       refine wpQuiet_nil ?_;clear gx0 gx1 gx2 gx3 gy0 gy1 gy2 gy3;intro w2 hw2;have hb2:Below Wq.heap.size Wq w2:=by obtain ⟨p,rfl⟩:=hw2;exact qbG _ _ _
       have HO2:=hid (HOQ.out.below hb2);have HB2:=hid (HBQ.out.trans (hb2.mono hszq));have hsz2:w0.heap.size≤w2.heap.size:=HB2.out.size;have y0:=qcU c0 hb2;have y1:=qcU c1 hb2;have y2:=qcU c2 hb2;have y3:=qcU c3 hb2;have z0:=qcU x0 hb2;have z1:=qcU x1 hb2;have z2:=qcU x2 hb2;have z3:=qcU x3 hb2;clear hw2 hb2 x0 x1 x2 x3 c0 c1 c2 c3;go_wp2_with (at_builtin;refine qaD rfl _ _ rfl _ w0.heap.size u5 o y rfl HO2.out _ rfl (by simp) (by omega) (by first|omega|(simp<;>omega)) ?_;intro v' w1 ho1 hg1 hat1)
       have HO1:=hid ho1;have HB1:=hid (qaQ HB2.out HO2.out hg1 hsz2);clear ho1 hg1 hat1 y0 y1 y2 y3 z0 z1 z2 z3;go_roundg (gk - 1)
       case measure=>omega
       case rel=>exact ⟨k+1,by omega,by omega,by go_num,by rw [HST.out],HNS1.out,by rw [HST.out];exact HO1.out,HB1.out⟩
  ·have hfin:foldP x (l.take k)=foldP x l:=by rw [List.take_of_length_le (by have:=HN.out;omega)]
   have HFIN:=hid hfin;have HNS2:=hid (show ∀ z∈l,¬sameKey z x by have:=HNS.out;rwa [List.take_of_length_le (by have:=HN.out;omega)] at this);clear hfin
   cases d with
   | true =>
    go_wp2
    go_ret
    refine ⟨_,_,rfl,.inr ⟨HNS2.out,rfl⟩,?_,HB0.out.trans (HBL.out.mono HB0.out.size)⟩;have h2:=HOD.out.2;have h1:=HOD.out.1;rw [HFIN.out] at h1 h2;unfold putR;rw [if_pos h2.symm,←h1];exact HOA.out.base HB0.out.size
   | false =>
    go_wp2_with (at_builtin;refine qaD rfl _ _ rfl _ w0.heap.size u5 o x rfl HOA.out _ rfl (by simp) (by omega) (by first|omega|(simp<;>omega)) ?_;intro v' w1 ho1 hg1 hat1)
    have HO1:=hid ho1;have HB1:=hid (qaQ HBL.out HOA.out hg1 hsz);clear ho1 hg1 hat1;go_wp2
    go_ret
    refine ⟨_,_,rfl,.inr ⟨HNS2.out,rfl⟩,?_,HB0.out.trans (HB1.out.mono HB0.out.size)⟩;have h2:=HOD.out.2;have h1:=HOD.out.1;rw [HFIN.out] at h1 h2;unfold putR;rw [if_neg (by rw [←h2];simp),←h1];exact HO1.out.base HB0.out.size
set_option maxHeartbeats 4000000
namespace Reg
def gdLot (x:Lot):Prop:=(x.nom,x.hol)∈accs∧0≤x.ser∧x.ser≤73048∧1≤x.units∧x.units≤1000000
def ScGood (l:List Lot):Prop:=Srt l∧∀ x∈l,gdLot x
theorem ScGood.nil:ScGood []:=⟨List.Pairwise.nil,by simp⟩
theorem jbM {l l':List Lot} {x:Lot} (h:PutS l x l') (hl:ScGood l) (hx:gdLot x):ScGood l'∧l'.length≤l.length+1:=by
 rcases h with rfl|⟨hn,rfl⟩
 ·exact ⟨hl,by omega⟩
 ·rw [jeK x hl.1];refine ⟨⟨qqF l x hl.1,fun z hz=>?_⟩,(qwC l x).2⟩;rcases qmD l x z hz with h|h|⟨y,hy,hk,_⟩
  ·exact hl.2 z h
  ·rw [h];exact hx
  ·exact absurd hk (hn y hy)
theorem qsC {x:Lot} (h:gdLot x):rightB x=true:=by
 obtain ⟨h1,h2,h3,h4,h5⟩:=h;exact qoB (qzN _ h1) h2 h3 h4 (by omega)
theorem qtS {l:List Lot} (h:ScGood l) (hn:l.length≤256):checkB l=true:=by
 have hs:=jdT l 1000000 (by omega) (fun x hx=>by have:=(h.2 x hx).2.2.2;omega)
 have ho:okL l=true:=okL_yes (n:=l.length) (Nat.le_refl _) (fun k hk=>by
  have hx:l[k]?=some l[k]:=by simp [hk]
  cases k with
  | zero=>rw [qjI hx];exact qsC (h.2 _ (List.getElem_mem hk))
  | succ j =>
   have hy:l[j]?=some l[j]:=by simp [show j<l.length by omega]
   rw [qgU hx hy,qsC (h.2 _ (List.getElem_mem hk))]
   have:=List.pairwise_iff_getElem.1 h.1 j (j+1) (by omega) hk (by omega)
   simpa using this)
 unfold checkB;rw [ho,decide_eq_true hn,decide_eq_true (by omega)];rfl
end Reg
theorem Own.drawn {w w':World} {B bt:Nat} {v:Value} {l:List Lot} (h:Own w B v l) (hd:Drew w bt w') (hB:bt<B):Own w' B v l :=
 World.ownsRow.kept h (row:=some bt) hd.2 (.inr (fun e=>by have:=h.lt bt e;omega))
def ScRegP (most:Nat) (bt:Nat) (w:World) (e:Ending) (w':World):Prop:=∃ va l,e=.returned (.agg #[va])∧ScGood l∧l.length≤most∧Own w' w.heap.size va l∧Drew w bt w'
theorem qoC (bt most:Nat) (w:World) (ht:IsTp w bt) (hm:most≤100) :
  Calls Tryz.prog 16 #[.pointer (some ⟨bt,0,none⟩),.int .i64 most] w (ScRegP most bt w):=by
 have hbt:=ht.lt;obtain ⟨w0,hw0⟩:∃ w0,w0=(w.alloc (.cells #[.slice none 0 0] 40)).alloc (.cells #[.slice none 0 0] 40):=⟨_,rfl⟩;have hs0:w0.heap.size=w.heap.size+2:=by rw [hw0];simp
 have hd0:Drew w bt w0:=by rw [hw0];exact ((Drew.refl ht).alloc _).alloc _
 have c0:w0.cell? ⟨w.heap.size,0,none⟩=some (.slice none 0 0):=by rw [hw0];go_cell
 have c1:w0.cell? ⟨w.heap.size+1,0,none⟩=some (.slice none 0 0):=by rw [hw0];go_cell
 have z0:w0.frozen? ⟨w.heap.size,0,none⟩=false:=by rw [hw0,qmV];simp
 have z1:w0.frozen? ⟨w.heap.size+1,0,none⟩=false:=by rw [hw0];simp
 clear ht;go_enter Tryz.func16,Tryz.ntmps16
 go_wp2_with fail
 rw [←hw0];refine (qbA bt (most+1) _ hd0.1 (by omega) (by omega)).mono ?_;rintro e w1 ⟨n,rfl,hn0,hn1,hd1⟩;obtain ⟨n,rfl⟩:∃ k:Nat,n=k:=⟨n.toNat,by omega⟩;have HD1:=hid (hd0.trans hd1);have hs1:w.heap.size+2≤w1.heap.size:=by have:=hd1.size;omega
 have d0:=hd1.cell c0 (by simp;omega);have d1:=hd1.cell c1 (by simp;omega);have y0:=(hd1.frozen (a:=⟨w.heap.size,0,none⟩) (by simp;omega) (by simp;omega)).trans z0;have y1:=(hd1.frozen (a:=⟨w.heap.size+1,0,none⟩) (by simp;omega) (by simp;omega)).trans z1;have HC:=hid (And.intro d0 (And.intro d1 (And.intro y0 y1)));clear hd0 hd1 c0 c1 z0 z1 d0 d1 y0 y1 hw0;go_wp2
 go_loopg [6] n (fun m a wr=>∃ (k:Nat) (l:List Lot) (va:Value),k≤m∧a=.int .i64 k∧k+l.length≤most∧ScGood l∧wr.cell? ⟨w.heap.size,0,none⟩=some (.slice none 0 0)∧wr.cell? ⟨w.heap.size+1,0,none⟩=some va∧wr.frozen? ⟨w.heap.size,0,none⟩=false∧wr.frozen? ⟨w.heap.size+1,0,none⟩=false∧Own wr (w.heap.size+2) va l∧Drew w bt wr∧w.heap.size+2≤wr.heap.size)
 case atStart=>exact ⟨n,[],.slice none 0 0,by omega,rfl,by simp;omega,ScGood.nil,HC.out.1,HC.out.2.1,HC.out.2.2.1,HC.out.2.2.2,Own.nil _ _,HD1.out,hs1⟩
 case round =>
  obtain ⟨k,l,va,hkm,rfl,hkl,hg,c0,c1,z0,z1,ho,hd,hs⟩:=hrel;have HG:=hid hg;have HO:=hid ho;have HD:=hid hd;clear hg ho hd;obtain ⟨A,cap,hva⟩:=Rd.form HO.out.lots;subst hva;by_cases hk0:0<k
  ·go_wp2_with fail
   refine (qjW bt _ HD.out.1).mono ?_;rintro e w2 ⟨x,hx,rfl,hd2⟩;have HX:=hid hx;have HE2:=hid hd2;clear hx hd2;go_wp2_with fail
   refine (qbA bt 40 _ HE2.out.1 (by omega) (by omega)).mono ?_;rintro e w3 ⟨s,rfl,hs0',hs1',hd3⟩;have HE3:=hid (HE2.out.trans hd3);have hz3:=HE3.out.size;clear hd3;go_wp2_with fail
   have HP:=hid (qjM w3 [0,3,7,9,s] 3 w3.heap.size rfl);refine (qgQ bt w3.heap.size 5 5 [0,3,7,9,s] _ rfl (HE3.out.alloc _).1 (by omega) (by omega) (by omega) HP.out).mono ?_;rintro e w4 ⟨t,ht,rfl,hd4⟩
   have hst:0≤t∧t≤73048:=by
    simp only [List.mem_cons,List.not_mem_nil,or_false] at ht;omega
   have HE4:=hid ((HE3.out.alloc _).trans hd4);clear hd4 ht HP;go_wp2_with fail
   refine (qiT bt _ HE4.out.1).mono ?_;rintro e w5 ⟨u,rfl,hu0,hu1,hd5⟩;have HE5:=hid (HE4.out.trans hd5);have hz5:=HE5.out.size;clear hd5;have b0:=HE5.out.cell c0 (by simp;omega);have b1:=HE5.out.cell c1 (by simp;omega);have y0:=(HE5.out.frozen (a:=⟨w.heap.size,0,none⟩) (by simp;omega) (by simp;omega)).trans z0;have y1:=(HE5.out.frozen (a:=⟨w.heap.size+1,0,none⟩) (by simp;omega) (by simp;omega)).trans z1;have HO5:=hid (HO.out.drawn HE5.out (by omega));have HD5:=hid (HD.out.trans HE5.out);have hl5:w.heap.size+1<w5.heap.size:=by omega
   have hl50:w.heap.size<w5.heap.size:=by omega
   have HLX:=hid (HO5.out.lots);clear c0 c1 z0 z1;go_wp2_with fail
   refine (jeI _ l ⟨x.1,x.2,t,u⟩ _ (HLX.out.below ((Below.refl _ _).alloc (Nat.le_refl _) _)) (by omega)).mono ?_;rintro e w6 ⟨v',l',rfl,hps,ho6,hb6⟩;have HGP:=hid (jbM hps HG.out ⟨HX.out,hst.1,hst.2,hu0,hu1⟩);have HO6:=hid (ho6.base (B':=w.heap.size+2) (by simp;omega));have HD6:=hid ((HD5.out.alloc _).below hb6);have e0:=qcU (qcW b0 _) hb6;have e1:=qcU (qcW b1 _) hb6;have f0:=(hb6.frozen (p:=⟨w.heap.size,0,none⟩) (by simp;omega)).trans ((World.frozen?_of_block (Below.heap_alloc _ _ _ hl50)).trans y0);have f1:=(hb6.frozen (p:=⟨w.heap.size+1,0,none⟩) (by simp;omega)).trans ((World.frozen?_of_block (Below.heap_alloc _ _ _ hl5)).trans y1);have hz6:w5.heap.size+1≤w6.heap.size:=by have:=hb6.size;simpa using this
   clear hps ho6 hb6 b0 b1 y0 y1;obtain ⟨A6,c6,hv6⟩:=Rd.form HO6.out.lots;subst hv6;have HO7:=hid (HO6.out.setCell ⟨w.heap.size+1,0,none⟩ (.slice A6 l'.length c6) (fun e=>by have:=(HO6.out.lt _ e).1;simp at this));have HD7:=hid (HD6.out.setCell hbt ⟨w.heap.size+1,0,none⟩ (.slice A6 l'.length c6) (by simp));go_wp2
   go_roundg (gk - 1)
   case measure=>omega
   case rel=>exact ⟨k - 1,l',_,by omega,by go_num,by have:=HGP.out.2;omega,HGP.out.1,by rw [World.cell?_setCell_other _ _ _ _ (by simp)];exact e0,World.cell?_setCell_same _ _ _ e1,by rw [World.frozen?_setCell];exact f0,by rw [World.frozen?_setCell];exact f1,HO7.out,HD7.out,by simp [World.setCell];omega⟩
  ·obtain rfl:k=0:=by omega
   go_wp2
   have HO7:=hid (HO.out.setCell ⟨w.heap.size,0,none⟩ (.slice A l.length cap) (fun e=>by have:=(HO.out.lt _ e).1;simp at this;omega));have HD7:=hid (HD.out.setCell hbt ⟨w.heap.size,0,none⟩ (.slice A l.length cap) (Nat.le_refl _));refine bodyPost_ret (v:=.agg #[.slice A l.length cap]) (by simp [results,Tryz.results16,go_sem,c0]) rfl ⟨_,l,rfl,HG.out,by omega,HO7.out.base (by omega),HD7.out⟩
end Go.Proofs.YtemoddmadfoaiaaGreat
