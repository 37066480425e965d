import Derived.Test.YtemoddmadfoaiaaGreatDxA
import Derived.Test.YtemoddmadfoaiaaGreatScD
set_option linter.unusedVariables false
set_option linter.unusedSimpArgs false
set_option maxRecDepth 100000
set_option maxHeartbeats 16000000
namespace Go.Proofs.YtemoddmadfoaiaaGreat
open Go.RowKit Big Reg Ga Dl
open Lib (hid)
theorem jeP {w:World} {B size n q:Nat} {e:TypeId} {A:Option Addr} {xs:List Value} (h:w.ownsRow B e size (.slice A n q) n xs) (hn:0<n):∃ g,A=some ⟨g,0,none⟩∧B≤g∧At w g 0 xs:=by
 obtain ⟨hl,⟨hv,h0⟩|⟨g,cap,cur,hv,hg,hc,h1,h2,h3,h4⟩⟩:=h
 ·omega
 ·injection hv with e1
  have hx:∀ j v,xs[j]?=some v→cur[j]?=some v:=fun j v hj=>by
   rw [←h4] at hj;have hjl:=(List.getElem?_eq_some_iff.1 hj).1;rw [List.getElem?_take_of_lt (by rw [List.length_take] at hjl;omega)] at hj
   simpa using hj
  have hr:∀ j v,xs[j]?=some v→w.cell? ⟨g,0+j,none⟩=some v:=fun j v hj=>by
   rw [cell_of_row _ g (0+j) cur e (0,0) hc,Nat.zero_add];exact hx j v hj
  refine ⟨g,e1,hg,hr,fun j hj=>⟨?_,frozen_of_row _ _ _ _ _ hc⟩,(Array.getElem?_eq_some_iff.1 hc).1⟩;rw [hr j _ (List.getElem?_eq_getElem hj)];rfl
namespace Dl
def likeO (o p:Od):Od:={ o with kind:=p.kind,amount:=p.amount,units:=p.units }
theorem qxF {i j:Nat} {x y:Tk} (h:MadeT i x) (k:MadeT j y):MadeT i { x with o:=likeO x.o y.o } :=
 ⟨h.key,h.acc,h.fund,h.cls,⟨k.ask.kind,k.ask.ask,k.ask.amount,k.ask.units⟩,h.at_,h.known,h.void,h.day,h.first⟩
theorem qtP {ts:List Tk} {i:Nat} {x y:Tk} (hx:ts[i]?=some x):cellsT (ts.set i { x with o:=likeO x.o y.o }) =
  (cellsT ts).take (i*13+5)++([.int .i64 y.o.kind]++([.int .i64 y.o.amount]++([.int .i64 y.o.units]++(cellsT ts).drop (i*13+8)))):=by
 have hi:=(List.getElem?_eq_some_iff.1 hx).1
 have e1:ts=ts.take i++(x::ts.drop (i+1)):=by
  rw [List.getElem?_eq_some_iff] at hx;obtain ⟨h,e⟩:=hx;rw [←e,List.getElem_cons_drop,List.take_append_drop]
 have hl:(ts.take i).length=i:=by rw [List.length_take];omega
 obtain ⟨a,ha⟩:=nqx (ts.take i);obtain ⟨b,hb⟩:=nqx (ts.drop (i+1));rw [←ha,←hb] at e1;rw [←ha] at hl
 have e2:ts.set i { x with o:=likeO x.o y.o }=a++({ x with o:=likeO x.o y.o }::b):=by
  rw [e1,←hl,List.set_append_right _ _ (Nat.le_refl _),Nat.sub_self];rfl
 rw [e2,e1];have c1:∀ z:Tk,cellsT (a++z::b)=cellsT a++(z.cells++cellsT b):=fun z=>by rw [qkQ];rfl
 have la:(cellsT a).length=i*13:=by rw [qeI,hl]
 rw [c1,c1];have t1:(cellsT a++(x.cells++cellsT b)).take (i*13+5)=cellsT a++(x.cells++cellsT b).take 5:=by rw [←la,List.take_length_add_append]
 have t2:(cellsT a++(x.cells++cellsT b)).drop (i*13+8)=(x.cells++cellsT b).drop 8:=by rw [←la,List.drop_length_add_append]
 rw [t1,t2,List.append_assoc];rfl
end Dl
namespace Dl
theorem qyK {l l':List Lot} {ts:List Tk} {offer bid:Qn} {pl:Nat} {ser:Int} {N:List Nt} (hpo:Pc offer) (hpb:Pc bid) (h6:pl≤6) (hs0:0≤ser) (hs1:ser≤73048) (hC:checkB l=true) (hT:∀ t∈ts,okO t.o=true) (h:dealL l ts offer bid pl ser=.ok (l',N)) :
  N.length=ts.length∧∀ (j:Nat) (t:Tk),ts[j]?=some t→∃ x,N[j]?=some x∧FairG offer bid pl t.o x:=by
 obtain ⟨_,a2,a3⟩:=qyJ (I:=fun l=>checkB l=true) (Ok:=OkD) (G:=FairG offer bid pl) (fun l o l' x hC ho hk hx=>⟨qrI hpb h6 ho hC hx,qvT hpb h6 ho.ask hk (qjE (nm:=o.nom) (hl:=o.hol) hC).1 (qjE (nm:=o.nom) (hl:=o.hol) hC).2 hx⟩) (fun l o l' x hC ho hk hx=>⟨qrE hpo h6 ho hk hs0 hs1 hC hx,qvB hpo h6 ho.ask hk hx⟩) hC (fun t ht=>jdH (hT t ht)) h;exact ⟨a2,a3⟩
end Dl
theorem At.ord {w:World} {g k:Nat} {ts:List Tk} {x:Tk} (h:At w g 0 (cellsT ts)) (hx:ts[k]?=some x):At w g (k*13) x.o.cells:=by
 have hk:=(List.getElem?_eq_some_iff.1 hx).1;have e:x.cells=x.o.cells++[.int .i64 x.day,.int .i64 x.first]:=rfl;have h11:x.o.cells.length=11:=rfl;refine ⟨fun j v hj=>?_,fun j hj=>?_,h.lt⟩
 ·have hl:=(List.getElem?_eq_some_iff.1 hj).1
  have:=h.cell (qfQ ts k x hx j v (by rw [e,List.getElem?_append_left hl];exact hj))
  rwa [Nat.zero_add] at this
 ·have:=h.there (k*13+j) (by rw [qeI];omega)
  rwa [Nat.zero_add] at this
theorem At.join {w:World} {b o:Nat} {xs ys:List Value} (h:At w b o xs) {k:Nat} (hk:k=o+xs.length) (h2:At w b k ys):At w b o (xs++ys):=by
 subst hk;refine ⟨fun j v hj=>?_,fun j hj=>?_,h.lt⟩
 ·by_cases hl:j<xs.length
  ·rw [List.getElem?_append_left hl] at hj;exact h.range j v hj
  ·rw [List.getElem?_append_right (by omega)] at hj
   have:=h2.range (j - xs.length) v hj
   rwa [show o+xs.length+(j - xs.length)=o+j by omega] at this
 ·by_cases hl:j<xs.length
  ·exact h.there j hl
  ·have:=h2.there (j - xs.length) (by rw [List.length_append] at hj;omega)
   rwa [show o+xs.length+(j - xs.length)=o+j by omega] at this
theorem At.sub3 {w:World} {b k:Nat} {xs ys zs:List Value} (h:At w b 0 (xs++(ys++zs))) (hk:k=xs.length):At w b k ys:=At.sub h (by rw [hk,Nat.zero_add])
def TkW (B C n qT:Nat) (AT:Option Addr) (ts:List Tk) (w:World):Prop:=TksAt w (.slice AT n qT) ts∧(0<n→∃ g,AT=some ⟨g,0,none⟩∧B≤g∧g<C∧At w g 0 (cellsT ts))
theorem TkW.of {B n qT:Nat} {AT:Option Addr} {ts:List Tk} {w:World} (hn:n=ts.length) (h:w.ownsRow B 60 13 (.slice AT n qT) n (cellsT ts)):TkW B w.heap.size n qT AT ts w:=by
 refine ⟨by have:=Rd.of_own h;rw [hn] at this ⊢;exact this,fun h0=>?_⟩;obtain ⟨g,e,hg,hA⟩:=jeP h h0;exact ⟨g,e,hg,hA.lt,hA⟩
theorem TkW.re {B C n qT:Nat} {AT:Option Addr} {ts:List Tk} {w w':World} (h:TkW B C n qT AT ts w) (hn:n=ts.length) (hA:∀ g,B≤g→At w g 0 (cellsT ts)→At w' g 0 (cellsT ts)):TkW B C n qT AT ts w':=by
 have g1:0<n→∃ g,AT=some ⟨g,0,none⟩∧B≤g∧g<C∧At w' g 0 (cellsT ts):=fun h0=>by
  obtain ⟨g,e,hg,hc,h2⟩:=h.2 h0;exact ⟨g,e,hg,hc,hA g hg h2⟩
 refine ⟨?_,g1⟩;obtain ⟨a1,a2,A',q',e,a3⟩:=h.1;injection e with e1 e2 e3
 subst e1 e3;refine ⟨a1,a2,_,_,by rw [←hn],fun h0=>?_⟩;obtain ⟨g,e,_,_,h2⟩:=g1 (by omega);exact ⟨g,0,e,h2.range⟩
theorem TkW.drw {B C n qT bt:Nat} {AT:Option Addr} {ts:List Tk} {w w':World} (h:TkW B C n qT AT ts w) (hd:Drew w bt w') (hB:bt<B) (hn:n=ts.length):TkW B C n qT AT ts w':=h.re hn fun g hg hA=>hA.drw hd (by omega)
theorem TkW.blw {B C n qT:Nat} {AT:Option Addr} {ts:List Tk} {w w':World} (h:TkW B C n qT AT ts w) (hd:Below w.heap.size w w') (hn:n=ts.length):TkW B C n qT AT ts w':=h.re hn fun g hg hA=>hA.below hd
theorem TkW.mk' {B C n qT g:Nat} {ts:List Tk} {w:World} (hn:n=ts.length) (h64:n≤64) (hg:B≤g) (hc:g<C) (hA:At w g 0 (cellsT ts)):TkW B C n qT (some ⟨g,0,none⟩) ts w :=
 ⟨⟨qeI ts,by omega,_,_,by rw [←hn],fun _=>⟨g,0,rfl,hA.range⟩⟩,fun _=>⟨g,rfl,hg,hc,hA⟩⟩
theorem Drew.gro {w1 w w':World} {bt g:Nat} (h:Drew w1 bt w) (hg:w.grownBy w' (some g)) (hb:bt<g) (h1:w1.heap.size≤g):Drew w1 bt w' :=
 ⟨h.1.grown hg (fun k hk=>by injection hk with hk;omega),hg.os.trans h.2.os,hg.tape.trans h.2.tape,hg.output.trans h.2.output,Nat.le_trans h.2.size hg.size,fun k hk hr=>(hg.block k (Nat.lt_of_lt_of_le hk h.2.size) (fun e=>by injection e with e;omega)).trans (h.2.block k hk hr)⟩
theorem jgV {cs:List Value} {o:Od} (h:cs=o.cells):cs.toArray.all (·.oneCell')=true:=by
 subst h;refine all_oneCell_toArray fun v hv'=>?_
 simp only [Od.cells,List.mem_cons,List.not_mem_nil,or_false] at hv';rcases hv' with rfl|rfl|rfl|rfl|rfl|rfl|rfl|rfl|rfl|rfl|rfl<;>rfl
theorem Tryz.alOd {cs:List Value} (h:(Tryz.prog.info? 58).map (·.size)=some cs.length):∃ z,LaysAs Tryz.prog 58 z∧cs.length≤z.size:=by
 refine ⟨#[.string ⟨#[]⟩,.string ⟨#[]⟩,.string ⟨#[]⟩,.string ⟨#[]⟩,.string ⟨#[]⟩,.int .i64 0,.int .i64 0,.int .i64 0,.int .i64 0,.int .i64 0,.bool false],?_,?_⟩
 ·intro o ho b w;unfold execOp;simp only [ho];rfl
 ·have e:(Tryz.prog.info? 58).map (·.size)=some 11:=by kernel_rfl
  rw [e] at h;injection h with h
  simp only [List.size_toArray,List.length_cons,List.length_nil];omega
theorem fair_any (a:Option Addr) (len cap:Nat) (z:List Int) (pz:Int) (w:World) (hr:IsRow .i64 w a len cap z) :
  CB 8 #[.slice a len cap,.int .i64 pz] (.bool true) w:=by
 have hln:=jeB hr;have hl9:len≤9223372036854775807:=by unfold maxLen at hln;omega
 obtain ⟨bt,hbt⟩:=nqx (w.heap.size);have hN:=jeV a len cap z w hr hl9;rw [←hbt] at hN;have HBT:=hid hbt;have HN:=hid hN;have HRG:=hid (fun W (h:IsTp W bt)=>show Calls Tryz.prog 16 #[.pointer (some ⟨bt,0,none⟩),.int .i64 6] W (ScRegP 6 bt W) from qoC bt 6 W h (by decide));have HDL:=hid (fun W (h:IsTp W bt)=>show Calls Tryz.prog 17 #[.pointer (some ⟨bt,0,none⟩),.int .i64 8] W (fun e w'=>∃ (v:Value) (l:List Tk),e=.returned v∧MadeTs 8 l∧w'.ownsRow W.heap.size 60 13 v l.length (cellsT l)∧Drew W bt w') from qyI bt 8 W h (by decide));clear hN hbt hr hl9 hln;go_enter Tryz.func8,Tryz.ntmps8
 go_wp2_with fail
 refine HN.out.mono ?_;rintro e w1 ⟨rfl,ht1,hb1⟩;have HT1:=hid ht1;have HB1:=hid hb1;have hbt1:=ht1.lt;clear ht1 hb1 HN;go_upto_region 3 with (first|(go_at_call 15;refine (qtH bt _ HT1.out).mono ?_;rintro e w2 ⟨p,q,cp,cq,hcp,hcq,rfl,hp,hq,hd⟩;have V_cp:=hid (show cp=rat (decide (p.1<0)) p.1.natAbs false p.2 from hcp);have V_cq:=hid (show cq=rat (decide (q.1<0)) q.1.natAbs false q.2 from hcq);have HPQ:=hid (And.intro hp hq);have D2:=hid hd;clear hcp hcq hp hq hd)|(refine qpT rfl rfl rfl rfl rfl rfl rfl rfl (Tryz.alR (qR V_cp.out)) (Tryz.alR (qR V_cq.out)) rfl rfl rfl rfl (qR V_cp.out) (quG V_cp.out) (qR V_cq.out) (quG V_cq.out) ?_;intro w3 hb3 hA3 hB3 hs3))
 try simp only [zq]
 have lbt:=D2.out.1.lt;obtain ⟨b7,hb7⟩:=nqx (w2.heap.size+1);rw [←hb7] at hB3 ⊢;obtain ⟨b6,hb6⟩:=nqx (w2.heap.size);rw [←hb6] at hA3 lbt hb7 ⊢;have D3:=hid (D2.out.below hb3);have Ab6:=hid hA3;have Ab7:=hid hB3;have l67:b6<b7:=by omega
 clear hA3 hB3 hs3 hb3 D2 hb6 hb7;go_upto_region 4 with (first|(go_at_call 16;refine (HRG.out _ D3.out.1).mono ?_;rintro e w4 ⟨va,l,rfl,hg,hl6,ho,hd⟩;have HD4:=hid hd;have D4:=hid (D3.out.trans hd);obtain ⟨A,q0,rfl⟩:=Rd.form ho.lots;have HG:=hid hg;have HO:=hid ho;have HAB:=hid (fun k e=>(ho.lt k e).2);have HNIL:=hid (qtK ho);have HL6:=hid hl6;clear hg hl6 ho hd)|(go_at_call 17;refine (HDL.out _ D4.out.1).mono ?_;rintro e w5 ⟨vt,ts0,rfl,hm,ho,hd⟩;have HD5:=hid hd;have HM:=hid hm;obtain ⟨AT,qT,rfl⟩:=Rd.form (Rd.of_own ho);have HTS:=hid ho;clear hm ho hd)|(refine qeJ rfl rfl rfl rfl (cs:=[.slice A l.length q0]) ⟨_,Tryz.layRg,by simp⟩ rfl rfl (by kernel_rfl) (by simp [Value.oneCell']) ?_;intro w6 hb6q hA6 hs6))
 try simp only [zq]
 have lb1:=HT1.out.lt;have lb3:=D3.out.1.lt;have lb33:=D3.out.size;have lb4:=HD4.out.size;have lb5:=HD5.out.size;have lx6:=Ab6.out.lt;have lx7:=Ab7.out.lt;replace Ab6:=hid ((Ab6.out.drw HD4.out (by omega)).drw HD5.out (by omega));replace Ab7:=hid ((Ab7.out.drw HD4.out (by omega)).drw HD5.out (by omega));have D5:=hid (D4.out.trans HD5.out);replace HO:=hid (HO.out.drawn HD5.out (by omega));obtain ⟨B,hBB⟩:=nqx (w4.heap.size);rw [←hBB] at HTS lb4 lb5 HAB;have hBbt:bt<B:=by omega
 have hB1:w1.heap.size≤B:=by omega
 obtain ⟨b8,hb8⟩:=nqx (w5.heap.size);have l68:=Ab6.out.lt;have l78:=Ab7.out.lt;have l6B:b6<B∧b7<B:=by omega
 obtain ⟨n,hn⟩:=nqx (ts0.length);rw [←hn] at HTS ⊢;have HTK:=hid (TkW.of hn HTS.out);rw [←hb8] at hA6 l68 l78 lb5 HTK ⊢;replace Ab6:=hid (Ab6.out.below hb6q);replace Ab7:=hid (Ab7.out.below hb6q);have Ab8:=hid hA6;replace HO:=hid (HO.out.below hb6q);replace HTK:=hid (HTK.out.blw hb6q hn);have D6:=hid (D5.out.below hb6q);obtain ⟨nS,hnS⟩:=nqx (l.length);rw [←hnS] at HO Ab8 HAB ⊢;have HNS:=hid hnS;have hn8:n≤8:=by rw [hn];exact HM.out.1
 have HN0:=hid hn;have HZB:=hid (show Below w.heap.size w w1 by have h:=HB1.out;rwa [HBT.out] at h);clear hA6 hs6 hb6q hb8 D3 D4 D5 HD4 HD5 HB1 HT1 HRG HDL hn hnS HTS hBB;go_wp2
 go_loopg [10] n (fun m iv wr=>∃ (k:Nat) (ts:List Tk),iv=.int .i64 (k:Int)∧1≤k∧(k≤n∨k=1)∧n≤m+k∧ts.length=n∧MadeTs 8 ts∧TkW B b8 n qT AT ts wr∧Drew w1 bt wr∧At wr b6 0 cp∧At wr b7 0 cq∧At wr b8 0 [.slice A nS q0]∧Own wr w3.heap.size (.slice A nS q0) l)
 case atStart=>exact ⟨1,ts0,rfl,by omega,by omega,by omega,HN0.out.symm,HM.out,HTK.out,D6.out,Ab6.out,Ab7.out,Ab8.out,HO.out⟩
 case round =>
  obtain ⟨k,ts,rfl,hk1,hk2,hmk,htl,hmts,htk,hd,ha6,ha7,ha8,hown⟩:=hrel;clear Ab6 Ab7 Ab8 HO HTK D6 HM HN0;have Ab6:=hid ha6;have Ab7:=hid ha7;have Ab8:=hid ha8;have HO:=hid hown;have HTK:=hid htk;have D6:=hid hd;have HM:=hid hmts;have HTL:=hid htl;have hbw:=hd.1.lt;clear ha6 ha7 ha8 hown htk hd hmts;by_cases hlt:k<n
  ·have hkI:(k:Int)<(n:Int):=by omega
   go_upto_region 7 with fail
   go_wp2_with fail
   refine (qsM bt 3 wr D6.out.1 (by omega) (by omega)).mono ?_;rintro e w7 ⟨t,rfl,hd⟩;replace Ab6:=hid (Ab6.out.drw hd (by omega));replace Ab7:=hid (Ab7.out.drw hd (by omega));replace Ab8:=hid (Ab8.out.drw hd (by omega));replace HO:=hid (HO.out.drawn hd (by omega));replace HTK:=hid (HTK.out.drw hd (by omega) htl.symm);replace D6:=hid (D6.out.trans hd);clear hd hbw
   cases t with
   | false =>
    go_wp2
    go_roundg (gk - 1)
    case measure=>omega
    case rel=>exact ⟨k+1,ts,by go_num,by omega,by omega,by omega,htl,HM.out,HTK.out,D6.out,Ab6.out,Ab7.out,Ab8.out,HO.out⟩
   | true =>
    obtain ⟨m0,hm0⟩:=nqx (k - 1);have hkz:k=m0+1:=by omega
    have wk:IntKind.i64.wrap ((k:Int) - 1)=(m0:Int):=by rw [IntWalk.i64_in _ (by omega)];omega
    obtain ⟨x,hx⟩:∃ x,ts[k]?=some x:=⟨_,List.getElem?_eq_getElem (by omega)⟩;obtain ⟨y,hy⟩:∃ y,ts[m0]?=some y:=⟨_,List.getElem?_eq_getElem (by omega)⟩;obtain ⟨g,hATe,hgB,hgC,hA⟩:=HTK.out.2 (by omega);subst hATe;have hcl:=qeI ts;have cy:=fun jj u hu=>hA.cell (qfQ ts m0 y hy jj u hu)
    have cx:=fun jj u hu=>qfQ ts k x hx jj u hu
    have c5:=cy 5 (.int .i64 y.o.kind) rfl;have c6:=cy 6 (.int .i64 y.o.amount) rfl;have c7:=cy 7 (.int .i64 y.o.units) rfl;rw [Nat.zero_add] at c5 c6 c7;have HC5:=hid c5;have HC6:=hid c6;have HC7:=hid c7;obtain ⟨P1,hP1⟩:∃ P,P=(cellsT ts).take (k*13+6):=⟨_,rfl⟩;obtain ⟨P3,hP3⟩:∃ P,P=(cellsT ts).drop (k*13+8):=⟨_,rfl⟩;have hlen13:k*13+13≤(cellsT ts).length:=by rw [hcl];omega
    have hl1:P1.length=k*13+6:=by rw [hP1,List.length_take];omega
    have hsp:cellsT ts=P1++([.int .i64 x.o.amount]++(.int .i64 x.o.units::P3)):=by
     have e6:=cx 6 (.int .i64 x.o.amount) rfl;have e7:=cx 7 (.int .i64 x.o.units) rfl
     have d1:(cellsT ts).drop (k*13+6)=.int .i64 x.o.amount::(cellsT ts).drop (k*13+7):=by
      rw [List.drop_eq_getElem_cons (by omega)];congr 1
      rw [List.getElem?_eq_getElem (by omega)] at e6;injection e6
     have d2:(cellsT ts).drop (k*13+7)=.int .i64 x.o.units::P3:=by
      rw [hP3,List.drop_eq_getElem_cons (by omega)];congr 1
      rw [List.getElem?_eq_getElem (by omega)] at e7;injection e7
     rw [hP1]
     conv=>lhs;rw [←List.take_append_drop (k*13+6) (cellsT ts)]
     rw [d1,d2];rfl
    obtain ⟨Q1,hQ1⟩:=nqx (P1.set (k*13+5) (.int .i64 y.o.kind))
    have hnew:cellsT (ts.set k { x with o:=likeO x.o y.o })=Q1++([.int .i64 y.o.amount]++(.int .i64 y.o.units::P3)):=by
     rw [qtP hx,hQ1,hP1,hP3]
     have t1:((cellsT ts).take (k*13+6)).set (k*13+5) (.int .i64 y.o.kind)=(cellsT ts).take (k*13+5)++[.int .i64 y.o.kind]:=by
      rw [List.take_add_one (l:=cellsT ts) (i:=k*13+5)];rw [List.getElem?_eq_getElem (by omega)];rw [List.set_append_right _ _ (by rw [List.length_take];omega)];rw [show k*13+5 - ((cellsT ts).take (k*13+5)).length=0 by rw [List.length_take];omega];rfl
     rw [t1];simp
    rw [hsp] at hA;have A1:=hid (show At w7 g 0 P1 from by have:=At.sub (xs:=[]) (ys:=P1) (k:=0) (by simpa using hA) rfl;exact this);have A2:=hid (show At w7 g (k*13+6) [.int .i64 x.o.amount] from At.sub3 hA hl1.symm)
    have A3:=hid (show At w7 g (k*13+7) (.int .i64 x.o.units::P3) from by
     have h:=At.sub (xs:=P1++[.int .i64 x.o.amount]) (ys:=.int .i64 x.o.units::P3) (zs:=[]) (k:=k*13+7) (by simpa using hA) (by rw [List.length_append,hl1];simp);exact h)
    have hql:Q1.length=k*13+6:=by rw [hQ1,List.length_set];exact hl1
    have hmn:m0<n:=by omega
    clear hm0 hkz;clear hA cy cx c5 c6 c7 hsp hP1 hP3;go_upto_region 8 with fail
    refine qzP [⟨false,0,66,30,g,0,3,49,Q1,k*13+5,[.int .i64 y.o.kind],P1⟩,⟨false,0,69,34,g,k*13+6,3,56,[.int .i64 y.o.amount],k*13+6,[.int .i64 y.o.amount],[.int .i64 x.o.amount]⟩,⟨false,0,72,38,g,k*13+7,3,63,(.int .i64 y.o.units::P3),k*13+7,[.int .i64 y.o.units],(.int .i64 x.o.units::P3)⟩] [(37,.slice (some ⟨g,0,none⟩) n qT),(38,.int .i64 (k:Int)),(39,.slice (some ⟨g,0,none⟩) n qT),(40,.int .i64 (k:Int)),(41,.slice (some ⟨g,0,none⟩) n qT),(42,.int .i64 (k:Int)),(43,.slice (some ⟨g,0,none⟩) n qT),(44,.int .i64 (k:Int)),(45,.int .i64 (m0:Int)),(46,.pointer (some ⟨g,m0*13,none⟩)),(47,.pointer (some ⟨g,m0*13,none⟩)),(48,.pointer (some ⟨g,m0*13+5,none⟩)),(49,.int .i64 y.o.kind),(50,.slice (some ⟨g,0,none⟩) n qT),(51,.int .i64 (k:Int)),(52,.int .i64 (m0:Int)),(53,.pointer (some ⟨g,m0*13,none⟩)),(54,.pointer (some ⟨g,m0*13,none⟩)),(55,.pointer (some ⟨g,m0*13+6,none⟩)),(56,.int .i64 y.o.amount),(57,.slice (some ⟨g,0,none⟩) n qT),(58,.int .i64 (k:Int)),(59,.int .i64 (m0:Int)),(60,.pointer (some ⟨g,m0*13,none⟩)),(61,.pointer (some ⟨g,m0*13,none⟩)),(62,.pointer (some ⟨g,m0*13+7,none⟩)),(63,.int .i64 y.o.units),(64,.pointer (some ⟨g,k*13,none⟩)),(65,.pointer (some ⟨g,k*13,none⟩)),(66,.pointer (some ⟨g,k*13+5,none⟩)),(67,.pointer (some ⟨g,k*13,none⟩)),(68,.pointer (some ⟨g,k*13,none⟩)),(69,.pointer (some ⟨g,k*13+6,none⟩)),(70,.pointer (some ⟨g,k*13,none⟩)),(71,.pointer (some ⟨g,k*13,none⟩)),(72,.pointer (some ⟨g,k*13+7,none⟩))] _ (by simp only [zz4,zz5,zq];rfl) (by kernel_rfl) (by kernel_rfl) ?_ ?_ ?_ ?_ ?_ ?_ ?_ ?_ ?_
    ·intro W' hW';have q5:=qcU HC5.out hW';have q6:=qcU HC6.out hW';have q7:=qcU HC7.out hW';refine fo4 ?_ ?_ ?_ ?_<|fo4 ?_ ?_ ?_ ?_<|fo4 ?_ ?_ ?_ ?_<|fxc q5 (fun W h=>by simp [loadVar,h,go_sem]) rfl<|fo4 ?_ ?_ ?_ ?_<|fo2 ?_ ?_<|fxc q6 (fun W h=>by simp [loadVar,h,go_sem]) rfl<|fo4 ?_ ?_ ?_ ?_<|fo2 ?_ ?_<|fxc q7 (fun W h=>by simp [loadVar,h,go_sem]) rfl<|fo3 ?_ ?_ ?_<|fxs rfl<|fo3 ?_ ?_ ?_<|fxs rfl<|fo3 ?_ ?_ ?_<|fxs rfl<|fxn;all_goals (go_big_quiet_step (fail);exact wqn rfl)
    ·intro W' hK';refine fxi ?_<|fxi ?_<|fxi ?_<|fxi ?_<|fxi ?_<|fxi ?_<|fxi ?_<|fxi ?_<|fxi ?_<|fxi ?_<|fxi ?_<|fxi ?_<|fxs (by kernel_rfl)<|fxi ?_<|fxi ?_<|fxi ?_<|fxi ?_<|fxi ?_<|fxi ?_<|fxs (by kernel_rfl)<|fxi ?_<|fxi ?_<|fxi ?_<|fxi ?_<|fxi ?_<|fxi ?_<|fxs (by kernel_rfl)<|fxi ?_<|fxi ?_<|fxi ?_<|fxs (by kernel_rfl)<|fxi ?_<|fxi ?_<|fxi ?_<|fxs (by kernel_rfl)<|fxi ?_<|fxi ?_<|fxi ?_<|fxs (by kernel_rfl)<|fxn;all_goals (first|(refine .inr ?_;go_big_quiet_step (fail);exact wqn rfl)|exact .inl (by kernel_rfl))
    ·exact oP _ _ (bnc) (oP _ _ (bnc) (oP _ _ (bnc) (oN)))
    ·exact oP _ _ (fun _=>⟨A1.out.lt,rfl,At.roomC A1.out hQ1⟩) (oP _ _ (fun _=>⟨A2.out.lt,rfl,A2.out.there,A2.out.range⟩) (oP _ _ (fun _=>⟨A3.out.lt,rfl,A3.out.there,A3.out.range⟩) (oN)))
    ·intro q hq r hr hqn hrn e;simp only [List.mem_cons,List.not_mem_nil,or_false] at hq hr;rcases hq with rfl|rfl|rfl<;>rcases hr with rfl|rfl|rfl<;>first|exact .inl rfl|(right;simp only [hql,List.length_cons,List.length_nil];omega)
    ·exact oP _ _ (rfl) (oP _ _ (rfl) (oP _ _ (rfl) (oN)))
    ·intro q hq;simp only [List.mem_cons,List.not_mem_nil,or_false] at hq;rcases hq with rfl|rfl|rfl<;>simp only [hql,hl1,List.length_cons,List.length_nil]<;>omega
    ·exact oP _ _ (qeK rfl rfl Tryz.infoZ rfl (by rw [hl1];omega) hQ1) (oP _ _ (qvG (k:=0) rfl rfl Tryz.infoZ rfl (by simp) rfl) (oP _ _ (qvG (k:=0) rfl rfl Tryz.infoZ rfl (by simp) rfl) (oN)))
    intro β wx E;simp only [nP,List.foldl_cons,List.foldl_nil,Bool.false_eq_true,if_false]
    have hg8:w7.grownBy wx (some g):=⟨E.os,E.tape,E.output,E.big,fun q hq hne=>E.keep q hq fun p hp _ e=>by
     simp only [List.mem_cons,List.not_mem_nil,or_false] at hp;rcases hp with rfl|rfl|rfl<;>exact hne (by rw [←e])⟩
    have o1:=E.old _ mms rfl;have o2:=E.old _ (List.mem_cons_of_mem _ mms) rfl;have o3:=E.old _ (List.mem_cons_of_mem _ (List.mem_cons_of_mem _ mms)) rfl;have hgl:g<wx.heap.size:=Nat.lt_of_lt_of_le A1.out.lt E.big
    have hcells:At wx g 0 (cellsT (ts.set k { x with o:=likeO x.o y.o })):=by
     rw [hnew];exact At.join ⟨o1.2,o1.1,hgl⟩ (by rw [hql,Nat.zero_add]) (At.join ⟨o2.2,o2.1,hgl⟩ rfl ⟨o3.2,o3.1,hgl⟩)
    have htl2:(ts.set k { x with o:=likeO x.o y.o }).length=n:=by rw [List.length_set];exact htl
    have hm2:MadeTs 8 (ts.set k { x with o:=likeO x.o y.o }):=⟨by rw [htl2];exact hn8,fun q z hq=>by
     by_cases e:k=q
     ·subst e;rw [List.getElem?_set_self (by omega)] at hq;injection hq with hq
      rw [←hq];exact qxF (HM.out.2 k x hx) (HM.out.2 m0 y hy)
     ·rw [List.getElem?_set_ne e] at hq;exact HM.out.2 q z hq⟩
    have hown:=Own.kept (u:=.slice (some ⟨g,0,none⟩) n qT) HO.out hg8 (fun q hq e=>by
     have h1:=HAB.out q hq;have h2:g=q:=by simpa [Value.ownBlock] using e
     omega)
    have HZ:=hid (show (ts.set k { x with o:=likeO x.o y.o }).length=n∧MadeTs 8 (ts.set k { x with o:=likeO x.o y.o })∧TkW B b8 n qT (some ⟨g,0,none⟩) (ts.set k { x with o:=likeO x.o y.o }) wx∧Drew w1 bt wx∧At wx b6 0 cp∧At wx b7 0 cq∧At wx b8 0 [.slice A nS q0]∧Own wx w3.heap.size (.slice A nS q0) l from ⟨htl2,hm2,TkW.mk' htl2.symm (by omega) hgB hgC hcells,D6.out.gro hg8 (by omega) (by omega),Ab6.out.gro hg8 (by omega),Ab7.out.gro hg8 (by omega),Ab8.out.gro hg8 (by omega),hown⟩);clear E hg8 o1 o2 o3 hcells htl2 hm2 hown A1 A2 A3 hnew hQ1 hlen13 hcl;go_wp2
    go_roundg (gk - 1)
    case measure=>omega
    case rel=>exact ⟨k+1,_,by go_num,by omega,by omega,by omega,HZ.out⟩
  ·have hltI:¬(k:Int)<(n:Int):=by omega
   have HNT:=hid (show n=ts.length from htl.symm);have HTS:=hid (show TksAt wr (.slice AT n qT) ts from HTK.out.1);replace HO:=hid (show LotsAt wr (.slice A nS q0) l from HO.out.lots);have HB6:=hid (Drew.fram D6.out HBT.out HZB.out);have HTG:=hid HTK.out.2;clear hmk hk1 hk2 hbw HTL htl D6 HTK;go_upto_region 9 with fail
   obtain ⟨hm0,hm1⟩:=qwW pz 7 (by decide);obtain ⟨pl,hpl⟩:∃ pl:Nat,modI pz 7=(pl:Int):=⟨(modI pz 7).toNat,by omega⟩;have hpl6:pl≤6:=by omega
   have HPL:=hid hpl;clear hpl hm0 hm1;obtain ⟨hFp,hFq⟩:=HPQ.out;obtain ⟨hT,hOK,hn8⟩:=jaZ HM.out (by decide);have hCh:=qtS HG.out (by have:=HL6.out;omega);have HCH:=hid hCh;have HOK:=hid hOK;have hn8':n≤8:=by rw [HNT.out];exact hn8
   obtain ⟨RD,hRD⟩:=nqx (dealL l ts p q pl 0);have HRD:=hid hRD
   have HDE:=hid (fun W (hW:Below wr.heap.size wr W)=>show Calls Tryz.prog 19 #[.agg #[.slice A nS q0],.slice AT n qT,.agg cp.toArray,.agg cq.toArray,.int .i64 (pl:Int),.int .i64 0] W (DealP RD W) by
    rw [HRD.out,HNS.out,HNT.out];exact qjR (pl:=pl) (z:=(pl:Int)) (by rw [V_cp.out];rfl) (by rw [V_cq.out];rfl) hFp.pc hFq.pc rfl (by omega) (by decide) (by decide) hCh hT HNIL.out W (by have:=HO.out.below hW;rwa [HNS.out] at this) (by have:=Rd.below HTS.out hW;rwa [HNT.out] at this))
   clear hRD hCh hOK hT hn8;refine qdS [(0,74,.agg #[.slice A nS q0]),(1,75,.slice AT n qT),(2,76,.agg cp.toArray),(3,77,.agg cq.toArray),(4,78,.int .i64 pz)] [(5,[])] 6 11 12 [7,8,9,10] [13,14] 80 11 40 (.tmp 11) (.tmp 81) #[.slice none 0 0] undef (by kernel_rfl) (by kernel_rfl) (by rfl) (by rfl) (by rfl) (by rfl) (by rfl) (by rfl) (by rfl) (by rfl) (by rfl) (by rfl) (by rfl) Tryz.layRg (by kernel_rfl) (by simp only [putsA,List.foldl_cons,List.foldl_nil,zq]) ?_ ?_
   ·have r0:=fun V (h:Below wr.heap.size wr V)=>(Ab8.out.below h).read (P:=Tryz.prog) Tryz.underlying40 rfl (by kernel_rfl)
    have r1:=fun V (h:Below wr.heap.size wr V)=>(Ab6.out.below h).read (P:=Tryz.prog) Tryz.underlying27 rfl (qR V_cp.out)
    have r2:=fun V (h:Below wr.heap.size wr V)=>(Ab7.out.below h).read (P:=Tryz.prog) Tryz.underlying27 rfl (qR V_cq.out)
    refine ⟨⟨_,rfl,rfl,.inl ⟨by rfl,fun V hV=>qaF rfl rfl (r0 V hV)⟩⟩,?_⟩;simp only [zq];refine ⟨⟨_,rfl,rfl,.inl ⟨by rfl,fun _ _=>by rfl⟩⟩,?_⟩;simp only [zq];refine ⟨⟨_,rfl,rfl,.inl ⟨by rfl,fun V hV=>qaF rfl rfl (r1 V hV)⟩⟩,?_⟩;simp only [zq];refine ⟨⟨_,rfl,rfl,.inl ⟨by rfl,fun V hV=>qaF rfl rfl (r2 V hV)⟩⟩,?_⟩;simp only [zq];refine ⟨⟨_,rfl,rfl,.inl ⟨by rfl,fun _ _=>by rfl⟩⟩,?_⟩;simp only [zq];exact trivial
   simp only [putsA,List.foldl_cons,List.foldl_nil,zq];refine ⟨_,_,by rfl,by rfl,by rfl,fun v _=>v=.int .i64 (pl:Int),fun _ _ _ h=>h,fun u W hW _=>GY.callOf (f:=18) (args:=#[.int .i64 pz,.int .i64 7]) (by simp [execOp,Act.eval,go_sem]) ((qwV pz 7 W (by decide)).mono ?_),?_⟩
   ·rintro e w9 ⟨rfl,rfl⟩;exact ⟨_,rfl,Below.refl _ _,by rw [HPL.out]⟩
   rintro v ⟨_,rfl⟩;refine ⟨[],_,rfl,fun _=>trivial,fun u=>by simp only [putsA,List.foldl_cons,List.foldl_nil,zq];rfl,fun u p=>by simp only [putsA,List.foldl_cons,List.foldl_nil,zq],?_⟩;unfold chY TailH;refine ⟨fun b v W=>DlR RD b v W,fun u W hW hK=>GY.callOf (f:=19) (args:=#[.agg #[.slice A nS q0],.slice AT n qT,.agg cp.toArray,.agg cq.toArray,.int .i64 (pl:Int),.int .i64 0]) (by simp [execOp,Act.eval,go_sem]) ((HDE.out W hW).mono ?_),fun b v x y h hb=>h.upB hb,fun b v x y X h hg hX=>h.upG hg hX,?_⟩
   ·rintro e w9 h;exact h.dlr
   rintro b v2 ⟨_,⟨A1,n1,q1,vn,ec,rfl⟩,_⟩;refine ⟨[(7,73,.tuple #[.agg #[.slice A1 n1 q1],vn,.int .i64 ec]),(8,81,.agg #[.slice A1 n1 q1]),(9,82,vn),(10,83,.int .i64 ec)],[(13,12,vn),(14,13,.int .i64 ec)],#[.slice A1 n1 q1],_,rfl,rfl,fun u=>?_,fun u=>by simp only [putsA,List.foldl_cons,List.foldl_nil,zq];rfl,fun u p=>by simp only [putsA,List.foldl_cons,List.foldl_nil,zq],fun p=>by rfl,fun p=>by rfl,by rfl,by simp [Value.oneCell'],fun X W hW hR hA=>⟨?_,?_⟩⟩
   ·skip
    refine ⟨⟨_,rfl,rfl,.inl ⟨by rfl,fun _ _=>by rfl⟩⟩,?_⟩;simp only [zq];refine ⟨⟨_,rfl,rfl,.inl ⟨by rfl,fun _ _=>by rfl⟩⟩,?_⟩;simp only [zq];refine ⟨⟨_,rfl,rfl,.inl ⟨by rfl,fun _ _=>by rfl⟩⟩,?_⟩;simp only [zq];refine ⟨⟨_,rfl,rfl,.inl ⟨by rfl,fun _ _=>by rfl⟩⟩,?_⟩;simp only [zq];exact trivial
   ·skip
    refine ⟨⟨_,rfl,rfl,.inl ⟨by rfl,fun _ _=>by rfl⟩⟩,?_⟩;simp only [zq];refine ⟨⟨_,rfl,rfl,.inl ⟨by rfl,fun _ _=>by rfl⟩⟩,?_⟩;simp only [zq];exact trivial
   simp only [putsA,List.foldl_cons,List.foldl_nil,zq];have HBW:=hid (HB6.out.trans (hW.mono HB6.out.size))
   cases RD with
   | error c =>
    have hc:=jcG HRD.out.symm;obtain ⟨_,_,he⟩:=tup3 hR.2;injection he with _ he
    subst he;clear hR hA hW;rcases hc with rfl|rfl|rfl|rfl
    all_goals go_wp2_with fail
    all_goals refine (qsP _).mono ?_
    all_goals rintro e w9 ⟨rfl,hb9⟩
    all_goals go_wp2
    all_goals go_ret
    all_goals exact ⟨rfl,HBW.out.trans (hb9.mono HBW.out.size)⟩
   | ok rr =>
    obtain ⟨l',N⟩:=rr;obtain ⟨v',bn,he,hOw,hNm,hbn1,hbn2⟩:=hR.2;obtain ⟨e1,e2,e3⟩:=tup3 he;injection e3 with _ e3
    subst e3;obtain ⟨k2,k3⟩:=qyK hFp.pc hFq.pc hpl6 (by decide) (by decide) HCH.out HOK.out HRD.out.symm;rw [←HNT.out] at k2;rw [k2] at e2;subst e2;have HFN:=hid k3;have HNM:=hid (show NtsAt W bn N from hNm)
    have HKW:=hid (show 0<n→∃ g,AT=some ⟨g,0,none⟩∧At W g 0 (cellsT ts) from fun h=>by
     obtain ⟨g,e,_,_,h'⟩:=HTG.out h;exact ⟨g,e,h'.below hW⟩)
    clear hR hA hW hOw hNm k2 k3 e1 he hbn1 hbn2 HDE HRD HM HG HPL;obtain ⟨hb',hm⟩:True∧True:=⟨trivial,trivial⟩;clear hb' hm;go_wp2
    go_loopg [14,15,16,17] n (fun m iv _ _ _ wz=>∃ k:Nat,iv=.int .i64 k∧k≤n∧n≤m+k∧Below W.heap.size W wz)
    case atStart=>exact ⟨0,rfl,by omega,by omega,Below.refl _ _⟩
    case round =>
     obtain ⟨k,rfl,hk,hmk,hb⟩:=hrel;have HBC:=hid hb;clear hb;obtain ⟨G0,hG0⟩:=nqx gk;have HG0:=hid hG0;clear hG0;by_cases hlt:k<n
     ·have hkI:(k:Int)<(n:Int):=by omega
      obtain ⟨x,hx⟩:∃ x,ts[k]?=some x:=⟨_,List.getElem?_eq_getElem (by have:=HNT.out;omega)⟩;obtain ⟨xn,hxn,hfx⟩:=HFN.out k x hx;have HFX:=hid hfx;have HXN:=hid hxn;have HXX:=hid hx;clear hfx hxn hx;go_wp2
      go_loopg [15,16,17] n (fun m jv _ _ wz=>∃ j:Nat,jv=.int .i64 j∧j≤n∧n≤m+j∧Below W.heap.size W wz)
      case atStart=>exact ⟨0,rfl,by omega,by omega,HBC.out⟩
      case round =>
       obtain ⟨j,rfl,hj,hmj,hb⟩:=hrel;have HBJ:=hid hb;clear hb;by_cases hlj:j<n
       ·have hjI:(j:Int)<(n:Int):=by omega
        obtain ⟨y,hy⟩:∃ y,ts[j]?=some y:=⟨_,List.getElem?_eq_getElem (by have:=HNT.out;omega)⟩;obtain ⟨yn,hyn,hfy⟩:=HFN.out j y hy;obtain ⟨g,hATe,hA⟩:=HKW.out (by omega);subst hATe;have HFT:=hid (qyB hFp.pc hFq.pc HFX.out hfy);have hx:=HXX.out;have hxn:=HXN.out;obtain ⟨vx,hnx,_⟩:=(NtsAt.below HNM.out HBJ.out) k xn hxn;obtain ⟨vy,hny,_⟩:=(NtsAt.below HNM.out HBJ.out) j yn hyn;obtain ⟨cx,V_cx⟩:=nvx (x.o.cells);obtain ⟨cy,V_cy⟩:=nvx (y.o.cells);have AX:=hid (show At wr g (k*13) cx by rw [V_cx.out];exact (At.ord hA hx).below HBJ.out);have AY:=hid (show At wr g (j*13) cy by rw [V_cy.out];exact (At.ord hA hy).below HBJ.out);have HUX:=hid (show wr.cell? ⟨bn,k*7+4,none⟩=some (.int .i64 xn.units) by have h:=hnx.cell (j:=4) rfl;exact h);have HMX:=hid (show wr.cell? ⟨bn,k*7+5,none⟩=some (.int .i64 xn.money) by have h:=hnx.cell (j:=5) rfl;exact h);have HUY:=hid (show wr.cell? ⟨bn,j*7+4,none⟩=some (.int .i64 yn.units) by have h:=hny.cell (j:=4) rfl;exact h);have HMY:=hid (show wr.cell? ⟨bn,j*7+5,none⟩=some (.int .i64 yn.money) by have h:=hny.cell (j:=5) rfl;exact h);clear hx hxn hnx hny hy hyn hfy hA;go_upto_region 20 with fail
        have FR:=hid (Fr.start wr);have FR0:=hid FR.out.le;refine wT [⟨true,10,16,12,0,0,58,120,cx,0,cx,[]⟩,⟨true,11,17,13,0,0,58,125,cy,0,cy,[]⟩] [(116,.slice (some ⟨g,0,none⟩) n qT),(117,iT k),(118,pT g (k*13)),(119,pT g (k*13)),(120,aT cx),(121,.slice (some ⟨g,0,none⟩) n qT),(122,iT j),(123,pT g (j*13)),(124,pT g (j*13)),(125,aT cy)] (by simp only [zu];rfl) (by kernel_rfl) rfl ?_ ?_ ?_ ?_
        ·intro W' hW';refine fo4 ?_ ?_ ?_ ?_<|fxl (abl AX hW') (qkC V_cx.out) Tryz.underlying58 rfl rfl<|fo4 ?_ ?_ ?_ ?_<|fxl (abl AY hW') (qkC V_cy.out) Tryz.underlying58 rfl rfl<|fxs rfl<|fxs rfl<|fxs rfl<|fxs rfl<|fxn;all_goals (go_big_quiet_step (fail);exact wqn rfl)
        ·exact oP _ _ (Tryz.alOd (qkC V_cx.out)) (oP _ _ (Tryz.alOd (qkC V_cy.out)) (oN))
        ·exact oP _ _ (stw rfl (qkC V_cx.out) (jgV V_cx.out) (fun _=>rfl)) (oP _ _ (stw rfl (qkC V_cy.out) (jgV V_cy.out) (fun _=>rfl)) (oN))
        intro β wy E;replace FR:=fnf FR E rfl;obtain ⟨b16,hb16,eb16⟩:=nwb E mms;have lg_b16:g<b16:=ltb AX eb16.1;have hZb16:wr.heap.size≤b16:=by have h1:=eb16.1;have h2:=FR0.out;omega
        obtain ⟨b17,hb17,eb17⟩:=nwb E (List.mem_cons_of_mem _ mms);have lg_b17:g<b17:=ltb AX eb17.1;have hZb17:wr.heap.size≤b17:=by have h1:=eb17.1;have h2:=FR0.out;omega
        have nb16_b17:b16≠b17:=fun e=>absurd (E.apart _ mms _ (List.mem_cons_of_mem _ mms) rfl rfl (by rw [hb16,hb17] at e;exact e)) (show ¬(10:Nat)=11 by decide)
        have Ab16:=hid eb16.2;have Ab17:=hid eb17.2;simp only [nP,zu];rw [←hb16];rw [←hb17];clear E eb16 hb16 eb17 hb17;have HBY:=hid (HBJ.out.trans (FR.out.below.mono HBJ.out.size));have c1:wy.cell? ⟨b16,5,none⟩=some (.int .i64 x.o.kind):=by have h:=Ab16.out.cell (j:=5) (v:=.int .i64 x.o.kind) (by rw [V_cx.out];rfl);rwa [Nat.zero_add] at h
        have c2:wy.cell? ⟨b16,6,none⟩=some (.int .i64 x.o.amount):=by have h:=Ab16.out.cell (j:=6) (v:=.int .i64 x.o.amount) (by rw [V_cx.out];rfl);rwa [Nat.zero_add] at h
        have c3:wy.cell? ⟨b17,5,none⟩=some (.int .i64 y.o.kind):=by have h:=Ab17.out.cell (j:=5) (v:=.int .i64 y.o.kind) (by rw [V_cy.out];rfl);rwa [Nat.zero_add] at h
        have c4:wy.cell? ⟨b17,6,none⟩=some (.int .i64 y.o.amount):=by have h:=Ab17.out.cell (j:=6) (v:=.int .i64 y.o.amount) (by rw [V_cy.out];rfl);rwa [Nat.zero_add] at h
        have c5:=qcU HUX.out FR.out.below;have c6:=qcU HMX.out FR.out.below;have c7:=qcU HUY.out FR.out.below;have c8:=qcU HMY.out FR.out.below;obtain ⟨xk,hxk⟩:=nqx (x.o.kind);obtain ⟨yk,hyk⟩:=nqx (y.o.kind);have ft:=HFT.out;rw [←hxk,←hyk] at ft;rw [←hxk] at c1;rw [←hyk] at c3;have HFX2:=hid ft;clear ft FR hxk hyk;by_cases e0:xk=yk
        ·subst e0;obtain ⟨f1,f2⟩:=HFX2.out rfl;have F1:=hid f1;have F2:=hid f2;have H2:=hid c2;have H4:=hid c4;have H5:=hid c5;have H6:=hid c6;have H7:=hid c7;have H8:=hid c8;clear f1 f2 c2 c4 c5 c6 c7 c8;have FR:=hid (Fr.start wy);by_cases k1:xk=1
         ·subst k1;by_cases ha:x.o.amount≤y.o.amount
          ·have hgt:¬yn.units<xn.units:=fun h=>F1.out ⟨rfl,ha,h⟩
           have H1:=hid c1;have H3:=hid c3;go_upto_region 22 with fail
           clear c1 c3;refine wE [(131,pT b16 5),(132,iT 1),(133,bT),(134,bT),(135,pT b16 6),(136,iT x.o.amount),(137,pT b17 6),(138,iT y.o.amount),(139,bT),(140,bT),(141,bT),(142,.slice (some ⟨bn,0,none⟩) n n),(143,iT k),(144,pT bn (k*7)),(145,pT bn (k*7+4)),(146,iT xn.units),(147,.slice (some ⟨bn,0,none⟩) n n),(148,iT j),(149,pT bn (j*7)),(150,pT bn (j*7+4)),(151,iT yn.units),(152,bF),(153,bF)] (by simp only [zu];rfl) (by kernel_rfl) ?_ ?_
           ·intro W' hW';have d1:=fun p os=>qaB (qcU (qcU H1.out FR.out.below) hW') p os
            have d2:=fun p os=>qaB (qcU (qcU H2.out FR.out.below) hW') p os
            have d3:=fun p os=>qaB (qcU (qcU H3.out FR.out.below) hW') p os
            have d4:=fun p os=>qaB (qcU (qcU H4.out FR.out.below) hW') p os
            have d5:=fun p os=>qaB (qcU (qcU H5.out FR.out.below) hW') p os
            have d6:=fun p os=>qaB (qcU (qcU H6.out FR.out.below) hW') p os
            have d7:=fun p os=>qaB (qcU (qcU H7.out FR.out.below) hW') p os
            have d8:=fun p os=>qaB (qcU (qcU H8.out FR.out.below) hW') p os
            iterate 23 (refine fxo ?_ ?_;(go_big_quiet_step (fail);(try simp only [zq]);exact wqn rfl))
            exact fxn
           intro β wu E;replace FR:=fnf FR E rfl;simp only [nP,zu];go_upto_region 24 with fail
           refine wE [(154,pT b16 5),(155,iT 1),(156,bF),(157,bF),(158,pT b16 5),(159,iT 1),(160,bF),(161,bF),(162,bF),(163,undef),(164,undef),(165,undef),(166,undef),(167,undef),(168,undef),(169,undef),(170,undef),(171,undef),(172,undef),(173,undef),(174,bF),(175,bF),(176,undef),(177,undef),(178,undef),(179,undef),(180,undef),(181,undef),(182,undef),(183,undef),(184,undef),(185,undef),(186,undef),(187,bF)] (by simp only [zu];rfl) (by kernel_rfl) ?_ ?_
           ·intro W' hW';have d1:=fun p os=>qaB (qcU (qcU H1.out FR.out.below) hW') p os
            have d2:=fun p os=>qaB (qcU (qcU H2.out FR.out.below) hW') p os
            have d3:=fun p os=>qaB (qcU (qcU H3.out FR.out.below) hW') p os
            have d4:=fun p os=>qaB (qcU (qcU H4.out FR.out.below) hW') p os
            have d5:=fun p os=>qaB (qcU (qcU H5.out FR.out.below) hW') p os
            have d6:=fun p os=>qaB (qcU (qcU H6.out FR.out.below) hW') p os
            have d7:=fun p os=>qaB (qcU (qcU H7.out FR.out.below) hW') p os
            have d8:=fun p os=>qaB (qcU (qcU H8.out FR.out.below) hW') p os
            iterate 34 (refine fxo ?_ ?_;(go_big_quiet_step (fail);(try simp only [zq]);exact wqn rfl))
            exact fxn
           intro β wv E;replace FR:=fnf FR E rfl;simp only [nP,zu];have HBQ:=hid (HBY.out.trans (FR.out.below.mono HBY.out.size));clear FR;go_wp2
           go_roundg (gk - 1)
           case measure=>omega
           case rel=>exact ⟨j+1,by go_num,by omega,by omega,HBQ.out⟩
          ·skip
           have H1:=hid c1;have H3:=hid c3;go_upto_region 22 with fail
           clear c1 c3;refine wE [(131,pT b16 5),(132,iT 1),(133,bT),(134,bT),(135,pT b16 6),(136,iT x.o.amount),(137,pT b17 6),(138,iT y.o.amount),(139,bF),(140,bF),(141,bF),(142,undef),(143,undef),(144,undef),(145,undef),(146,undef),(147,undef),(148,undef),(149,undef),(150,undef),(151,undef),(152,undef),(153,bF)] (by simp only [zu];rfl) (by kernel_rfl) ?_ ?_
           ·intro W' hW';have d1:=fun p os=>qaB (qcU (qcU H1.out FR.out.below) hW') p os
            have d2:=fun p os=>qaB (qcU (qcU H2.out FR.out.below) hW') p os
            have d3:=fun p os=>qaB (qcU (qcU H3.out FR.out.below) hW') p os
            have d4:=fun p os=>qaB (qcU (qcU H4.out FR.out.below) hW') p os
            have d5:=fun p os=>qaB (qcU (qcU H5.out FR.out.below) hW') p os
            have d6:=fun p os=>qaB (qcU (qcU H6.out FR.out.below) hW') p os
            have d7:=fun p os=>qaB (qcU (qcU H7.out FR.out.below) hW') p os
            have d8:=fun p os=>qaB (qcU (qcU H8.out FR.out.below) hW') p os
            iterate 23 (refine fxo ?_ ?_;(go_big_quiet_step (fail);(try simp only [zq]);exact wqn rfl))
            exact fxn
           intro β wu E;replace FR:=fnf FR E rfl;simp only [nP,zu];go_upto_region 24 with fail
           refine wE [(154,pT b16 5),(155,iT 1),(156,bF),(157,bF),(158,pT b16 5),(159,iT 1),(160,bF),(161,bF),(162,bF),(163,undef),(164,undef),(165,undef),(166,undef),(167,undef),(168,undef),(169,undef),(170,undef),(171,undef),(172,undef),(173,undef),(174,bF),(175,bF),(176,undef),(177,undef),(178,undef),(179,undef),(180,undef),(181,undef),(182,undef),(183,undef),(184,undef),(185,undef),(186,undef),(187,bF)] (by simp only [zu];rfl) (by kernel_rfl) ?_ ?_
           ·intro W' hW';have d1:=fun p os=>qaB (qcU (qcU H1.out FR.out.below) hW') p os
            have d2:=fun p os=>qaB (qcU (qcU H2.out FR.out.below) hW') p os
            have d3:=fun p os=>qaB (qcU (qcU H3.out FR.out.below) hW') p os
            have d4:=fun p os=>qaB (qcU (qcU H4.out FR.out.below) hW') p os
            have d5:=fun p os=>qaB (qcU (qcU H5.out FR.out.below) hW') p os
            have d6:=fun p os=>qaB (qcU (qcU H6.out FR.out.below) hW') p os
            have d7:=fun p os=>qaB (qcU (qcU H7.out FR.out.below) hW') p os
            have d8:=fun p os=>qaB (qcU (qcU H8.out FR.out.below) hW') p os
            iterate 34 (refine fxo ?_ ?_;(go_big_quiet_step (fail);(try simp only [zq]);exact wqn rfl))
            exact fxn
           intro β wv E;replace FR:=fnf FR E rfl;simp only [nP,zu];have HBQ:=hid (HBY.out.trans (FR.out.below.mono HBY.out.size));clear FR;go_wp2
           go_roundg (gk - 1)
           case measure=>omega
           case rel=>exact ⟨j+1,by go_num,by omega,by omega,HBQ.out⟩
         ·by_cases k2:xk=2∨xk=3
          ·by_cases hu:xn.units≤yn.units
           ·have hgt:¬yn.money<xn.money:=fun h=>F2.out ⟨k2,hu,h⟩
            clear k1;rcases k2 with rfl|rfl
            ·skip
             have H1:=hid c1;have H3:=hid c3;go_upto_region 22 with fail
             clear c1 c3;refine wE [(131,pT b16 5),(132,iT 2),(133,bF),(134,bF),(135,undef),(136,undef),(137,undef),(138,undef),(139,undef),(140,bF),(141,bF),(142,undef),(143,undef),(144,undef),(145,undef),(146,undef),(147,undef),(148,undef),(149,undef),(150,undef),(151,undef),(152,undef),(153,bF)] (by simp only [zu];rfl) (by kernel_rfl) ?_ ?_
             ·intro W' hW';have d1:=fun p os=>qaB (qcU (qcU H1.out FR.out.below) hW') p os
              have d2:=fun p os=>qaB (qcU (qcU H2.out FR.out.below) hW') p os
              have d3:=fun p os=>qaB (qcU (qcU H3.out FR.out.below) hW') p os
              have d4:=fun p os=>qaB (qcU (qcU H4.out FR.out.below) hW') p os
              have d5:=fun p os=>qaB (qcU (qcU H5.out FR.out.below) hW') p os
              have d6:=fun p os=>qaB (qcU (qcU H6.out FR.out.below) hW') p os
              have d7:=fun p os=>qaB (qcU (qcU H7.out FR.out.below) hW') p os
              have d8:=fun p os=>qaB (qcU (qcU H8.out FR.out.below) hW') p os
              iterate 23 (refine fxo ?_ ?_;(go_big_quiet_step (fail);(try simp only [zq]);exact wqn rfl))
              exact fxn
             intro β wu E;replace FR:=fnf FR E rfl;simp only [nP,zu];go_upto_region 24 with fail
             refine wE [(154,pT b16 5),(155,iT 2),(156,bT),(157,bT),(158,undef),(159,undef),(160,undef),(161,bT),(162,bT),(163,.slice (some ⟨bn,0,none⟩) n n),(164,iT k),(165,pT bn (k*7)),(166,pT bn (k*7+4)),(167,iT xn.units),(168,.slice (some ⟨bn,0,none⟩) n n),(169,iT j),(170,pT bn (j*7)),(171,pT bn (j*7+4)),(172,iT yn.units),(173,bT),(174,bT),(175,bT),(176,.slice (some ⟨bn,0,none⟩) n n),(177,iT k),(178,pT bn (k*7)),(179,pT bn (k*7+5)),(180,iT xn.money),(181,.slice (some ⟨bn,0,none⟩) n n),(182,iT j),(183,pT bn (j*7)),(184,pT bn (j*7+5)),(185,iT yn.money),(186,bF),(187,bF)] (by simp only [zu];rfl) (by kernel_rfl) ?_ ?_
             ·intro W' hW';have d1:=fun p os=>qaB (qcU (qcU H1.out FR.out.below) hW') p os
              have d2:=fun p os=>qaB (qcU (qcU H2.out FR.out.below) hW') p os
              have d3:=fun p os=>qaB (qcU (qcU H3.out FR.out.below) hW') p os
              have d4:=fun p os=>qaB (qcU (qcU H4.out FR.out.below) hW') p os
              have d5:=fun p os=>qaB (qcU (qcU H5.out FR.out.below) hW') p os
              have d6:=fun p os=>qaB (qcU (qcU H6.out FR.out.below) hW') p os
              have d7:=fun p os=>qaB (qcU (qcU H7.out FR.out.below) hW') p os
              have d8:=fun p os=>qaB (qcU (qcU H8.out FR.out.below) hW') p os
              iterate 34 (refine fxo ?_ ?_;(go_big_quiet_step (fail);(try simp only [zq]);exact wqn rfl))
              exact fxn
             intro β wv E;replace FR:=fnf FR E rfl;simp only [nP,zu];have HBQ:=hid (HBY.out.trans (FR.out.below.mono HBY.out.size));clear FR;go_wp2
             go_roundg (gk - 1)
             case measure=>omega
             case rel=>exact ⟨j+1,by go_num,by omega,by omega,HBQ.out⟩
            ·skip
             have H1:=hid c1;have H3:=hid c3;go_upto_region 22 with fail
             clear c1 c3;refine wE [(131,pT b16 5),(132,iT 3),(133,bF),(134,bF),(135,undef),(136,undef),(137,undef),(138,undef),(139,undef),(140,bF),(141,bF),(142,undef),(143,undef),(144,undef),(145,undef),(146,undef),(147,undef),(148,undef),(149,undef),(150,undef),(151,undef),(152,undef),(153,bF)] (by simp only [zu];rfl) (by kernel_rfl) ?_ ?_
             ·intro W' hW';have d1:=fun p os=>qaB (qcU (qcU H1.out FR.out.below) hW') p os
              have d2:=fun p os=>qaB (qcU (qcU H2.out FR.out.below) hW') p os
              have d3:=fun p os=>qaB (qcU (qcU H3.out FR.out.below) hW') p os
              have d4:=fun p os=>qaB (qcU (qcU H4.out FR.out.below) hW') p os
              have d5:=fun p os=>qaB (qcU (qcU H5.out FR.out.below) hW') p os
              have d6:=fun p os=>qaB (qcU (qcU H6.out FR.out.below) hW') p os
              have d7:=fun p os=>qaB (qcU (qcU H7.out FR.out.below) hW') p os
              have d8:=fun p os=>qaB (qcU (qcU H8.out FR.out.below) hW') p os
              iterate 23 (refine fxo ?_ ?_;(go_big_quiet_step (fail);(try simp only [zq]);exact wqn rfl))
              exact fxn
             intro β wu E;replace FR:=fnf FR E rfl;simp only [nP,zu];go_upto_region 24 with fail
             refine wE [(154,pT b16 5),(155,iT 3),(156,bF),(157,bF),(158,pT b16 5),(159,iT 3),(160,bT),(161,bT),(162,bT),(163,.slice (some ⟨bn,0,none⟩) n n),(164,iT k),(165,pT bn (k*7)),(166,pT bn (k*7+4)),(167,iT xn.units),(168,.slice (some ⟨bn,0,none⟩) n n),(169,iT j),(170,pT bn (j*7)),(171,pT bn (j*7+4)),(172,iT yn.units),(173,bT),(174,bT),(175,bT),(176,.slice (some ⟨bn,0,none⟩) n n),(177,iT k),(178,pT bn (k*7)),(179,pT bn (k*7+5)),(180,iT xn.money),(181,.slice (some ⟨bn,0,none⟩) n n),(182,iT j),(183,pT bn (j*7)),(184,pT bn (j*7+5)),(185,iT yn.money),(186,bF),(187,bF)] (by simp only [zu];rfl) (by kernel_rfl) ?_ ?_
             ·intro W' hW';have d1:=fun p os=>qaB (qcU (qcU H1.out FR.out.below) hW') p os
              have d2:=fun p os=>qaB (qcU (qcU H2.out FR.out.below) hW') p os
              have d3:=fun p os=>qaB (qcU (qcU H3.out FR.out.below) hW') p os
              have d4:=fun p os=>qaB (qcU (qcU H4.out FR.out.below) hW') p os
              have d5:=fun p os=>qaB (qcU (qcU H5.out FR.out.below) hW') p os
              have d6:=fun p os=>qaB (qcU (qcU H6.out FR.out.below) hW') p os
              have d7:=fun p os=>qaB (qcU (qcU H7.out FR.out.below) hW') p os
              have d8:=fun p os=>qaB (qcU (qcU H8.out FR.out.below) hW') p os
              iterate 34 (refine fxo ?_ ?_;(go_big_quiet_step (fail);(try simp only [zq]);exact wqn rfl))
              exact fxn
             intro β wv E;replace FR:=fnf FR E rfl;simp only [nP,zu];have HBQ:=hid (HBY.out.trans (FR.out.below.mono HBY.out.size));clear FR;go_wp2
             go_roundg (gk - 1)
             case measure=>omega
             case rel=>exact ⟨j+1,by go_num,by omega,by omega,HBQ.out⟩
           ·clear k1;rcases k2 with rfl|rfl
            ·skip
             have H1:=hid c1;have H3:=hid c3;go_upto_region 22 with fail
             clear c1 c3;refine wE [(131,pT b16 5),(132,iT 2),(133,bF),(134,bF),(135,undef),(136,undef),(137,undef),(138,undef),(139,undef),(140,bF),(141,bF),(142,undef),(143,undef),(144,undef),(145,undef),(146,undef),(147,undef),(148,undef),(149,undef),(150,undef),(151,undef),(152,undef),(153,bF)] (by simp only [zu];rfl) (by kernel_rfl) ?_ ?_
             ·intro W' hW';have d1:=fun p os=>qaB (qcU (qcU H1.out FR.out.below) hW') p os
              have d2:=fun p os=>qaB (qcU (qcU H2.out FR.out.below) hW') p os
              have d3:=fun p os=>qaB (qcU (qcU H3.out FR.out.below) hW') p os
              have d4:=fun p os=>qaB (qcU (qcU H4.out FR.out.below) hW') p os
              have d5:=fun p os=>qaB (qcU (qcU H5.out FR.out.below) hW') p os
              have d6:=fun p os=>qaB (qcU (qcU H6.out FR.out.below) hW') p os
              have d7:=fun p os=>qaB (qcU (qcU H7.out FR.out.below) hW') p os
              have d8:=fun p os=>qaB (qcU (qcU H8.out FR.out.below) hW') p os
              iterate 23 (refine fxo ?_ ?_;(go_big_quiet_step (fail);(try simp only [zq]);exact wqn rfl))
              exact fxn
             intro β wu E;replace FR:=fnf FR E rfl;simp only [nP,zu];go_upto_region 24 with fail
             refine wE [(154,pT b16 5),(155,iT 2),(156,bT),(157,bT),(158,undef),(159,undef),(160,undef),(161,bT),(162,bT),(163,.slice (some ⟨bn,0,none⟩) n n),(164,iT k),(165,pT bn (k*7)),(166,pT bn (k*7+4)),(167,iT xn.units),(168,.slice (some ⟨bn,0,none⟩) n n),(169,iT j),(170,pT bn (j*7)),(171,pT bn (j*7+4)),(172,iT yn.units),(173,bF),(174,bF),(175,bF),(176,undef),(177,undef),(178,undef),(179,undef),(180,undef),(181,undef),(182,undef),(183,undef),(184,undef),(185,undef),(186,undef),(187,bF)] (by simp only [zu];rfl) (by kernel_rfl) ?_ ?_
             ·intro W' hW';have d1:=fun p os=>qaB (qcU (qcU H1.out FR.out.below) hW') p os
              have d2:=fun p os=>qaB (qcU (qcU H2.out FR.out.below) hW') p os
              have d3:=fun p os=>qaB (qcU (qcU H3.out FR.out.below) hW') p os
              have d4:=fun p os=>qaB (qcU (qcU H4.out FR.out.below) hW') p os
              have d5:=fun p os=>qaB (qcU (qcU H5.out FR.out.below) hW') p os
              have d6:=fun p os=>qaB (qcU (qcU H6.out FR.out.below) hW') p os
              have d7:=fun p os=>qaB (qcU (qcU H7.out FR.out.below) hW') p os
              have d8:=fun p os=>qaB (qcU (qcU H8.out FR.out.below) hW') p os
              iterate 34 (refine fxo ?_ ?_;(go_big_quiet_step (fail);(try simp only [zq]);exact wqn rfl))
              exact fxn
             intro β wv E;replace FR:=fnf FR E rfl;simp only [nP,zu];have HBQ:=hid (HBY.out.trans (FR.out.below.mono HBY.out.size));clear FR;go_wp2
             go_roundg (gk - 1)
             case measure=>omega
             case rel=>exact ⟨j+1,by go_num,by omega,by omega,HBQ.out⟩
            ·skip
             have H1:=hid c1;have H3:=hid c3;go_upto_region 22 with fail
             clear c1 c3;refine wE [(131,pT b16 5),(132,iT 3),(133,bF),(134,bF),(135,undef),(136,undef),(137,undef),(138,undef),(139,undef),(140,bF),(141,bF),(142,undef),(143,undef),(144,undef),(145,undef),(146,undef),(147,undef),(148,undef),(149,undef),(150,undef),(151,undef),(152,undef),(153,bF)] (by simp only [zu];rfl) (by kernel_rfl) ?_ ?_
             ·intro W' hW';have d1:=fun p os=>qaB (qcU (qcU H1.out FR.out.below) hW') p os
              have d2:=fun p os=>qaB (qcU (qcU H2.out FR.out.below) hW') p os
              have d3:=fun p os=>qaB (qcU (qcU H3.out FR.out.below) hW') p os
              have d4:=fun p os=>qaB (qcU (qcU H4.out FR.out.below) hW') p os
              have d5:=fun p os=>qaB (qcU (qcU H5.out FR.out.below) hW') p os
              have d6:=fun p os=>qaB (qcU (qcU H6.out FR.out.below) hW') p os
              have d7:=fun p os=>qaB (qcU (qcU H7.out FR.out.below) hW') p os
              have d8:=fun p os=>qaB (qcU (qcU H8.out FR.out.below) hW') p os
              iterate 23 (refine fxo ?_ ?_;(go_big_quiet_step (fail);(try simp only [zq]);exact wqn rfl))
              exact fxn
             intro β wu E;replace FR:=fnf FR E rfl;simp only [nP,zu];go_upto_region 24 with fail
             refine wE [(154,pT b16 5),(155,iT 3),(156,bF),(157,bF),(158,pT b16 5),(159,iT 3),(160,bT),(161,bT),(162,bT),(163,.slice (some ⟨bn,0,none⟩) n n),(164,iT k),(165,pT bn (k*7)),(166,pT bn (k*7+4)),(167,iT xn.units),(168,.slice (some ⟨bn,0,none⟩) n n),(169,iT j),(170,pT bn (j*7)),(171,pT bn (j*7+4)),(172,iT yn.units),(173,bF),(174,bF),(175,bF),(176,undef),(177,undef),(178,undef),(179,undef),(180,undef),(181,undef),(182,undef),(183,undef),(184,undef),(185,undef),(186,undef),(187,bF)] (by simp only [zu];rfl) (by kernel_rfl) ?_ ?_
             ·intro W' hW';have d1:=fun p os=>qaB (qcU (qcU H1.out FR.out.below) hW') p os
              have d2:=fun p os=>qaB (qcU (qcU H2.out FR.out.below) hW') p os
              have d3:=fun p os=>qaB (qcU (qcU H3.out FR.out.below) hW') p os
              have d4:=fun p os=>qaB (qcU (qcU H4.out FR.out.below) hW') p os
              have d5:=fun p os=>qaB (qcU (qcU H5.out FR.out.below) hW') p os
              have d6:=fun p os=>qaB (qcU (qcU H6.out FR.out.below) hW') p os
              have d7:=fun p os=>qaB (qcU (qcU H7.out FR.out.below) hW') p os
              have d8:=fun p os=>qaB (qcU (qcU H8.out FR.out.below) hW') p os
              iterate 34 (refine fxo ?_ ?_;(go_big_quiet_step (fail);(try simp only [zq]);exact wqn rfl))
              exact fxn
             intro β wv E;replace FR:=fnf FR E rfl;simp only [nP,zu];have HBQ:=hid (HBY.out.trans (FR.out.below.mono HBY.out.size));clear FR;go_wp2
             go_roundg (gk - 1)
             case measure=>omega
             case rel=>exact ⟨j+1,by go_num,by omega,by omega,HBQ.out⟩
          ·have k3:¬xk=2:=fun h=>k2 (.inl h)
           have k4:¬xk=3:=fun h=>k2 (.inr h)
           have q1:(xk==1)=false:=by simpa using k1
           have q2:(xk==2)=false:=by simpa using k3
           have q3:(xk==3)=false:=by simpa using k4
           have p1:decide (xk=1)=false:=decide_eq_false k1;have p2:decide (xk=2)=false:=decide_eq_false k3;have p3:decide (xk=3)=false:=decide_eq_false k4;clear k2;have H1:=hid c1;have H3:=hid c3;go_upto_region 22 with fail
           clear c1 c3;refine wE [(131,pT b16 5),(132,iT xk),(133,bF),(134,bF),(135,undef),(136,undef),(137,undef),(138,undef),(139,undef),(140,bF),(141,bF),(142,undef),(143,undef),(144,undef),(145,undef),(146,undef),(147,undef),(148,undef),(149,undef),(150,undef),(151,undef),(152,undef),(153,bF)] (by simp only [zu];rfl) (by kernel_rfl) ?_ ?_
           ·intro W' hW';have d1:=fun p os=>qaB (qcU (qcU H1.out FR.out.below) hW') p os
            have d2:=fun p os=>qaB (qcU (qcU H2.out FR.out.below) hW') p os
            have d3:=fun p os=>qaB (qcU (qcU H3.out FR.out.below) hW') p os
            have d4:=fun p os=>qaB (qcU (qcU H4.out FR.out.below) hW') p os
            have d5:=fun p os=>qaB (qcU (qcU H5.out FR.out.below) hW') p os
            have d6:=fun p os=>qaB (qcU (qcU H6.out FR.out.below) hW') p os
            have d7:=fun p os=>qaB (qcU (qcU H7.out FR.out.below) hW') p os
            have d8:=fun p os=>qaB (qcU (qcU H8.out FR.out.below) hW') p os
            iterate 23 (refine fxo ?_ ?_;(go_big_quiet_step (fail);(try simp only [zq]);exact wqn rfl))
            exact fxn
           intro β wu E;replace FR:=fnf FR E rfl;simp only [nP,zu];go_upto_region 24 with fail
           refine wE [(154,pT b16 5),(155,iT xk),(156,bF),(157,bF),(158,pT b16 5),(159,iT xk),(160,bF),(161,bF),(162,bF),(163,undef),(164,undef),(165,undef),(166,undef),(167,undef),(168,undef),(169,undef),(170,undef),(171,undef),(172,undef),(173,undef),(174,bF),(175,bF),(176,undef),(177,undef),(178,undef),(179,undef),(180,undef),(181,undef),(182,undef),(183,undef),(184,undef),(185,undef),(186,undef),(187,bF)] (by simp only [zu];rfl) (by kernel_rfl) ?_ ?_
           ·intro W' hW';have d1:=fun p os=>qaB (qcU (qcU H1.out FR.out.below) hW') p os
            have d2:=fun p os=>qaB (qcU (qcU H2.out FR.out.below) hW') p os
            have d3:=fun p os=>qaB (qcU (qcU H3.out FR.out.below) hW') p os
            have d4:=fun p os=>qaB (qcU (qcU H4.out FR.out.below) hW') p os
            have d5:=fun p os=>qaB (qcU (qcU H5.out FR.out.below) hW') p os
            have d6:=fun p os=>qaB (qcU (qcU H6.out FR.out.below) hW') p os
            have d7:=fun p os=>qaB (qcU (qcU H7.out FR.out.below) hW') p os
            have d8:=fun p os=>qaB (qcU (qcU H8.out FR.out.below) hW') p os
            iterate 34 (refine fxo ?_ ?_;(go_big_quiet_step (fail);(try simp only [zq]);exact wqn rfl))
            exact fxn
           intro β wv E;replace FR:=fnf FR E rfl;simp only [nP,zu];have HBQ:=hid (HBY.out.trans (FR.out.below.mono HBY.out.size));clear FR;go_wp2
           go_roundg (gk - 1)
           case measure=>omega
           case rel=>exact ⟨j+1,by go_num,by omega,by omega,HBQ.out⟩
        ·skip
         go_wp2
         go_roundg (gk - 1)
         case measure=>omega
         case rel=>exact ⟨j+1,by go_num,by omega,by omega,HBY.out⟩
       ·have hjI:¬(j:Int)<(n:Int):=by omega
        go_wp2
        go_roundg (G0 - 1)
        case measure=>have:=HG0.out;omega
        case rel=>exact ⟨k+1,by go_num,by omega,by have:=HG0.out;omega,HBJ.out⟩
     ·have hkI:¬(k:Int)<(n:Int):=by omega
      go_wp2_with fail
      refine (qsP _).mono ?_;rintro e w9 ⟨rfl,hb9⟩;have z1:=HBW.out.trans (HBC.out.mono HBW.out.size);have HB9:=hid (z1.trans (hb9.mono z1.size));clear hb9 z1;go_wp2
      go_ret
      exact ⟨rfl,HB9.out⟩
end Go.Proofs.YtemoddmadfoaiaaGreat
