import Derived.Test.YtemoddmadfoaiaaGreatRegG
import Derived.Maps.AppendAt
set_option linter.unusedVariables false
set_option linter.unusedSimpArgs false
set_option maxRecDepth 100000
set_option maxHeartbeats 4000000
namespace Go.Proofs.YtemoddmadfoaiaaGreat
open Go.RowKit Reg
open Lib (hid)
theorem Tryz.info56:(Tryz.prog.info? 56).map (fun i=>(i.zero,i.size,i.bytes))=some (some (.agg #[.string ByteArray.empty,.string ByteArray.empty,.int .i64 0,.int .i64 0]),4,48):=by kernel_rfl
def Own (w:World) (B:Nat) (v:Value) (l:List Lot):Prop:=w.ownsRow B 56 4 v l.length (cellsL l)
def Apart (v u:Value):Prop:=∀ g,v.ownBlock=some g→u.ownBlock≠some g
theorem Own.lots {w:World} {B:Nat} {v:Value} {l:List Lot} (h:Own w B v l):LotsAt w v l:=Rd.of_own h
theorem Own.kept {w w':World} {B:Nat} {v u:Value} {l:List Lot} (h:Own w B v l) (hg:w.grownBy w' u.ownBlock) (ha:Apart v u):Own w' B v l :=
 World.ownsRow.kept h hg (by
  cases hv:v.ownBlock with
  | none=>exact .inl rfl
  | some g=>exact .inr (fun e=>ha g hv e.symm))
theorem Own.below {w w':World} {B:Nat} {v:Value} {l:List Lot} (h:Own w B v l) (hb:Below w.heap.size w w'):Own w' B v l:=qmF h hb
theorem Own.base {w:World} {B B':Nat} {v:Value} {l:List Lot} (h:Own w B v l) (hb:B'≤B):Own w B' v l:=qoK h hb
theorem Own.lt {w:World} {B:Nat} {v:Value} {l:List Lot} (h:Own w B v l) (g:Nat) (hv:v.ownBlock=some g):B≤g∧g<w.heap.size:=World.ownsRow.lt h g hv
theorem Apart.grow {w:World} {B:Nat} {v u v':Value} {l:List Lot} (ha:Apart v u) (hu:Own w B u l) {n:Nat} (hn:w.heap.size≤n) (h:v'.ownBlock=v.ownBlock∨v'.ownBlock=some n):Apart v' u:=by
 intro g hg;rcases h with h|h
 ·exact ha g (by rw [←h];exact hg)
 ·intro e
  have:=(hu.lt g e).2
  rw [h] at hg;injection hg with hg
  omega
theorem Apart.symm {v u:Value} (h:Apart v u):Apart u v:=fun g h1 h2=>h g h2 h1
theorem qaQ {B:Nat} {w w1 w2:World} {v:Value} {l:List Lot} (hb:Below B w w1) (ho:Own w1 B v l) (hg:w1.grownBy w2 v.ownBlock) (hB:B≤w1.heap.size):Below B w w2 :=
 ⟨hg.os.trans hb.os,hg.tape.trans hb.tape,hg.output.trans hb.output,Nat.le_trans hb.size hg.size,fun k hk=>by
  rw [hg.block k (by omega) (fun e=>by have:=(ho.lt k e.symm).1;omega)];exact hb.block k hk⟩
theorem qyU (w:World) (x:Lot) (t:TypeId):∀ j u,x.cells[j]?=some u→(w.alloc (.cells #[.string x.nom,.string x.hol,.int .i64 x.ser,.int .i64 x.units] t)).cell? ((⟨w.heap.size,0,none⟩:Addr).add j)=some u:=qfD w x.cells t
theorem qjG (x:Lot):∀ u∈x.cells,u.oneCell'=true:=fun u hu=>qdQ [x] u (by simpa [cellsL] using hu)
theorem Own.nil (w:World) (B:Nat):Own w B (.slice none 0 0) []:=World.ownsRow_nil _ _ _ _
theorem qmG {w:World} {B n:Nat} {v:Value} {l:List Lot} {x:Lot} (h:w.ownsRow B 56 4 v n (cellsL l++x.cells)) (hn:n=l.length+1):Own w B v (l++[x]):=by
 subst hn;unfold Own;rw [qhS,List.length_append]
 simpa [cellsL] using h
namespace Reg
theorem qjN {l:List Lot} {k:Nat} {x:Lot} (hx:l[k]?=some x) (p:Lot→Bool):(l.take (k+1)).filter p=(l.take k).filter p++(if p x=true then [x] else []):=by
 obtain ⟨h1,h2⟩:=List.getElem?_eq_some_iff.1 hx;rw [List.take_succ_eq_append_getElem h1,h2,List.filter_append];congr 1
 cases h:p x<;>simp [h]
end Reg
theorem qaD {ops:Array Oper} {rest:List Oper} {o:Oper} {a:Act} {Q:Exit→Act→World→Prop} (hgd:o.guard=none) (s x:Operand)
  (ho:o.op=.call { callee:=.builtin .append,args:=#[s,x],argTypes:=#[38,38] })
  (W:World) (B:Nat) (v:Value) (l:List Lot) (y:Lot) (hs:a.eval s=v) (hown:Own W B v l) (b:Nat) (hx:a.eval x=.slice (some ⟨b,0,none⟩) 1 1) (hb:b=W.heap.size)
  (hn:l.length≤10000) (hB:B≤W.heap.size)
  (h:∀ v' w',Own w' B v' (l++[y])→W.grownBy w' v.ownBlock→(v'.ownBlock=v.ownBlock∨v'.ownBlock=some (W.heap.size+1))→wpList Tryz.prog ops Q rest (a.put o.dst v') w') :
  wpList Tryz.prog ops Q (o::rest) a (W.alloc (.cells #[.string y.nom,.string y.hol,.int .i64 y.ser,.int .i64 y.units] 56)):=by
 subst hb;obtain ⟨i0,hi,hz0,hz1,hz2⟩:=info_parts Tryz.info56;refine wpList_append_own_at _ hgd s x 38 ho B 56 i0 _ 4 48 Tryz.underlying38 hi hz0 hz1 hz2 rfl (by decide) v _ _ hs (World.ownsRow.alloc hown _) ⟨W.heap.size,0,none⟩ 1 1 y.cells hx rfl (qyU W y _) (qjG y) (qbS (by omega)) (by omega) (by simp;omega) ?_;intro v' w' hown' hgrow _ hat;refine h v' w' (qmG hown' rfl) ?_ ?_
 ·exact ⟨hgrow.os,hgrow.tape,hgrow.output,by have:=hgrow.size;simp at this;omega,fun k hk hr=>by rw [hgrow.block k (by simp;omega) hr,Below.heap_alloc _ _ _ hk]⟩
 ·simpa using hat
theorem Own.alloc {w:World} {B:Nat} {v:Value} {l:List Lot} (h:Own w B v l) (o:Obj):Own (w.alloc o) B v l:=World.ownsRow.alloc h o
theorem jdI (v:Value) (l:List Lot) (nm hl:ByteArray) (w:World) (h:LotsAt w v l) (hn:l.length≤1000) :
  Calls Tryz.prog 121 #[v,.agg #[.string nm,.string hl]] w fun e w'=>∃ va vb,e=.returned (.tuple #[va,vb])∧Own w' w.heap.size va (ownL nm hl l)∧Own w' w.heap.size vb (othL nm hl l)∧Apart va vb∧Below w.heap.size w w':=by
 by_cases h0:l.length=0
 ·obtain ⟨A,cap,rfl⟩:=h.nil h0;have hl0:=List.eq_nil_of_length_eq_zero h0;subst hl0;clear h h0 hn;go_enter Tryz.func121,Tryz.ntmps121
  go_wp2
  go_loopg [4,5,10] 1 (fun m a b i wr=>a=.slice none 0 0∧b=.slice none 0 0∧i=.int .i64 0∧wr=w.alloc (.cells #[.string nm,.string hl] 54))
  case atStart=>exact ⟨rfl,rfl,rfl,rfl⟩
  case round =>
   obtain ⟨rfl,rfl,rfl,rfl⟩:=hrel;go_wp2
   go_ret2
   exact ⟨_,_,rfl,Own.nil _ _,Own.nil _ _,fun g h=>by simp [Value.ownBlock] at h,(Below.refl _ _).alloc (Nat.le_refl _) _⟩
 ·obtain ⟨g,off,cap,rfl,hc⟩:=h.some (by omega);obtain ⟨n,hnn⟩:=nqx (l.length);rw [←hnn] at hn h0 ⊢;have HN:=hid hnn;have HC:=hid hc;clear hnn hc h;obtain ⟨i0,hi,hz0,hz1,hz2⟩:=info_parts Tryz.info56;go_enter Tryz.func121,Tryz.ntmps121
  go_wp2
  go_loopg [4,5,10] n (fun m a b i wr=>∃ (k:Nat),k≤n∧n - k≤m∧i=.int .i64 k∧Own wr (w.heap.size+1) a (ownL nm hl (l.take k))∧Own wr (w.heap.size+1) b (othL nm hl (l.take k))∧Apart a b∧Below (w.heap.size+1) (w.alloc (.cells #[.string nm,.string hl] 54)) wr)
  case atStart=>exact ⟨0,by omega,by omega,rfl,Own.nil _ _,Own.nil _ _,fun g h=>by simp [Value.ownBlock] at h,Below.refl _ _⟩
  case round =>
   obtain ⟨k,hk,hm,rfl,hoa,hob,hap,hbl⟩:=hrel;have hsz:w.heap.size<wr.heap.size:=by have:=hbl.size;simp at this;omega
   have a0:wr.cell? ⟨w.heap.size,0,none⟩=some (.string nm):=qbC (by go_cell) hbl (by simp);have a1:wr.cell? ⟨w.heap.size,1,none⟩=some (.string hl):=qbC (by go_cell) hbl (by simp);have HOA:=hid hoa;have HOB:=hid hob;have HAP:=hid hap;have HBL:=hid hbl;have HB0:=hid (show Below w.heap.size w wr from ((Below.refl _ _).alloc (Nat.le_refl _) _).trans (hbl.mono (by omega)));clear hoa hob hap hbl;by_cases hlt:k<n
   ·obtain ⟨x,hx⟩:∃ x,l[k]?=some x:=⟨l[k]'(by rw [←HN.out];exact hlt),by simp [←HN.out,hlt]⟩;obtain ⟨c0,c1,c2,c3⟩:=(HC.out k x hx).below HB0.out;have HX:=hid hx;clear hx;have hla:(ownL nm hl (l.take k)).length≤k:=Nat.le_trans (List.length_filter_le _ _) (by first|omega|(simp<;>omega));have hlb:(othL nm hl (l.take k)).length≤k:=Nat.le_trans (List.length_filter_le _ _) (by first|omega|(simp<;>omega));have q1:(x.nom.toList==nm.toList)=sEq x.nom nm:=rfl;have q2:(x.hol.toList==hl.toList)=sEq x.hol hl:=rfl;have hpx:ownB nm hl x=(sEq x.nom nm&&sEq x.hol hl):=rfl;have fa:=qjN HX.out (ownB nm hl);have fb:=qjN HX.out (fun x=>!ownB nm hl x)
    have hcase:(sEq x.nom nm=true∧sEq x.hol hl=true∧ownB nm hl x=true)∨(sEq x.nom nm=false∧ownB nm hl x=false)∨(sEq x.nom nm=true∧sEq x.hol hl=false∧ownB nm hl x=false):=by
     rw [hpx];cases sEq x.nom nm<;>cases sEq x.hol hl<;>simp
    obtain ⟨la,hla'⟩:=nqx (ownL nm hl (l.take k));obtain ⟨lb,hlb'⟩:=nqx (othL nm hl (l.take k));rw [←hla'] at HOA hla;rw [←hlb'] at HOB hlb;rcases hcase with ⟨e1,e2,e3⟩|⟨e1,e3⟩|⟨e1,e2,e3⟩
    ·rw [e1] at q1;rw [e2] at q2;have HFA:=hid (show ownL nm hl (l.take (k+1))=la++[x] by rw [hla'];unfold ownL;rw [fa,e3];rfl);have HFB:=hid (show othL nm hl (l.take (k+1))=lb by rw [hlb'];unfold othL;rw [fb,e3];simp);clear hla' hlb' fa fb hpx e1 e2 e3;go_wp2_with (at_builtin;refine qaD rfl _ _ rfl _ (w.heap.size+1) u4 la x rfl (HOA.out.alloc _) _ rfl (by simp) (by omega) (by first|omega|(simp<;>omega)) ?_;intro v' w1 ho1 hg1 hat1)
     have HO1:=hid ho1;have HO2:=hid ((HOB.out.alloc _).kept hg1 HAP.out.symm);have HA1:=hid (HAP.out.grow HOB.out (by first|omega|(simp<;>omega)) hat1);have HB1:=hid (qaQ (HBL.out.alloc (by first|omega|(simp<;>omega)) _) (HOA.out.alloc _) hg1 (by first|omega|(simp<;>omega)));clear ho1 hg1 hat1;go_roundg (gk - 1)
     case measure=>omega
     case rel=>exact ⟨k+1,by omega,by omega,by go_num,by rw [HFA.out];exact HO1.out,by rw [HFB.out];exact HO2.out,HA1.out,HB1.out⟩
    ·rw [e1] at q1;have HFA:=hid (show ownL nm hl (l.take (k+1))=la by rw [hla'];unfold ownL;rw [fa,e3];simp);have HFB:=hid (show othL nm hl (l.take (k+1))=lb++[x] by rw [hlb'];unfold othL;rw [fb,e3];rfl);clear hla' hlb' fa fb hpx e1 e3 q2;go_wp2_with (at_builtin;refine qaD rfl _ _ rfl _ (w.heap.size+1) u5 lb x rfl (HOB.out.alloc _) _ rfl (by simp) (by omega) (by first|omega|(simp<;>omega)) ?_;intro v' w1 ho1 hg1 hat1)
     have HO1:=hid ho1;have HO2:=hid ((HOA.out.alloc _).kept hg1 HAP.out);have HA1:=hid (HAP.out.symm.grow HOA.out (by first|omega|(simp<;>omega)) hat1).symm;have HB1:=hid (qaQ (HBL.out.alloc (by first|omega|(simp<;>omega)) _) (HOB.out.alloc _) hg1 (by first|omega|(simp<;>omega)));clear ho1 hg1 hat1;go_roundg (gk - 1)
     case measure=>omega
     case rel=>exact ⟨k+1,by omega,by omega,by go_num,by rw [HFA.out];exact HO2.out,by rw [HFB.out];exact HO1.out,HA1.out,HB1.out⟩
    ·rw [e1] at q1;rw [e2] at q2;have HFA:=hid (show ownL nm hl (l.take (k+1))=la by rw [hla'];unfold ownL;rw [fa,e3];simp);have HFB:=hid (show othL nm hl (l.take (k+1))=lb++[x] by rw [hlb'];unfold othL;rw [fb,e3];rfl);clear hla' hlb' fa fb hpx e1 e2 e3;go_wp2_with (at_builtin;refine qaD rfl _ _ rfl _ (w.heap.size+1) u5 lb x rfl (HOB.out.alloc _) _ rfl (by simp) (by omega) (by first|omega|(simp<;>omega)) ?_;intro v' w1 ho1 hg1 hat1)
     have HO1:=hid ho1;have HO2:=hid ((HOA.out.alloc _).kept hg1 HAP.out);have HA1:=hid (HAP.out.symm.grow HOA.out (by first|omega|(simp<;>omega)) hat1).symm;have HB1:=hid (qaQ (HBL.out.alloc (by first|omega|(simp<;>omega)) _) (HOB.out.alloc _) hg1 (by first|omega|(simp<;>omega)));clear ho1 hg1 hat1;go_roundg (gk - 1)
     case measure=>omega
     case rel=>exact ⟨k+1,by omega,by omega,by go_num,by rw [HFA.out];exact HO2.out,by rw [HFB.out];exact HO1.out,HA1.out,HB1.out⟩
   ·go_wp2
    go_ret2
    refine ⟨_,_,rfl,?_,?_,HAP.out,HB0.out⟩
    ·have:=HOA.out;rw [List.take_of_length_le (by have:=HN.out;omega)] at this;exact this.base (by omega)
    ·have:=HOB.out;rw [List.take_of_length_le (by have:=HN.out;omega)] at this;exact this.base (by omega)
end Go.Proofs.YtemoddmadfoaiaaGreat
