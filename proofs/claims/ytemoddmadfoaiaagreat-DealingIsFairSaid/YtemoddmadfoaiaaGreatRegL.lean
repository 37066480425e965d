import Derived.Test.YtemoddmadfoaiaaGreatApH
import Derived.Test.YtemoddmadfoaiaaGreatRegH
set_option linter.unusedVariables false
set_option linter.unusedSimpArgs false
set_option maxRecDepth 100000
set_option maxHeartbeats 4000000
namespace Go.Proofs.YtemoddmadfoaiaaGreat
open Go.RowKit Reg
open Lib (hid)
theorem qcT {w w':World} {row:Option Nat} (h:w.grownBy w' row) {a:Addr} {v:Value} (hc:w.cell? a=some v) (hne:row≠some a.block):w'.cell? a=some v:=by
  rw [World.cell?_of_block (h.block a.block (World.block_lt_of_cell? w a hc) (fun e=>hne e.symm))];exact hc
theorem qoS {w w':World} {row:Option Nat} (h:w.grownBy w' row) {a:Addr} (hlt:a.block<w.heap.size) (hne:row≠some a.block):w'.frozen? a=w.frozen? a :=
  World.frozen?_of_block (h.block a.block hlt (fun e=>hne e.symm))
theorem Own.setCell {w:World} {B:Nat} {v:Value} {l:List Lot} (h:Own w B v l) (p:Addr) (u:Value) (hp:v.ownBlock≠some p.block):Own (w.setCell p u) B v l :=
  World.ownsRow.kept h (row:=some p.block) ⟨rfl,rfl,rfl,by simp [World.setCell],fun k hk hr=>Below.heap_setCell _ _ _ _ (fun e=>hr (by rw [e]))⟩ (.inr hp)
theorem Own.ne {w:World} {B:Nat} {v:Value} {l:List Lot} (h:Own w B v l) {g:Nat} (hg:w.heap.size≤g∨g<B):v.ownBlock≠some g:=fun e=>by have:=h.lt g e;omega
theorem qkT {wr w1:World} {B:Nat} {u:Value} {l:List Lot} {x:Lot} (ho:Own wr B u l) (hg:(wr.alloc (.cells #[.string x.nom,.string x.hol,.int .i64 x.ser,.int .i64 x.units] 56)).grownBy w1 u.ownBlock) :
    (w1.cell? ⟨wr.heap.size,0,none⟩=some (.string x.nom)∧w1.cell? ⟨wr.heap.size,1,none⟩=some (.string x.hol)∧w1.cell? ⟨wr.heap.size,2,none⟩=some (.int .i64 x.ser)∧w1.cell? ⟨wr.heap.size,3,none⟩=some (.int .i64 x.units))∧(∀ o,w1.frozen? ⟨wr.heap.size,o,none⟩=false)∧wr.heap.size<w1.heap.size:=by
  have hne:u.ownBlock≠some wr.heap.size:=ho.ne (.inl (Nat.le_refl _));refine ⟨⟨?_,?_,?_,?_⟩,fun o=>?_,by have:=hg.size;simp at this;omega⟩
  · exact qcT hg (by go_cell) hne
  · exact qcT hg (by go_cell) hne
  · exact qcT hg (by go_cell) hne
  · exact qcT hg (by go_cell) hne
  · rw [qoS hg (by simp) hne];simp
theorem qjV {w wr w1:World} {B b:Nat} {X:Obj} {u v v':Value} {la lb lb':List Lot} (HOA:Own wr B u la) (HOB:Own wr B v lb) (HAP:Apart u v) (HBL:Below B w wr) (hB:B≤wr.heap.size)
    (HG1:(wr.alloc X).grownBy w1 v.ownBlock) (HO1:Own w1 B v' lb') (HAT1:v'.ownBlock=v.ownBlock∨v'.ownBlock=some b) (hb:wr.heap.size+1≤b) :
    Own w1 B u la∧Apart u v'∧Below B w w1∧v'.ownBlock≠some wr.heap.size∧B≤w1.heap.size:=by
  refine ⟨(HOA.alloc X).kept HG1 HAP,(HAP.symm.grow HOA (by omega) HAT1).symm,qaQ (HBL.alloc hB X) (HOB.alloc X) HG1 (by simp;omega),?_,by have:=HG1.size;simp at this;omega⟩;rcases HAT1 with h|h
  · rw [h];exact HOB.ne (.inl (Nat.le_refl _))
  · rw [h];intro e;injection e with e;omega
theorem qzM {w w1 w2:World} {B b g o:Nat} {y:Value} {u v' v2:Value} {la la' lb':List Lot} (HOA:Own w1 B u la) (HO1:Own w1 B v' lb') (HAP:Apart u v') (HBL:Below B w w1) (hB:B≤w1.heap.size)
    (hv:v'.ownBlock≠some g) (hu:u.ownBlock≠some g) (hg:B≤g) (HG2:(w1.setCell ⟨g,o,none⟩ y).grownBy w2 u.ownBlock) (HO2:Own w2 B v2 la') (HAT2:v2.ownBlock=u.ownBlock∨v2.ownBlock=some b) (hb:w1.heap.size≤b) :
    Own w2 B v' lb'∧Apart v2 v'∧Below B w w2:=by
  have h1:=HO1.setCell ⟨g,o,none⟩ y hv;have h2:=HOA.setCell ⟨g,o,none⟩ y hu;exact ⟨h1.kept HG2 HAP.symm,HAP.grow h1 (by simpa using hb) HAT2,qaQ (qbK HBL _ _ hg) h2 HG2 (by simpa using hB)⟩
namespace Reg
theorem jaY (x:Lot) (q:Int):x.more (-q)=⟨x.nom,x.hol,x.ser,x.units - q⟩:=by simp [Lot.more,Int.sub_eq_add_neg]
theorem jaC {l:List Lot} {k:Nat} {x:Lot} {n:Int} {F:List Lot × List Lot} {a b:List Lot} (hx:l[k]?=some x)
    (h:F=(a++(takeP (l.drop k) n).1,b++(takeP (l.drop k) n).2)) :
    F=((a++if min n x.units<x.units then [x.more (-(min n x.units))] else [])++(takeP (l.drop (k+1)) (n - min n x.units)).1,
         (b++if 0<min n x.units then [⟨x.nom,x.hol,x.ser,min n x.units⟩] else [])++(takeP (l.drop (k+1)) (n - min n x.units)).2):=by
  rw [h,qqO hx];simp only [takeP];refine Prod.ext ?_ ?_
  · simp only [List.append_assoc];split<;>simp
  · simp only [List.append_assoc];split<;>simp
theorem quW (l:List Lot) (n:Int):(takeP l n).1.length≤l.length∧(takeP l n).2.length≤l.length:=by
  induction l generalizing n with
  | nil=>simp [takeP]
  | cons x l ih =>
    have:=ih (n - min n x.units)
    simp only [takeP];constructor
    · split<;>simp<;>omega
    · split<;>simp<;>omega
end Reg
theorem jaA (v:Value) (l:List Lot) (n0:Int) (w:World) (h:LotsAt w v l) (hn:l.length≤1000) (hu:∀ x∈l,1≤x.units∧x.units≤1000000000000000) (hn0:0≤n0) (hn1:n0≤1000000000000000) :
    Calls Tryz.prog 126 #[v,.int .i64 n0] w fun e w'=>∃ va vb,e=.returned (.tuple #[va,vb])∧Own w' w.heap.size va (takeP l n0).1∧Own w' w.heap.size vb (takeP l n0).2∧Apart va vb∧Below w.heap.size w w':=by
  have HU:=hid hu;clear hu;by_cases h0:l.length=0
  · obtain ⟨A,cap,rfl⟩:=h.nil h0
    have hl0:=List.eq_nil_of_length_eq_zero h0;subst hl0;clear h h0 hn HU;go_enter Tryz.func126,Tryz.ntmps126
    go_wp2
    go_loopg [4,5,11] 1 (fun m a b i wr=>a=.slice none 0 0∧b=.slice none 0 0∧i=.int .i64 0∧wr=w)
    case atStart=>exact ⟨rfl,rfl,rfl,rfl⟩
    case round =>
      obtain ⟨rfl,rfl,rfl,rfl⟩:=hrel;go_wp2
      go_ret2
      exact ⟨_,_,rfl,Own.nil _ _,Own.nil _ _,fun g h=>by simp [Value.ownBlock] at h,Below.refl _ _⟩
  · obtain ⟨g,off,cap,rfl,hc⟩:=h.some (by omega)
    obtain ⟨n,hnn⟩:=nqx (l.length);obtain ⟨F,hF⟩:=nqx (takeP l n0);rw [←hnn] at hn h0 ⊢;rw [←hF];have HN:=hid hnn;have HC:=hid hc;have HF0:=hid hF;clear hnn hc h hF;go_enter Tryz.func126,Tryz.ntmps126
    go_wp2
    go_loopg [1,4,5,11] n (fun m q a b i wr=>∃ (k:Nat) (t:Int) (la lb:List Lot),k≤n∧n - k≤m∧i=.int .i64 k∧q=.int .i64 t∧0≤t∧t≤1000000000000000∧F=(la++(takeP (l.drop k) t).1,lb++(takeP (l.drop k) t).2)∧la.length≤k∧lb.length≤k ∧
      Own wr w.heap.size a la∧Own wr w.heap.size b lb∧Apart a b∧Below w.heap.size w wr)
    case atStart=>exact ⟨0,n0,[],[],by omega,by omega,rfl,rfl,hn0,hn1,by simpa using HF0.out,by simp,by simp,Own.nil _ _,Own.nil _ _,fun g h=>by simp [Value.ownBlock] at h,Below.refl _ _⟩
    case round =>
      obtain ⟨k,t,la,lb,hk,hm,rfl,rfl,ht0,ht1,hF,hla,hlb,hoa,hob,hap,hbl⟩:=hrel;have hsz:w.heap.size≤wr.heap.size:=hbl.size;have HOA:=hid hoa;have HOB:=hid hob;have HAP:=hid hap;have HBL:=hid hbl;have HF:=hid hF;clear hoa hob hap hbl hF;by_cases hlt:k<n
      · obtain ⟨x,hx⟩:∃ x,l[k]?=some x:=⟨l[k]'(by rw [←HN.out];exact hlt),by simp [←HN.out,hlt]⟩
        obtain ⟨c0,c1,c2,c3⟩:=(HC.out k x hx).below HBL.out;obtain ⟨hu0,hu1⟩:=HU.out x (List.mem_of_getElem? hx);have hF2:=jaC hx HF.out;clear hx;obtain ⟨q,hq⟩:∃ q,min t x.units=q:=⟨_,rfl⟩;rw [hq] at hF2;have hq0:0≤q:=by omega
        have hqt:q≤t:=by omega
        have hqu:q≤x.units:=by omega
        have hsub:IntKind.i64.wrap (t - q)=t - q:=IntWalk.i64_in _ (by omega);have hsub2:IntKind.i64.wrap (x.units - q)=x.units - q:=IntWalk.i64_in _ (by omega);rw [jaY] at hF2;by_cases hz:0<q
        · rw [if_pos hz] at hF2
          by_cases hl:q<x.units
          · rw [if_pos hl] at hF2
            have HF2:=hid hF2;clear hF2
            go_wp2_with (first
              | (at_builtin;refine qaD rfl _ _ rfl _ w.heap.size u5 lb ⟨x.nom,x.hol,x.ser,q⟩ rfl (HOB.out.alloc _) _ rfl (by simp) (by omega) (by first|omega|(simp<;>omega)) ?_;intro v' w1 ho1 hg1 hat1;obtain ⟨⟨x0,x1,x2,x3⟩,hfz,hlt1⟩:=qkT HOB.out hg1;have HO1:=hid ho1;have HG1:=hid hg1;have HAT1:=hid hat1;have HOL:=hid ((HOA.out.alloc _).kept hg1 HAP.out.symm.symm);clear ho1 hg1 hat1)
              | (at_builtin;refine qaD rfl _ _ rfl _ w.heap.size u4 la ⟨x.nom,x.hol,x.ser,x.units - q⟩ rfl (HOL.out.setCell _ _ (HOA.out.ne (.inl (Nat.le_refl _)))) _ rfl (by simp) (by omega) (by have:=HG1.out.size;simp at this ⊢;omega) ?_;intro v2 w2 ho2 hg2 hat2;have HO2:=hid ho2;have HG2:=hid hg2;have HAT2:=hid hat2;clear ho2 hg2 hat2))
            obtain ⟨e1,e2,e3,e4,e5⟩:=qjV HOA.out HOB.out HAP.out HBL.out hsz HG1.out HO1.out HAT1.out (by simp);obtain ⟨f1,f2,f3⟩:=qzM e1 HO1.out e2 e3 e5 e4 (HOA.out.ne (.inl (Nat.le_refl _))) hsz HG2.out HO2.out HAT2.out (by simp);have HE:=hid (And.intro f1 (And.intro f2 f3));clear e1 e2 e3 e4 e5 f1 f2 f3 x0 x1 x2 x3 hfz;go_roundg (gk - 1)
            case measure=>omega
            case rel=>exact ⟨k+1,t - q,_,_,by omega,by omega,by go_num,by go_num,by omega,by omega,HF2.out,by simp;omega,by simp;omega,HO2.out,HE.out.1,HE.out.2.1,HE.out.2.2⟩
          · rw [if_neg hl,List.append_nil] at hF2
            have HF2:=hid hF2;clear hF2;go_wp2_with (at_builtin;refine qaD rfl _ _ rfl _ w.heap.size u5 lb ⟨x.nom,x.hol,x.ser,q⟩ rfl (HOB.out.alloc _) _ rfl (by simp) (by omega) (by first|omega|(simp<;>omega)) ?_;intro v' w1 ho1 hg1 hat1;obtain ⟨⟨x0,x1,x2,x3⟩,hfz,hlt1⟩:=qkT HOB.out hg1;have HO1:=hid ho1;have HG1:=hid hg1;have HAT1:=hid hat1;clear ho1 hg1 hat1)
            obtain ⟨e1,e2,e3,e4,e5⟩:=qjV HOA.out HOB.out HAP.out HBL.out hsz HG1.out HO1.out HAT1.out (by simp);have HE:=hid (And.intro e1 (And.intro e2 e3));clear e1 e2 e3 e4 e5 x0 x1 x2 x3 hfz;go_roundg (gk - 1)
            case measure=>omega
            case rel=>exact ⟨k+1,t - q,_,_,by omega,by omega,by go_num,by go_num,by omega,by omega,HF2.out,by omega,by simp;omega,HE.out.1,HO1.out,HE.out.2.1,HE.out.2.2⟩
        · have hl:q<x.units:=by omega
          rw [if_neg hz,if_pos hl,List.append_nil] at hF2;have HF2:=hid hF2;clear hF2;go_wp2_with (at_builtin;refine qaD rfl _ _ rfl _ w.heap.size u4 la ⟨x.nom,x.hol,x.ser,x.units - q⟩ rfl (HOA.out.alloc _) _ rfl (by simp) (by omega) (by first|omega|(simp<;>omega)) ?_;intro v' w1 ho1 hg1 hat1;have HO1:=hid ho1;have HG1:=hid hg1;have HAT1:=hid hat1;clear ho1 hg1 hat1)
          obtain ⟨e1,e2,e3,e4,e5⟩:=qjV HOB.out HOA.out HAP.out.symm HBL.out hsz HG1.out HO1.out HAT1.out (by simp);have HE:=hid (And.intro e1 (And.intro e2.symm e3));clear e1 e2 e3 e4 e5;go_roundg (gk - 1)
          case measure=>omega
          case rel=>exact ⟨k+1,t - q,_,_,by omega,by omega,by go_num,by go_num,by omega,by omega,HF2.out,by simp;omega,by omega,HO1.out,HE.out.1,HE.out.2.1,HE.out.2.2⟩
      · have hd:l.drop k=[]:=List.drop_eq_nil_of_le (by have:=HN.out;omega)
        have hFe:=HF.out;rw [hd] at hFe;simp only [takeP,List.append_nil] at hFe;have HFE:=hid hFe;clear hd hFe;go_wp2
        go_ret2
        exact ⟨_,_,rfl,by rw [HFE.out];exact HOA.out,by rw [HFE.out];exact HOB.out,HAP.out,HBL.out⟩
end Go.Proofs.YtemoddmadfoaiaaGreat
namespace Go.Proofs.YtemoddmadfoaiaaGreat
open Go.RowKit Reg
theorem Own.drew {w:World} {B:Nat} {v:Value} {l:List Lot} (h:Own w B v l):Own w.drew B v l:=h
namespace Reg
theorem quT (nm hl:ByteArray) (l:List Lot) (n:Int):(takeR nm hl l n).1.length≤l.length∧(takeR nm hl l n).2.length≤l.length:=by
 induction l generalizing n with
 | nil=>simp [takeR]
 | cons x l ih =>
  have h1:=ih (n - min n x.units);have h2:=ih n;simp only [takeR];split
  ·simp only
   constructor
   ·split<;>simp<;>omega
   ·simp;omega
  ·simp only
   constructor
   ·split<;>simp<;>omega
   ·simp;omega
end Reg
end Go.Proofs.YtemoddmadfoaiaaGreat
set_option maxHeartbeats 1000000
namespace Go.Proofs.YtemoddmadfoaiaaGreat
open Go.RowKit Reg
open Lib (hid)
theorem qyP (v:Value) (l:List Lot) (w:World) (h:LotsAt w v l) (hn:l.length≤10000) :
  Calls Tryz.prog 157 #[v] w fun e w'=>∃ v',e=.returned v'∧Own w' w.heap.size v' l∧Below w.heap.size w w':=by
 obtain ⟨i0,hi,hz0,hz1,hz2⟩:=info_parts Tryz.info56;have q22:∀ (w:World) (a:Option Addr) (n c n' c':Nat),(binOp .eql 38 (.slice a n c) (.slice none n' c')).run Tryz.prog w=.ok (.bool a.isNone) w:=fun w a n c n' c'=>Lib.run_eql_slice_nil w _ _ a n c n' c' Tryz.underlying38
 have H:=hid h;by_cases h0:l.length=0
 ·obtain ⟨A,cap,rfl⟩:=h.nil h0;have hl0:=List.eq_nil_of_length_eq_zero h0;subst hl0;clear h h0 hn
  cases A with
  | none =>
   go_enter Tryz.func157,Tryz.ntmps157
   go_wp2
   go_ret
   exact ⟨_,rfl,Own.nil _ _,Below.refl _ _⟩
  | some ad =>
   go_enter Tryz.func157,Tryz.ntmps157
   go_wp2_with (at_builtin;refine wpList_append_own _ rfl _ _ 38 rfl w.heap.size 56 i0 _ 4 48 Tryz.underlying38 hi hz0 hz1 hz2 rfl (by decide) _ _ _ rfl (World.ownsRow_made w #[] 0 (Nat.le_refl _) (Nat.zero_le _) rfl) ad 0 cap [] rfl ?qc1 ?qc2 ?qc3 ?qc4 ?qc5 ?qc6 ?_)
   case qc1=>rfl
   case qc2=>intro j u hj;simp at hj
   case qc3=>intro u hu;cases hu
   case qc4=>exact qbS (by omega)
   case qc5=>omega
   case qc6=>simp
   intro v' w1 hown hgrow hnil;have HH:=hid (show Own w1 w.heap.size v' [] by unfold Own;rw [show cellsL []=[] from rfl];simpa using hown);have HG:=hid hgrow;clear hown hgrow hnil;go_wp2
   go_ret
   exact ⟨v',rfl,HH.out,((Below.refl _ w).alloc (Nat.le_refl _) _).grown HG.out (by simp) (by intro k hk;simp [Value.ownBlock] at hk;omega)⟩
 ·obtain ⟨h1,h2,A,cap,rfl,h3⟩:=h;obtain ⟨g,off,rfl,hc⟩:=h3 (by omega);have hlen:=qcE l;obtain ⟨n,hnn⟩:=nqx (l.length);rw [←hnn] at hn h0 hlen H h1 h2 ⊢;have HN:=hid hnn;have HC:=hid hc;have HL:=hid hlen;clear hnn hc hlen h1 h2 h3;go_enter Tryz.func157,Tryz.ntmps157
  go_wp2_with (at_builtin;refine wpList_append_own _ rfl _ _ 38 rfl w.heap.size 56 i0 _ 4 48 Tryz.underlying38 hi hz0 hz1 hz2 rfl (by decide) _ _ _ rfl (World.ownsRow_made w #[] 0 (Nat.le_refl _) (Nat.zero_le _) rfl) ⟨g,off,none⟩ n cap (cellsL l) rfl ?qc1 ?qc2 ?qc3 ?qc4 ?qc5 ?qc6 ?_)
  case qc1=>exact HL.out
  case qc2 =>
   intro j u hj;have hadd:(⟨g,off,none⟩:Addr).add j=⟨g,off+j,none⟩:=by unfold Addr.add;split<;>simp_all
   rw [hadd];exact qcW (HC.out j u hj) _
  case qc3=>exact qdQ l
  case qc4=>exact qbS (by omega)
  case qc5=>omega
  case qc6=>simp
  intro v' w1 hown hgrow hnil;have HH:=hid (show Own w1 w.heap.size v' l by unfold Own;rw [←HN.out];simpa using hown);have HG:=hid hgrow;clear hown hgrow hnil;go_wp2
  go_ret
  exact ⟨v',rfl,HH.out,((Below.refl _ w).alloc (Nat.le_refl _) _).grown HG.out (by simp) (by intro k hk;simp [Value.ownBlock] at hk;omega)⟩
set_option maxHeartbeats 4000000
namespace Reg
def foundB (l:List Lot) (x:Lot):Bool:=match l[pos l x]? with
 | none=>false
 | some y=>decide (sameKey y x)
end Reg
theorem qqC {a b:Int} {c d:Bool} (h:a=b) (g:c=d):Ending.returned (.tuple #[.int .i64 a,.bool c])=.returned (.tuple #[.int .i64 b,.bool d]):=by rw [h,g]
theorem qqU (v:Value) (l:List Lot) (x:Lot) (w:World) (h:LotsAt w v l) (hs:Srt l) (hn:l.length≤10000) :
  CB 158 #[v,lotV x,.func (.func 84) #[] #[]] (.tuple #[.int .i64 (pos l x),.bool (foundB l x)]) w:=by
 unfold lotV;by_cases h0:l.length=0
 ·obtain ⟨A,cap,rfl⟩:=h.nil h0;have hl0:=List.eq_nil_of_length_eq_zero h0;subst hl0;clear h h0 hn hs;go_enter Tryz.func158,Tryz.ntmps158
  go_wp2
  go_loopg [9,10] 1 (fun m i j wr=>i=.int .i64 0∧j=.int .i64 0∧wr=w.alloc (.cells #[.string x.nom,.string x.hol,.int .i64 x.ser,.int .i64 x.units] 56))
  case atStart=>exact ⟨rfl,rfl,rfl⟩
  case round =>
   obtain ⟨rfl,rfl,rfl⟩:=hrel;go_wp2
   go_quiet (fail)
   go_wp2
   go_ret2
   exact ⟨rfl,qaZ ((Below.refl _ _).alloc (Nat.le_refl _) _) _⟩
 ·obtain ⟨g,off,cap,rfl,hc⟩:=h.some (by omega);obtain ⟨n,hnn⟩:=nqx (l.length);rw [←hnn] at hn h0 ⊢;have HN:=hid hnn;have HC:=hid hc;have HS:=hid hs;clear hnn hc h hs;go_enter Tryz.func158,Tryz.ntmps158
  go_wp2
  go_loopg [9,10] n (fun m iv jv wr=>∃ (i j:Nat),i≤j∧j≤n∧j - i≤m∧iv=.int .i64 i∧jv=.int .i64 j∧(∀ a y,l[a]?=some y→a<i→lotLt y x=true)∧(∀ a y,l[a]?=some y→j≤a→lotLt y x=false)∧Below (w.heap.size+1) (w.alloc (.cells #[.string x.nom,.string x.hol,.int .i64 x.ser,.int .i64 x.units] 56)) wr)
  case atStart=>exact ⟨0,n,by omega,by omega,by omega,rfl,rfl,fun a y _ h=>absurd h (by omega),fun a y hy h=>absurd (List.getElem?_eq_some_iff.1 hy).1 (by have:=HN.out;omega),Below.refl _ _⟩
  case round =>
   obtain ⟨i,j,hij,hj,hm,rfl,rfl,hlo,hhi,hbl⟩:=hrel;have hsz:w.heap.size<wr.heap.size:=by have:=hbl.size;simp at this;omega
   have a0:wr.cell? ⟨w.heap.size,0,none⟩=some (.string x.nom):=qbC (by go_cell) hbl (by simp);have a1:wr.cell? ⟨w.heap.size,1,none⟩=some (.string x.hol):=qbC (by go_cell) hbl (by simp);have a2:wr.cell? ⟨w.heap.size,2,none⟩=some (.int .i64 x.ser):=qbC (by go_cell) hbl (by simp);have a3:wr.cell? ⟨w.heap.size,3,none⟩=some (.int .i64 x.units):=qbC (by go_cell) hbl (by simp);have b0:=qaB a0;have b1:=qaB a1;have b2:=qaB a2;have b3:=qaB a3;have HBL:=hid hbl;have HB0:=hid (show Below w.heap.size w wr from ((Below.refl _ _).alloc (Nat.le_refl _) _).trans (hbl.mono (by omega)));have HLO:=hid hlo;have HHI:=hid hhi;clear hbl hlo hhi a0 a1 a2 a3;by_cases hlt:i<j
   ·have hsum:IntKind.i64.wrap ((i:Int)+(j:Int))=(i:Int)+(j:Int):=IntWalk.i64_in _ (by omega);obtain ⟨q,hq⟩:∃ q,q=(i+j) / 2:=⟨_,rfl⟩;have hmid:((i:Int)+(j:Int)) / 2=(q:Int):=by omega
    have hq1:i≤q:=by omega
    have hq2:q<j:=by omega
    have hqn:q<n:=by omega
    clear hq;obtain ⟨y,hy⟩:∃ y,l[q]?=some y:=⟨l[q]'(by rw [←HN.out];omega),by simp [←HN.out,hqn]⟩;obtain ⟨c0,c1,c2,c3⟩:=(HC.out q y hy).below HB0.out;have d0:=qaB c0;have d1:=qaB c1;have d2:=qaB c2;have d3:=qaB c3;clear c0 c1 c2 c3;have HY:=hid hy;clear hy;go_upto_region 5 with fail
    cases hlt2:lotLt y x with
    | true =>
     have HPL:=hid (qeM hlt2);have HLT:=hid hlt2;clear hlt2;refine qaE (by kernel_rfl) (by kernel_rfl) ?_
     repeat (go_big_quiet_step (first|(go_at_call 84;exact qaA (qdM y x (-1) HPL.out _))))
     refine wpQuiet_nil ?_;intro w' hw';obtain ⟨p,rfl⟩:=hw';go_wp2
     go_roundg (gk - 1)
     case measure=>omega
     case rel=>exact ⟨q+1,j,by omega,by omega,by omega,by go_num,rfl,fun a z hz ha=>by
      by_cases haq:a=q
      ·subst haq;have:=hz.symm.trans HY.out;injection this with e;rw [e];exact HLT.out
      ·have hlen:=(List.getElem?_eq_some_iff.1 hz);have hlen2:=(List.getElem?_eq_some_iff.1 HY.out)
       have:=List.pairwise_iff_getElem.1 HS.out a q hlen.1 hlen2.1 (by omega)
       rw [hlen.2,hlen2.2] at this;exact qcS this HLT.out,HHI.out,HBL.out.trans ((qbG _ _ _).mono hsz)⟩
    | false =>
     obtain ⟨m,hm1,hm2⟩:∃ m,place y x=m∧0≤m:=⟨_,rfl,by have:=qgO y x;rw [hlt2] at this;simp at this;omega⟩;have HPL:=hid hm1;have HLT:=hid hlt2;clear hlt2 hm1;refine qaE (by kernel_rfl) (by kernel_rfl) ?_
     repeat (go_big_quiet_step (first|(go_at_call 84;exact qaA (qdM y x m HPL.out _))))
     refine wpQuiet_nil ?_;intro w' hw';obtain ⟨p,rfl⟩:=hw';go_wp2
     go_roundg (gk - 1)
     case measure=>omega
     case rel=>exact ⟨i,q,by omega,by omega,by omega,rfl,by go_num,HLO.out,(fun a z hz ha=>by
      by_cases haq:a=q
      ·subst haq;have:=hz.symm.trans HY.out;injection this with e;rw [e];exact HLT.out
      ·have hlen:=(List.getElem?_eq_some_iff.1 hz);have hlen2:=(List.getElem?_eq_some_iff.1 HY.out)
       have:=List.pairwise_iff_getElem.1 HS.out q a hlen2.1 hlen.1 (by omega)
       rw [hlen.2,hlen2.2] at this
       cases hzx:lotLt z x
       ·rfl
       ·have:=qcS this hzx;rw [HLT.out] at this;cases this),HBL.out.trans ((qbG _ _ _).mono hsz)⟩
   ·obtain rfl:i=j:=by omega
    have hpos:pos l x=i:=jgS l x i (by rw [←HN.out];omega) (fun a ha hai=>HLO.out a _ (List.getElem?_eq_getElem ha) hai) (fun hi=>HHI.out i _ (List.getElem?_eq_getElem hi) (Nat.le_refl _));have HP:=hid hpos;clear hpos;by_cases hin:i<n
    ·obtain ⟨y,hy⟩:∃ y,l[i]?=some y:=⟨l[i]'(by rw [←HN.out];omega),by simp [←HN.out,hin]⟩;obtain ⟨c0,c1,c2,c3⟩:=(HC.out i y hy).below HB0.out;have d0:=qaB c0;have d1:=qaB c1;have d2:=qaB c2;have d3:=qaB c3;clear c0 c1 c2 c3;have HFD:=hid (show foundB l x=decide (sameKey y x) by unfold foundB;rw [HP.out,hy]);clear hy;go_upto_region 8 with fail
     by_cases hk:sameKey y x
     ·have HPL:=hid ((qfW y x).2 hk);have HK:=hid hk;clear hk;refine qaE (by kernel_rfl) (by kernel_rfl) ?_
      repeat (go_big_quiet_step (first|(go_at_call 84;exact qaA (qdM y x 0 HPL.out _))))
      refine wpQuiet_nil ?_;intro w' hw';obtain ⟨p,rfl⟩:=hw';go_wp2
      go_ret2
      exact ⟨qqC (by rw [HP.out]) (by rw [HFD.out,decide_eq_true HK.out]),HB0.out.trans ((qbG _ _ _).mono HB0.out.size)⟩
     ·obtain ⟨m,hm1,hm2⟩:∃ m,place y x=m∧m≠0:=⟨_,rfl,fun e=>hk ((qfW y x).1 e)⟩;have hm3:(m==0)=false:=beq_eq_false_iff_ne.2 hm2;have HPL:=hid hm1;have HK:=hid hk;clear hk hm1 hm2;refine qaE (by kernel_rfl) (by kernel_rfl) ?_
      repeat (go_big_quiet_step (first|(go_at_call 84;exact qaA (qdM y x m HPL.out _))))
      refine wpQuiet_nil ?_;intro w' hw';obtain ⟨p,rfl⟩:=hw';go_wp2
      go_ret2
      exact ⟨qqC (by rw [HP.out]) (by rw [HFD.out,decide_eq_false HK.out]),HB0.out.trans ((qbG _ _ _).mono HB0.out.size)⟩
    ·have HFD:=hid (show foundB l x=false by unfold foundB;rw [HP.out,List.getElem?_eq_none (by rw [←HN.out];omega)]);go_upto_region 8 with fail
     refine qaE (by kernel_rfl) (by kernel_rfl) ?_
     repeat (go_big_quiet_step (fail))
     refine wpQuiet_nil ?_;intro w' hw';obtain ⟨p,rfl⟩:=hw';go_wp2
     go_ret2
     exact ⟨qqC (by rw [HP.out]) HFD.out.symm,HB0.out.trans ((qbG _ _ _).mono HB0.out.size)⟩
end Go.Proofs.YtemoddmadfoaiaaGreat
