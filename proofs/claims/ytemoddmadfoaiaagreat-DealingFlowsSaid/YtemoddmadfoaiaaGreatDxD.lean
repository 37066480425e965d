import Derived.Test.YtemoddmadfoaiaaGreatDxC
import Derived.ProofKit
import Derived.OpenShut
import Derived.Deep.Slices
import Derived.Deep.Strs
import Derived.Lib.SmallJoins
import Derived.DataShut
set_option linter.unusedVariables false
set_option linter.unusedSimpArgs false
set_option maxRecDepth 100000
set_option maxHeartbeats 8000000
namespace Go.Proofs.YtemoddmadfoaiaaGreat
open Go.RowKit Big Reg Al Ap Ga Go.ChangeShapes Go.WideShapes Go.ChangeAt Go.Joins Go.Deep
open Lib (hid)
theorem Tryz.cells66:Tryz.prog.cellsOf 66=7:=by kernel_rfl
theorem Tryz.cells54:Tryz.prog.cellsOf 54=2:=by kernel_rfl
theorem Tryz.cells9:Tryz.prog.cellsOf 9=1:=by kernel_rfl
theorem Tryz.cells3:Tryz.prog.cellsOf 3=1:=by kernel_rfl
theorem Tryz.cells38:Tryz.prog.cellsOf 38=1:=by kernel_rfl
theorem jaK (g o j:Nat):(⟨g,o,none⟩:Addr).add j=⟨g,o+j,none⟩:=by unfold Addr.add;split<;>simp_all
theorem list7 {cs:List Value} (h:cs.length=7):∃ c0 c1 c2 c3 c4 c5 c6,cs=[c0,c1,c2,c3,c4,c5,c6]:=by
 match cs,h with
 | [c0,c1,c2,c3,c4,c5,c6],_=>exact ⟨c0,c1,c2,c3,c4,c5,c6,rfl⟩
instance instInhabitedRn:Inhabited Rn:=⟨⟨⟨#[]⟩,⟨#[]⟩,⟨#[]⟩,0,0,0,none,0,0⟩⟩
set_option maxRecDepth 100000
section
variable {H:Type} {enc:TypeId × Value→H} {w:World} {base:Nat} {spare:Nat→Bool} {held:Bool}
theorem jaM {P:Program} {fs:Array Field} {t:TypeId} {fuel:Nat} {cs:List Value} {x:DataW H × List MemPlace} (ht:P.underlying t=some (.struct fs)) (h:DataW.trod enc P w base spare held fuel t cs=some x) :
  cs.length=P.cellsOf t∧∃ n,∀ f∈fs.toList,∃ y,DataW.trod enc P w base spare held n f.type ((cs.drop f.offset).take (P.cellsOf f.type))=some y:=by
 obtain ⟨xs,n,_,rfl,hl,hlen,hf⟩:=DataW.trod_struct ht h
 refine ⟨hl,n,fun f hm=>?_⟩
 obtain ⟨i,hi,rfl⟩:=List.mem_iff_getElem.1 hm
 have hi1:i<fs.size:=by simpa using hi
 have hi2:i<xs.length:=by rw [hlen];exact hi1
 refine ⟨xs[i],?_⟩
 have:=hf i fs[i] (Array.getElem?_eq_getElem hi1)
 rw [List.getElem?_eq_getElem hi2] at this
 simpa using this
theorem qsF {n:Nat} {c0 c1:Value} {x:DataW H × List MemPlace} (h:DataW.trod enc Tryz.prog w base spare held n 54 [c0,c1]=some x):∃ a b:ByteArray,c0=.string a∧c1=.string b:=by
 obtain ⟨y0,y1,m,_,_,h0,h1⟩:=trod_struct2 Tryz.underlying54 h
 simp only [Tryz.cells9] at h0 h1
 obtain ⟨a,e0,_,_⟩:=DataW.trod_string Tryz.underlying9 h0
 obtain ⟨b,e1,_,_⟩:=DataW.trod_string Tryz.underlying9 h1
 simp at e0 e1
 exact ⟨a,b,e0,e1⟩
theorem qrK {n:Nat} {cs:List Value} {x:DataW H × List MemPlace} (h:DataW.trod enc Tryz.prog w base spare held n 66 cs=some x):∃ T:Rn,cs=T.cells:=by
 obtain ⟨hl,m,hf⟩:=jaM Tryz.underlying66 h
 rw [Tryz.cells66] at hl
 obtain ⟨c0,c1,c2,c3,c4,c5,c6,rfl⟩:=list7 hl
 simp only [List.forall_mem_cons,List.not_mem_nil,false_imp_iff,implies_true,and_true] at hf
 obtain ⟨⟨_,g0⟩,⟨_,g1⟩,⟨_,g2⟩,⟨_,g3⟩,⟨_,g4⟩,⟨_,g5⟩⟩:=hf
 simp only [Tryz.cells3,Tryz.cells9,Tryz.cells54,Tryz.cells38] at g0 g1 g2 g3 g4 g5
 obtain ⟨key,e0,_,_⟩:=DataW.trod_string Tryz.underlying9 g0
 obtain ⟨nom,hol,e1,e2⟩:=qsF (c0:=c1) (c1:=c2) g1
 obtain ⟨kind,e3,_,_⟩:=DataW.trod_int Tryz.underlying3 g2
 obtain ⟨units,e4,_,_⟩:=DataW.trod_int Tryz.underlying3 g3
 obtain ⟨money,e5,_,_⟩:=DataW.trod_int Tryz.underlying3 g4
 obtain ⟨a,ln,cp,e6⟩:∃ a ln cp,c6=.slice a ln cp:=by
  rcases open_slice Tryz.underlying38 g5 with ⟨e,_⟩|⟨a,len,cap,_,_,_,_,e,_⟩
  ·simp at e;exact ⟨none,0,0,e⟩
  ·simp at e;exact ⟨some a,len,cap,e⟩
 simp at e0 e3 e4 e5
 exact ⟨⟨key,nom,hol,kind,units,money,a,ln,cp⟩,by rw [e0,e1,e2,e3,e4,e5,e6];rfl⟩
theorem qoS {n:Nat} {cs:List Value} {x:DataW H × List MemPlace} (h:DataW.trod enc Tryz.prog w base spare held n 45 cs=some x):∃ (A:Option Addr) (cap:Nat) (l:List Rn),cs=[.slice A l.length cap]∧RnsAt w (.slice A l.length cap) l:=by
 rcases open_slice Tryz.underlying45 h with ⟨rfl,_⟩|⟨a,len,cap,m,k,D,Pl,rfl,_,hlc,hcm,hm,_,hx⟩
 ·exact ⟨none,0,[],rfl,by simp [cellsF7],by decide,none,0,rfl,fun h=>by simp at h⟩
 ·have hlm:len≤m:=by rw [hm];split<;>omega
  rw [Tryz.cells66] at hx
  obtain ⟨f,hf⟩:=choose_lt (α:=Rn) (n:=len) (p:=fun i y=>w.cells? base (a.add (i*7)) 7=some y.cells) (fun i hi=>by
   obtain ⟨cs',h1,h2⟩:=hx i (by omega)
   obtain ⟨y,rfl⟩:=qrK h2
   exact ⟨y,h1⟩)
  have hlen:((List.range len).map f).length=len:=by simp
  refine ⟨some a,cap,(List.range len).map f,by rw [hlen],by rw [qiL],by rw [hlen];exact Nat.le_trans hlc hcm,some a,cap,rfl,fun h0=>?_⟩
  have hcell:∀ i,i<len→∀ j,j<7→w.cell? ((a.add (i*7)).add j)=(f i).cells[j]?:=fun i hi j hj=>(World.cells?_some (hf i hi)).2.2 j hj
  have hsp:a.spot=none:=by
   have:=hcell 0 (by rw [hlen] at h0;exact h0) 0 (by omega)
   cases hs:a.spot with
   | none=>rfl
   | some p=>exfalso;simp [World.cell?,Addr.add,hs,Rn.cells] at this;split at this<;>simp at this
  obtain ⟨g,off,sp⟩:=a
  simp only at hsp
  subst hsp
  refine ⟨g,off,rfl,fun j u hj=>?_⟩
  have hjl:j<len*7:=by
   have:=(List.getElem?_eq_some_iff.1 hj).1
   rwa [qiL,hlen] at this
  have hi:j / 7<len:=by omega
  have hr:=hcell (j / 7) hi (j%7) (by omega)
  rw [jaK,jaK] at hr
  have e:off+j / 7*7+j%7=off+j:=by omega
  rw [e] at hr
  rw [hr]
  obtain ⟨u',hu'⟩:∃ u',(f (j / 7)).cells[j%7]?=some u':=⟨_,List.getElem?_eq_getElem (show j%7<7 by omega)⟩
  have hg:=qfH ((List.range len).map f) (j / 7) (f (j / 7)) (by simp [hi]) (j%7) u' hu'
  rw [show j / 7*7+j%7=j by omega,hj] at hg
  rw [hu',hg]
theorem open_notes {r:Reach} {b0:Nat} {v:Value} {d:DataW H} {p:List MemPlace} (hv:Value.okWide Tryz.prog w r b0 45 v) (h:DataW.Trod enc Tryz.prog w base spare held 45 v d p) :
  ∃ (A:Option Addr) (cap:Nat) (l:List Rn),v=.slice A l.length cap∧RnsAt w (.slice A l.length cap) l:=by
 obtain ⟨a,len,cap,rfl⟩:=okWide_slice Tryz.underlying45 hv
 obtain ⟨fuel,hf⟩:=h
 obtain ⟨A,cap',l,e,hL⟩:=qoS hf
 simp [Value.cells] at e
 obtain ⟨rfl,rfl,rfl⟩:=e
 exact ⟨_,_,l,rfl,hL⟩
end
theorem flows_any (A:Option Addr) (cap:Nat) (l:List Rn) (w:World) (h:RnsAt w (.slice A l.length cap) l) :
  Calls Tryz.prog 10 #[.slice A l.length cap] w fun e w'=>e=.returned (.bool true)∧Below w.heap.size w w':=by
 obtain ⟨n,hn⟩:∃ n,n=l.length:=⟨_,rfl⟩
 rw [←hn] at h ⊢
 obtain ⟨p,hp⟩:∃ p,p=(flowR l).1:=⟨_,rfl⟩
 obtain ⟨q,hq⟩:∃ q,q=(flowR l).2:=⟨_,rfl⟩
 have H1:=hid (fun W (hb:Below w.heap.size w W)=>show Calls Tryz.prog 40 #[.slice A n cap] W fun e w'=>e=.returned (.tuple #[.int .i64 p,.int .i64 q])∧Below W.heap.size W w' by rw [hp,hq];exact qrR _ l W (Rd.below (by unfold RnsAt at h;exact h) hb))
 have H2:=hid (fun W (hb:Below w.heap.size w W)=>show Calls Tryz.prog 41 #[.slice A n cap] W fun e w'=>e=.returned (.tuple #[.int .i64 p,.int .i64 q])∧Below W.heap.size W w' by rw [hp,hq];exact qoJ _ l W (Rd.below (by unfold RnsAt at h;exact h) hb))
 clear hp hq h hn
 go_enter Tryz.func10,Tryz.ntmps10
 go_upto_region 2 with (go_at_call 40;refine (H1.out _ (Below.refl _ _)).mono ?_;rintro e w1 ⟨rfl,hb1⟩;have HB1:=hid hb1;clear hb1)
 go_upto_region 3 with (go_at_call 41;refine (H2.out _ HB1.out).mono ?_;rintro e w2 ⟨rfl,hb2⟩;have HB2:=hid (HB1.out.trans (hb2.mono HB1.out.size));clear hb2)
 go_wp2_with (go_at_call 13;refine (qzU _).mono ?_;rintro e w3 ⟨rfl,hb3⟩;have HB3:=hid (HB2.out.trans (hb3.mono HB2.out.size));clear hb3)
 go_ret
 exact ⟨rfl,HB3.out⟩
end Go.Proofs.YtemoddmadfoaiaaGreat
