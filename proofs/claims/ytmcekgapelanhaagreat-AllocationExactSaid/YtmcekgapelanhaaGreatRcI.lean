import Derived.Test.YtmcekgapelanhaaGreatRcG
import Derived.ProofKit
import Derived.OpenShut
import Derived.Deep.Slices
import Derived.Deep.Strs
import Derived.Lib.SmallJoins
import Derived.DataShut
set_option linter.unusedVariables false
set_option linter.unusedSimpArgs false
namespace Go.Proofs.YtmcekgapelanhaaGreat
open Go.RowKit Big Al Tok Go.ChangeShapes Go.WideShapes Go.ChangeAt Go.Joins Go.Deep
theorem Tryz.cells47:Tryz.prog.cellsOf 47=5:=by kernel_rfl
theorem Tryz.cells27:Tryz.prog.cellsOf 27=66:=by kernel_rfl
theorem Tryz.cells25:Tryz.prog.cellsOf 25=33:=by kernel_rfl
theorem Tryz.cells23:Tryz.prog.cellsOf 23=32:=by kernel_rfl
theorem Tryz.cells22:Tryz.prog.cellsOf 22=1:=by kernel_rfl
theorem Tryz.cells9:Tryz.prog.cellsOf 9=1:=by kernel_rfl
theorem Tryz.cells4:Tryz.prog.cellsOf 4=1:=by kernel_rfl
theorem Tryz.cells3:Tryz.prog.cellsOf 3=1:=by kernel_rfl
theorem list5 {cs:List Value} (h:cs.length=5):∃ a b c d e,cs=[a,b,c,d,e]:=by
 match cs,h with
 | [a,b,c,d,e],_=>exact ⟨a,b,c,d,e,rfl⟩
instance:Inhabited Bk:=⟨⟨⟨#[]⟩,0,0,0,0⟩⟩
theorem limbs_of (f:Nat→Nat) (n:Nat) (h:∀ i,i<n→f i<BB):∃ v,v<BB^n∧∀ i,i<n→lim v i=f i:=by
 induction n with
 | zero=>exact ⟨0,by simp,fun i hi=>by omega⟩
 | succ n ih =>
  obtain ⟨v,hv,hl⟩:=ih (fun i hi=>h i (by omega))
  refine ⟨v+f n*BB^n,?_,fun i hi=>?_⟩
  ·have hfn:=h n (by omega)
   have h2:(f n+1)*BB^n≤BB*BB^n:=Nat.mul_le_mul_right _ hfn
   rw [Nat.pow_succ,Nat.mul_comm (BB^n)]
   rw [Nat.add_mul,Nat.one_mul] at h2
   omega
  ·by_cases hin:i<n
   ·rw [lim_lo hin];exact hl i hin
   ·obtain rfl:i=n:=by omega
    rw [lim_hi hv (Nat.le_refl _),Nat.sub_self,lim_small (h i (by omega))];simp
theorem lv_get {n i:Nat} (v:Nat) (h:i<n):(lv n v)[i]?=some (.int .u32 (lim v i:Nat)):=by
 unfold lv cells
 rw [List.getElem?_map,dg_get v h];rfl
theorem booksB_len (l:List Bk):(cellsB l).length=l.length*5:=by
 induction l with
 | nil=>rfl
 | cons b l ih=>simp only [cellsB,List.flatMap_cons,List.length_append,List.length_cons,Bk.cells,List.length_nil] at ih ⊢;rw [ih];omega
theorem add_at (g o j:Nat):(⟨g,o,none⟩:Addr).add j=⟨g,o+j,none⟩:=by unfold Addr.add;split<;>simp_all
set_option maxRecDepth 100000
section
variable {H:Type} {enc:TypeId × Value→H} {w:World} {base:Nat} {spare:Nat→Bool} {held:Bool}
theorem magw_cells {n:Nat} {cs:List Value} {x:DataW H × List MemPlace} (h:DataW.trod enc Tryz.prog w base spare held n 23 cs=some x):∃ v,v<BB^32∧cs=lv 32 v:=by
 obtain ⟨xs,m,_,_,hl,hn,hf⟩:=DataW.trod_array Tryz.underlying23 h
 rw [Tryz.cells23] at hl
 have hi:∀ i,i<32→∃ d:Nat,d<BB∧cs[i]?=some (.int .u32 (d:Int)):=by
  intro i hi
  have h1:=hf i hi
  obtain ⟨y,hy⟩:∃ y,xs[i]?=some y:=⟨_,List.getElem?_eq_getElem (by omega)⟩
  rw [hy,Tryz.cells22,Nat.mul_one] at h1
  obtain ⟨d,e,_,hw⟩:=DataW.trod_int Tryz.underlying22 h1
  rw [Lit.wf_int_iff] at hw
  have hi':i<cs.length:=by omega
  rw [List.drop_eq_getElem_cons hi'] at e
  simp only [List.take_succ_cons,List.take_zero,List.cons.injEq,and_true] at e
  have h0:(0:Int)≤d:=hw.1
  have h2:d≤4294967295:=hw.2
  obtain ⟨k,rfl⟩:=Int.eq_ofNat_of_zero_le h0
  exact ⟨k,by unfold BB;omega,by rw [List.getElem?_eq_getElem hi',e]⟩
 obtain ⟨f,hf⟩:=choose_lt (α:=Nat) (n:=32) (p:=fun i d=>d<BB∧cs[i]?=some (.int .u32 (d:Int))) hi
 obtain ⟨v,hv,hlim⟩:=limbs_of f 32 (fun i hi=>(hf i hi).1)
 refine ⟨v,hv,List.ext_getElem? fun i=>?_⟩
 by_cases hlt:i<32
 ·rw [(hf i hlt).2,lv_get v hlt,hlim i hlt]
 ·rw [List.getElem?_eq_none (by omega),List.getElem?_eq_none (by rw [lv_len];omega)]
theorem intw_cells {n:Nat} {cs:List Value} {x:DataW H × List MemPlace} (h:DataW.trod enc Tryz.prog w base spare held n 25 cs=some x):∃ (b:Bool) (v:Nat),v<BB^32∧cs=.bool b::lv 32 v:=by
 obtain ⟨y0,y1,m,_,hl,h0,h1⟩:=trod_struct2 Tryz.underlying25 h
 rw [Tryz.cells25] at hl
 simp only [Tryz.cells4,Tryz.cells23,List.drop_zero] at h0 h1
 obtain ⟨b,e0,_⟩:=DataW.trod_bool Tryz.underlying4 h0
 obtain ⟨v,hv,e1⟩:=magw_cells h1
 refine ⟨b,v,hv,?_⟩
 match cs,hl with
 | c::cs',hl =>
  simp only [List.take_succ_cons,List.take_zero,List.cons.injEq,and_true] at e0
  simp only [List.drop_succ_cons,List.drop_zero] at e1
  rw [List.take_of_length_le (by simp at hl;omega)] at e1
  rw [e0,e1]
theorem ratio_cells {n:Nat} {cs:List Value} {x:DataW H × List MemPlace} (h:DataW.trod enc Tryz.prog w base spare held n 27 cs=some x):∃ (a b:Bool) (p q:Nat),cs=rat a p b q∧p<BB^32∧q<BB^32:=by
 obtain ⟨y0,y1,m,_,hl,h0,h1⟩:=trod_struct2 Tryz.underlying27 h
 rw [Tryz.cells27] at hl
 simp only [Tryz.cells25,List.drop_zero] at h0 h1
 obtain ⟨a,p,hp,e0⟩:=intw_cells h0
 obtain ⟨b,q,hq,e1⟩:=intw_cells h1
 refine ⟨a,b,p,q,?_,hp,hq⟩
 rw [List.take_of_length_le (by rw [List.length_drop];omega)] at e1
 unfold rat
 rw [←e0,←e1,List.take_append_drop]
theorem open_ratio {r:Reach} {b0:Nat} {v:Value} {d:DataW H} {p:List MemPlace} (hv:Value.okWide Tryz.prog w r b0 27 v) (h:DataW.Trod enc Tryz.prog w base spare held 27 v d p) :
  ∃ cs:List Value,v=.agg cs.toArray∧∃ (a b:Bool) (p q:Nat),cs=rat a p b q∧p<BB^32∧q<BB^32:=by
 obtain ⟨cs,rfl,hsz⟩:=okWide_struct Tryz.underlying27 hv
 obtain ⟨fuel,hf⟩:=h
 exact ⟨cs.toList,by simp,ratio_cells (by simpa [Value.cells] using hf)⟩
theorem trod_five {t:TypeId} {f0 f1 f2 f3 f4:Field} {fuel:Nat} {cs:List Value} {x:DataW H × List MemPlace} {P:Program} (ht:P.underlying t=some (.struct #[f0,f1,f2,f3,f4])) (h:DataW.trod enc P w base spare held fuel t cs=some x) :
  ∃ y0 y1 y2 y3 y4 n,cs.length=P.cellsOf t∧DataW.trod enc P w base spare held n f0.type ((cs.drop f0.offset).take (P.cellsOf f0.type))=some y0 ∧
   DataW.trod enc P w base spare held n f1.type ((cs.drop f1.offset).take (P.cellsOf f1.type))=some y1∧DataW.trod enc P w base spare held n f2.type ((cs.drop f2.offset).take (P.cellsOf f2.type))=some y2 ∧
   DataW.trod enc P w base spare held n f3.type ((cs.drop f3.offset).take (P.cellsOf f3.type))=some y3∧DataW.trod enc P w base spare held n f4.type ((cs.drop f4.offset).take (P.cellsOf f4.type))=some y4:=by
 obtain ⟨xs,n,_,rfl,hl,hlen,hf⟩:=DataW.trod_struct ht h
 match xs,hlen with
 | [y0,y1,y2,y3,y4],_=>exact ⟨y0,y1,y2,y3,y4,n,hl,by simpa using hf 0 f0 rfl,by simpa using hf 1 f1 rfl,by simpa using hf 2 f2 rfl,by simpa using hf 3 f3 rfl,by simpa using hf 4 f4 rfl⟩
theorem book_cells {n:Nat} {cs:List Value} {x:DataW H × List MemPlace} (h:DataW.trod enc Tryz.prog w base spare held n 47 cs=some x):∃ b:Bk,cs=b.cells:=by
 obtain ⟨y0,y1,y2,y3,y4,m,hl,h0,h1,h2,h3,h4⟩:=trod_five Tryz.underlying47 h
 rw [Tryz.cells47] at hl
 obtain ⟨c0,c1,c2,c3,c4,rfl⟩:=list5 hl
 simp only [Tryz.cells3,Tryz.cells9] at h0 h1 h2 h3 h4
 obtain ⟨a,e0,_,_⟩:=DataW.trod_string Tryz.underlying9 h0
 obtain ⟨b,e1,_,_⟩:=DataW.trod_int Tryz.underlying3 h1
 obtain ⟨c,e2,_,_⟩:=DataW.trod_int Tryz.underlying3 h2
 obtain ⟨d,e3,_,_⟩:=DataW.trod_int Tryz.underlying3 h3
 obtain ⟨e,e4,_,_⟩:=DataW.trod_int Tryz.underlying3 h4
 simp at e0 e1 e2 e3 e4
 exact ⟨⟨a,b,c,d,e⟩,by rw [e0,e1,e2,e3,e4];rfl⟩
theorem books_cells {n:Nat} {cs:List Value} {x:DataW H × List MemPlace} (h:DataW.trod enc Tryz.prog w base spare held n 28 cs=some x):∃ (A:Option Addr) (cap:Nat) (l:List Bk),cs=[.slice A l.length cap]∧BksAt w (.slice A l.length cap) l:=by
 rcases open_slice Tryz.underlying28 h with ⟨rfl,_⟩|⟨a,len,cap,m,k,D,Pl,rfl,_,hlc,hcm,hm,_,hx⟩
 ·exact ⟨none,0,[],rfl,by simp [cellsB],by decide,none,0,rfl,fun h=>by simp at h⟩
 ·have hlm:len≤m:=by rw [hm];split<;>omega
  rw [Tryz.cells47] at hx
  obtain ⟨f,hf⟩:=choose_lt (α:=Bk) (n:=len) (p:=fun i y=>w.cells? base (a.add (i*5)) 5=some y.cells) (fun i hi=>by
   obtain ⟨cs',h1,h2⟩:=hx i (by omega)
   obtain ⟨y,rfl⟩:=book_cells h2
   exact ⟨y,h1⟩)
  have hlen:((List.range len).map f).length=len:=by simp
  refine ⟨some a,cap,(List.range len).map f,by rw [hlen],by rw [booksB_len],by rw [hlen];exact Nat.le_trans hlc hcm,some a,cap,rfl,fun h0=>?_⟩
  have hcell:∀ i,i<len→∀ j,j<5→w.cell? ((a.add (i*5)).add j)=(f i).cells[j]?:=fun i hi j hj=>(World.cells?_some (hf i hi)).2.2 j hj
  have hsp:a.spot=none:=by
   have:=hcell 0 (by rw [hlen] at h0;exact h0) 0 (by omega)
   cases hs:a.spot with
   | none=>rfl
   | some p=>exfalso;simp [World.cell?,Addr.add,hs,Bk.cells] at this;split at this<;>simp at this
  obtain ⟨g,off,sp⟩:=a
  simp only at hsp
  subst hsp
  refine ⟨g,off,rfl,fun j u hj=>?_⟩
  have hjl:j<len*5:=by
   have:=(List.getElem?_eq_some_iff.1 hj).1
   rwa [booksB_len,hlen] at this
  have hi:j / 5<len:=by omega
  have hr:=hcell (j / 5) hi (j%5) (by omega)
  rw [add_at,add_at] at hr
  have e:off+j / 5*5+j%5=off+j:=by omega
  rw [e] at hr
  rw [hr]
  obtain ⟨u',hu'⟩:∃ u',(f (j / 5)).cells[j%5]?=some u':=⟨_,List.getElem?_eq_getElem (show j%5<5 by omega)⟩
  have hg:=cellsB_get ((List.range len).map f) (j / 5) (f (j / 5)) (by simp [hi]) (j%5) u' hu'
  rw [show j / 5*5+j%5=j by omega,hj] at hg
  rw [hu',hg]
theorem open_books {r:Reach} {b0:Nat} {v:Value} {d:DataW H} {p:List MemPlace} (hv:Value.okWide Tryz.prog w r b0 28 v) (h:DataW.Trod enc Tryz.prog w base spare held 28 v d p) :
  ∃ (A:Option Addr) (cap:Nat) (l:List Bk),v=.slice A l.length cap∧BksAt w (.slice A l.length cap) l:=by
 obtain ⟨a,len,cap,rfl⟩:=okWide_slice Tryz.underlying28 hv
 obtain ⟨fuel,hf⟩:=h
 obtain ⟨A,cap',l,e,hL⟩:=books_cells hf
 simp [Value.cells] at e
 obtain ⟨rfl,rfl,rfl⟩:=e
 exact ⟨_,_,l,rfl,hL⟩
end
theorem exact_raw (total:Int) (cr:List Value) (A:Option Addr) (cap:Nat) (l:List Bk) (w:World) (hr:∃ (a b:Bool) (p q:Nat),cr=rat a p b q∧p<BB^32∧q<BB^32) (h:BksAt w (.slice A l.length cap) l) :
  Calls Tryz.prog 3 #[.int .i64 total,.agg cr.toArray,.slice A l.length cap] w fun e w'=>e=.returned (.bool true)∧Below w.heap.size w w':=by
 obtain ⟨a,b,p,q,hc,hp,hq⟩:=hr
 exact exact_law total l _ w h hc hp hq
end Go.Proofs.YtmcekgapelanhaaGreat
