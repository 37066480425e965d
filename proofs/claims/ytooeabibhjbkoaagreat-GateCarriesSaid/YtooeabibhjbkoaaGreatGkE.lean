import Derived.Test.YtooeabibhjbkoaaGreatGkD
import Derived.ProofKit
import Derived.OpenShut
import Derived.Deep.Slices
import Derived.Deep.Strs
import Derived.Lib.SmallJoins
import Derived.DataShut
set_option linter.unusedVariables false
set_option linter.unusedSimpArgs false
set_option maxRecDepth 100000
namespace Go.Proofs.YtooeabibhjbkoaaGreat
open Go.RowKit Big Reg Al Ap Ga Go.ChangeShapes Go.WideShapes Go.ChangeAt Go.Joins Go.Deep
theorem Tryz.cells9:Tryz.prog.cellsOf 9=1:=by kernel_rfl
theorem Tryz.cells4:Tryz.prog.cellsOf 4=1:=by kernel_rfl
theorem Tryz.cells3:Tryz.prog.cellsOf 3=1:=by kernel_rfl
instance:Inhabited Rq:=⟨⟨⟨#[]⟩,0,0⟩⟩
theorem lv_get {n i:Nat} (v:Nat) (h:i<n):(lv n v)[i]?=some (.int .u32 (lim v i:Nat)):=by
 unfold lv cells
 rw [List.getElem?_map,dg_get v h];rfl
theorem add_at (g o j:Nat):(⟨g,o,none⟩:Addr).add j=⟨g,o+j,none⟩:=by unfold Addr.add;split<;>simp_all
set_option maxRecDepth 100000
section
variable {H:Type} {enc:TypeId × Value→H} {w:World} {base:Nat} {spare:Nat→Bool} {held:Bool}
end
theorem Rd.nil (w:World):Rd w 1 (.slice none 0 0) ([]:List Int).length (([]:List Int).map (Value.int .i64)):=⟨rfl,by decide,none,0,rfl,fun h=>absurd h (by decide)⟩
end Go.Proofs.YtooeabibhjbkoaaGreat
set_option maxHeartbeats 8000000
namespace Go.Proofs.YtooeabibhjbkoaaGreat
open Go.RowKit Big Reg Al Ap Ga Go.ChangeShapes Go.WideShapes Go.ChangeAt Go.Joins Go.Deep
open Lib (hid)
theorem run_neT (x:Tk) (w:World):(binOp .neq 65 (.agg x.cells.toArray) (.agg x.cells.toArray)).run Tryz.prog w=.ok (.bool false) w:=by
 unfold Tk.cells
 simp [go_sem]
theorem wpQuiet_neT {ops:Array Oper} {C:World→Prop} {Q:Act→Prop} {a:Act} {op:Oper} {rest:List Oper} {x y:Operand} {t:TypeId} {T:Tk} (hgd:Region.wanted op (yielded ops a.tmps)=true) (ho:op.op=.binOp .neq 65 x y t) (hx:a.eval x=.agg T.cells.toArray) (hy:a.eval y=.agg T.cells.toArray)
  (h:wpQuiet Tryz.prog ops C Q rest (a.put op.dst (.bool false))):wpQuiet Tryz.prog ops C Q (op::rest) a:=by
 refine wpQuiet_step (fun K hK=>?_)
 rw [if_pos hgd]
 refine ⟨.bool false,fun W hW=>?_,hK _ h⟩
 have hg:=run_eqGuard_agg (P:=Tryz.prog) W .neq 65 x y T.cells.toArray T.cells.toArray (by kernel_rfl)
 unfold Oper.quietAt execOp
 simp [ho,hx,hy,hg,run_neT T W,Oper.quietUpon]
theorem same24_yes (va vb:Value) (l:List Tk) (w:World) (ha:TksAt w va l) (hb:TksAt w vb l) :
  Calls Tryz.prog 26 #[va,vb] w fun e w'=>e=.returned (.bool true)∧Below w.heap.size w w':=by
 obtain ⟨_,hA2,A,ca,rfl,hA3⟩:=ha
 obtain ⟨_,hB2,B,cb,rfl,hB3⟩:=hb
 obtain ⟨n,hn⟩:∃ n,n=l.length:=⟨_,rfl⟩
 rw [←hn] at hA2 hA3 hB2 hB3 ⊢
 have HN:=hid hn
 have HA3:=hid hA3
 have HB3:=hid hB3
 clear hn hA3 hB3
 go_enter Tryz.func26,Tryz.ntmps26
 go_wp2
 go_loopg [5] n (fun m iv wr=>∃ k:Nat,iv=.int .i64 k∧k≤n∧n≤m+k∧Below w.heap.size w wr)
 case atStart=>exact ⟨0,rfl,by omega,by omega,Below.refl _ _⟩
 case round =>
  obtain ⟨k,rfl,hk,hm,hbl⟩:=hrel
  have HBL:=hid hbl
  by_cases hkn:k<n
  ·obtain ⟨g,off,rfl,hc⟩:=HA3.out (by omega)
   obtain ⟨g2,off2,rfl,hc2⟩:=HB3.out (by omega)
   obtain ⟨x,hx⟩:∃ x,l[k]?=some x:=⟨l[k]'(by rw [←HN.out];exact hkn),by simp [←HN.out,hkn]⟩
   have RA:=hid (show wr.rangeAt g (off+k*13) x.cells from fun j u hu=>by rw [Nat.add_assoc];exact qcU (hc _ _ (cellsT_get l k x hx j u hu)) hbl)
   have RB:=hid (show wr.rangeAt g2 (off2+k*13) x.cells from fun j u hu=>by rw [Nat.add_assoc];exact qcU (hc2 _ _ (cellsT_get l k x hx j u hu)) hbl)
   have hkI:(k:Int)<n:=by omega
   clear hc hc2 hx hbl
   obtain ⟨cx,hcx⟩:∃ cx,cx=x.cells:=⟨_,rfl⟩
   rw [←hcx] at RA RB
   have SCT:=hid (show (Tryz.prog.info? 65).map (·.size)=some cx.length by rw [hcx];kernel_rfl)
   have HCX:=hid hcx
   clear hcx
   go_upto_region 6 with fail
   have FR:=hid (Fr.start wr)
   have FR0:=hid FR.out.le
   refine wfn [] [(17,.slice (some ⟨g,off,none⟩) n ca),(18,.int .i64 (k:Int)),(19,.pointer (some ⟨g,off+k*13,none⟩)),(20,.agg cx.toArray),(21,.slice (some ⟨g2,off2,none⟩) n cb),(22,.int .i64 (k:Int)),(23,.pointer (some ⟨g2,off2+k*13,none⟩)),(24,.agg cx.toArray),(25,.bool false)] _ (by simp only [zz4,zz5,zq];rfl) (by kernel_rfl) (by kernel_rfl) rfl ?_ ?_ ?_ ?_
   ·intro W' hW'
    have ra:=ranges_up RA.out hW'
    have rb:=ranges_up RB.out hW'
    iterate 3 (refine fxo ?_ ?_;(go_big_quiet_step (fail);(try simp only [zq]);exact wqn rfl))
    refine fxo (wlq (by rfl) _ _ rfl _ _ rfl cx _ ra Tryz.underlying65 rfl SCT.out (wqn (by simp only [zq]))) ?_
    iterate 3 (refine fxo ?_ ?_;(go_big_quiet_step (fail);(try simp only [zq]);exact wqn rfl))
    refine fxo (wlq (by rfl) _ _ rfl _ _ rfl cx _ rb Tryz.underlying65 rfl SCT.out (wqn (by simp only [zq]))) ?_
    refine fxo (wpQuiet_neT (T:=x) (by rfl) rfl (by rw [←HCX.out];rfl) (by rw [←HCX.out];rfl) (wqn (by simp only [zq]))) ?_
    exact fxn
   ·exact oN
   ·exact oN
   intro β wx1 E
   replace FR:=hid (FR.out.fnw E rfl)
   have hE:=E.below rfl
   simp only [nP,zr,zq]
   replace FR0:=hid FR.out.le
   clear E
   have HB3:=hid (HBL.out.trans (hE.mono HBL.out.size))
   clear hE
   go_wp2
   go_roundg (gk - 1)
   case measure=>omega
   case rel=>exact ⟨k+1,by go_num,by omega,by omega,HB3.out⟩
  ·clear hbl
   go_wp2
   go_ret
   exact ⟨rfl,HBL.out⟩
theorem Tryz.cells65:Tryz.prog.cellsOf 65=13:=by kernel_rfl
theorem Tryz.cells63:Tryz.prog.cellsOf 63=11:=by kernel_rfl
theorem Tryz.cells61:Tryz.prog.cellsOf 61=2:=by kernel_rfl
theorem list13 {cs:List Value} (h:cs.length=13):∃ c0 c1 c2 c3 c4 c5 c6 c7 c8 c9 c10 c11 c12,cs=[c0,c1,c2,c3,c4,c5,c6,c7,c8,c9,c10,c11,c12]:=by
 match cs,h with
 | [c0,c1,c2,c3,c4,c5,c6,c7,c8,c9,c10,c11,c12],_=>exact ⟨c0,c1,c2,c3,c4,c5,c6,c7,c8,c9,c10,c11,c12,rfl⟩
instance instInhabitedTk:Inhabited Tk:=⟨⟨⟨⟨#[]⟩,⟨#[]⟩,⟨#[]⟩,⟨#[]⟩,⟨#[]⟩,0,0,0,0,0,false⟩,0,0⟩⟩
set_option maxRecDepth 100000
section
variable {H:Type} {enc:TypeId × Value→H} {w:World} {base:Nat} {spare:Nat→Bool} {held:Bool}
theorem trod_at {P:Program} {fs:Array Field} {t:TypeId} {fuel:Nat} {cs:List Value} {x:DataW H × List MemPlace} (ht:P.underlying t=some (.struct fs)) (h:DataW.trod enc P w base spare held fuel t cs=some x) :
  cs.length=P.cellsOf t∧∃ n,∀ f∈fs.toList,∃ y,DataW.trod enc P w base spare held n f.type ((cs.drop f.offset).take (P.cellsOf f.type))=some y:=by
 obtain ⟨xs,n,_,rfl,hl,hlen,hf⟩:=DataW.trod_struct ht h
 refine ⟨hl,n,fun f hm=>?_⟩
 obtain ⟨i,hi,rfl⟩:=List.mem_iff_getElem.1 hm
 have hi1:i<fs.size:=by simpa using hi
 have hi2:i<xs.length:=by rw [hlen];exact hi1
 refine ⟨xs[i],?_⟩
 have:=hf i fs[i] (Array.getElem?_eq_getElem hi1)
 rw [List.getElem?_eq_getElem hi2] at this
 simpa using this
theorem acct_cells {n:Nat} {c0 c1:Value} {x:DataW H × List MemPlace} (h:DataW.trod enc Tryz.prog w base spare held n 61 [c0,c1]=some x):∃ a b:ByteArray,c0=.string a∧c1=.string b:=by
 obtain ⟨y0,y1,m,_,_,h0,h1⟩:=trod_struct2 Tryz.underlying61 h
 simp only [Tryz.cells9] at h0 h1
 obtain ⟨a,e0,_,_⟩:=DataW.trod_string Tryz.underlying9 h0
 obtain ⟨b,e1,_,_⟩:=DataW.trod_string Tryz.underlying9 h1
 simp at e0 e1
 exact ⟨a,b,e0,e1⟩
theorem taken_cells {n:Nat} {cs:List Value} {x:DataW H × List MemPlace} (h:DataW.trod enc Tryz.prog w base spare held n 65 cs=some x):∃ T:Tk,cs=T.cells:=by
 obtain ⟨hl,m,hf⟩:=trod_at Tryz.underlying65 h
 rw [Tryz.cells65] at hl
 obtain ⟨c0,c1,c2,c3,c4,c5,c6,c7,c8,c9,c10,c11,c12,rfl⟩:=list13 hl
 simp only [List.forall_mem_cons,List.not_mem_nil,false_imp_iff,implies_true,and_true] at hf
 obtain ⟨⟨_,ho⟩,⟨_,hd⟩,⟨_,hr⟩⟩:=hf
 obtain ⟨_,m2,hg⟩:=trod_at Tryz.underlying63 ho
 simp only [List.forall_mem_cons,List.not_mem_nil,false_imp_iff,implies_true,and_true] at hg
 obtain ⟨⟨_,g0⟩,⟨_,g1⟩,⟨_,g2⟩,⟨_,g3⟩,⟨_,g4⟩,⟨_,g5⟩,⟨_,g6⟩,⟨_,g7⟩,⟨_,g8⟩,⟨_,g9⟩⟩:=hg
 simp only [Tryz.cells3,Tryz.cells9,Tryz.cells4,Tryz.cells63,Tryz.cells61] at hd hr g0 g1 g2 g3 g4 g5 g6 g7 g8 g9
 obtain ⟨day,e11,_,_⟩:=DataW.trod_int Tryz.underlying3 hd
 obtain ⟨first,e12,_,_⟩:=DataW.trod_int Tryz.underlying3 hr
 obtain ⟨key,e0,_,_⟩:=DataW.trod_string Tryz.underlying9 g0
 obtain ⟨nom,hol,e1,e2⟩:=acct_cells (c0:=c1) (c1:=c2) g1
 obtain ⟨fund,e3,_,_⟩:=DataW.trod_string Tryz.underlying9 g2
 obtain ⟨cls,e4,_,_⟩:=DataW.trod_string Tryz.underlying9 g3
 obtain ⟨kind,e5,_,_⟩:=DataW.trod_int Tryz.underlying3 g4
 obtain ⟨amount,e6,_,_⟩:=DataW.trod_int Tryz.underlying3 g5
 obtain ⟨units,e7,_,_⟩:=DataW.trod_int Tryz.underlying3 g6
 obtain ⟨at_,e8,_,_⟩:=DataW.trod_int Tryz.underlying3 g7
 obtain ⟨known,e9,_,_⟩:=DataW.trod_int Tryz.underlying3 g8
 obtain ⟨void,e10,_⟩:=DataW.trod_bool Tryz.underlying4 g9
 simp at e0 e3 e4 e5 e6 e7 e8 e9 e10 e11 e12
 exact ⟨⟨⟨key,nom,hol,fund,cls,kind,amount,units,at_,known,void⟩,day,first⟩,by rw [e0,e1,e2,e3,e4,e5,e6,e7,e8,e9,e10,e11,e12];rfl⟩
theorem takens_cells {n:Nat} {cs:List Value} {x:DataW H × List MemPlace} (h:DataW.trod enc Tryz.prog w base spare held n 52 cs=some x):∃ (A:Option Addr) (cap:Nat) (l:List Tk),cs=[.slice A l.length cap]∧TksAt w (.slice A l.length cap) l:=by
 rcases open_slice Tryz.underlying52 h with ⟨rfl,_⟩|⟨a,len,cap,m,k,D,Pl,rfl,_,hlc,hcm,hm,_,hx⟩
 ·exact ⟨none,0,[],rfl,by simp [cellsT],by decide,none,0,rfl,fun h=>by simp at h⟩
 ·have hlm:len≤m:=by rw [hm];split<;>omega
  rw [Tryz.cells65] at hx
  obtain ⟨f,hf⟩:=choose_lt (α:=Tk) (n:=len) (p:=fun i y=>w.cells? base (a.add (i*13)) 13=some y.cells) (fun i hi=>by
   obtain ⟨cs',h1,h2⟩:=hx i (by omega)
   obtain ⟨y,rfl⟩:=taken_cells h2
   exact ⟨y,h1⟩)
  have hlen:((List.range len).map f).length=len:=by simp
  refine ⟨some a,cap,(List.range len).map f,by rw [hlen],by rw [cellsT_len],by rw [hlen];exact Nat.le_trans hlc hcm,some a,cap,rfl,fun h0=>?_⟩
  have hcell:∀ i,i<len→∀ j,j<13→w.cell? ((a.add (i*13)).add j)=(f i).cells[j]?:=fun i hi j hj=>(World.cells?_some (hf i hi)).2.2 j hj
  have hsp:a.spot=none:=by
   have:=hcell 0 (by rw [hlen] at h0;exact h0) 0 (by omega)
   cases hs:a.spot with
   | none=>rfl
   | some p=>exfalso;simp [World.cell?,Addr.add,hs,Tk.cells] at this;split at this<;>simp at this
  obtain ⟨g,off,sp⟩:=a
  simp only at hsp
  subst hsp
  refine ⟨g,off,rfl,fun j u hj=>?_⟩
  have hjl:j<len*13:=by
   have:=(List.getElem?_eq_some_iff.1 hj).1
   rwa [cellsT_len,hlen] at this
  have hi:j / 13<len:=by omega
  have hr:=hcell (j / 13) hi (j%13) (by omega)
  rw [add_at,add_at] at hr
  have e:off+j / 13*13+j%13=off+j:=by omega
  rw [e] at hr
  rw [hr]
  obtain ⟨u',hu'⟩:∃ u',(f (j / 13)).cells[j%13]?=some u':=⟨_,List.getElem?_eq_getElem (show j%13<13 by omega)⟩
  have hg:=cellsT_get ((List.range len).map f) (j / 13) (f (j / 13)) (by simp [hi]) (j%13) u' hu'
  rw [show j / 13*13+j%13=j by omega,hj] at hg
  rw [hu',hg]
theorem open_takens {r:Reach} {b0:Nat} {v:Value} {d:DataW H} {p:List MemPlace} (hv:Value.okWide Tryz.prog w r b0 52 v) (h:DataW.Trod enc Tryz.prog w base spare held 52 v d p) :
  ∃ (A:Option Addr) (cap:Nat) (l:List Tk),v=.slice A l.length cap∧TksAt w (.slice A l.length cap) l:=by
 obtain ⟨a,len,cap,rfl⟩:=okWide_slice Tryz.underlying52 hv
 obtain ⟨fuel,hf⟩:=h
 obtain ⟨A,cap',l,e,hL⟩:=takens_cells hf
 simp [Value.cells] at e
 obtain ⟨rfl,rfl,rfl⟩:=e
 exact ⟨_,_,l,rfl,hL⟩
end
theorem rd_isRow {w:World} {a:Option Addr} {len cap:Nat} {z:List Int} (h:IsRow .i64 w a len cap z):Rd w 1 (.slice a len cap) (z.take len).length (cI (z.take len)):=by
 unfold IsRow at h
 rcases h with ⟨rfl,rfl,rfl,rfl⟩|⟨x,rfl,hl,hm,hz,hc,_⟩
 ·exact ⟨rfl,by decide,none,0,rfl,fun h=>absurd h (by decide)⟩
 ·have hlen:(z.take len).length=len:=by rw [List.length_take,hz];omega
  refine ⟨by unfold cI;simp,by rw [hlen];unfold maxLen at hm;omega,some x,cap,by rw [hlen],fun h0=>?_⟩
  rw [hlen] at h0
  have hsp:x.spot=none:=by
   have:=hc 0 (by omega)
   cases hs:x.spot with
   | none=>rfl
   | some p=>exfalso;simp [World.cell?,Addr.add,hs] at this;split at this<;>simp at this
  obtain ⟨g,off,sp⟩:=x
  simp only at hsp
  subst hsp
  refine ⟨g,off,rfl,fun j u hj=>?_⟩
  unfold cI at hj
  rw [List.getElem?_map] at hj
  by_cases hjl:j<len
  ·have hjz:j<z.length:=by omega
   have h3:=hc j hjz
   rw [add_at] at h3
   rw [h3]
   rw [List.getElem?_take_of_lt hjl,List.getElem?_eq_getElem hjz] at hj
   rw [←hj]
   simp [List.getD,List.getElem?_eq_getElem hjz]
  ·rw [List.getElem?_eq_none (by omega)] at hj;cases hj
def carryC (l:List Tk) (ws ss:List Int) (next:Int):Int:=(carryE l ws ss next).getD 0
def carryR (l:List Tk) (ws ss:List Int) (next:Int):List Tk:=if (carryE l ws ss next).isSome then [] else carryL next l ws ss
theorem carry_out {l:List Tk} {ws ss:List Int} {next:Int} {w w':World} {e:Ending} (h:CarryP l ws ss next w e w'):∃ v,e=.returned (.tuple #[v,.int .i64 (carryC l ws ss next)])∧Below w.heap.size w w'∧TksAt w' v (carryR l ws ss next):=by
 obtain ⟨hb,⟨c,hc,rfl⟩|⟨hc,v,rfl,hv⟩⟩:=h
 ·exact ⟨_,by unfold carryC;rw [hc];rfl,hb,by
  have e:carryR l ws ss next=[]:=by unfold carryR;rw [hc];rfl
  rw [e];exact ⟨rfl,by decide,none,0,rfl,fun h=>absurd h (by decide)⟩⟩
 ·exact ⟨v,by unfold carryC;rw [hc];rfl,hb,by unfold carryR;rw [hc];exact hv⟩
theorem carries_raw (A:Option Addr) (cap0:Nat) (l:List Tk) (a1:Option Addr) (len1 cap1:Nat) (z1:List Int) (a2:Option Addr) (len2 cap2:Nat) (z2:List Int) (next:Int) (w:World) (h0:TksAt w (.slice A l.length cap0) l) (h1:IsRow .i64 w a1 len1 cap1 z1) (h2:IsRow .i64 w a2 len2 cap2 z2) :
  Calls Tryz.prog 6 #[.slice A l.length cap0,.slice a1 len1 cap1,.slice a2 len2 cap2,.int .i64 next] w fun e w'=>e=.returned (.bool true)∧Below w.heap.size w w':=by
 have r1:=rd_isRow h1
 have r2:=rd_isRow h2
 obtain ⟨y1,hy1⟩:∃ y,y=z1.take len1:=⟨_,rfl⟩
 obtain ⟨y2,hy2⟩:∃ y,y=z2.take len2:=⟨_,rfl⟩
 rw [←hy1] at r1
 rw [←hy2] at r2
 obtain ⟨v0,hv0⟩:∃ v,v=(Value.slice A l.length cap0):=⟨_,rfl⟩
 obtain ⟨v1,hv1⟩:∃ v,v=(Value.slice a1 len1 cap1):=⟨_,rfl⟩
 obtain ⟨v2,hv2⟩:∃ v,v=(Value.slice a2 len2 cap2):=⟨_,rfl⟩
 rw [←hv0] at h0 ⊢
 rw [←hv1] at r1 ⊢
 rw [←hv2] at r2 ⊢
 have HC:=hid (carry_any l y1 y2 next v0 v1 v2 w h0 r1 r2)
 have HR:=hid (fun W (hb:Below w.heap.size w W)=>rcarry_any l y1 y2 next v0 v1 v2 W (h0.below hb) (r1.below hb) (r2.below hb))
 obtain ⟨C,hC⟩:∃ C,C=carryC l y1 y2 next:=⟨_,rfl⟩
 obtain ⟨R,hR⟩:∃ R,R=carryR l y1 y2 next:=⟨_,rfl⟩
 have HCC:=hid hC
 have HRR:=hid hR
 clear h0 h1 h2 r1 r2 hy1 hy2 hv0 hv1 hv2 hC hR
 go_enter Tryz.func6,Tryz.ntmps6
 go_upto_region 2 with (go_at_call 24;refine HC.out.mono ?_;intro e w1 hP;obtain ⟨va,rfl,hb1,ht1⟩:=carry_out hP;rw [←HCC.out];rw [←HRR.out] at ht1;have HB1:=hid hb1;have HT1:=hid ht1;clear hb1 ht1 hP)
 go_upto_region 3 with (go_at_call 25;refine (HR.out _ HB1.out).mono ?_;intro e w2 hP;obtain ⟨vb,rfl,hb2,ht2⟩:=carry_out hP;rw [←HCC.out];rw [←HRR.out] at ht2;have HB2:=hid hb2;have HT2:=hid ht2;clear hb2 ht2 hP)
 go_wp2_with fail
 refine (same24_yes _ _ R _ (HT1.out.below HB2.out) HT2.out).mono ?_
 rintro e w3 ⟨rfl,hb3⟩
 have HB3:=hid hb3
 clear hb3
 go_wp2_with fail
 refine (awake_any _).mono ?_
 rintro e w4 ⟨rfl,hb4⟩
 have HB4:=hid hb4
 clear hb4
 go_wp2
 go_ret
 have z1:=HB1.out.trans (HB2.out.mono HB1.out.size)
 have z3:=z1.trans (HB3.out.mono z1.size)
 exact ⟨rfl,z3.trans (HB4.out.mono z3.size)⟩
end Go.Proofs.YtooeabibhjbkoaaGreat
