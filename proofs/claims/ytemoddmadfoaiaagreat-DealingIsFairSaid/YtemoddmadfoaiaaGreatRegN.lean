import Derived.Test.YtemoddmadfoaiaaGreatRegL
import Derived.Laws.CopyOwn
import Derived.Lib.AppendZerosOnto
import Derived.Lib.Overlaps
import Derived.Laws.NewBlocks
set_option linter.unusedVariables false
set_option linter.unusedSimpArgs false
set_option maxRecDepth 100000
set_option maxHeartbeats 4000000
namespace Go.Proofs.YtemoddmadfoaiaaGreat
open Go.RowKit Reg
open Lib (hid)
theorem qtD {P:Program} (w:World) (dT sT ty elem:TypeId) (sz g o dLen dCap:Nat) (ad:Addr) (sLen sCap:Nat) (cur:Array Value) (t:TypeId) (cs:List Value)
  (hu:P.underlying dT=some (.slice elem)) (hs:(P.info? elem).map (·.size)=some sz) (hg:w.heap[g]?=some (.cells cur t (0,0))) (hn:cs.length=Nat.min sLen dLen*sz)
  (hsrc:∀ j v,cs[j]?=some v→w.cell? (ad.add j)=some v) (hfit:o+cs.length≤cur.size) (h1:∀ v∈cs,v.oneCell'=true) :
  (Builtin.copy_ #[dT,sT] ty #[.slice (some ⟨g,o,none⟩) dLen dCap,.slice (some ad) sLen sCap]).run P w=.ok (goInt (Nat.min sLen dLen)) (w.setRow g (cur.toList.take o++(cs++cur.toList.drop (o+cs.length))).toArray):=by
 have hl:=run_loadCells_list (P:=P) w ad cs hsrc;have hst:=run_storeCells_at P g o t cs 0 cur w hg (by simpa using hfit) h1
 cases hq:P.info? elem with
 | none=>simp [hq] at hs
 | some i =>
  have hi:i.size=sz:=by simpa [hq] using hs
  simp [Builtin.copy_,run_underlying hu,Builtin.lenOf,Builtin.firstCells,sizeOf,typeInfo,hq,hi,←hn,hl,hst]
theorem qdE {P:Program} {w:World} {ops:Array Oper} {rest:List Oper} {o:Oper} {a:Act} {Q:Exit→Act→World→Prop} (hgd:o.guard=none) (d s:Operand) (dT sT:TypeId)
  (ho:o.op=.call { callee:=.builtin .copy,args:=#[d,s],argTypes:=#[dT,sT] }) (elem:TypeId) (hu:P.underlying dT=some (.slice elem)) (sz:Nat) (hsz:(P.info? elem).map (·.size)=some sz)
  (g off dLen dCap:Nat) (ad:Addr) (sLen sCap:Nat) (hd:a.eval d=.slice (some ⟨g,off,none⟩) dLen dCap) (hs:a.eval s=.slice (some ad) sLen sCap)
  (cur:List Value) (t:TypeId) (hg:w.heap[g]?=some (.cells cur.toArray t (0,0))) (cs:List Value) (hn:cs.length=Nat.min sLen dLen*sz)
  (hsrc:∀ j v,cs[j]?=some v→w.cell? (ad.add j)=some v) (hfit:off+cs.length≤cur.length) (h1:∀ v∈cs,v.oneCell'=true) (B:Nat) (w0:World) (hb:Below B w0 w) (hBg:B≤g)
  (h:∀ w',Hid (w'.heap[g]?=some (.cells (splice cur off cs).toArray t (0,0)))→Below B w0 w'→(∀ k,k≠g→w'.heap[k]?=w.heap[k]?)→wpList P ops Q rest (a.put o.dst (goInt (Nat.min sLen dLen))) w'):wpList P ops Q (o::rest) a w:=by
 refine wpList_plain hgd fun K hK=>?_
 have hrun:=qtD (P:=P) w dT sT o.type elem sz g off dLen dCap ad sLen sCap cur.toArray t cs hu hsz hg hn hsrc (by simpa using hfit) h1;unfold Oper.wp;simp [execOp,ho,resolve,invoke,builtin,hd,hs,hrun,Result.andThen];exact hK _ _ (h _ (show _=_ by simpa [splice] using setRow_heap w g _ _ t _ hg) (below_setRow hb hBg _) (fun k hk=>setRow_other w g k _ hk))
theorem qzK {P:Program} {ops:Array Oper} {Q:Exit→Act→World→Prop} {rest:List Oper} {a:Act} {w:World} (n:Nat) {op:Op} {ty:TypeId} {ps:String} {af:Array Edge} {gd:Option (Nat × Bool)} (h:wpList P ops Q (⟨some n,op,ty,ps,af,gd⟩::rest) a w):wpList P ops Q (⟨some n,op,ty,ps,af,gd⟩::rest) a w:=h
theorem Tryz.sizeLot:(Tryz.prog.info? 56).map (·.size)=some 4:=by kernel_rfl
theorem qtQ (v:Value) (l:List Lot) (x:Lot) (vb B:Nat) (w:World) (ho:Own w B v l) (hn:l.length≤5000) (hB:B≤w.heap.size)
  (hvb:w.heap[vb]?=some (.cells #[.string x.nom,.string x.hol,.int .i64 x.ser,.int .i64 x.units] 56 (0,0))) :
  Calls Tryz.prog 159 #[v,.int .i64 l.length,.slice (some ⟨vb,0,none⟩) 1 1] w fun e w'=>∃ v',e=.returned v'∧Own w' B v' (l++[x])∧Below B w w':=by
 obtain ⟨i0,hi,hz0,hz1,hz2⟩:=info_parts Tryz.info56
 have hnews:∀ j u,x.cells[j]?=some u→w.cell? ((⟨vb,0,none⟩:Addr).add j)=some u:=by
  intro j u hu;have hadd:(⟨vb,0,none⟩:Addr).add j=⟨vb,j,none⟩:=by unfold Addr.add;split<;>simp_all
  rw [hadd,cell_of_row w vb j _ _ (0,0) hvb]
  simpa [Lot.cells] using hu
 have HW:=hid hnews;have HO:=hid ho;have hform:=ho.2;clear hnews hvb ho;rcases hform with ⟨rfl,h0⟩|⟨g,cap,cur,rfl,hbg,hg,hnc,hcm,_⟩
 ·have hl0:=List.eq_nil_of_length_eq_zero h0;subst hl0;clear h0 hn;go_enter Tryz.func159,Tryz.ntmps159
  go_wp2_with (at_builtin;refine wpList_append_own _ rfl _ _ 38 rfl B 56 i0 _ 4 48 Tryz.underlying38 hi hz0 hz1 hz2 rfl (by decide) _ _ _ rfl HO.out ⟨vb,0,none⟩ 1 1 x.cells rfl rfl HW.out (qjG x) (qbS (by simp)) (by simp) hB ?_;intro v' w1 ho1 hg1 _;have HO1:=hid ho1;have HG1:=hid hg1;clear ho1 hg1)
  go_ret
  exact ⟨_,rfl,qmG HO1.out (by simp),qaQ (Below.refl _ _) HO.out HG1.out hB⟩
 ·unfold maxLen at hcm;clear hg;go_enter Tryz.func159,Tryz.ntmps159
  go_wp2_with (at_builtin;refine wpList_append_own _ rfl _ _ 38 rfl B 56 i0 _ 4 48 Tryz.underlying38 hi hz0 hz1 hz2 rfl (by decide) (.slice (some ⟨g,0,none⟩) l.length cap) _ _ rfl HO.out ⟨vb,0,none⟩ 1 1 x.cells rfl rfl HW.out (qjG x) (qbS (by omega)) (by omega) hB ?_;intro v' w1 ho1 hg1 _;have HO1:=hid ho1;have HG1:=hid hg1;clear ho1 hg1)
  all_goals (go_ret;exact ⟨_,rfl,qmG HO1.out (by simp),qaQ (Below.refl _ _) HO.out HG1.out hB⟩)
namespace Reg
theorem qfP (l:List Lot) (i:Nat):cellsL (l.take i)=(cellsL l).take (i*4):=by
 induction l generalizing i with
 | nil=>simp [cellsL]
 | cons a l ih =>
  cases i with
  | zero=>simp [cellsL]
  | succ i =>
   have:=ih i
   simp only [cellsL,List.take_succ_cons,List.flatMap_cons] at this ⊢;rw [this,show (i+1)*4=a.cells.length+i*4 by simp [Lot.cells];omega,List.take_length_add_append]
theorem qdP (l:List Lot) (i:Nat):cellsL (l.drop i)=(cellsL l).drop (i*4):=by
 induction l generalizing i with
 | nil=>simp [cellsL]
 | cons a l ih =>
  cases i with
  | zero=>simp [cellsL]
  | succ i =>
   have:=ih i
   simp only [cellsL,List.drop_succ_cons,List.flatMap_cons] at this ⊢;rw [this,show (i+1)*4=a.cells.length+i*4 by simp [Lot.cells];omega,List.drop_length_add_append]
theorem qsZ {α:Type} (L xs ds:List α) (i:Nat) (h:i+xs.length+ds.length≤L.length) :
  (splice (splice L i xs) (i+xs.length) ds).take (i+xs.length+ds.length)=L.take i++(xs++ds):=by
 have h1:(splice L i xs).take (i+xs.length)=L.take i++xs:=by
  unfold splice;rw [←List.append_assoc,List.take_append_of_le_length (by simp;omega),List.take_of_length_le (by simp;omega)]
 unfold splice at *;rw [←List.append_assoc,List.take_append_of_le_length (by simp;omega),List.take_of_length_le (by simp;omega),h1,List.append_assoc]
theorem qtA {α:Type} (L xs ds:List α) (i:Nat) (h:i+xs.length+ds.length≤L.length) :
  (splice (splice L (i+xs.length) ds) i xs).take (i+xs.length+ds.length)=L.take i++(xs++ds):=by
 unfold splice
 have e1:(L.take (i+xs.length)++(ds++L.drop (i+xs.length+ds.length))).take i=L.take i:=by
  rw [List.take_append_of_le_length (by simp;omega),List.take_take];congr 1;omega
 have e2:(L.take (i+xs.length)++(ds++L.drop (i+xs.length+ds.length))).drop (i+xs.length)=ds++L.drop (i+xs.length+ds.length):=List.drop_left' (by simp;omega);rw [e1,e2,←List.append_assoc xs,←List.append_assoc (L.take i),List.take_append_of_le_length (by simp;omega),List.take_of_length_le (by simp;omega)]
end Reg
set_option maxHeartbeats 4000000
theorem qdC (b o j:Nat):(⟨b,o,none⟩:Addr).add j=⟨b,o+j,none⟩:=by unfold Addr.add;split<;>simp_all
theorem qqL (l:List Lot) (i g cap:Nat) (x:Lot) (vb B:Nat) (w:World) (ho:Own w B (.slice (some ⟨g,0,none⟩) l.length cap) l) (hi:i<l.length) (hn:l.length≤5000) (hB:B≤w.heap.size) (hroom:cap<l.length+1) (hnc:l.length≤cap)
  (hvb:w.heap[vb]?=some (.cells #[.string x.nom,.string x.hol,.int .i64 x.ser,.int .i64 x.units] 56 (0,0))) :
  Calls Tryz.prog 159 #[.slice (some ⟨g,0,none⟩) l.length cap,.int .i64 i,.slice (some ⟨vb,0,none⟩) 1 1] w fun e w'=>∃ v',e=.returned v'∧Own w' B v' (l.take i++x::l.drop i)∧Below B w w':=by
 obtain ⟨i0,hi0,hz0,hzs,hzb⟩:=info_parts Tryz.info56;obtain rfl:cap=l.length:=by omega
 obtain ⟨n,hnn⟩:=nqx (l.length);have hcl:=qcE l
 have hcells:∀ j u,(cellsL l)[j]?=some u→w.cell? ⟨g,j,none⟩=some u:=fun j u hu=>by
  have:=World.ownsRow.cells ho (g:=g) rfl j u hu
  rw [qdC,Nat.zero_add] at this;exact this
 rw [←hnn] at hcl hi hn ⊢;have hgw:g<w.heap.size:=World.block_lt_of_cell? w ⟨g,0,none⟩ (hcells 0 _ (List.getElem?_eq_getElem (by omega)));have hvw:vb<w.heap.size:=(Array.getElem?_eq_some_iff.1 hvb).1;have hz2:¬((i:Int)=(n:Int)):=by omega
 have hz3:(n:Int)<(n:Int)+1:=by omega
 have hkk:(n:Int)+1 - (i:Int)=((n+1 - i:Nat):Int):=by omega
 have hik:i+(n+1 - i)=n+1:=by omega
 have hold:(Builtin.firstCells i0.size i (.slice (some ⟨g,0,none⟩) i n)).run Tryz.prog w.drew=.ok (cellsL (l.take i)).toArray w.drew:=by
  rw [hzs]
  exact run_firstCells_some w.drew 4 i ⟨g,0,none⟩ i n (cellsL (l.take i)) (by rw [qfP,List.length_take];omega) (fun j u hj=>by
   rw [qdC,Nat.zero_add];rw [qfP,List.getElem?_take] at hj;split at hj
   ·exact hcells j u hj
   ·cases hj)
 have hrz:∀ ty,(Builtin.append_ #[38,3] ty #[.slice (some ⟨g,0,none⟩) i n,.int .i64 ((n:Int)+1 - (i:Int))]).run Tryz.prog w =
   .ok (.slice (some ⟨w.heap.size,0,none⟩) (n+1) (grownCap w (n+1) n 56)) (w.drew.alloc (.cells ((cellsL (l.take i)).toArray++Builtin.zeroCells (Value.cells (.agg #[.string ByteArray.empty,.string ByteArray.empty,.int .i64 0,.int .i64 0])) (n+1 - i)++Builtin.zeroCells (Value.cells (.agg #[.string ByteArray.empty,.string ByteArray.empty,.int .i64 0,.int .i64 0])) (grownCap w (n+1) n 56 - (n+1))) 56)):=fun ty=>by
  have h:=Lib.run_append_grow_zeros w 38 3 ty 56 i0 _ .i64 .i64 Tryz.underlying38 Tryz.underlying3 hi0 hz0 (some ⟨g,0,none⟩) i n (cellsL (l.take i)) hold (n+1 - i) (by omega) (by omega) (by omega) (by omega) (by rw [hzb];omega) (by rw [hzb,hik];exact growslice_fits (by omega) (by omega));rw [hik] at h;rw [hkk];exact h
 obtain ⟨G,hG⟩:=nqx (grownCap w (n+1) n 56);rw [←hG] at hrz;have hGn:n+1≤G:=by rw [hG];exact grownCap_ge w _ _ _
 have hG63:G≤maxLen:=by rw [hG];exact grownCap_le_maxLen w (n+1) n 56 (qbS (by omega))
 obtain ⟨RL,hRL⟩:=nqx (((cellsL (l.take i)).toArray++Builtin.zeroCells (Value.cells (.agg #[.string ByteArray.empty,.string ByteArray.empty,.int .i64 0,.int .i64 0])) (n+1 - i)++Builtin.zeroCells (Value.cells (.agg #[.string ByteArray.empty,.string ByteArray.empty,.int .i64 0,.int .i64 0])) (G - (n+1))).toList:List Value);have hRA:(cellsL (l.take i)).toArray++Builtin.zeroCells (Value.cells (.agg #[.string ByteArray.empty,.string ByteArray.empty,.int .i64 0,.int .i64 0])) (n+1 - i)++Builtin.zeroCells (Value.cells (.agg #[.string ByteArray.empty,.string ByteArray.empty,.int .i64 0,.int .i64 0])) (G - (n+1))=RL.toArray:=by rw [hRL]
 have htl:(cellsL (l.take i)).length=i*4:=by rw [qfP,List.length_take];omega
 have hRlen:RL.length=G*4:=by
  rw [hRL];simp [size_zeroCells,Value.cells,htl];omega
 have hRtake:RL.take (i*4)=cellsL (l.take i):=by
  rw [hRL];simp only [Array.toList_append,List.append_assoc];rw [←htl];exact List.take_left
 rw [hRA] at hrz;have hW1:(w.drew.alloc (.cells RL.toArray 56)).heap[w.heap.size]?=some (.cells RL.toArray 56 (0,0)):=heap_alloc_new w.drew _;have HW1:=hid hW1;have HR:=hid (And.intro hRlen hRtake);have HC:=hid hcells;have HN:=hid hnn;have HCL:=hid hcl;have HN1:=hid (show x.cells.length=Nat.min 1 (n+1 - i)*4 by simp only [Lot.cells,List.length_cons,List.length_nil,Nat.min_def];split<;>omega)
 have HS1:=hid (show ∀ j u,x.cells[j]?=some u→(w.drew.alloc (.cells RL.toArray 56)).cell? ((⟨vb,0,none⟩:Addr).add j)=some u from fun j u hu=>by
  rw [qdC,Nat.zero_add];refine qcW (w:=w.drew) ?_ _;show w.cell? _=_
  rw [cell_of_row w vb j _ _ (0,0) hvb]
  simpa [Lot.cells] using hu)
 have HF1:=hid (show i*4+x.cells.length≤RL.length by rw [hRlen];simp [Lot.cells];omega);have HB1:=hid (show Below w.heap.size w (w.drew.alloc (.cells RL.toArray 56)) from (qbN (Below.refl _ _)).alloc (Nat.le_refl _) _);have hw1:IntKind.i64.wrap ((i:Int)+1)=(i:Int)+1:=IntWalk.i64_in _ (by omega);have hb1:(0:Int)≤(i:Int)+1:=by omega
 have htn:((i:Int)+1).toNat=i+1:=by omega
 have hin:i≤n:=by omega
 have hGi:¬(G=i):=by omega
 have hGi1:¬(G=i+1):=by omega
 have hni:¬(n=i):=by omega
 unfold maxLen at hG63;clear hRA hRL hRlen hRtake hW1 hold hkk hik hcells hvb ho hnn hcl hG htl hnc hroom;go_enter Tryz.func159,Tryz.ntmps159
 go_upto_region 11 with (first
  | (at_builtin;refine Lib.wpList_append_run _ rfl _ _ _ _ rfl _ _ rfl rfl _ _ (hrz _) ?_)
  | ((with_reducible refine qzK 45 ?_);refine qdE rfl _ _ _ _ rfl 56 Tryz.underlying38 4 Tryz.sizeLot w.heap.size (i*4) _ _ ⟨vb,0,none⟩ 1 1 rfl rfl RL 56 HW1.out x.cells ?_ ?_ ?_ (qjG x) w.heap.size w ?_ (Nat.le_refl _) ?_;exact HN1.out;exact HS1.out;exact HF1.out;exact HB1.out;intro w2 hg2 hb2 hk2;have HB2:=hid hb2;have HK2:=hid hk2;clear hb2 hk2))
 simp only [Act.put,List.setIfInBounds_toArray,List.set_cons_zero,List.set_cons_succ];refine wp_region_still_tail 8 (by kernel_rfl) (by kernel_rfl) ?_;simp only [List.take_succ_cons,List.take_zero,List.drop_succ_cons,List.drop_zero];change wpStill _ _ (World.drew _) _ _ _
 repeat still_step
 refine wpStill_nil ?_;change wpList _ _ _ _ _ (World.drew _)
 have hdl:(cellsL (l.drop i)).length=(n - i)*4:=by rw [qdP,List.length_drop,HCL.out];omega
 have hsl:(splice RL (i*4) x.cells).length=G*4:=by rw [length_splice _ _ _ HF1.out,HR.out.1]
 refine qdE rfl _ _ _ _ rfl 56 Tryz.underlying38 4 Tryz.sizeLot w.heap.size ((i+1)*4) (n - i) (G - (i+1)) ⟨g,i*4,none⟩ (n - i) (n - i) rfl rfl (splice RL (i*4) x.cells) 56 hg2.out (cellsL (l.drop i)) ?_ ?_ ?_ ?_ w.heap.size w (qbN HB2.out) (Nat.le_refl _) ?_
 ·rw [hdl];simp [Nat.min_def]
 ·intro j u hj;rw [qdC];show w2.cell? _=_
  refine qbC ?_ HB2.out hgw;rw [qdP,List.getElem?_drop] at hj;exact HC.out _ _ hj
 ·rw [hsl,hdl];omega
 ·intro u hu;rw [qdP] at hu;exact qdQ l u (List.mem_of_mem_drop hu)
 ·intro w3 hg3 hb3 hk3;have HB3:=hid hb3;have HDL:=hid (And.intro hdl hsl);clear hb3 hk3 hdl hsl;go_wp2
  go_ret
  refine ⟨.slice (some ⟨w.heap.size,0,none⟩) (n+1) G,rfl,?_,HB3.out.mono hB⟩;have hsp:=qsZ RL x.cells (cellsL (l.drop i)) (i*4) (by rw [HR.out.1,HDL.out.1];simp [Lot.cells];omega);have hx4:x.cells.length=4:=rfl;rw [HDL.out.1,hx4,HR.out.2,show i*4+4=(i+1)*4 by omega] at hsp;have hll:(l.take i++x::l.drop i).length=n+1:=by simp [←HN.out];omega
  refine ⟨?_,.inr ⟨w.heap.size,G,_,by rw [hll],hB,hg3.out,by rw [hll];exact hGn,by unfold maxLen;exact hG63,?_,?_⟩⟩
  ·rw [qcE]
  ·rw [List.size_toArray,length_splice _ _ _ (by rw [HDL.out.1,HDL.out.2];omega),HDL.out.2]
  ·rw [hll,show (n+1)*4=(i+1)*4+(n - i)*4 by omega,hsp,qhS];simp [cellsL]
end Go.Proofs.YtemoddmadfoaiaaGreat
