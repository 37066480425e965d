import Derived.Test.YtemoddmadfoaiaaGreatRegN
import Derived.Laws.Externs
import Derived.Test.YtemoddmadfoaiaaGreatProg
set_option linter.unusedVariables false
set_option linter.unusedSimpArgs false
set_option maxRecDepth 100000
set_option maxHeartbeats 4000000
namespace Go.Proofs.YtemoddmadfoaiaaGreat
open Go.RowKit Reg
open Lib (hid)
theorem Tryz.sizeOfLot:∀ w,(Go.sizeOf 56).run Tryz.prog w=.ok 4 w:=fun w=>by kernel_rfl
theorem qoR (l:List Lot) (i g cap:Nat) (x:Lot) (vb B:Nat) (w:World) (ho:Own w B (.slice (some ⟨g,0,none⟩) l.length cap) l) (hi:i<l.length) (hn:l.length≤5000) (hB:B≤w.heap.size) (hroom:l.length+1≤cap) (hne:vb≠g)
  (hvb:w.heap[vb]?=some (.cells #[.string x.nom,.string x.hol,.int .i64 x.ser,.int .i64 x.units] 56 (0,0))) :
  Calls Tryz.prog 159 #[.slice (some ⟨g,0,none⟩) l.length cap,.int .i64 i,.slice (some ⟨vb,0,none⟩) 1 1] w fun e w'=>∃ v',e=.returned v'∧Own w' B v' (l.take i++x::l.drop i)∧Below B w w':=by
 have hform:=ho.2;obtain ⟨n,hnn⟩:=nqx (l.length);have hcl:=qcE l
 have hcells:∀ j u,(cellsL l)[j]?=some u→w.cell? ⟨g,j,none⟩=some u:=fun j u hu=>by
  have:=World.ownsRow.cells ho (g:=g) rfl j u hu
  rw [qdC,Nat.zero_add] at this;exact this
 obtain ⟨cur,hbg,hg,hcm,hcs,htk⟩:∃ cur:Array Value,B≤g∧w.heap[g]?=some (.cells cur 56 (0,0))∧cap≤maxLen∧cur.size=cap*4∧cur.toList.take (l.length*4)=cellsL l:=by
  rcases hform with ⟨h,_⟩|⟨g',cap',cur,h,hbg,hg,hnc,hcm,hcs,htk⟩
  ·cases h
  ·injection h with h1 h2 h3
   injection h1 with h1
   injection h1 with h1
   subst h1 h3;exact ⟨cur,hbg,hg,hcm,hcs,htk⟩
 rw [←hnn] at hcl hi hn hroom htk ⊢
 have hov:∀ lb cb,(callFunc 179 #[.slice (some ⟨vb,0,none⟩) 1 1,.slice (some ⟨g,(i+1)*4,none⟩) lb cb]).run Tryz.prog w=.ok (.value (.bool false)) w:=fun lb cb=>by
  rw [run_callFunc_extern Tryz.func179 (by kernel_rfl) (by kernel_rfl) (by kernel_rfl) (e:=Extern.SlicesOverlaps.overlaps #[38,38] #[4]) (by kernel_rfl),
   Lib.run_overlaps_apart w 38 4 56 Tryz.underlying38 4 Tryz.sizeOfLot ⟨vb,0,none⟩ ⟨g,(i+1)*4,none⟩ 1 1 lb cb hne 56 56 4 cur.size (by simp [World.shape?,hvb]) (by simp [World.shape?,hg]) (by omega) (by simp [World.frozen?,hvb]) (by simp [World.frozen?,hvb])]
  rfl
 have hdl:(cellsL (l.drop i)).length=(n - i)*4:=by rw [qdP,List.length_drop,hcl];omega
 have HG0:=hid (show w.heap[g]?=some (.cells cur.toList.toArray 56 (0,0)) by simpa using hg);have HV:=hid hvb;have HC:=hid hcells;have HN:=hid hnn;have HR:=hid (And.intro hcs htk);have HDL:=hid hdl;have hgw:g<w.heap.size:=(Array.getElem?_eq_some_iff.1 hg).1;have hz2:¬((i:Int)=(n:Int)):=by omega
 have hz3:¬((cap:Int)<(n:Int)+1):=by omega
 have hw0:IntKind.i64.wrap ((n:Int)+1)=(n:Int)+1:=IntWalk.i64_in _ (by omega);have hw1:IntKind.i64.wrap ((i:Int)+1)=(i:Int)+1:=IntWalk.i64_in _ (by omega);have hb1:(0:Int)≤(i:Int)+1:=by omega
 have htn:((i:Int)+1).toNat=i+1:=by omega
 have hb0:(0:Int)≤(n:Int)+1:=by omega
 have htn0:((n:Int)+1).toNat=n+1:=by omega
 have hin:i≤n:=by omega
 have hin1:i≤n+1:=by omega
 have hb3:(i:Int)≤(n:Int)+1:=by omega
 have hci:¬(cap=i):=by omega
 have hci1:¬(cap=i+1):=by omega
 unfold maxLen at hcm;clear hform hg hvb hcells hnn hcs htk hdl ho hcl;go_enter Tryz.func159,Tryz.ntmps159
 go_upto_region 15 with (simp only [hov])
 refine wp_region_still_tail 8 (by kernel_rfl) (by kernel_rfl) ?_;simp only [List.take_succ_cons,List.take_zero,List.drop_succ_cons,List.drop_zero];change wpStill _ _ (World.drew _) _ _ _
 repeat still_step
 refine wpStill_nil ?_;change wpList _ _ _ _ _ (World.drew _)
 refine qdE rfl _ _ _ _ rfl 56 Tryz.underlying38 4 Tryz.sizeLot g ((i+1)*4) (n - i) (cap - (i+1)) ⟨g,i*4,none⟩ (n+1 - i) (cap - i) rfl rfl cur.toList 56 HG0.out (cellsL (l.drop i)) ?_ ?_ ?_ ?_ B w (qbN (Below.refl _ _ |>.mono hB)) hbg ?_
 ·rw [HDL.out];simp only [Nat.min_def];split<;>omega
 ·intro j u hj;rw [qdC];show w.cell? _=_
  rw [qdP,List.getElem?_drop] at hj;exact HC.out _ _ hj
 ·rw [HDL.out,Array.length_toList,HR.out.1];omega
 ·intro u hu;rw [qdP] at hu;exact qdQ l u (List.mem_of_mem_drop hu)
 intro w2 hg2 hb2 hk2;have HB2:=hid hb2;have HV2:=hid (show w2.heap[vb]?=some (.cells #[.string x.nom,.string x.hol,.int .i64 x.ser,.int .i64 x.units] 56 (0,0)) by rw [hk2 vb hne];exact HV.out);have HSL:=hid (show (splice cur.toList ((i+1)*4) (cellsL (l.drop i))).length=cap*4 by rw [length_splice _ _ _ (by rw [HDL.out,Array.length_toList,HR.out.1];omega),Array.length_toList,HR.out.1]);clear hb2 hk2;have HN1:=hid (show x.cells.length=Nat.min 1 (n+1 - i)*4 by simp only [Lot.cells,List.length_cons,List.length_nil,Nat.min_def];split<;>omega)
 have HS1:=hid (show ∀ j u,x.cells[j]?=some u→w2.cell? ((⟨vb,0,none⟩:Addr).add j)=some u from fun j u hu=>by
  rw [qdC,Nat.zero_add,cell_of_row w2 vb j _ _ (0,0) HV2.out]
  simpa [Lot.cells] using hu)
 have HF1:=hid (show i*4+x.cells.length≤(splice cur.toList ((i+1)*4) (cellsL (l.drop i))).length by rw [HSL.out];simp [Lot.cells];omega);go_wp2_with ((with_reducible refine qzK 82 ?_);refine qdE rfl _ _ _ _ rfl 56 Tryz.underlying38 4 Tryz.sizeLot g (i*4) (n+1 - i) (cap - i) ⟨vb,0,none⟩ 1 1 rfl rfl (splice cur.toList ((i+1)*4) (cellsL (l.drop i))) 56 hg2.out x.cells ?_ ?_ ?_ (qjG x) B w ?_ hbg ?_;exact HN1.out;exact HS1.out;exact HF1.out;exact HB2.out;intro w3 hg3 hb3 hk3;have HB3:=hid hb3;clear hb3 hk3)
 go_ret
 refine ⟨.slice (some ⟨g,0,none⟩) (n+1) cap,rfl,?_,HB3.out⟩;have hsp:=qtA cur.toList x.cells (cellsL (l.drop i)) (i*4) (by have h1:=HR.out.1;have h2:cur.toList.length=cur.size:=Array.length_toList;rw [HDL.out,h2,h1];simp only [Lot.cells,List.length_cons,List.length_nil];omega);have hx4:x.cells.length=4:=rfl
 have htt:cur.toList.take (i*4)=cellsL (l.take i):=by
  rw [qfP,←HR.out.2,List.take_take];congr 1;omega
 rw [HDL.out,hx4,show i*4+4=(i+1)*4 by omega,htt] at hsp;have hll:(l.take i++x::l.drop i).length=n+1:=by simp [←HN.out];omega
 refine ⟨?_,.inr ⟨g,cap,_,by rw [hll],hbg,hg3.out,by rw [hll];exact hroom,by unfold maxLen;exact hcm,?_,?_⟩⟩
 ·rw [qcE]
 ·rw [List.size_toArray,length_splice _ _ _ HF1.out,HSL.out]
 ·rw [hll,show (n+1)*4=(i+1)*4+(n - i)*4 by omega,hsp,qhS];simp [cellsL]
theorem qtR (v:Value) (l:List Lot) (i:Nat) (x:Lot) (vb B:Nat) (w:World) (ho:Own w B v l) (hi:i≤l.length) (hn:l.length≤5000) (hB:B≤w.heap.size) (hne:v.ownBlock≠some vb)
  (hvb:w.heap[vb]?=some (.cells #[.string x.nom,.string x.hol,.int .i64 x.ser,.int .i64 x.units] 56 (0,0))) :
  Calls Tryz.prog 159 #[v,.int .i64 i,.slice (some ⟨vb,0,none⟩) 1 1] w fun e w'=>∃ v',e=.returned v'∧Own w' B v' (l.take i++x::l.drop i)∧Below B w w':=by
 by_cases he:i=l.length
 ·subst he
  simpa using qtQ v l x vb B w ho hn hB hvb
 ·have hlt:i<l.length:=by omega
  rcases ho.2 with ⟨h1,h2⟩|⟨g,cap,cur,hv,hbg,hg,hnc,hcm,hcs,htk⟩
  ·omega
  ·subst hv;by_cases hroom:l.length+1≤cap
   ·exact qoR l i g cap x vb B w ho hlt hn hB hroom (fun e=>hne (by rw [e];rfl)) hvb
   ·exact qqL l i g cap x vb B w ho hlt hn hB (by omega) hnc hvb
set_option maxHeartbeats 4000000
namespace Reg
theorem qyT (l:List Lot) (i:Nat) (y:Lot) (k:Int) (h:l[i]?=some y):(cellsL l).set (i*4+3) (.int .i64 (y.units+k))=cellsL (l.set i (y.more k)):=by
 induction l generalizing i with
 | nil=>simp at h
 | cons a l ih =>
  cases i with
  | zero=>simp at h;subst h;simp [cellsL,Lot.cells,Lot.more]
  | succ i =>
   have:=ih i (by simpa using h)
   simp only [cellsL,List.flatMap_cons,Lot.cells,List.cons_append,List.nil_append,List.set_cons_succ] at this ⊢;rw [show (i+1)*4=(i*4+3)+1 by omega];simp only [List.set_cons_succ];rw [this]
theorem qxV {l:List Lot} {x:Lot} (h:foundB l x=true):∃ y,l[pos l x]?=some y∧sameKey y x∧putL l x=l.set (pos l x) (y.more x.units):=by
 unfold foundB at h
 cases hy:l[pos l x]? with
 | none=>rw [hy] at h;cases h
 | some y =>
  rw [hy] at h;have hk:sameKey y x:=by simpa using h
  obtain ⟨h1,h2⟩:=List.getElem?_eq_some_iff.1 hy;refine ⟨y,rfl,hk,?_⟩
  have:=(qwB l x).1 h1 (by rw [h2];exact hk)
  rw [this,h2]
theorem jbR {l:List Lot} {x:Lot} (h:foundB l x=false):putL l x=l.take (pos l x)++x::l.drop (pos l x):=by
 refine (qwB l x).2 (fun h1 hk=>?_);unfold foundB at h;rw [List.getElem?_eq_getElem h1] at h;simp at h
 exact h hk
theorem qxS {l more:List Lot} {k:Nat} {x:Lot} (hx:more[k]?=some x):giveL l (more.take (k+1))=putL (giveL l (more.take k)) x:=by
 obtain ⟨h1,h2⟩:=List.getElem?_eq_some_iff.1 hx;rw [List.take_succ_eq_append_getElem h1,h2];simp [giveL]
theorem jbN (l more:List Lot):sumU (giveL l more)=sumU l+sumU more:=by
 induction more generalizing l with
 | nil=>simp [giveL,sumU]
 | cons x more ih=>have:=ih (putL l x);simp only [giveL,List.foldl_cons,sumU] at this ⊢;rw [this,qwA];omega
theorem jbQ (l more:List Lot):(giveL l more).length≤l.length+more.length:=by
 induction more generalizing l with
 | nil=>simp [giveL]
 | cons x more ih=>have h1:=ih (putL l x);have h2:=qwC l x;simp only [giveL,List.foldl_cons,List.length_cons] at h1 ⊢;omega
theorem jbO (l more:List Lot) (h1:∀ x∈l,0≤x.units) (h2:∀ x∈more,0≤x.units):∀ x∈giveL l more,0≤x.units:=by
 induction more generalizing l with
 | nil=>exact h1
 | cons y more ih =>
  refine ih (putL l y) (fun z hz=>?_) (fun z hz=>h2 z (by simp [hz]));have hy:=h2 y (by simp);rcases qmD l y z hz with h|h|⟨q,hq,_,rfl⟩
  ·exact h1 z h
  ·rw [h];exact hy
  ·have:=h1 q hq;simp only [Lot.more];omega
theorem qbJ (l:List Lot) (k:Nat) (h:∀ x∈l,0≤x.units):sumU (l.take k)≤sumU l∧0≤sumU (l.take k):=by
 have h1:=qsU l k
 have a:∀ m:List Lot,(∀ x∈m,0≤x.units)→0≤sumU m:=by
  intro m hm
  induction m with
  | nil=>simp [sumU]
  | cons x m ih=>have:=ih (fun y hy=>hm y (by simp [hy]));have:=hm x (by simp);simp only [sumU];omega
 have h2:=a (l.drop k) (fun x hx=>h x (List.mem_of_mem_drop hx));have h3:=a (l.take k) (fun x hx=>h x (List.mem_of_mem_take hx));omega
end Reg
theorem Own.bump {w:World} {B g cap i n:Nat} {l:List Lot} {y:Lot} {k:Int} (h:Own w B (.slice (some ⟨g,0,none⟩) n cap) l) (hy:l[i]?=some y):Own (w.setCell ⟨g,i*4+3,none⟩ (.int .i64 (y.units+k))) B (.slice (some ⟨g,0,none⟩) n cap) (l.set i (y.more k)):=by
 obtain ⟨h1,h2⟩:=h;refine ⟨by simp [qcE],?_⟩;rcases h2 with ⟨h,_⟩|⟨g',cap',cur,hv,hbg,hg,hnc,hcm,hcs,htk⟩
 ·cases h
 ·injection hv with e1 e2 e3
  injection e1 with e1
  injection e1 with e1
  subst e1 e2 e3;refine .inr ⟨g,cap,cur.setIfInBounds (i*4+3) (.int .i64 (y.units+k)),by simp,hbg,?_,by simpa using hnc,hcm,by simpa using hcs,?_⟩
  ·simp [World.setCell,Array.getElem?_modify,hg]
  ·rw [List.length_set,Array.toList_setIfInBounds,List.take_set,htk,qyT l i y k hy]
theorem Own.at_ {w:World} {B:Nat} {v:Value} {l:List Lot} (h:Own w B v l) (hn:0<l.length):∃ g cap,v=.slice (some ⟨g,0,none⟩) l.length cap∧B≤g∧g<w.heap.size∧(∀ o,w.frozen? ⟨g,o,none⟩=false)∧∀ k x,l[k]?=some x→CellsAt w g (k*4) x:=by
 have hc:=fun g=>World.ownsRow.cells h (g:=g)
 rcases h.2 with ⟨_,h2⟩|⟨g,cap,cur,hv,hbg,hg,_⟩
 ·omega
 ·refine ⟨g,cap,hv,hbg,(Array.getElem?_eq_some_iff.1 hg).1,fun o=>by simp [World.frozen?,hg],fun k x hx=>?_⟩;obtain ⟨c0,c1,c2,c3⟩:=qkR l k x hx;have hh:=hc g (by rw [hv];rfl);refine ⟨?_,?_,?_,?_⟩
  ·have:=hh _ _ c0;rwa [qdC,Nat.zero_add] at this
  ·have:=hh _ _ c1;rwa [qdC,Nat.zero_add] at this
  ·have:=hh _ _ c2;rwa [qdC,Nat.zero_add] at this
  ·have:=hh _ _ c3;rwa [qdC,Nat.zero_add] at this
theorem qmU (v vm:Value) (l more:List Lot) (w:World) (hl:LotsAt w v l) (hm:LotsAt w vm more) (hs:Srt l) (hn:l.length≤1000) (hmn:more.length≤1000)
  (hu:∀ x∈l,0≤x.units) (hmu:∀ x∈more,0≤x.units) (hsum:sumU l+sumU more≤4000000000000000) :
  Calls Tryz.prog 127 #[v,vm] w fun e w'=>∃ v',e=.returned v'∧Own w' w.heap.size v' (giveL l more)∧Below w.heap.size w w':=by
 have HS:=hid hs;have HU:=hid (And.intro hu (And.intro hmu hsum));have HCL:=hid (qyP v l w hl (by omega));by_cases h0:more.length=0
 ·obtain ⟨A,cap,rfl⟩:=hm.nil h0;have hl0:=List.eq_nil_of_length_eq_zero h0;subst hl0;clear hl hm hs hu hmu hsum h0 hmn;go_enter Tryz.func127,Tryz.ntmps127
  go_wp2_with (go_at_call 157;refine HCL.out.mono ?_;rintro e w1 ⟨v1,rfl,ho1,hb1⟩;have HO1:=hid ho1;have HB1:=hid hb1;clear ho1 hb1)
  go_loopg [5,14] 1 (fun m a i wr=>a=v1∧i=.int .i64 0∧wr=w1)
  case atStart=>exact ⟨rfl,rfl,rfl⟩
  case round =>
   obtain ⟨rfl,rfl,rfl⟩:=hrel;go_wp2
   go_ret
   exact ⟨_,rfl,HO1.out,HB1.out⟩
 ·obtain ⟨g,off,cap,rfl,hc⟩:=hm.some (by omega);obtain ⟨n,hnn⟩:=nqx (more.length);rw [←hnn] at hmn h0 ⊢;have HN:=hid hnn;have HC:=hid hc;clear hnn hc hl hm hs hu hmu hsum;go_enter Tryz.func127,Tryz.ntmps127
  go_wp2_with (go_at_call 157;refine HCL.out.mono ?_;rintro e w1 ⟨v1,rfl,ho1,hb1⟩;have HO1:=hid ho1;have HB1:=hid hb1;clear ho1 hb1)
  go_loopg [5,14] n (fun m a i wr=>∃ k:Nat,k≤n∧n - k≤m∧i=.int .i64 k∧Own wr w.heap.size a (giveL l (more.take k))∧Below w.heap.size w wr)
  case atStart=>exact ⟨0,by omega,by omega,rfl,by simpa [giveL] using HO1.out,HB1.out⟩
  case round =>
   obtain ⟨k,hk,hm,rfl,hoa,hbl⟩:=hrel;have hsz:w.heap.size≤wr.heap.size:=hbl.size;have HOA:=hid hoa;have HBL:=hid hbl;clear hoa hbl;by_cases hlt:k<n
   ·obtain ⟨x,hx⟩:∃ x,more[k]?=some x:=⟨more[k]'(by rw [←HN.out];exact hlt),by simp [←HN.out,hlt]⟩;obtain ⟨c0,c1,c2,c3⟩:=(HC.out k x hx).below HBL.out;have HGS:=hid (qxS (l:=l) hx);have hxm:=List.mem_of_getElem? hx;have hxb:=HU.out.2.1 x hxm;have hxs:=qkZ more HU.out.2.1 x hxm;have hos:=jbN l (more.take k);have hot:=qbJ more k HU.out.2.1;have hop:=jbO l (more.take k) HU.out.1 (fun y hy=>HU.out.2.1 y (List.mem_of_mem_take hy));have hol:=jbQ l (more.take k);rw [List.length_take] at hol;have hosrt:=qsA l (more.take k) HS.out;have hl0:=(qbJ l 0 HU.out.1)
    have hbound:sumU (giveL l (more.take k))≤4000000000000000∧x.units≤4000000000000000:=by
     have:=HU.out.2.2
     have h0:0≤sumU l:=by have:=qbJ l l.length HU.out.1;rw [List.take_length] at this;exact this.2
     omega
    obtain ⟨o,ho⟩:=nqx (giveL l (more.take k));rw [←ho] at HOA HGS hop hol hosrt hbound;have HOP:=hid (And.intro hop hosrt);obtain ⟨hb1,hb2⟩:=hbound;have HBS:=hid (fun W (h:LotsAt W u5 o)=>qqU u5 o x W h hosrt (by omega));have hpl:=jgR o x;clear hx hxm hxs hos hot hop hosrt hl0 ho
    cases hf:foundB o x with
    | true =>
     obtain ⟨y,hy,hky,hput⟩:=qxV hf;simp only [hf] at HBS;obtain ⟨hpn,hpe⟩:=List.getElem?_eq_some_iff.1 hy;obtain ⟨ga,capa,hva,hgb,hgl,hgf,hgc⟩:=HOA.out.at_ (by omega);obtain ⟨d0,d1,d2,d3⟩:=hgc _ _ hy;subst hva;have hyb:=HOP.out.1 y (List.mem_of_getElem? hy);have hyu:=qkZ o HOP.out.1 y (List.mem_of_getElem? hy);have hadd:IntKind.i64.wrap (y.units+x.units)=y.units+x.units:=IntWalk.i64_in _ (by omega);have HPUT:=hid hput;have HY:=hid hy;obtain ⟨q,hq⟩:=nqx (pos o x);rw [←hq] at HBS HPUT HY hpn d0 d1 d2 d3;clear hf hput hky hpe hgc hyu hy hq hpl;go_wp2_with fail
     refine (HBS.out _ ((HOA.out.alloc _).lots)).mono ?_;rintro e w2 ⟨rfl,hb2'⟩;have e3:=qcU (qcW d3 (.cells #[.string x.nom,.string x.hol,.int .i64 x.ser,.int .i64 x.units] 56)) hb2';have x3:=qcU (show (wr.alloc (.cells #[.string x.nom,.string x.hol,.int .i64 x.ser,.int .i64 x.units] 56)).cell? ⟨wr.heap.size,3,none⟩=some (.int .i64 x.units) by go_cell) hb2';have f2:∀ j,w2.frozen? ⟨ga,j,none⟩=false:=fun j=>by rw [hb2'.frozen (p:=⟨ga,j,none⟩) (by simp;omega),((Below.refl wr.heap.size wr).alloc (Nat.le_refl _) _).frozen (p:=⟨ga,j,none⟩) hgl];exact hgf j
     have HO2:=hid ((HOA.out.alloc (.cells #[.string x.nom,.string x.hol,.int .i64 x.ser,.int .i64 x.units] 56)).below hb2');have HB2:=hid ((HBL.out.alloc hsz (.cells #[.string x.nom,.string x.hol,.int .i64 x.ser,.int .i64 x.units] 56)).trans (hb2'.mono (by simp;omega)));clear hb2' d0 d1 d2 d3 hgf;go_wp2
     go_region
     go_wp2
     have HE:=hid (And.intro ((HO2.out.bump (k:=x.units) HY.out)) (qbK HB2.out ⟨ga,q*4+3,none⟩ (.int .i64 (y.units+x.units)) hgb));go_roundg (gk - 1)
     case measure=>omega
     case rel =>
      have hlen:(o.set q (y.more x.units)).length=o.length:=by simp
      exact ⟨k+1,by omega,by omega,by go_num,by rw [HGS.out,HPUT.out];exact HE.out.1.drew,qbN HE.out.2⟩
    | false =>
     have HPUT:=hid (jbR hf);simp only [hf] at HBS;clear hf;obtain ⟨q,hq⟩:=nqx (pos o x);rw [←hq] at HBS HPUT hpl;clear hq;go_wp2_with fail
     refine (HBS.out _ ((HOA.out.alloc _).lots)).mono ?_;rintro e w2 ⟨rfl,hb2'⟩;have x0:=qcU (show (wr.alloc (.cells #[.string x.nom,.string x.hol,.int .i64 x.ser,.int .i64 x.units] 56)).cell? ⟨wr.heap.size,0,none⟩=some (.string x.nom) by go_cell) hb2';have x1:=qcU (show (wr.alloc (.cells #[.string x.nom,.string x.hol,.int .i64 x.ser,.int .i64 x.units] 56)).cell? ⟨wr.heap.size,1,none⟩=some (.string x.hol) by go_cell) hb2';have x2:=qcU (show (wr.alloc (.cells #[.string x.nom,.string x.hol,.int .i64 x.ser,.int .i64 x.units] 56)).cell? ⟨wr.heap.size,2,none⟩=some (.int .i64 x.ser) by go_cell) hb2';have x3:=qcU (show (wr.alloc (.cells #[.string x.nom,.string x.hol,.int .i64 x.ser,.int .i64 x.units] 56)).cell? ⟨wr.heap.size,3,none⟩=some (.int .i64 x.units) by go_cell) hb2';have HO2:=hid ((HOA.out.alloc (.cells #[.string x.nom,.string x.hol,.int .i64 x.ser,.int .i64 x.units] 56)).below hb2');have HB2:=hid ((HBL.out.alloc hsz (.cells #[.string x.nom,.string x.hol,.int .i64 x.ser,.int .i64 x.units] 56)).trans (hb2'.mono (by simp;omega)));have hs2:w.heap.size≤w2.heap.size:=HB2.out.size;clear hb2';go_wp2_with fail
     refine (qtR u5 o q x w2.heap.size w.heap.size _ (HO2.out.alloc _) hpl (by omega) (by first|omega|(simp<;>omega)) (HO2.out.ne (.inl (Nat.le_refl _))) (heap_alloc_new w2 _)).mono ?_;rintro e w3 ⟨v3,rfl,ho3,hb3⟩;have HE:=hid (And.intro ho3 ((HB2.out.alloc hs2 _).trans hb3));clear ho3 hb3;go_wp2
     go_roundg (gk - 1)
     case measure=>omega
     case rel=>exact ⟨k+1,by omega,by omega,by go_num,by rw [HGS.out,HPUT.out];exact HE.out.1,HE.out.2⟩
   ·go_wp2
    go_ret
    exact ⟨_,rfl,by have:=HOA.out;rwa [List.take_of_length_le (by have:=HN.out;omega)] at this,HBL.out⟩
set_option maxHeartbeats 4000000
theorem qbT (v:Value) (l:List Lot) (w:World) (h:LotsAt w v l) (hc:checkB l=true) :
  CB 54 #[.agg #[v]] (.int .i64 0) w:=by
 have:=qjS v l w h;unfold OutE at this;rw [hc] at this;exact this
theorem qiM (v:Value) (l:List Lot) (w:World) (h:LotsAt w v l) (hc:checkB l=false) :
  CB 54 #[.agg #[v]] (.int .i64 250) w:=by
 have:=qjS v l w h;unfold OutE at this;rw [hc] at this;exact this
theorem qbZ (nm hl:ByteArray) (b:Bool) (h:acctB nm hl=b) (w:World) :
  CB 114 #[.agg #[.string nm,.string hl]] (.bool b) w:=by
 rw [←h];exact qnJ nm hl w
namespace Reg
theorem qaS {l:List Lot} (h:checkB l=true):l.length≤256∧okL l=true∧sumU l≤1000000000000000∧Srt l∧∀ x∈l,1≤x.units∧x.units≤1000000000000000:=by
 simp only [checkB,Bool.and_eq_true,decide_eq_true_eq] at h;exact ⟨h.1.1,h.1.2,h.2,jeT h.1.2,fun x hx=>⟨(qiJ (qgT h.1.2 x hx)).1,(qiJ (qgT h.1.2 x hx)).2.1⟩⟩
def redE (l:List Lot) (nm hl:ByteArray) (n:Int):Int:=if checkB l=false then 250 else if acctB nm hl=false then 251 else if n<0∨1000000000000000<n then 253 else 0
def redL (l:List Lot) (nm hl:ByteArray) (n:Int):List Lot × List Lot:=if redE l nm hl n=0 then takeR nm hl l n else ([],[])
theorem qtG (l:List Lot) (nm hl:ByteArray) (n:Int):(checkB l=false∧redE l nm hl n=250∧redL l nm hl n=([],[]))∨(checkB l=true∧acctB nm hl=false∧redE l nm hl n=251∧redL l nm hl n=([],[])) ∨
  (checkB l=true∧acctB nm hl=true∧n<0∧redE l nm hl n=253∧redL l nm hl n=([],[]))∨(checkB l=true∧acctB nm hl=true∧¬n<0∧1000000000000000<n∧redE l nm hl n=253∧redL l nm hl n=([],[])) ∨
  (checkB l=true∧acctB nm hl=true∧0≤n∧n≤1000000000000000∧redE l nm hl n=0∧redL l nm hl n=takeR nm hl l n):=by
 unfold redL redE
 cases h1:checkB l
 ·exact .inl ⟨rfl,by simp,by simp⟩
 ·cases h2:acctB nm hl
  ·exact .inr (.inl ⟨rfl,rfl,by simp,by simp⟩)
  ·by_cases h3:n<0
   ·exact .inr (.inr (.inl ⟨rfl,rfl,h3,by simp [h3],by simp [h3]⟩))
   ·by_cases h4:1000000000000000<n
    ·exact .inr (.inr (.inr (.inl ⟨rfl,rfl,h3,h4,by simp [h4],by simp [h4]⟩)))
    ·have h5:¬(n<0∨1000000000000000<n):=by omega
     exact .inr (.inr (.inr (.inr ⟨rfl,rfl,by omega,by omega,by simp [h5],by simp [h5]⟩)))
theorem qgR {nm hl:ByteArray} {l:List Lot} (h:∀ x∈l,1≤x.units∧x.units≤1000000000000000):(∀ x∈ownL nm hl l,1≤x.units∧x.units≤1000000000000000)∧(∀ x∈othL nm hl l,0≤x.units):=by
 refine ⟨fun x hx=>h x (List.mem_filter.1 hx).1,fun x hx=>?_⟩
 have:=h x (List.mem_filter.1 hx).1
 omega
theorem qjF (nm hl:ByteArray) (l:List Lot):sumU (ownL nm hl l)+sumU (othL nm hl l)=sumU l∧(ownL nm hl l).length+(othL nm hl l).length=l.length:=by
 induction l with
 | nil=>simp [ownL,othL,sumU]
 | cons x l ih =>
  cases h:ownB nm hl x
  ·simp only [ownL,othL,List.filter_cons,h] at ih ⊢;simp [sumU];omega
  ·simp only [ownL,othL,List.filter_cons,h] at ih ⊢;simp [sumU];omega
theorem qnT (l:List Lot) (n:Int) (hn:0≤n) (h:∀ x∈l,1≤x.units):sumU (takeP l n).1+sumU (takeP l n).2=sumU l∧(∀ x∈(takeP l n).1,0≤x.units)∧(∀ x∈(takeP l n).2,1≤x.units):=by
 induction l generalizing n with
 | nil=>simp [takeP,sumU]
 | cons x l ih =>
  have hx:=h x (by simp);obtain ⟨i1,i2,i3⟩:=ih (n - min n x.units) (by omega) (fun y hy=>h y (by simp [hy]));simp only [takeP];refine ⟨?_,?_,?_⟩
  ·split<;>split<;>simp only [sumU,Lot.more]<;>omega
  ·split
   ·intro y hy;rcases List.mem_cons.1 hy with rfl|hy
    ·simp only [Lot.more];omega
    ·exact i2 y hy
   ·exact i2
  ·split
   ·intro y hy;rcases List.mem_cons.1 hy with rfl|hy
    ·simp only;omega
    ·exact i3 y hy
   ·exact i3
theorem qnS (l:List Lot) (n:Int) (hn:0≤n) (h:∀ x∈l,1≤x.units):sumU (takeP l n).1≤sumU l:=by
 obtain ⟨h1,h2,h3⟩:=qnT l n hn h
 have:=(qbJ (takeP l n).2 (takeP l n).2.length (fun x hx=>by have:=h3 x hx;omega)).2
 rw [List.take_length] at this;omega
end Reg
def RedP (la lb:List Lot) (er:Int) (w:World) (e:Ending) (w':World):Prop :=
 ∃ va vb,e=.returned (.tuple #[.agg #[va],vb,.int .i64 er])∧Own w' w.heap.size va la∧Own w' w.heap.size vb lb∧Below w.heap.size w w'
def W3 (w:World) (A:Option Addr) (n cap:Nat) (nm hl:ByteArray):World:=((w.alloc (.cells #[.slice A n cap] 40)).alloc (.cells #[.string nm,.string hl] 54)).alloc (.cells #[.slice none 0 0] 40)
theorem W3.size_ {w:World} {A:Option Addr} {n cap:Nat} {nm hl:ByteArray}:(W3 w A n cap nm hl).heap.size=w.heap.size+1+1+1:=by simp [W3]
theorem W3.below (w:World) (A:Option Addr) (n cap:Nat) (nm hl:ByteArray):Below w.heap.size w (W3 w A n cap nm hl):=(((Below.refl w.heap.size w).alloc (Nat.le_refl _) _).alloc (by simp) _).alloc (by simp only [World.size_alloc];omega) _
theorem W3.kept {w w1:World} {A:Option Addr} {n cap:Nat} {nm hl:ByteArray} (hb:Below (W3 w A n cap nm hl).heap.size (W3 w A n cap nm hl) w1) :
  w1.cell? ⟨w.heap.size,0,none⟩=some (.slice A n cap)∧w1.cell? ⟨w.heap.size+1,0,none⟩=some (.string nm)∧w1.cell? ⟨w.heap.size+1,1,none⟩=some (.string hl)∧w1.cell? ⟨w.heap.size+1+1,0,none⟩=some (.slice none 0 0) ∧
  w1.frozen? ⟨w.heap.size+1+1,0,none⟩=false∧w.heap.size+1+1<w1.heap.size∧Below w.heap.size w w1:=by
 have hs:=hb.size;rw [W3.size_] at hs;refine ⟨qcU (by unfold W3;go_cell) hb,qcU (by unfold W3;go_cell) hb,qcU (by unfold W3;go_cell) hb,qcU (by unfold W3;go_cell) hb,?_,by omega,(W3.below w A n cap nm hl).trans (hb.mono (W3.below w A n cap nm hl).size)⟩;rw [hb.frozen (p:=⟨w.heap.size+1+1,0,none⟩) (by rw [W3.size_];simp)];unfold W3;exact World.frozen?_alloc_at _ _ _ _ (by simp)
theorem qmC {w w1:World} {B:Nat} {vb:Value} {lb:List Lot} {va:Value} {la:List Lot} {er:Int} {e:Ending} (he:e=.returned (.tuple #[.agg #[va],vb,.int .i64 er])) (ha:Own w1 B va la) (hb:Own w1 B vb lb) (hB:w.heap.size≤B) (hw:Below w.heap.size w w1):RedP la lb er w e w1 :=
 ⟨va,vb,he,ha.base hB,hb.base hB,hw⟩
theorem qtF (v:Value) (l:List Lot) (nm hl:ByteArray) (n:Int) (w:World) (h:LotsAt w v l) :
  Calls Tryz.prog 90 #[regV v,.agg #[.string nm,.string hl],.int .i64 n] w (RedP (redL l nm hl n).1 (redL l nm hl n).2 (redE l nm hl n) w):=by
 unfold regV;obtain ⟨A,cap,hv⟩:=Rd.form h;have hL:=fun W hb=>LotsAt.below (w':=W) h hb
 have HL:=hid hL;rcases qtG l nm hl n with ⟨h1,e1,e2⟩|⟨h1,h2,e1,e2⟩|⟨h1,h2,h3,e1,e2⟩|⟨h1,h2,h3,h4,e1,e2⟩|⟨h1,h2,h3,h4,e1,e2⟩
 ·rw [e1,e2];subst hv;have H1:=hid h1;have HW:=hid (W3.below w A l.length cap nm hl);clear h hL h1 e1 e2;go_enter Tryz.func90,Tryz.ntmps90
  go_wp2_with fail
  refine (qiM _ l (W3 w A l.length cap nm hl) (HL.out _ HW.out) H1.out).mono ?_;rintro e w1 ⟨rfl,hb⟩;obtain ⟨k0,k1,k2,k3,k4,k5,k6⟩:=W3.kept hb;have HK:=hid k6;clear hb k6;go_wp2
  refine bodyPost_ret (v:=.tuple #[.agg #[.slice none 0 0],.slice none 0 0,.int .i64 250]) (by simp [results,Tryz.results90,go_sem,k3,k4,k5]) rfl ?_;exact qmC rfl (Own.nil _ _) (Own.nil _ _) (Nat.le_refl _) (qbK HK.out _ _ (by simp;omega))
 ·rw [e1,e2];subst hv;have H1:=hid h1;have H2:=hid h2;have HW:=hid (W3.below w A l.length cap nm hl);clear h hL h1 h2 e1 e2;go_enter Tryz.func90,Tryz.ntmps90
  go_wp2_with fail
  refine (qbT _ l (W3 w A l.length cap nm hl) (HL.out _ HW.out) H1.out).mono ?_;rintro e w1 ⟨rfl,hb⟩;obtain ⟨k0,k1,k2,k3,k4,k5,k6⟩:=W3.kept hb;have HK:=hid hb;clear hb k6;go_wp2_with fail
  refine (qbZ nm hl false H2.out w1).mono ?_;rintro e w2 ⟨rfl,hb⟩;have hb2:=HK.out.trans (hb.mono HK.out.size);clear hb k0 k1 k2 k3 k4 k5;obtain ⟨k0,k1,k2,k3,k4,k5,k6⟩:=W3.kept hb2;have HK2:=hid k6;clear hb2 k6;go_wp2
  refine bodyPost_ret (v:=.tuple #[.agg #[.slice none 0 0],.slice none 0 0,.int .i64 251]) (by simp [results,Tryz.results90,go_sem,k3,k4,k5]) rfl ?_;exact qmC rfl (Own.nil _ _) (Own.nil _ _) (Nat.le_refl _) (qbK HK2.out _ _ (by simp;omega))
 ·rw [e1,e2];subst hv;have H1:=hid h1;have H2:=hid h2;have HW:=hid (W3.below w A l.length cap nm hl);clear h hL h1 h2 e1 e2;go_enter Tryz.func90,Tryz.ntmps90
  go_wp2_with fail
  refine (qbT _ l (W3 w A l.length cap nm hl) (HL.out _ HW.out) H1.out).mono ?_;rintro e w1 ⟨rfl,hb⟩;obtain ⟨k0,k1,k2,k3,k4,k5,k6⟩:=W3.kept hb;have HK:=hid hb;clear hb k6;go_wp2_with fail
  refine (qbZ nm hl true H2.out w1).mono ?_;rintro e w2 ⟨rfl,hb⟩;have hb2:=HK.out.trans (hb.mono HK.out.size);clear hb k0 k1 k2 k3 k4 k5;obtain ⟨k0,k1,k2,k3,k4,k5,k6⟩:=W3.kept hb2;have HK2:=hid k6;clear hb2 k6;go_wp2
  refine bodyPost_ret (v:=.tuple #[.agg #[.slice none 0 0],.slice none 0 0,.int .i64 253]) (by simp [results,Tryz.results90,go_sem,k3,k4,k5]) rfl ?_;exact qmC rfl (Own.nil _ _) (Own.nil _ _) (Nat.le_refl _) (qbK HK2.out _ _ (by simp;omega))
 ·rw [e1,e2];subst hv;have H1:=hid h1;have H2:=hid h2;have HW:=hid (W3.below w A l.length cap nm hl);clear h hL h1 h2 e1 e2;go_enter Tryz.func90,Tryz.ntmps90
  go_wp2_with fail
  refine (qbT _ l (W3 w A l.length cap nm hl) (HL.out _ HW.out) H1.out).mono ?_;rintro e w1 ⟨rfl,hb⟩;obtain ⟨k0,k1,k2,k3,k4,k5,k6⟩:=W3.kept hb;have HK:=hid hb;clear hb k6;go_wp2_with fail
  refine (qbZ nm hl true H2.out w1).mono ?_;rintro e w2 ⟨rfl,hb⟩;have hb2:=HK.out.trans (hb.mono HK.out.size);clear hb k0 k1 k2 k3 k4 k5;obtain ⟨k0,k1,k2,k3,k4,k5,k6⟩:=W3.kept hb2;have HK2:=hid k6;clear hb2 k6;go_wp2
  refine bodyPost_ret (v:=.tuple #[.agg #[.slice none 0 0],.slice none 0 0,.int .i64 253]) (by simp [results,Tryz.results90,go_sem,k3,k4,k5]) rfl ?_;exact qmC rfl (Own.nil _ _) (Own.nil _ _) (Nat.le_refl _) (qbK HK2.out _ _ (by simp;omega))
 ·rw [e1,e2];subst hv;obtain ⟨f1,f2,f3,f4,f5⟩:=qaS h1;have hplain:=qoD nm hl l n h3 (fun x hx=>(f5 x hx).1) f4;have htb:=(qiW nm hl l n h3 (fun x hx=>(f5 x hx).1)).1;obtain ⟨u1,u2⟩:=qgR (nm:=nm) (hl:=hl) f5;obtain ⟨s1,s2⟩:=qjF nm hl l;have s3:=quW (ownL nm hl l) n;obtain ⟨t1,t2,t3⟩:=qnT (ownL nm hl l) n h3 (fun x hx=>(u1 x hx).1);have t4:=qnS (ownL nm hl l) n h3 (fun x hx=>(u1 x hx).1);have hso:Srt (othL nm hl l):=List.Pairwise.sublist List.filter_sublist f4;have H1:=hid h1;have H2:=hid h2;have HW:=hid (W3.below w A l.length cap nm hl);have HP:=hid (And.intro hplain htb);have HU:=hid (And.intro u1 (And.intro u2 (And.intro t2 hso)));have hfn:l.length≤1000:=by omega
  have ho1:(ownL nm hl l).length≤1000:=by omega
  have ho2:(othL nm hl l).length≤1000:=by omega
  have ho3:(takeP (ownL nm hl l) n).1.length≤1000:=by omega
  have hsm:sumU (othL nm hl l)+sumU (takeP (ownL nm hl l) n).1≤4000000000000000:=by omega
  have hn1:¬n<0:=by omega
  have hn2:¬1000000000000000<n:=by omega
  have HLN:=hid (And.intro ho1 (And.intro ho2 (And.intro ho3 hsm)));clear h hL h1 h2 e1 e2 f1 f2 f3 f4 f5 hplain htb u1 u2 s1 s2 s3 t1 t2 t3 t4 hso ho1 ho2 ho3 hsm;go_enter Tryz.func90,Tryz.ntmps90
  go_wp2_with fail
  refine (qbT _ l (W3 w A l.length cap nm hl) (HL.out _ HW.out) H1.out).mono ?_;rintro e w1 ⟨rfl,hb⟩;obtain ⟨k0,k1,k2,k3,k4,k5,k6⟩:=W3.kept hb;have HK:=hid hb;clear hb k6;go_wp2_with fail
  refine (qbZ nm hl true H2.out w1).mono ?_;rintro e w2 ⟨rfl,hb⟩;have hb2:=HK.out.trans (hb.mono HK.out.size);clear hb k0 k1 k2 k3 k4 k5 HK;obtain ⟨k0,k1,k2,k3,k4,k5,k6⟩:=W3.kept hb2;have HK:=hid hb2;have HK6:=hid k6;have hz2:w.heap.size+1+1<w2.heap.size:=k5;clear hb2 k6;go_wp2_with fail
  refine (jdI (.slice A l.length cap) l nm hl w2 (HL.out _ HK6.out) hfn).mono ?_;rintro e w3 ⟨va,vb,rfl,hoa,hob,hap,hb⟩;have hb3:=HK.out.trans (hb.mono HK.out.size);have HO:=hid (And.intro hoa (And.intro hob (And.intro hap hb)));clear hoa hob hap hb k0 k1 k2 k3 k4 k5 HK HK6;obtain ⟨k0,k1,k2,k3,k4,k5,k6⟩:=W3.kept hb3;have HK:=hid hb3;clear hb3 k6;go_wp2_with fail
  refine (jaA va (ownL nm hl l) n w3 HO.out.1.lots HLN.out.1 HU.out.1 h3 h4).mono ?_;rintro e w4 ⟨vc,vd,rfl,hoc,hod,hap,hb⟩;have hb4:=HK.out.trans (hb.mono HK.out.size);have HOO:=hid (HO.out.2.1.below hb);have HO4:=hid (And.intro hoc hod);have hs3:=HO.out.2.2.2.size;have hs4:=hb.size;clear hoc hod hap hb k0 k1 k2 k3 k4 k5 HK;obtain ⟨k0,k1,k2,k3,k4,k5,k6⟩:=W3.kept hb4;have HK:=hid hb4;clear hb4 k6;go_wp2_with fail
  refine (qmU vb vc (othL nm hl l) (takeP (ownL nm hl l) n).1 w4 HOO.out.lots HO4.out.1.lots HU.out.2.2.2 HLN.out.2.1 HLN.out.2.2.1 HU.out.2.1 HU.out.2.2.1 HLN.out.2.2.2).mono ?_;rintro e w5 ⟨ve,rfl,hoe,hb⟩;have hb5:=HK.out.trans (hb.mono HK.out.size);have HO5:=hid (And.intro hoe (HO4.out.2.below hb));have hs5:=hb.size;clear hoe hb k0 k1 k2 k3 k4 k5 HK;obtain ⟨k0,k1,k2,k3,k4,k5,k6⟩:=W3.kept hb5;have HK:=hid k6;obtain ⟨A5,c5,rfl⟩:=Rd.form HO5.out.1.lots;clear hb5 k6;go_wp2
  refine bodyPost_ret (v:=.tuple #[.agg #[.slice A5 (giveL (othL nm hl l) (takeP (ownL nm hl l) n).1).length c5],vd,.int .i64 0]) (by simp [results,Tryz.results90,go_sem,k3,k4,k5]) rfl ?_;have q1:=HO5.out.1.setCell ⟨w.heap.size+1+1,0,none⟩ (.slice A5 (giveL (othL nm hl l) (takeP (ownL nm hl l) n).1).length c5) (HO5.out.1.ne (.inr (by simp;omega)));have q2:=HO5.out.2.setCell ⟨w.heap.size+1+1,0,none⟩ (.slice A5 (giveL (othL nm hl l) (takeP (ownL nm hl l) n).1).length c5) (HO5.out.2.ne (.inr (by simp;omega)));have q3:=qbK HK.out ⟨w.heap.size+1+1,0,none⟩ (.slice A5 (giveL (othL nm hl l) (takeP (ownL nm hl l) n).1).length c5) (by simp;omega);rw [←HP.out.2] at q2;refine ⟨_,vd,rfl,?_,q2.base (by omega),q3⟩;have q4:=q1.base (B':=w.heap.size) (by omega);rw [←HP.out.1];exact q4
end Go.Proofs.YtemoddmadfoaiaaGreat
namespace Go.Proofs.YtemoddmadfoaiaaGreat
open Go.RowKit Reg
theorem qqJ {w:World} {A:Option Addr} {cap:Nat} {l:List Lot} (h:LotsAt w (.slice A l.length cap) l):∀ k x,l[k]?=some x→∃ g off,A=some ⟨g,off,none⟩∧CellsAt w g (off+k*4) x:=by
 intro k x hx;have hk:=(List.getElem?_eq_some_iff.1 hx).1;obtain ⟨g,off,cap',hv,hc⟩:=h.some (by omega);injection hv with hv _ _
 exact ⟨g,off,hv,hc k x hx⟩
end Go.Proofs.YtemoddmadfoaiaaGreat
namespace Go.Proofs.YtemoddmadfoaiaaGreat
open Go.RowKit Reg Go.Maps
theorem qrT (W:World) (l:List Lot) (t:TypeId) (n:Nat) (hn:n=l.length) (h1:l.length≤1000):LotsAt (W.alloc (.cells (cellsL l).toArray t)) (.slice (some ⟨W.heap.size,0,none⟩) n n) l:=by
 subst hn;refine ⟨qcE l,qbS (by omega),some ⟨W.heap.size,0,none⟩,l.length,rfl,fun _=>⟨W.heap.size,0,rfl,fun j u hj=>?_⟩⟩
 have:=qfD W (cellsL l) t j u hj
 rwa [qdC] at this
theorem qzE (w:World) (A:Option Addr) (n cap:Nat) (nm hl:ByteArray):∃ w0:World,w0=(w.alloc (.cells #[.slice A n cap] 40)).alloc (.cells #[.string nm,.string hl] 54)∧Below w.heap.size w w0∧w0.heap.size=w.heap.size+1+1 ∧
  w0.cell? ⟨w.heap.size,0,none⟩=some (.slice A n cap)∧w0.cell? ⟨w.heap.size+1,0,none⟩=some (.string nm)∧w0.cell? ⟨w.heap.size+1,1,none⟩=some (.string hl) :=
 ⟨_,rfl,((Below.refl _ _).alloc (Nat.le_refl _) _).alloc (by simp) _,by simp,by go_cell,by go_cell,by go_cell⟩
theorem RedP.form {la lb:List Lot} {er:Int} {w:World} {e:Ending} {w':World} (h:RedP la lb er w e w'):∃ A c A2 c2,e=.returned (.tuple #[.agg #[.slice A la.length c],.slice A2 lb.length c2,.int .i64 er])∧LotsAt w' (.slice A la.length c) la∧LotsAt w' (.slice A2 lb.length c2) lb∧Below w.heap.size w w':=by
 obtain ⟨va,vb,rfl,ha,hb,hB⟩:=h;obtain ⟨A,c,rfl⟩:=Rd.form ha.lots;obtain ⟨A2,c2,rfl⟩:=Rd.form hb.lots;exact ⟨A,c,A2,c2,rfl,ha.lots,hb.lots,hB⟩
end Go.Proofs.YtemoddmadfoaiaaGreat
namespace Go.Proofs.YtemoddmadfoaiaaGreat
open Go.RowKit Reg
namespace Reg
def stP (x:Lot) (st:List Lot × Bool) (y:Lot):List Lot × Bool :=
 if sameKey y x then (st.1++[y.more x.units],true) else if st.2=false∧lotLt x y=true then (st.1++[x,y],true) else (st.1++[y],st.2)
def foldP (x:Lot) (l:List Lot):List Lot × Bool:=l.foldl (stP x) ([],false)
def putR (l:List Lot) (x:Lot):List Lot:=if (foldP x l).2=true then (foldP x l).1 else (foldP x l).1++[x]
theorem qoU (x:Lot) (l:List Lot) (o:List Lot) (h:∀ z∈l,¬sameKey z x):l.foldl (stP x) (o,true)=(o++l,true):=by
 induction l generalizing o with
 | nil=>simp
 | cons y l ih =>
  rw [List.foldl_cons,show stP x (o,true) y=(o++[y],true) by simp [stP,h y (by simp)],ih _ (fun z hz=>h z (by simp [hz]))];simp
theorem jbT (x:Lot) (l:List Lot) (o:List Lot) (h:Srt l):(if (l.foldl (stP x) (o,false)).2=true then (l.foldl (stP x) (o,false)).1 else (l.foldl (stP x) (o,false)).1++[x])=o++putL l x:=by
 induction l generalizing o with
 | nil=>simp [putL]
 | cons y l ih =>
  have h1:=List.pairwise_cons.1 h;rw [List.foldl_cons,putL];by_cases hk:sameKey y x
  ·rw [show stP x (o,false) y=(o++[y.more x.units],true) by simp [stP,hk],qoU,if_pos hk]
   ·simp
   ·intro z hz hzk;exact qeX (h1.1 z hz) ⟨hk.1.trans hzk.1.symm,hk.2.1.trans hzk.2.1.symm,hk.2.2.trans hzk.2.2.symm⟩
  ·rw [if_neg hk];by_cases hl:lotLt x y=true
   ·rw [show stP x (o,false) y=(o++[x,y],true) by simp [stP,hk,hl],qoU,if_pos hl]
    ·simp
    ·intro z hz hzk;exact qeX (qcS hl (h1.1 z hz)) ⟨hzk.1.symm,hzk.2.1.symm,hzk.2.2.symm⟩
   ·rw [show stP x (o,false) y=(o++[y],false) by simp [stP,hk,hl],if_neg hl,ih _ h1.2];simp
theorem jeK {l:List Lot} (x:Lot) (h:Srt l):putR l x=putL l x:=by
 have:=jbT x l [] h
 rw [List.nil_append] at this;unfold putR foldP;exact this
theorem qxW (x:Lot) (l:List Lot):(foldP x l).1.length≤l.length*2:=by
 have hg:∀ (l:List Lot) (st:List Lot × Bool),(l.foldl (stP x) st).1.length≤st.1.length+l.length*2:=by
  intro l
  induction l with
  | nil=>intro st;simp
  | cons y l ih =>
   intro st;have h1:=ih (stP x st y);have h2:(stP x st y).1.length≤st.1.length+2:=by unfold stP;split<;>(try split)<;>simp
   rw [List.foldl_cons,List.length_cons];omega
 have:=hg l ([],false)
 simpa [foldP] using this
theorem qtU {l:List Lot} {k:Nat} {y:Lot} (x:Lot) (hy:l[k]?=some y):foldP x (l.take (k+1))=stP x (foldP x (l.take k)) y:=by
 obtain ⟨h1,h2⟩:=List.getElem?_eq_some_iff.1 hy;unfold foldP;rw [List.take_succ_eq_append_getElem h1,h2,List.foldl_append];rfl
end Reg
end Go.Proofs.YtemoddmadfoaiaaGreat
set_option maxHeartbeats 4000000
namespace Go.Proofs.YtemoddmadfoaiaaGreat
open Go.RowKit Reg
open Lib (hid)
def totN (l:List Lot):Int:=if checkB l=true then sumU l else 0
def totE (l:List Lot):Int:=if checkB l=true then 0 else 250
theorem jgB (w:World) (A:Option Addr) (n cap:Nat):∃ w0:World,w0=w.alloc (.cells #[.slice A n cap] 40)∧Below w.heap.size w w0∧w0.heap.size=w.heap.size+1∧w0.cell? ⟨w.heap.size,0,none⟩=some (.slice A n cap) :=
 ⟨_,rfl,(Below.refl _ _).alloc (Nat.le_refl _) _,by simp,by go_cell⟩
theorem quR (A:Option Addr) (cap:Nat) (l:List Lot) (w:World) (h:LotsAt w (.slice A l.length cap) l) :
  CB 91 #[.agg #[.slice A l.length cap]] (.tuple #[.int .i64 (totN l),.int .i64 (totE l)]) w:=by
 obtain ⟨w0,hw0,hb0,hs0,c0⟩:=jgB w A l.length cap;have HL:=hid (fun W hb=>LotsAt.below (w':=W) h hb);have HB0:=hid hb0;unfold totN totE
 cases hc:checkB l with
 | false =>
  have H1:=hid hc;rw [if_neg (by simp),if_neg (by simp)];obtain ⟨n,hn⟩:=nqx (l.length);rw [←hn] at hw0 HL c0 ⊢;clear h hc hb0 hn;go_enter Tryz.func91,Tryz.ntmps91
  go_wp2_with fail
  rw [←hw0];refine (qiM _ l w0 (HL.out _ HB0.out) H1.out).mono ?_;rintro e w1 ⟨rfl,hb⟩;have HB1:=hid (HB0.out.trans (hb.mono HB0.out.size));clear hb hw0 hs0;go_wp2
  go_ret2
  exact ⟨rfl,HB1.out⟩
 | true =>
  have H1:=hid hc;obtain ⟨f1,f2,f3,f4,f5⟩:=qaS hc;have HU:=hid f5;rw [if_pos rfl,if_pos rfl];obtain ⟨n,hn⟩:=nqx (l.length);rw [←hn] at hw0 HL c0 f1 ⊢;have HN:=hid hn;clear h hc hb0 hn f2 f3 f4 f5;go_enter Tryz.func91,Tryz.ntmps91
  go_wp2_with fail
  rw [←hw0];refine (qbT _ l w0 (HL.out _ HB0.out) H1.out).mono ?_;rintro e w1 ⟨rfl,hb⟩;have HB1:=hid (HB0.out.trans (hb.mono HB0.out.size));have k0:=qcU c0 hb;clear hb hw0 hs0 c0;go_wp2_with fail
  refine (qgC _ l w1 (HL.out _ HB1.out) (fun x hx=>by have:=HU.out x hx;omega) (by have:=HN.out;omega)).mono ?_;rintro e w2 ⟨rfl,hb⟩;have HB2:=hid (HB1.out.trans (hb.mono HB1.out.size));clear hb;go_wp2
  go_ret2
  exact ⟨rfl,HB2.out⟩
set_option maxHeartbeats 8000000
namespace Reg
theorem qsB (l:List Lot) (x:Lot):giveL l [x]=putL l x:=rfl
def issE (l:List Lot) (x:Lot):Int :=
 if checkB l=false then 250 else if acctB x.nom x.hol=false then 251 else if x.ser<0∨73048<x.ser then 252 else if x.units<1∨1000000000000000 - sumU l<x.units then 253 else if 256<(putL l x).length then 254 else 0
def issL (l:List Lot) (x:Lot):List Lot:=if issE l x=0 then putL l x else []
theorem qxM (l:List Lot) (x:Lot) :
  (checkB l=false∧issE l x=250∧issL l x=[]) ∨
  (checkB l=true∧acctB x.nom x.hol=false∧issE l x=251∧issL l x=[]) ∨
  (checkB l=true∧acctB x.nom x.hol=true∧x.ser<0∧issE l x=252∧issL l x=[]) ∨
  (checkB l=true∧acctB x.nom x.hol=true∧¬x.ser<0∧73048<x.ser∧issE l x=252∧issL l x=[]) ∨
  (checkB l=true∧acctB x.nom x.hol=true∧¬x.ser<0∧¬73048<x.ser∧x.units<1∧issE l x=253∧issL l x=[]) ∨
  (checkB l=true∧acctB x.nom x.hol=true∧¬x.ser<0∧¬73048<x.ser∧¬x.units<1∧1000000000000000 - sumU l<x.units∧issE l x=253∧issL l x=[]) ∨
  (checkB l=true∧acctB x.nom x.hol=true∧¬x.ser<0∧¬73048<x.ser∧¬x.units<1∧¬1000000000000000 - sumU l<x.units∧256<(putL l x).length∧issE l x=254∧issL l x=[]) ∨
  (checkB l=true∧acctB x.nom x.hol=true∧¬x.ser<0∧¬73048<x.ser∧¬x.units<1∧¬1000000000000000 - sumU l<x.units∧¬256<(putL l x).length∧issE l x=0∧issL l x=putL l x):=by
 unfold issL issE
 cases h1:checkB l
 ·exact .inl ⟨rfl,by simp,by simp⟩
 refine .inr ?_
 cases h2:acctB x.nom x.hol
 ·exact .inl ⟨rfl,rfl,by simp,by simp⟩
 refine .inr ?_;by_cases h3:x.ser<0
 ·exact .inl ⟨rfl,rfl,h3,by simp [h3],by simp [h3]⟩
 refine .inr ?_;by_cases h4:73048<x.ser
 ·exact .inl ⟨rfl,rfl,h3,h4,by simp [h4],by simp [h4]⟩
 refine .inr ?_;have e1:¬(x.ser<0∨73048<x.ser):=by omega
 by_cases h5:x.units<1
 ·exact .inl ⟨rfl,rfl,h3,h4,h5,by simp [e1,h5],by simp [e1,h5]⟩
 refine .inr ?_;by_cases h6:1000000000000000 - sumU l<x.units
 ·exact .inl ⟨rfl,rfl,h3,h4,h5,h6,by simp [e1,h6],by simp [e1,h6]⟩
 refine .inr ?_;have e2:¬(x.units<1∨1000000000000000 - sumU l<x.units):=by omega
 by_cases h7:256<(putL l x).length
 ·have E:(if true=false then (250:Int) else if true=false then 251 else if x.ser<0∨73048<x.ser then 252 else if x.units<1∨1000000000000000 - sumU l<x.units then 253 else if 256<(putL l x).length then 254 else 0)=254:=by
   rw [if_neg (by simp),if_neg (by simp),if_neg e1,if_neg e2,if_pos h7]
  exact .inl ⟨rfl,rfl,h3,h4,h5,h6,h7,E,by rw [E];simp⟩
 ·have E:(if true=false then (250:Int) else if true=false then 251 else if x.ser<0∨73048<x.ser then 252 else if x.units<1∨1000000000000000 - sumU l<x.units then 253 else if 256<(putL l x).length then 254 else 0)=0:=by
   rw [if_neg (by simp),if_neg (by simp),if_neg e1,if_neg e2,if_neg h7]
  exact .inr ⟨rfl,rfl,h3,h4,h5,h6,h7,E,by rw [E];simp⟩
end Reg
def IssP (la:List Lot) (er:Int) (w:World) (e:Ending) (w':World):Prop :=
 ∃ va,e=.returned (.tuple #[.agg #[va],.int .i64 er])∧Own w' w.heap.size va la∧Below w.heap.size w w'
theorem qgD {w w1:World} {B:Nat} {va:Value} {la:List Lot} {er:Int} {e:Ending} (he:e=.returned (.tuple #[.agg #[va],.int .i64 er])) (ha:Own w1 B va la) (hB:w.heap.size≤B) (hw:Below w.heap.size w w1):IssP la er w e w1 :=
 ⟨va,he,ha.base hB,hw⟩
theorem jdN {l:List Lot} {x:Lot} (h1:checkB l=true) (h5:¬x.units<1) (h6:¬1000000000000000 - sumU l<x.units):(∀ y∈[x],0≤y.units)∧sumU l+sumU [x]≤4000000000000000∧0≤x.units∧x.units≤1000000000000000:=by
 obtain ⟨f1,f2,f3,f4,f5⟩:=qaS h1;have h0:=(qbJ l l.length (fun y hy=>by have:=f5 y hy;omega)).2;rw [List.take_length] at h0;refine ⟨fun y hy=>by simp at hy;subst hy;omega,?_,by omega,by omega⟩;simp [sumU];omega
theorem qxJ (v:Value) (l:List Lot) (x:Lot) (w:World) (h:LotsAt w v l) :
  Calls Tryz.prog 92 #[.agg #[v],.agg #[.string x.nom,.string x.hol],.int .i64 x.ser,.int .i64 x.units] w (IssP (issL l x) (issE l x) w):=by
 obtain ⟨A,cap,hv⟩:=Rd.form h;subst hv;have hL:=fun W hb=>LotsAt.below (w':=W) h hb
 have HL:=hid hL;have HW:=hid (W3.below w A l.length cap x.nom x.hol);rcases qxM l x with ⟨h1,e1,e2⟩|⟨h1,h2,e1,e2⟩|⟨h1,h2,h3,e1,e2⟩|⟨h1,h2,h3,h4,e1,e2⟩|⟨h1,h2,h3,h4,h5,e1,e2⟩|⟨h1,h2,h3,h4,h5,h6,e1,e2⟩|⟨h1,h2,h3,h4,h5,h6,h7,e1,e2⟩|⟨h1,h2,h3,h4,h5,h6,h7,e1,e2⟩
 ·rw [e1,e2];have H1:=hid h1;obtain ⟨N,hN⟩:=nqx (l.length);rw [←hN] at HW HL ⊢;clear h hL h1 e1 e2 hN;go_enter Tryz.func92,Tryz.ntmps92
  go_wp2_with fail
  refine (qiM _ l (W3 w A N cap x.nom x.hol) (HL.out _ HW.out) H1.out).mono ?_;rintro e w1 ⟨rfl,hb⟩;obtain ⟨k0,k1,k2,k3,k4,k5,k6⟩:=W3.kept hb;have HK:=hid hb;clear hb k6;have HK6:=hid (HW.out.trans (HK.out.mono HW.out.size));go_wp2
  refine bodyPost_ret (v:=.tuple #[.agg #[.slice none 0 0],.int .i64 250]) (by simp [results,Tryz.results92,go_sem,k3,k4,k5]) rfl ?_;exact qgD rfl (Own.nil _ _) (Nat.le_refl _) (qbK HK6.out _ _ (by simp;omega))
 ·rw [e1,e2];have H1:=hid h1;have H2:=hid h2;obtain ⟨f1,f2,f3,f4,f5⟩:=qaS h1;have hu0:=(qbJ l l.length (fun y hy=>by have:=f5 y hy;omega)).2;rw [List.take_length] at hu0;obtain ⟨S,hS⟩:=nqx (sumU l);rw [←hS] at f3 hu0;have hsub:IntKind.i64.wrap (1000000000000000 - S)=1000000000000000 - S:=IntWalk.i64_in _ (by omega);clear f1 f2 f4 f5 hS;obtain ⟨N,hN⟩:=nqx (l.length);rw [←hN] at HW HL ⊢;clear h hL h1 e1 e2 hN h2;go_enter Tryz.func92,Tryz.ntmps92
  go_wp2_with fail
  refine (qbT _ l (W3 w A N cap x.nom x.hol) (HL.out _ HW.out) H1.out).mono ?_;rintro e w1 ⟨rfl,hb⟩;obtain ⟨k0,k1,k2,k3,k4,k5,k6⟩:=W3.kept hb;have HK:=hid hb;clear hb k6;go_wp2_with fail
  refine (qbZ x.nom x.hol false H2.out w1).mono ?_;rintro e w2 ⟨rfl,hb⟩;have hb2:=HK.out.trans (hb.mono HK.out.size);clear hb k0 k1 k2 k3 k4 k5 HK;obtain ⟨k0,k1,k2,k3,k4,k5,k6⟩:=W3.kept hb2;have HK:=hid hb2;clear hb2 k6;have HK6:=hid (HW.out.trans (HK.out.mono HW.out.size));go_wp2
  refine bodyPost_ret (v:=.tuple #[.agg #[.slice none 0 0],.int .i64 251]) (by simp [results,Tryz.results92,go_sem,k3,k4,k5]) rfl ?_;exact qgD rfl (Own.nil _ _) (Nat.le_refl _) (qbK HK6.out _ _ (by simp;omega))
 ·rw [e1,e2];have H1:=hid h1;have H2:=hid h2;obtain ⟨f1,f2,f3,f4,f5⟩:=qaS h1;have hu0:=(qbJ l l.length (fun y hy=>by have:=f5 y hy;omega)).2;rw [List.take_length] at hu0;obtain ⟨S,hS⟩:=nqx (sumU l);rw [←hS] at f3 hu0;have hsub:IntKind.i64.wrap (1000000000000000 - S)=1000000000000000 - S:=IntWalk.i64_in _ (by omega);clear f1 f2 f4 f5 hS;obtain ⟨N,hN⟩:=nqx (l.length);rw [←hN] at HW HL ⊢;clear h hL h1 e1 e2 hN h2;go_enter Tryz.func92,Tryz.ntmps92
  go_wp2_with fail
  refine (qbT _ l (W3 w A N cap x.nom x.hol) (HL.out _ HW.out) H1.out).mono ?_;rintro e w1 ⟨rfl,hb⟩;obtain ⟨k0,k1,k2,k3,k4,k5,k6⟩:=W3.kept hb;have HK:=hid hb;clear hb k6;go_wp2_with fail
  refine (qbZ x.nom x.hol true H2.out w1).mono ?_;rintro e w2 ⟨rfl,hb⟩;have hb2:=HK.out.trans (hb.mono HK.out.size);clear hb k0 k1 k2 k3 k4 k5 HK;obtain ⟨k0,k1,k2,k3,k4,k5,k6⟩:=W3.kept hb2;have HK:=hid hb2;clear hb2 k6;have HK6:=hid (HW.out.trans (HK.out.mono HW.out.size));go_wp2
  refine bodyPost_ret (v:=.tuple #[.agg #[.slice none 0 0],.int .i64 252]) (by simp [results,Tryz.results92,go_sem,k3,k4,k5]) rfl ?_;exact qgD rfl (Own.nil _ _) (Nat.le_refl _) (qbK HK6.out _ _ (by simp;omega))
 ·rw [e1,e2];have H1:=hid h1;have H2:=hid h2;obtain ⟨f1,f2,f3,f4,f5⟩:=qaS h1;have hu0:=(qbJ l l.length (fun y hy=>by have:=f5 y hy;omega)).2;rw [List.take_length] at hu0;obtain ⟨S,hS⟩:=nqx (sumU l);rw [←hS] at f3 hu0;have hsub:IntKind.i64.wrap (1000000000000000 - S)=1000000000000000 - S:=IntWalk.i64_in _ (by omega);clear f1 f2 f4 f5 hS;obtain ⟨N,hN⟩:=nqx (l.length);rw [←hN] at HW HL ⊢;clear h hL h1 e1 e2 hN h2;go_enter Tryz.func92,Tryz.ntmps92
  go_wp2_with fail
  refine (qbT _ l (W3 w A N cap x.nom x.hol) (HL.out _ HW.out) H1.out).mono ?_;rintro e w1 ⟨rfl,hb⟩;obtain ⟨k0,k1,k2,k3,k4,k5,k6⟩:=W3.kept hb;have HK:=hid hb;clear hb k6;go_wp2_with fail
  refine (qbZ x.nom x.hol true H2.out w1).mono ?_;rintro e w2 ⟨rfl,hb⟩;have hb2:=HK.out.trans (hb.mono HK.out.size);clear hb k0 k1 k2 k3 k4 k5 HK;obtain ⟨k0,k1,k2,k3,k4,k5,k6⟩:=W3.kept hb2;have HK:=hid hb2;clear hb2 k6;have HK6:=hid (HW.out.trans (HK.out.mono HW.out.size));go_wp2
  refine bodyPost_ret (v:=.tuple #[.agg #[.slice none 0 0],.int .i64 252]) (by simp [results,Tryz.results92,go_sem,k3,k4,k5]) rfl ?_;exact qgD rfl (Own.nil _ _) (Nat.le_refl _) (qbK HK6.out _ _ (by simp;omega))
 ·rw [e1,e2];have H1:=hid h1;have H2:=hid h2;obtain ⟨f1,f2,f3,f4,f5⟩:=qaS h1;have hu0:=(qbJ l l.length (fun y hy=>by have:=f5 y hy;omega)).2;rw [List.take_length] at hu0;obtain ⟨S,hS⟩:=nqx (sumU l);rw [←hS] at f3 hu0;have hsub:IntKind.i64.wrap (1000000000000000 - S)=1000000000000000 - S:=IntWalk.i64_in _ (by omega);clear f1 f2 f4 f5 hS;obtain ⟨N,hN⟩:=nqx (l.length);rw [←hN] at HW HL ⊢;clear h hL h1 e1 e2 hN h2;go_enter Tryz.func92,Tryz.ntmps92
  go_wp2_with fail
  refine (qbT _ l (W3 w A N cap x.nom x.hol) (HL.out _ HW.out) H1.out).mono ?_;rintro e w1 ⟨rfl,hb⟩;obtain ⟨k0,k1,k2,k3,k4,k5,k6⟩:=W3.kept hb;have HK:=hid hb;clear hb k6;go_wp2_with fail
  refine (qbZ x.nom x.hol true H2.out w1).mono ?_;rintro e w2 ⟨rfl,hb⟩;have hb2:=HK.out.trans (hb.mono HK.out.size);clear hb k0 k1 k2 k3 k4 k5 HK;obtain ⟨k0,k1,k2,k3,k4,k5,k6⟩:=W3.kept hb2;have HK:=hid hb2;clear hb2 k6;have HK6:=hid (HW.out.trans (HK.out.mono HW.out.size));go_wp2
  refine bodyPost_ret (v:=.tuple #[.agg #[.slice none 0 0],.int .i64 253]) (by simp [results,Tryz.results92,go_sem,k3,k4,k5]) rfl ?_;exact qgD rfl (Own.nil _ _) (Nat.le_refl _) (qbK HK6.out _ _ (by simp;omega))
 ·rw [e1,e2];have H1:=hid h1;have H2:=hid h2;obtain ⟨f1,f2,f3,f4,f5⟩:=qaS h1;have HU:=hid f5;have hu0:=(qbJ l l.length (fun y hy=>by have:=f5 y hy;omega)).2;rw [List.take_length] at hu0;obtain ⟨S,hS⟩:=nqx (sumU l);rw [←hS] at f3 hu0;have hsub:IntKind.i64.wrap (1000000000000000 - S)=1000000000000000 - S:=IntWalk.i64_in _ (by omega);have HF1:=hid f1;rw [←hS] at h6;have HSS:=hid hS;clear f1 f2 f4 f5 hS;obtain ⟨N,hN⟩:=nqx (l.length);rw [←hN] at HW HL ⊢;have HN:=hid hN;clear h hL h1 e1 e2 hN h2;go_enter Tryz.func92,Tryz.ntmps92
  go_wp2_with fail
  refine (qbT _ l (W3 w A N cap x.nom x.hol) (HL.out _ HW.out) H1.out).mono ?_;rintro e w1 ⟨rfl,hb⟩;obtain ⟨k0,k1,k2,k3,k4,k5,k6⟩:=W3.kept hb;have HK:=hid hb;clear hb k6;go_wp2_with fail
  refine (qbZ x.nom x.hol true H2.out w1).mono ?_;rintro e w2 ⟨rfl,hb⟩;have hb2:=HK.out.trans (hb.mono HK.out.size);clear hb k0 k1 k2 k3 k4 k5 HK;obtain ⟨k0,k1,k2,k3,k4,k5,k6⟩:=W3.kept hb2;have HK:=hid hb2;clear hb2 k6;go_wp2_with fail
  refine (qgC _ l w2 (HL.out _ (HW.out.trans (HK.out.mono HW.out.size))) (fun y hy=>by have:=HU.out y hy;omega) (by have:=HN.out;have:=HF1.out;omega)).mono ?_;rintro e w3 ⟨rfl,hb⟩;rw [←HSS.out];have hb3:=HK.out.trans (hb.mono HK.out.size);clear hb k0 k1 k2 k3 k4 k5 HK;obtain ⟨k0,k1,k2,k3,k4,k5,k6⟩:=W3.kept hb3;have HK:=hid hb3;clear hb3 k6;have HK6:=hid (HW.out.trans (HK.out.mono HW.out.size));go_wp2
  refine bodyPost_ret (v:=.tuple #[.agg #[.slice none 0 0],.int .i64 253]) (by simp [results,Tryz.results92,go_sem,k3,k4,k5]) rfl ?_;exact qgD rfl (Own.nil _ _) (Nat.le_refl _) (qbK HK6.out _ _ (by simp;omega))
 ·rw [e1,e2];have H1:=hid h1;have H2:=hid h2;obtain ⟨f1,f2,f3,f4,f5⟩:=qaS h1;have HU:=hid f5;have HSR:=hid f4;have hu0:=(qbJ l l.length (fun y hy=>by have:=f5 y hy;omega)).2;rw [List.take_length] at hu0;obtain ⟨S,hS⟩:=nqx (sumU l);rw [←hS] at f3 hu0;have hsub:IntKind.i64.wrap (1000000000000000 - S)=1000000000000000 - S:=IntWalk.i64_in _ (by omega);have HF1:=hid f1;rw [←hS] at h6;have HSS:=hid hS;have HBD:=hid (jdN h1 h5 (by rw [←hS];exact h6));obtain ⟨m,hm⟩:∃ m,m=(putL l x).length:=⟨_,rfl⟩;rw [←hm] at h7;have HM:=hid hm;clear hm;clear f1 f2 f4 f5 hS;obtain ⟨N,hN⟩:=nqx (l.length);rw [←hN] at HW HL ⊢;have HN:=hid hN;clear h hL h1 e1 e2 hN h2;go_enter Tryz.func92,Tryz.ntmps92
  go_wp2_with fail
  refine (qbT _ l (W3 w A N cap x.nom x.hol) (HL.out _ HW.out) H1.out).mono ?_;rintro e w1 ⟨rfl,hb⟩;obtain ⟨k0,k1,k2,k3,k4,k5,k6⟩:=W3.kept hb;have HK:=hid hb;clear hb k6;go_wp2_with fail
  refine (qbZ x.nom x.hol true H2.out w1).mono ?_;rintro e w2 ⟨rfl,hb⟩;have hb2:=HK.out.trans (hb.mono HK.out.size);clear hb k0 k1 k2 k3 k4 k5 HK;obtain ⟨k0,k1,k2,k3,k4,k5,k6⟩:=W3.kept hb2;have HK:=hid hb2;clear hb2 k6;go_wp2_with fail
  refine (qgC _ l w2 (HL.out _ (HW.out.trans (HK.out.mono HW.out.size))) (fun y hy=>by have:=HU.out y hy;omega) (by have:=HN.out;have:=HF1.out;omega)).mono ?_;rintro e w3 ⟨rfl,hb⟩;rw [←HSS.out];have hb3:=HK.out.trans (hb.mono HK.out.size);clear hb k0 k1 k2 k3 k4 k5 HK;obtain ⟨k0,k1,k2,k3,k4,k5,k6⟩:=W3.kept hb3;have HK:=hid hb3;clear hb3 k6;go_wp2_with fail
  have HWW:=hid (HW.out.trans (HK.out.mono HW.out.size));have hz3:w.heap.size+1+1<w3.heap.size:=k5;refine (qmU (.slice A N cap) (.slice (some ⟨w3.heap.size,0,none⟩) 1 1) l [x] _ (Rd.alloc (HL.out _ HWW.out) _) (qrT w3 [x] 56 1 rfl (by simp)) HSR.out (by have:=HN.out;have:=HF1.out;omega) (by simp) (fun y hy=>by have:=HU.out y hy;omega) HBD.out.1 HBD.out.2.1).mono ?_;rintro e w4 ⟨va,rfl,hoa,hb⟩;rw [qsB] at hoa;have HO:=hid (hoa.base (show w3.heap.size≤_ by simp));have hb4:=HK.out.trans (((Below.refl w3.heap.size w3).alloc (Nat.le_refl _) _).trans (hb.mono (by simp)) |>.mono HK.out.size);clear hoa hb k0 k1 k2 k3 k4 k5 HK;obtain ⟨k0,k1,k2,k3,k4,k5,k6⟩:=W3.kept hb4;have HK:=hid hb4;obtain ⟨A5,c5,rfl⟩:=Rd.form HO.out.lots;rw [←HM.out];clear hb4 k6;have HK6:=hid (HW.out.trans (HK.out.mono HW.out.size));go_wp2
  refine bodyPost_ret (v:=.tuple #[.agg #[.slice none 0 0],.int .i64 254]) (by simp [results,Tryz.results92,go_sem,k3,k4,k5]) rfl ?_;exact qgD rfl (Own.nil _ _) (Nat.le_refl _) (qbK HK6.out _ _ (by simp;omega))
 ·rw [e1,e2];have H1:=hid h1;have H2:=hid h2;obtain ⟨f1,f2,f3,f4,f5⟩:=qaS h1;have HU:=hid f5;have HSR:=hid f4;have hu0:=(qbJ l l.length (fun y hy=>by have:=f5 y hy;omega)).2;rw [List.take_length] at hu0;obtain ⟨S,hS⟩:=nqx (sumU l);rw [←hS] at f3 hu0;have hsub:IntKind.i64.wrap (1000000000000000 - S)=1000000000000000 - S:=IntWalk.i64_in _ (by omega);have HF1:=hid f1;rw [←hS] at h6;have HSS:=hid hS;have HBD:=hid (jdN h1 h5 (by rw [←hS];exact h6));obtain ⟨m,hm⟩:∃ m,m=(putL l x).length:=⟨_,rfl⟩;rw [←hm] at h7;have HM:=hid hm;clear hm;clear f1 f2 f4 f5 hS;obtain ⟨N,hN⟩:=nqx (l.length);rw [←hN] at HW HL ⊢;have HN:=hid hN;clear h hL h1 e1 e2 hN h2;go_enter Tryz.func92,Tryz.ntmps92
  go_wp2_with fail
  refine (qbT _ l (W3 w A N cap x.nom x.hol) (HL.out _ HW.out) H1.out).mono ?_;rintro e w1 ⟨rfl,hb⟩;obtain ⟨k0,k1,k2,k3,k4,k5,k6⟩:=W3.kept hb;have HK:=hid hb;clear hb k6;go_wp2_with fail
  refine (qbZ x.nom x.hol true H2.out w1).mono ?_;rintro e w2 ⟨rfl,hb⟩;have hb2:=HK.out.trans (hb.mono HK.out.size);clear hb k0 k1 k2 k3 k4 k5 HK;obtain ⟨k0,k1,k2,k3,k4,k5,k6⟩:=W3.kept hb2;have HK:=hid hb2;clear hb2 k6;go_wp2_with fail
  refine (qgC _ l w2 (HL.out _ (HW.out.trans (HK.out.mono HW.out.size))) (fun y hy=>by have:=HU.out y hy;omega) (by have:=HN.out;have:=HF1.out;omega)).mono ?_;rintro e w3 ⟨rfl,hb⟩;rw [←HSS.out];have hb3:=HK.out.trans (hb.mono HK.out.size);clear hb k0 k1 k2 k3 k4 k5 HK;obtain ⟨k0,k1,k2,k3,k4,k5,k6⟩:=W3.kept hb3;have HK:=hid hb3;clear hb3 k6;go_wp2_with fail
  have HWW:=hid (HW.out.trans (HK.out.mono HW.out.size));have hz3:w.heap.size+1+1<w3.heap.size:=k5;refine (qmU (.slice A N cap) (.slice (some ⟨w3.heap.size,0,none⟩) 1 1) l [x] _ (Rd.alloc (HL.out _ HWW.out) _) (qrT w3 [x] 56 1 rfl (by simp)) HSR.out (by have:=HN.out;have:=HF1.out;omega) (by simp) (fun y hy=>by have:=HU.out y hy;omega) HBD.out.1 HBD.out.2.1).mono ?_;rintro e w4 ⟨va,rfl,hoa,hb⟩;rw [qsB] at hoa;have HO:=hid (hoa.base (show w3.heap.size≤_ by simp));have hb4:=HK.out.trans (((Below.refl w3.heap.size w3).alloc (Nat.le_refl _) _).trans (hb.mono (by simp)) |>.mono HK.out.size);clear hoa hb k0 k1 k2 k3 k4 k5 HK;obtain ⟨k0,k1,k2,k3,k4,k5,k6⟩:=W3.kept hb4;have HK:=hid hb4;obtain ⟨A5,c5,rfl⟩:=Rd.form HO.out.lots;rw [←HM.out];clear hb4 k6;have HK6:=hid (HW.out.trans (HK.out.mono HW.out.size));go_wp2
  refine bodyPost_ret (v:=.tuple #[.agg #[.slice A5 m c5],.int .i64 0]) (by simp [results,Tryz.results92,go_sem,k3,k4,k5]) rfl ?_;have HO2:=HO.out;rw [←HM.out] at HO2;have q1:=HO2.setCell ⟨w.heap.size+1+1,0,none⟩ (.slice A5 m c5) (HO2.ne (.inr (by simp;omega)));exact ⟨_,rfl,q1.base (by omega),qbK HK6.out _ _ (by simp;omega)⟩
end Go.Proofs.YtemoddmadfoaiaaGreat
namespace Go.Proofs.YtemoddmadfoaiaaGreat
open Go.RowKit Reg
namespace Reg
def toA (nm hl:ByteArray) (y:Lot):Lot:=⟨nm,hl,y.ser,y.units⟩
def movL (l:List Lot) (f1 f2 t1 t2:ByteArray) (n:Int):List Lot:=giveL (takeR f1 f2 l n).1 ((takeR f1 f2 l n).2.map (toA t1 t2))
def trnE (l:List Lot) (f1 f2 t1 t2:ByteArray) (n:Int):Int :=
 if checkB l=false then 250 else if acctB f1 f2=false then 251 else if acctB t1 t2=false then 251 else if n<0∨1000000000000000<n then 253 else if 256<(movL l f1 f2 t1 t2 n).length then 254 else 0
def trnL (l:List Lot) (f1 f2 t1 t2:ByteArray) (n:Int):List Lot:=if trnE l f1 f2 t1 t2 n=0 then movL l f1 f2 t1 t2 n else []
def trnN (l:List Lot) (f1 f2 t1 t2:ByteArray) (n:Int):Int:=if trnE l f1 f2 t1 t2 n=0 then sumU (takeR f1 f2 l n).2 else 0
def TrnIs (l:List Lot) (f1 f2 t1 t2:ByteArray) (n:Int) (er:Int) (la:List Lot) (m:Int):Prop:=trnE l f1 f2 t1 t2 n=er∧trnL l f1 f2 t1 t2 n=la∧trnN l f1 f2 t1 t2 n=m
theorem TrnIs.bad {l:List Lot} {f1 f2 t1 t2:ByteArray} {n er:Int} (h:trnE l f1 f2 t1 t2 n=er) (h0:er≠0):TrnIs l f1 f2 t1 t2 n er [] 0:=⟨h,by unfold trnL;rw [h,if_neg h0],by unfold trnN;rw [h,if_neg h0]⟩
theorem qpX (m:List Lot) (h:∀ x∈m,0≤x.units):0≤sumU m:=by
 have:=(qbJ m m.length h).2
 rwa [List.take_length] at this
end Reg
def W4 (w:World) (A:Option Addr) (n cap:Nat) (f1 f2 t1 t2:ByteArray):World:=(((w.alloc (.cells #[.slice A n cap] 40)).alloc (.cells #[.string f1,.string f2] 54)).alloc (.cells #[.string t1,.string t2] 54)).alloc (.cells #[.slice none 0 0] 40)
theorem W4.size_ {w:World} {A:Option Addr} {n cap:Nat} {f1 f2 t1 t2:ByteArray}:(W4 w A n cap f1 f2 t1 t2).heap.size=w.heap.size+1+1+1+1:=by simp [W4]
theorem W4.below (w:World) (A:Option Addr) (n cap:Nat) (f1 f2 t1 t2:ByteArray):Below w.heap.size w (W4 w A n cap f1 f2 t1 t2):=((((Below.refl w.heap.size w).alloc (Nat.le_refl _) _).alloc (by simp) _).alloc (by simp only [World.size_alloc];omega) _).alloc (by simp only [World.size_alloc];omega) _
theorem W4.kept {w w1:World} {A:Option Addr} {n cap:Nat} {f1 f2 t1 t2:ByteArray} (hb:Below (W4 w A n cap f1 f2 t1 t2).heap.size (W4 w A n cap f1 f2 t1 t2) w1) :
  w1.cell? ⟨w.heap.size,0,none⟩=some (.slice A n cap)∧w1.cell? ⟨w.heap.size+1,0,none⟩=some (.string f1)∧w1.cell? ⟨w.heap.size+1,1,none⟩=some (.string f2)∧w1.cell? ⟨w.heap.size+1+1,0,none⟩=some (.string t1)∧w1.cell? ⟨w.heap.size+1+1,1,none⟩=some (.string t2) ∧
  w1.cell? ⟨w.heap.size+1+1+1,0,none⟩=some (.slice none 0 0)∧w1.frozen? ⟨w.heap.size+1+1+1,0,none⟩=false∧w.heap.size+1+1+1<w1.heap.size∧Below w.heap.size w w1:=by
 have hs:=hb.size;rw [W4.size_] at hs;refine ⟨qcU (by unfold W4;go_cell) hb,qcU (by unfold W4;go_cell) hb,qcU (by unfold W4;go_cell) hb,qcU (by unfold W4;go_cell) hb,qcU (by unfold W4;go_cell) hb,qcU (by unfold W4;go_cell) hb,?_,by omega,(W4.below w A n cap f1 f2 t1 t2).trans (hb.mono (W4.below w A n cap f1 f2 t1 t2).size)⟩;rw [hb.frozen (p:=⟨w.heap.size+1+1+1,0,none⟩) (by rw [W4.size_];simp)];unfold W4;exact World.frozen?_alloc_at _ _ _ _ (by simp)
theorem qrM {w:World} {B g cap n j:Nat} {e:TypeId} {size:Nat} {xs:List Value} {u:Value} (h:w.ownsRow B e size (.slice (some ⟨g,0,none⟩) n cap) n xs):(w.setCell ⟨g,j,none⟩ u).ownsRow B e size (.slice (some ⟨g,0,none⟩) n cap) n (xs.set j u):=by
 obtain ⟨h1,h2⟩:=h;refine ⟨by simpa using h1,?_⟩;rcases h2 with ⟨h,_⟩|⟨g',cap',cur,hv,hbg,hg,hnc,hcm,hcs,htk⟩
 ·cases h
 ·injection hv with e1 e2 e3
  injection e1 with e1
  injection e1 with e1
  subst e1 e3;refine .inr ⟨g,cap,cur.setIfInBounds j u,rfl,hbg,?_,hnc,hcm,by simpa using hcs,?_⟩
  ·simp [World.setCell,Array.getElem?_modify,hg]
  ·rw [Array.toList_setIfInBounds,List.take_set,htk]
namespace Reg
theorem jcK (l:List Lot) (i:Nat) (y:Lot) (nm hl:ByteArray) (h:l[i]?=some y):((cellsL l).set (i*4) (.string nm)).set (i*4+1) (.string hl)=cellsL (l.set i (toA nm hl y)):=by
 induction l generalizing i with
 | nil=>simp at h
 | cons a l ih =>
  cases i with
  | zero=>simp at h;subst h;simp [cellsL,Lot.cells,toA]
  | succ i =>
   have:=ih i (by simpa using h)
   simp only [cellsL,List.flatMap_cons,Lot.cells,List.cons_append,List.nil_append,List.set_cons_succ] at this ⊢;rw [show (i+1)*4+1=(i*4+1+3)+1 by omega,show (i+1)*4=(i*4+3)+1 by omega];simp only [List.set_cons_succ];rw [this]
def mixA (nm hl:ByteArray) (td:List Lot) (k:Nat):List Lot:=(td.take k).map (toA nm hl)++td.drop k
theorem mix_zero (nm hl:ByteArray) (td:List Lot):mixA nm hl td 0=td:=by simp [mixA]
end Reg
theorem Own.toA {w:World} {B g cap i n:Nat} {l:List Lot} {y:Lot} {nm hl:ByteArray} (h:Own w B (.slice (some ⟨g,0,none⟩) n cap) l) (hn:n=l.length) (hy:l[i]?=some y):Own ((w.setCell ⟨g,i*4,none⟩ (.string nm)).setCell ⟨g,i*4+1,none⟩ (.string hl)) B (.slice (some ⟨g,0,none⟩) n cap) (l.set i (Reg.toA nm hl y)):=by
 unfold Own at h ⊢;rw [List.length_set,←hn];rw [←hn] at h
 have:=qrM (j:=i*4+1) (u:=.string hl) (qrM (j:=i*4) (u:=.string nm) h)
 rwa [jcK l i y nm hl hy] at this
end Go.Proofs.YtemoddmadfoaiaaGreat
namespace Go.Proofs.YtemoddmadfoaiaaGreat
open Go.RowKit Reg Go.Maps
theorem IssP.form {la:List Lot} {er:Int} {w:World} {e:Ending} {w':World} (h:IssP la er w e w'):∃ A c,e=.returned (.tuple #[.agg #[.slice A la.length c],.int .i64 er])∧Own w' w.heap.size (.slice A la.length c) la∧Below w.heap.size w w':=by
 obtain ⟨va,rfl,ha,hB⟩:=h;obtain ⟨A,c,rfl⟩:=Rd.form ha.lots;exact ⟨A,c,rfl,ha,hB⟩
end Go.Proofs.YtemoddmadfoaiaaGreat
set_option maxHeartbeats 4000000
namespace Go.Proofs.YtemoddmadfoaiaaGreat
open Go.RowKit Reg
open Lib (hid)
def balN (l:List Lot) (nm hl:ByteArray):Int:=if checkB l=true∧acctB nm hl=true then sumU (ownL nm hl l) else 0
def balE (l:List Lot) (nm hl:ByteArray):Int:=if checkB l=false then 250 else if acctB nm hl=false then 251 else 0
theorem qqW (A:Option Addr) (cap:Nat) (l:List Lot) (nm hl:ByteArray) (w:World) (h:LotsAt w (.slice A l.length cap) l) :
  CB 87 #[.agg #[.slice A l.length cap],.agg #[.string nm,.string hl]] (.tuple #[.int .i64 (balN l nm hl),.int .i64 (balE l nm hl)]) w:=by
 obtain ⟨w0,hw0,hb0,hs0,c0,c1,c2⟩:=qzE w A l.length cap nm hl;have HL:=hid (fun W hb=>LotsAt.below (w':=W) h hb);have HB0:=hid hb0;unfold balN balE
 cases hc:checkB l with
 | false =>
  have H1:=hid hc;rw [if_neg (by simp),if_pos rfl];obtain ⟨n,hn⟩:=nqx (l.length);rw [←hn] at hw0 HL c0 ⊢;clear h hc hb0 hn;go_enter Tryz.func87,Tryz.ntmps87
  go_wp2_with fail
  rw [←hw0];refine (qiM _ l w0 (HL.out _ HB0.out) H1.out).mono ?_;rintro e w1 ⟨rfl,hb⟩;have HB1:=hid (HB0.out.trans (hb.mono HB0.out.size));clear hb hw0 hs0 c0 c1 c2;go_wp2
  go_ret2
  exact ⟨rfl,HB1.out⟩
 | true =>
  have H1:=hid hc;obtain ⟨f1,f2,f3,f4,f5⟩:=qaS hc;obtain ⟨u1,u2⟩:=qgR (nm:=nm) (hl:=hl) f5;have HUO:=hid u1;have hol:=(qjF nm hl l).2;rw [if_neg (show ¬true=false by simp)];obtain ⟨n,hn⟩:=nqx (l.length);rw [←hn] at hw0 HL c0 f1 hol ⊢;have HN:=hid hn;have hol1:(ownL nm hl l).length≤256:=by omega
  cases ha:acctB nm hl with
  | false =>
   have H2:=hid ha;rw [if_neg (by simp),if_pos rfl];clear h hc hb0 hn f2 f3 f4 f5 u1 u2 ha hol;go_enter Tryz.func87,Tryz.ntmps87
   go_wp2_with fail
   rw [←hw0];refine (qbT _ l w0 (HL.out _ HB0.out) H1.out).mono ?_;rintro e w1 ⟨rfl,hb⟩;have HB1:=hid (HB0.out.trans (hb.mono HB0.out.size));have k0:=qcU c0 hb;have k1:=qcU c1 hb;have k2:=qcU c2 hb;clear hb hw0 hs0 c0 c1 c2;go_wp2_with fail
   refine (qbZ nm hl false H2.out w1).mono ?_;rintro e w2 ⟨rfl,hb⟩;have HB2:=hid (HB1.out.trans (hb.mono HB1.out.size));clear hb;go_wp2
   go_ret2
   exact ⟨rfl,HB2.out⟩
  | true =>
   have H2:=hid ha;rw [if_pos ⟨rfl,rfl⟩,if_neg (by simp)];clear h hc hb0 hn f2 f3 f4 f5 u1 u2 ha hol;go_enter Tryz.func87,Tryz.ntmps87
   go_wp2_with fail
   rw [←hw0];refine (qbT _ l w0 (HL.out _ HB0.out) H1.out).mono ?_;rintro e w1 ⟨rfl,hb⟩;have HB1:=hid (HB0.out.trans (hb.mono HB0.out.size));have k0:=qcU c0 hb;have k1:=qcU c1 hb;have k2:=qcU c2 hb;clear hb hw0 hs0 c0 c1 c2;go_wp2_with fail
   refine (qbZ nm hl true H2.out w1).mono ?_;rintro e w2 ⟨rfl,hb⟩;have HB2:=hid (HB1.out.trans (hb.mono HB1.out.size));have m0:=qcU k0 hb;have m1:=qcU k1 hb;have m2:=qcU k2 hb;clear hb k0 k1 k2;go_wp2_with fail
   refine (jdI (.slice A n cap) l nm hl w2 (HL.out _ HB2.out) (by have:=HN.out;omega)).mono ?_;rintro e w3 ⟨va,vb,rfl,hoa,hob,hap,hb⟩;have HO:=hid hoa;have HB3:=hid (HB2.out.trans (hb.mono HB2.out.size));clear hoa hob hap hb m0 m1 m2;go_wp2_with fail
   refine (qgC va _ w3 HO.out.lots (fun x hx=>by have:=HUO.out x hx;omega) (by omega)).mono ?_;rintro e w4 ⟨rfl,hb⟩;have HB4:=hid (HB3.out.trans (hb.mono HB3.out.size));clear hb;go_wp2
   go_ret2
   exact ⟨rfl,HB4.out⟩
end Go.Proofs.YtemoddmadfoaiaaGreat
namespace Go.Proofs.YtemoddmadfoaiaaGreat
namespace Reg
def KP (p:Lot→Bool):Prop:=∀ a b,sameKey a b→p a=p b
def amp (p:Lot→Bool) (l:List Lot):Int:=sumU (l.filter p)
theorem jgE (p:Lot→Bool):amp p []=0:=rfl
theorem qfR (p:Lot→Bool) (x:Lot) (l:List Lot):amp p (x::l)=(if p x=true then x.units else 0)+amp p l:=by
 unfold amp;rw [List.filter_cons];split
 ·rfl
 ·omega
theorem jcZ {p:Lot→Bool} (hp:KP p) (nm hl:ByteArray) (l:List Lot) (n:Int) (hn:0≤n) (hu:∀ x∈l,1≤x.units):amp p (takeR nm hl l n).1+amp p (takeR nm hl l n).2=amp p l:=by
 induction l generalizing n with
 | nil=>simp [takeR,jgE]
 | cons x l ih =>
  have hx:=hu x (by simp);have hu':∀ y∈l,1≤y.units:=fun y hy=>hu y (by simp [hy])
  rw [takeR];by_cases ho:ownB nm hl x=true∧0<n
  ·rw [if_pos ho];obtain ⟨e1,e2⟩:=qrN ho.1;have hi:=ih (n - min n x.units) (by omega) hu';have hk:p ⟨nm,hl,x.ser,min n x.units⟩=p x:=hp _ _ ⟨e1.symm,e2.symm,rfl⟩;have hm:p (x.more (-min n x.units))=p x:=hp _ _ (qdY _ _);simp only
   rw [qfR,qfR,hk];by_cases h:p x=true
   ·split
    ·rw [qfR,hm];simp only [h,if_true,Lot.more];omega
    ·simp only [h,if_true];omega
   ·split
    ·rw [qfR,hm];simp [h];omega
    ·simp [h];omega
  ·rw [if_neg ho];simp only
   rw [if_pos (show 0<x.units by omega),qfR,qfR]
   have:=ih n hn hu'
   omega
theorem qqX {p:Lot→Bool} {l:List Lot} (h:∀ x∈l,p x=true):amp p l=sumU l:=by
 unfold amp;rw [List.filter_eq_self.2 h]
def okLot (x:Lot):Prop:=acctB x.nom x.hol=true∧0≤x.ser∧x.ser≤73048∧1≤x.units
theorem qsI {l:List Lot} (h:checkB l=true):∀ x∈l,okLot x:=by
 obtain ⟨f1,f2,f3,f4,f5⟩:=qaS h;intro x hx;obtain ⟨g1,g2,g3,g4,g5⟩:=qiJ (qgT f2 x hx);exact ⟨g5,g3,g4,g1⟩
theorem qsJ {l:List Lot} (hn:l.length≤256) (hs:Srt l) (ho:∀ x∈l,okLot x) (hsum:sumU l≤1000000000000000):checkB l=true:=by
 have hr:∀ x∈l,rightB x=true:=fun x hx=>by
  obtain ⟨h1,h2,h3,h4⟩:=ho x hx;exact qoB h1 h2 h3 h4 (by have:=qkZ l (fun y hy=>by have:=(ho y hy).2.2.2;omega) x hx;omega)
 have hok:okL l=true:=okL_yes (n:=l.length) (Nat.le_refl _) (fun k hk=>by
  have hx:l[k]?=some l[k]:=by simp [hk]
  cases k with
  | zero=>rw [qjI hx];exact hr _ (List.getElem_mem hk)
  | succ j =>
   have hy:l[j]?=some l[j]:=by simp [show j<l.length by omega]
   rw [qgU hx hy,hr _ (List.getElem_mem hk)]
   have:=List.pairwise_iff_getElem.1 hs j (j+1) (by omega) hk (by omega)
   simpa using this)
 unfold checkB;rw [hok,decide_eq_true hn,decide_eq_true hsum];rfl
theorem jeJ {q:Lot→Prop} (hq:∀ y x,q y→q x→sameKey y x→q (y.more x.units)) {l:List Lot} {x:Lot} (h:∀ z∈l,q z) (hx:q x):∀ z∈putL l x,q z:=by
 intro z hz;rcases qmD l x z hz with h1|h1|⟨y,hy,hk,rfl⟩
 ·exact h z h1
 ·rw [h1];exact hx
 ·exact hq y x (h y hy) hx hk
theorem jeS (y x:Lot) (hy:okLot y) (hx:okLot x) (_:sameKey y x):okLot (y.more x.units):=⟨hy.1,hy.2.1,hy.2.2.1,by have:=hy.2.2.2;have:=hx.2.2.2;simp only [Lot.more];omega⟩
theorem jaB (nm hl:ByteArray) (l:List Lot) (n:Int) (hn:0≤n) (hu:∀ x∈l,1≤x.units) :
  (∀ z∈(takeR nm hl l n).1,1≤z.units∧∃ y∈l,sameKey z y)∧(∀ z∈(takeR nm hl l n).2,1≤z.units∧z.nom=nm∧z.hol=hl∧∃ y∈l,sameKey z y):=by
 induction l generalizing n with
 | nil=>simp [takeR]
 | cons x l ih =>
  have hx:=hu x (by simp);have hu':∀ y∈l,1≤y.units:=fun y hy=>hu y (by simp [hy])
  rw [takeR];by_cases ho:ownB nm hl x=true∧0<n
  ·rw [if_pos ho];obtain ⟨e1,e2⟩:=qrN ho.1;obtain ⟨i1,i2⟩:=ih (n - min n x.units) (by omega) hu';simp only
   refine ⟨fun z hz=>?_,fun z hz=>?_⟩
   ·split at hz
    ·rcases List.mem_cons.1 hz with rfl|hz
     ·exact ⟨by simp only [Lot.more];omega,x,by simp,qdY _ _⟩
     ·obtain ⟨a,y,hy,hk⟩:=i1 z hz;exact ⟨a,y,by simp [hy],hk⟩
    ·obtain ⟨a,y,hy,hk⟩:=i1 z hz;exact ⟨a,y,by simp [hy],hk⟩
   ·rcases List.mem_cons.1 hz with rfl|hz
    ·exact ⟨by simp only;omega,rfl,rfl,x,by simp,e1.symm,e2.symm,rfl⟩
    ·obtain ⟨a,b,c,y,hy,hk⟩:=i2 z hz;exact ⟨a,b,c,y,by simp [hy],hk⟩
  ·rw [if_neg ho];obtain ⟨i1,i2⟩:=ih n hn hu';simp only
   rw [if_pos (show 0<x.units by omega)];refine ⟨fun z hz=>?_,fun z hz=>?_⟩
   ·rcases List.mem_cons.1 hz with rfl|hz
    ·exact ⟨hx,z,by simp,rfl,rfl,rfl⟩
    ·obtain ⟨a,y,hy,hk⟩:=i1 z hz;exact ⟨a,y,by simp [hy],hk⟩
   ·obtain ⟨a,b,c,y,hy,hk⟩:=i2 z hz;exact ⟨a,b,c,y,by simp [hy],hk⟩
theorem jgW {z y:Lot} (h:sameKey z y) (hy:okLot y) (hz:1≤z.units):okLot z:=⟨by rw [h.1,h.2.1];exact hy.1,by rw [h.2.2];exact hy.2.1,by rw [h.2.2];exact hy.2.2.1,hz⟩
theorem quV (l:List Lot) (n:Int) (hn:0≤n) (h:∀ x∈l,1≤x.units):sumU (takeP l n).2=min n (sumU l):=by
 induction l generalizing n with
 | nil=>simp [takeP,sumU];omega
 | cons x l ih =>
  have hx:=h x (by simp);have h':∀ y∈l,1≤y.units:=fun y hy=>h y (by simp [hy])
  have h0:=qpX l (fun y hy=>by have:=h' y hy;omega)
  have:=ih (n - min n x.units) (by omega) h'
  simp only [takeP,sumU];split
  ·simp only [sumU];omega
  ·omega
theorem qzZ (nm hl:ByteArray) (l:List Lot) (n:Int) (hn:0≤n) (h:∀ x∈l,1≤x.units):sumU (takeR nm hl l n).2=min n (sumU (ownL nm hl l)):=by
 rw [(qiW nm hl l n hn h).1];exact quV _ n hn (fun x hx=>h x (List.mem_filter.1 hx).1)
end Reg
end Go.Proofs.YtemoddmadfoaiaaGreat
