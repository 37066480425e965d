import Derived.Test.YtemoddmadfoaiaaGreatEvB
import Derived.Test.YtemoddmadfoaiaaGreatGaC
set_option linter.unusedVariables false
set_option linter.unusedSimpArgs false
set_option maxRecDepth 100000
set_option maxHeartbeats 8000000
namespace Go.Proofs.YtemoddmadfoaiaaGreat
open Go.RowKit Reg Al Ga
open Lib (hid)
theorem Tryz.layO:LaysAs Tryz.prog 58 #[.string ⟨#[]⟩,.string ⟨#[]⟩,.string ⟨#[]⟩,.string ⟨#[]⟩,.string ⟨#[]⟩,.int .i64 0,.int .i64 0,.int .i64 0,.int .i64 0,.int .i64 0,.bool false]:=by intro o ho b w;unfold execOp;simp only [ho];rfl
theorem Tryz.infoT13:(Tryz.prog.info? 60).map (fun i=>(i.zero,i.size,i.bytes))=some (some (.agg #[.string ⟨#[]⟩,.string ⟨#[]⟩,.string ⟨#[]⟩,.string ⟨#[]⟩,.string ⟨#[]⟩,.int .i64 0,.int .i64 0,.int .i64 0,.int .i64 0,.int .i64 0,.bool false,.int .i64 0,.int .i64 0]),13,144):=by kernel_rfl
namespace Ga
def MadeOd (i:Nat) (o:Od):Prop:=o.key=keyO i∧(o.nom,o.hol)∈accs∧o.fund=sAlpha∧o.cls=sA∧MadeA o∧(0≤o.at_∧o.at_<100000)∧o.known=(i:Int)+1∧o.void=false
theorem jfG {i:Nat} {o:Od} {d f:Int} (h:MadeOd i o) (hd:0≤d∧d<60) (hf:0≤f∧f≤d):MadeT i ⟨o,d,f⟩:=⟨h.1,h.2.1,h.2.2.1,h.2.2.2.1,h.2.2.2.2.1,h.2.2.2.2.2.1,h.2.2.2.2.2.2.1,h.2.2.2.2.2.2.2,hd,hf⟩
def aggAt (v:Value) (i:Nat):Value:=match v with|.agg cs=>cs.getD i undef|_=>undef
theorem qiQ (a b:Value):aggAt (.agg #[a,b]) 0=a:=rfl
theorem qiP (a b:Value):aggAt (.agg #[a,b]) 1=b:=rfl
end Ga
theorem qyI (bt most:Nat) (w:World) (ht:IsTp w bt) (hmost:most≤26) :
  Calls Tryz.prog 17 #[.pointer (some ⟨bt,0,none⟩),.int .i64 (most:Int)] w fun e w'=>∃ (v:Value) (l:List Tk),e=.returned v∧MadeTs most l∧w'.ownsRow w.heap.size 60 13 v l.length (cellsT l)∧Drew w bt w':=by
 have hbt:=ht.lt;have HT:=hid ht;clear ht;go_enter Tryz.func17,Tryz.ntmps17
 go_wp2_with fail
 refine (qbA bt ((most:Int)+1) _ HT.out (by omega) (by omega)).mono ?_;rintro e w1 ⟨n,rfl,hn0,hn1,hd1⟩;obtain ⟨n,rfl⟩:∃ k:Nat,n=k:=⟨n.toNat,by omega⟩;have HD1:=hid hd1;clear hd1;go_wp2
 go_loopg [5,7,8,9] n (fun m va iv _ _ wr=>∃ (k:Nat) (l:List Tk),iv=.int .i64 k∧k≤n∧n≤m+k∧l.length=k∧(∀ j x,l[j]?=some x→MadeT j x)∧wr.ownsRow w.heap.size 60 13 va k (cellsT l)∧Drew w bt wr)
 case atStart=>exact ⟨0,[],rfl,by omega,by omega,rfl,fun j x h=>by simp at h,World.ownsRow_nil _ _ _ _,HD1.out⟩
 case round =>
  obtain ⟨k,l,rfl,hk,hmm,hl,hmade,hown,hd⟩:=hrel;have HO:=hid hown;have HD:=hid hd;have HM:=hid hmade;have HL:=hid hl;have hsz:=hd.size;by_cases hlt:k<n
  ·have HTW:=hid hd.1;have hbW:=hd.1.lt;clear hown hd hmade hl;have w26:(k:Int).tmod 26=(k:Int):=Int.tmod_eq_of_lt (by omega) (by omega);have w97:IntKind.i64.wrap (97+(k:Int))=97+(k:Int):=IntWalk.i64_in _ (by omega);have w8:IntKind.u8.wrap (97+(k:Int))=97+(k:Int):=by rw [IntKind.wrap_u8];omega
   have wk1:IntKind.i64.wrap ((k:Int)+1)=(k:Int)+1:=IntWalk.i64_in _ (by omega);obtain ⟨sk,hsk⟩:=nqx (strOfNums [97+(k:Int)]);have hss:sk.size=1:=by rw [hsk,strOfNums_size];rfl
   have hcat:(⟨#[111]⟩:ByteArray)++sk=keyO k:=by rw [hsk];exact jfM k (by omega)
   have HSK:=hid hsk;clear hsk;go_upto_region 6 with fail
   refine qnL 17 [5,9,11,15,16] (fun g v w=>(g=5→EvRow wr.heap.size 1 (fun cs=>cs=[.int .u8 (97+(k:Int))]) v w)∧(g=9→EvVal (fun v=>∃ x:ByteArray × ByteArray,v=.agg #[.string x.1,.string x.2]∧x∈accs) v w)∧(g=11→EvInt (fun u=>0≤u∧u<100000) v w)∧(g=15→EvVal (fun v=>∃ o:Od,v=.agg #[.string o.key,.string o.nom,.string o.hol,.string o.fund,.string o.cls,.int .i64 o.kind,.int .i64 o.amount,.int .i64 o.units,.int .i64 o.at_,.int .i64 o.known,.bool o.void]∧MadeOd k o) v w)∧(g=16→EvNew wr.heap.size 11 v w)) (fun a b=>Drew a bt b) [⟨19,[],fun _=>.pointer (some ⟨bt,0,none⟩)⟩,⟨20,[],fun _=>.int .i64 (k:Int)⟩,⟨21,[],fun _=>.int .i64 (k:Int)⟩,⟨22,[],fun _=>.int .i64 (97+(k:Int))⟩,⟨23,[],fun _=>.int .u8 (97+(k:Int))⟩,⟨24,[5],fun l=>(l.getD 0 undef)⟩,⟨25,[],fun _=>.string sk⟩,⟨26,[],fun _=>.string (keyO k)⟩,⟨27,[],fun _=>.pointer (some ⟨bt,0,none⟩)⟩,⟨28,[9],fun l=>(l.getD 0 undef)⟩,⟨29,[],fun _=>.pointer (some ⟨bt,0,none⟩)⟩,⟨30,[11],fun l=>(l.getD 0 undef)⟩,⟨31,[],fun _=>.int .i64 (k:Int)⟩,⟨32,[],fun _=>.int .i64 ((k:Int)+1)⟩,⟨33,[9,11],fun l=>.agg #[.string (keyO k),(aggAt (l.getD 0 undef) 0),(aggAt (l.getD 0 undef) 1),.string ⟨#[97,108,112,104,97]⟩,.string ⟨#[97]⟩,.int .i64 0,.int .i64 0,.int .i64 0,(l.getD 1 undef),.int .i64 ((k:Int)+1),.bool false]⟩,⟨34,[15],fun l=>(l.getD 0 undef)⟩,⟨8,[16],fun l=>(l.getD 0 undef)⟩] _ (by simp only [List.take_succ_cons,List.take_zero,List.take_nil];rfl) (by simp only [List.drop_succ_cons,List.drop_zero,List.drop_nil];rfl) (by intro γ;simp only [finG,List.foldl_cons,List.foldl_nil,List.map_cons,List.map_nil,List.getD_cons_zero,List.getD_cons_succ,zq];rfl) (by kernel_rfl) (by kernel_rfl) (by kernel_rfl) (by kernel_rfl) (by kernel_rfl) (fun _ _ _ h k=>h.trans k) (Drew.refl HTW.out) (fun a b h k=>⟨k.1.below h,qaM h _⟩) (fun g v x y h h1 h2=>⟨fun e=>EvRow.up hbW (h.1 e) h2,fun e=>(h.2.1 e),fun e=>(h.2.2.1 e),fun e=>(h.2.2.2.1 e),fun e=>EvNew.up hbW (h.2.2.2.2 e) h2⟩) ?_ ?_ ?_ ?_
   ·intro γ W' hK';iterate 5 (refine jgH ?_ ?_;(go_big_quiet_step (fail);(try simp only [zq]);exact wqn rfl))
    refine jgG (by rfl) ?_;refine qfO (fun hf=>?_) ?_
    ·obtain ⟨g1,c1,e24,hg1,hA1,hc1⟩:=(hf 5 (by simp) (by kernel_rfl)).1 rfl;subst hc1;have hcc:=hA1.cel (k:=0) rfl;simp only [e24,ivl,qiQ,qiP];exact (qkW (by rfl) (fun W hb=>jaM rfl rfl Tryz.underlying92 Tryz.underlying5 Tryz.underlying9 (qcU hcc hb) HSK.out) (wqn (by simp only [zq])))
    iterate 2 (refine jgH ?_ ?_;(go_big_quiet_step (fail);(try simp only [zq]);exact wqn rfl))
    refine jgG (by rfl) ?_;refine jgH ?_ ?_;(go_big_quiet_step (fail);(try simp only [zq]);exact wqn rfl);refine jgG (by rfl) ?_;iterate 2 (refine jgH ?_ ?_;(go_big_quiet_step (fail);(try simp only [zq]);exact wqn rfl))
    refine qfO (fun hf=>?_) ?_
    ·obtain ⟨x,e28,hx⟩:=(hf 9 (by simp) (by kernel_rfl)).2.1 rfl;obtain ⟨a,e30,ha⟩:=(hf 11 (by simp) (by kernel_rfl)).2.2.1 rfl;simp only [e28,e30,ivl,qiQ,qiP]
     go_big_quiet_step (fail);(try simp only [zq]);exact wqn rfl
    iterate 2 (refine jgG (by rfl) ?_)
    exact qkN
   ·intro γ j hj oj hoj W' hK' hR';simp only [List.mem_cons,List.not_mem_nil,or_false] at hj;have hT':=hK'.1;have hB':=hK'.2.size;rcases hj with rfl|rfl|rfl|rfl|rfl
    ·cases hoj
     refine ⟨rfl,GY.mono (D:=fun v w=>Drew W' bt w∧EvRow wr.heap.size 1 (fun cs=>cs=[.int .u8 (97+(k:Int))]) v w) ?_ fun v w h=>⟨h.1,⟨fun _=>h.2,fun e=>absurd e (by decide),fun e=>absurd e (by decide),fun e=>absurd e (by decide),fun e=>absurd e (by decide)⟩⟩⟩;exact GY.rowOf (len:=1) (e:=5) (s:=1) [.int .u8 (97+(k:Int))] rfl (by simp [Act.eval]) rfl (by decide) (by decide) (by simp [Value.cells]) (by decide) Tryz.underlying92 (by kernel_rfl) (by kernel_rfl) hT' hB' rfl
    ·cases hoj
     refine ⟨rfl,GY.mono (D:=fun v w=>Drew W' bt w∧EvVal (fun v=>∃ x:ByteArray × ByteArray,v=.agg #[.string x.1,.string x.2]∧x∈accs) v w) ?_ fun v w h=>⟨h.1,⟨fun e=>absurd e (by decide),fun _=>h.2,fun e=>absurd e (by decide),fun e=>absurd e (by decide),fun e=>absurd e (by decide)⟩⟩⟩;refine GY.callOf (f:=26) (args:=#[.pointer (some ⟨bt,0,none⟩)]) (by simp [execOp,Act.eval,go_sem]) ((qjW bt _ hT').mono ?_);rintro e w5 ⟨x,hx,rfl,hd⟩;exact ⟨_,rfl,hd,x,rfl,hx⟩
    ·cases hoj
     refine ⟨rfl,GY.mono (D:=fun v w=>Drew W' bt w∧EvInt (fun u=>0≤u∧u<100000) v w) ?_ fun v w h=>⟨h.1,⟨fun e=>absurd e (by decide),fun e=>absurd e (by decide),fun _=>h.2,fun e=>absurd e (by decide),fun e=>absurd e (by decide)⟩⟩⟩;refine GY.callOf (f:=23) (args:=#[.pointer (some ⟨bt,0,none⟩),.int .i64 (100000)]) (by simp [execOp,Act.eval,go_sem]) ((qbA bt (100000) _ hT' (by omega) (by omega)).mono ?_);rintro e w5 ⟨u,rfl,h1,h2,hd⟩;exact ⟨_,rfl,hd,u,rfl,by omega⟩
    ·cases hoj
     obtain ⟨x,e28,hx⟩:=(hR' 9 (by simp) (by kernel_rfl)).2.1 rfl;obtain ⟨a,e30,ha⟩:=(hR' 11 (by simp) (by kernel_rfl)).2.2.1 rfl;refine ⟨rfl,GY.mono (D:=fun v w=>Drew W' bt w∧EvVal (fun v=>∃ o:Od,v=.agg #[.string o.key,.string o.nom,.string o.hol,.string o.fund,.string o.cls,.int .i64 o.kind,.int .i64 o.amount,.int .i64 o.units,.int .i64 o.at_,.int .i64 o.known,.bool o.void]∧MadeOd k o) v w) ?_ fun v w h=>⟨h.1,⟨fun e=>absurd e (by decide),fun e=>absurd e (by decide),fun e=>absurd e (by decide),fun _=>h.2,fun e=>absurd e (by decide)⟩⟩⟩;refine GY.callOf (f:=53) (args:=#[.pointer (some ⟨bt,0,none⟩),.agg #[.string (keyO k),.string x.1,.string x.2,.string ⟨#[97,108,112,104,97]⟩,.string ⟨#[97]⟩,.int .i64 0,.int .i64 0,.int .i64 0,.int .i64 a,.int .i64 ((k:Int)+1),.bool false]]) (by simp [execOp,Act.eval,go_sem,e28,e30,qiQ,qiP]) ((qzL bt ⟨keyO k,x.1,x.2,sAlpha,sA,0,0,0,a,(k:Int)+1,false⟩ _ hT').mono ?_);rintro e w5 ⟨kk,aa,uu,rfl,hM,hd⟩;exact ⟨_,rfl,hd,⟨keyO k,x.1,x.2,sAlpha,sA,kk,aa,uu,a,(k:Int)+1,false⟩,rfl,rfl,hx,rfl,rfl,hM,ha,rfl,rfl⟩
    ·cases hoj
     refine ⟨rfl,GY.mono (D:=fun v w=>Drew W' bt w∧EvNew wr.heap.size 11 v w) ?_ fun v w h=>⟨h.1,⟨fun e=>absurd e (by decide),fun e=>absurd e (by decide),fun e=>absurd e (by decide),fun e=>absurd e (by decide),fun _=>h.2⟩⟩⟩;exact GY.newOf Tryz.layO rfl rfl hT' hB'
   ·intro γ j hj oj hoj;simp only [List.mem_cons,List.not_mem_nil,or_false] at hj;rcases hj with rfl|rfl|rfl|rfl|rfl<;>cases hoj<;>rfl
   intro γ W2 hK hR;obtain ⟨g1,c1,e24,hg1,hA1,hc1⟩:=(hR 5 (by simp)).1 rfl;obtain ⟨x,e28,hx⟩:=(hR 9 (by simp)).2.1 rfl;obtain ⟨a,e30,ha⟩:=(hR 11 (by simp)).2.2.1 rfl;obtain ⟨o,e34,ho⟩:=(hR 15 (by simp)).2.2.2.1 rfl;obtain ⟨X,zs,e8,hX,hAX,hzl⟩:=(hR 16 (by simp)).2.2.2.2 rfl;simp only [e24,e28,e30,e34,e8,ivl,qiQ,qiP];clear hR;obtain ⟨cq,hcq⟩:=nqx ([.string o.key,.string o.nom,.string o.hol,.string o.fund,.string o.cls,.int .i64 o.kind,.int .i64 o.amount,.int .i64 o.units,.int .i64 o.at_,.int .i64 o.known,.bool o.void]:List Value);have hag:(Value.agg #[.string o.key,.string o.nom,.string o.hol,.string o.fund,.string o.cls,.int .i64 o.kind,.int .i64 o.amount,.int .i64 o.units,.int .i64 o.at_,.int .i64 o.known,.bool o.void])=.agg cq.toArray:=by rw [hcq]
   rw [hag];have hcl:cq.length=11:=by rw [hcq];rfl
   have HTH:=hid (show W2.there X 0 cq.toArray.size by rw [List.size_toArray,hcl,←hzl];exact hAX.there);have HS:=hid (show (Tryz.prog.info? 58).map (·.size)=some cq.toArray.size by rw [List.size_toArray,hcl];kernel_rfl);have HON:=hid (show cq.toArray.all (·.oneCell')=true by rw [hcq];simp [Value.oneCell']);have AX:=hid (show At (W2.setCells X 0 cq) X 0 [.string o.key,.string o.nom,.string o.hol,.string o.fund,.string o.cls,.int .i64 o.kind,.int .i64 o.amount,.int .i64 o.units,.int .i64 o.at_,.int .i64 o.known,.bool o.void] by have:=hAX.allSet (ds:=cq) (by rw [hcl,hzl]);rw [hcq] at this ⊢;exact this);have DX:=hid (show Drew w bt (W2.setCells X 0 cq) from (HD.out.trans hK).sets hbt (Nat.le_trans hsz hX) cq)
   have HO2:=hid (show (W2.setCells X 0 cq).ownsRow w.heap.size 60 13 u5 k (cellsT l) from by
    have h1:=HO.out.kept hK.2 (.inr (fun e=>by have:=(HO.out.lt bt e).1;omega));have h2:=qaC (B:=X) (b:=X) (Nat.le_refl _) cq 0 W2 (Below.refl _ _);exact h1.kept (row:=some X) ⟨h2.os,h2.tape,h2.output,h2.size,fun q hq hr=>qcC q X (fun e=>hr (by rw [e])) cq 0 W2⟩ (.inr (fun e=>by have:=(HO.out.lt X e).2;omega)))
   clear hK hag hcq hcl hAX hA1 hc1 e24 e28 e30 e34 e8 hg1 hx ha;have HOD:=hid ho;clear ho;go_upto_region 7 with (refine wpList_store_mid rfl _ _ _ rfl X 0 cq.toArray rfl rfl HTH.out HS.out HON.out ?_)
   obtain ⟨W3,hW3⟩:=nqx (W2.setCells X 0 cq);rw [←hW3] at AX DX HO2 ⊢;clear hW3 HTH HS HON HTW hbW;have hXb:bt<X:=by omega
   have hXw:w.heap.size≤X:=by omega
   clear hzl;go_wp2_with fail
   refine (qbA bt 60 W3 DX.out.1 (by omega) (by omega)).mono ?_;rintro e W4 ⟨day,rfl,hd0,hd1,hdw⟩;replace AX:=hid (AX.out.drw hdw (by omega));replace HO2:=hid (HO2.out.kept hdw.2 (.inr (fun e=>by have:=(HO2.out.lt bt e).1;omega)));replace DX:=hid (DX.out.trans hdw);clear hdw;have HTW:=hid DX.out.1;have hbW:=DX.out.1.lt;have hXlt:=AX.out.lt;have wd1:IntKind.i64.wrap (day+1)=day+1:=IntWalk.i64_in _ (by omega);have SCO:=hid (show (Tryz.prog.info? 58).map (·.size)=some ([.string o.key,.string o.nom,.string o.hol,.string o.fund,.string o.cls,.int .i64 o.kind,.int .i64 o.amount,.int .i64 o.units,.int .i64 o.at_,.int .i64 o.known,.bool o.void]:List Value).length by kernel_rfl);go_upto_region 8 with fail
   refine qnL 9 [6,8] (fun g v w=>(g=6→EvInt (fun u=>0≤u∧u≤day) v w)∧(g=8→EvRow W4.heap.size 1 (fun cs=>∃ f:Int,(0≤f∧f≤day)∧cs=(Tk.mk o day f).cells) v w)) (fun a b=>Drew a bt b) [⟨37,[],fun _=>u5⟩,⟨38,[],fun _=>.agg #[.string o.key,.string o.nom,.string o.hol,.string o.fund,.string o.cls,.int .i64 o.kind,.int .i64 o.amount,.int .i64 o.units,.int .i64 o.at_,.int .i64 o.known,.bool o.void]⟩,⟨39,[],fun _=>.int .i64 day⟩,⟨40,[],fun _=>.pointer (some ⟨bt,0,none⟩)⟩,⟨41,[],fun _=>.int .i64 day⟩,⟨42,[],fun _=>.int .i64 (day+1)⟩,⟨43,[6],fun l=>(l.getD 0 undef)⟩,⟨44,[6],fun l=>.agg #[.string o.key,.string o.nom,.string o.hol,.string o.fund,.string o.cls,.int .i64 o.kind,.int .i64 o.amount,.int .i64 o.units,.int .i64 o.at_,.int .i64 o.known,.bool o.void,.int .i64 day,(l.getD 0 undef)]⟩,⟨45,[8],fun l=>(l.getD 0 undef)⟩] _ (by simp only [List.take_succ_cons,List.take_zero,List.take_nil];rfl) (by simp only [List.drop_succ_cons,List.drop_zero,List.drop_nil];rfl) (by intro γ;simp only [finG,List.foldl_cons,List.foldl_nil,List.map_cons,List.map_nil,List.getD_cons_zero,List.getD_cons_succ,zq];rfl) (by kernel_rfl) (by kernel_rfl) (by kernel_rfl) (by kernel_rfl) (by kernel_rfl) (fun _ _ _ h k=>h.trans k) (Drew.refl HTW.out) (fun a b h k=>⟨k.1.below h,qaM h _⟩) (fun g v x y h h1 h2=>⟨fun e=>(h.1 e),fun e=>EvRow.up hbW (h.2 e) h2⟩) ?_ ?_ ?_ ?_
   ·intro γ W' hK';refine jgH ?_ ?_;(go_big_quiet_step (fail);(try simp only [zq]);exact wqn rfl);refine qfO (fun hf=>?_) ?_
    ·skip
     have rd0:=AX.out.drw hK' (by omega);exact (wlg (by rfl) rfl rfl rd0 Tryz.underlying58 rfl SCO.out (wqn (by simp only [zq])))
    iterate 4 (refine jgH ?_ ?_;(go_big_quiet_step (fail);(try simp only [zq]);exact wqn rfl))
    refine jgG (by rfl) ?_;refine qfO (fun hf=>?_) ?_
    ·obtain ⟨fi,e43,hf⟩:=(hf 6 (by simp) (by kernel_rfl)).1 rfl;simp only [e43,ivl]
     go_big_quiet_step (fail);(try simp only [zq]);exact wqn rfl
    refine jgG (by rfl) ?_;exact qkN
   ·intro γ j hj oj hoj W' hK' hR';simp only [List.mem_cons,List.not_mem_nil,or_false] at hj;have hT':=hK'.1;have hB':=hK'.2.size;rcases hj with rfl|rfl
    ·cases hoj
     refine ⟨rfl,GY.mono (D:=fun v w=>Drew W' bt w∧EvInt (fun u=>0≤u∧u≤day) v w) ?_ fun v w h=>⟨h.1,⟨fun _=>h.2,fun e=>absurd e (by decide)⟩⟩⟩;refine GY.callOf (f:=23) (args:=#[.pointer (some ⟨bt,0,none⟩),.int .i64 (day+1)]) (by simp [execOp,Act.eval,go_sem]) ((qbA bt (day+1) _ hT' (by omega) (by omega)).mono ?_);rintro e w5 ⟨u,rfl,h1,h2,hd⟩;exact ⟨_,rfl,hd,u,rfl,by omega⟩
    ·cases hoj
     obtain ⟨fi,e43,hf⟩:=(hR' 6 (by simp) (by kernel_rfl)).1 rfl;refine ⟨rfl,GY.mono (D:=fun v w=>Drew W' bt w∧EvRow W4.heap.size 1 (fun cs=>∃ f:Int,(0≤f∧f≤day)∧cs=(Tk.mk o day f).cells) v w) ?_ fun v w h=>⟨h.1,⟨fun e=>absurd e (by decide),fun _=>h.2⟩⟩⟩;refine GY.rowOf (len:=1) (e:=60) (s:=13) [.agg #[.string o.key,.string o.nom,.string o.hol,.string o.fund,.string o.cls,.int .i64 o.kind,.int .i64 o.amount,.int .i64 o.units,.int .i64 o.at_,.int .i64 o.known,.bool o.void,.int .i64 day,.int .i64 fi]] rfl (by simp [Act.eval,e43]) rfl (by decide) (by decide) (by simp [Value.cells]) (by decide) Tryz.underlying42 (by kernel_rfl) (by kernel_rfl) hT' hB' ?_;exact ⟨fi,hf,rfl⟩
   ·intro γ j hj oj hoj;simp only [List.mem_cons,List.not_mem_nil,or_false] at hj;rcases hj with rfl|rfl<;>cases hoj<;>rfl
   intro γ W5 hK hR;obtain ⟨fi,e43,hf⟩:=(hR 6 (by simp)).1 rfl;obtain ⟨g2,c2,e45,hg2,hA2,fx,hfx,hc2⟩:=(hR 8 (by simp)).2 rfl;simp only [e43,e45,ivl];clear hR;obtain ⟨x,hx⟩:∃ x:Tk,x=⟨o,day,fx⟩:=⟨_,rfl⟩;rw [←hx] at hc2;subst hc2;have TX:=hid (show MadeT k x by rw [hx];exact jfG HOD.out ⟨hd0,hd1⟩ hfx);have HXC:=hid (show ∀ u∈x.cells,u.oneCell'=true by rw [hx];intro u hu;simp only [Tk.cells,List.mem_cons,List.not_mem_nil,or_false] at hu;rcases hu with rfl|rfl|rfl|rfl|rfl|rfl|rfl|rfl|rfl|rfl|rfl|rfl|rfl<;>rfl);have HXL:=hid (show x.cells.length=1*13 by rw [hx];rfl);have HNW:=hid (show ∀ j u,x.cells[j]?=some u→W5.cell? ((⟨g2,0,none⟩:Addr).add j)=some u from fun j u hu=>by rw [qhV,Nat.zero_add];exact hA2.cel hu);replace HO2:=hid (HO2.out.kept hK.2 (.inr (fun e=>by have:=(HO2.out.lt bt e).1;omega)));replace DX:=hid (DX.out.trans hK);have hzd:=DX.out.size;obtain ⟨i0,hi,hz0,hz1,hz2⟩:=info_parts Tryz.infoT13;clear hx hA2 hK e43 e45 hfx hf hg2 AX;go_wp2_with (at_builtin;refine wpList_append_own _ rfl _ _ 42 rfl w.heap.size 60 i0 _ 13 144 Tryz.underlying42 hi hz0 hz1 hz2 rfl (by decide) _ _ _ rfl HO2.out ⟨g2,0,none⟩ 1 1 x.cells rfl HXL.out HNW.out HXC.out ?_ ?_ ?_ ?_;exact qbS (by omega);omega;omega;intro v' w9 hown' hgrow _)
   have HW:=hid (show w9.ownsRow w.heap.size 60 13 v' (k+1) (cellsT (l++[x])) by rw [qkQ,show cellsT [x]=x.cells by simp [cellsT]];exact hown')
   have HD9:=hid (show Drew w bt w9 from ⟨DX.out.1.grown hgrow (fun q hq=>by have:=(HO2.out.lt q hq).1;omega),by
    have hG:=DX.out.2
    exact ⟨hgrow.os.trans hG.os,hgrow.tape.trans hG.tape,hgrow.output.trans hG.output,Nat.le_trans hG.size hgrow.size,fun q hq hr=>by
     rw [hgrow.block q (by omega) (fun e=>by have:=(HO2.out.lt q e.symm).1;omega)];exact hG.block q hq hr⟩⟩)
   have HMN:=hid (show ∀ j y,(l++[x])[j]?=some y→MadeT j y from fun j y hy=>by
    by_cases hj:j<l.length
    ·rw [List.getElem?_append_left hj] at hy;exact HM.out j y hy
    ·rw [List.getElem?_append_right (by omega)] at hy;have hj0:j - l.length=0:=by have:=(List.getElem?_eq_some_iff.1 hy).1;simp at this;omega
     rw [hj0] at hy;simp at hy
     have hjk:j=k:=by have:=HL.out;omega
     rw [←hy,hjk];exact TX.out)
   clear hown' hgrow;go_roundg (gk - 1)
   case measure=>omega
   case rel=>exact ⟨k+1,l++[x],by go_num,by omega,by omega,by rw [List.length_append,HL.out];rfl,HMN.out,HW.out,HD9.out⟩
  ·obtain rfl:k=n:=by omega
   clear hown;go_wp2
   go_ret
   exact ⟨u5,l,rfl,⟨by have:=HL.out;omega,HM.out⟩,by have:=HO.out;rw [←HL.out] at this;exact this,HD.out⟩
end Go.Proofs.YtemoddmadfoaiaaGreat
