import Derived.Test.YtooeabibhjbkoaaGreatEvB
import Derived.Test.YtooeabibhjbkoaaGreatAlD
import Derived.Deep.CutRange
set_option linter.unusedVariables false
set_option linter.unusedSimpArgs false
set_option maxRecDepth 100000
set_option maxHeartbeats 8000000
namespace Go.Proofs.YtooeabibhjbkoaaGreat
open Go.RowKit Reg Al Ga
open Lib (hid)
theorem Tryz.layQ:LaysAs Tryz.prog 48 #[.string ⟨#[]⟩,.int .i64 0,.int .i64 0]:=by intro o ho b w;unfold execOp;simp only [ho];rfl
theorem Tryz.infoQ3:(Tryz.prog.info? 48).map (fun i=>(i.zero,i.size,i.bytes))=some (some (.agg #[.string ⟨#[]⟩,.int .i64 0,.int .i64 0]),3,32):=by kernel_rfl
theorem qxO {u a:Int} (h:1≤u∧u≤1000000) (k:0≤a∧a<1000):0≤u*a∧u*a≤999000000:=by
 have h1:0≤u*a:=Int.mul_nonneg (by omega) k.1
 have h2:u*a≤1000000*a:=Int.mul_le_mul_of_nonneg_right h.2 k.1
 omega
theorem Ga.cellsQ_app (a b:List Rq):Ga.cellsQ (a++b)=Ga.cellsQ a++Ga.cellsQ b:=by simp [Ga.cellsQ]
theorem qkR (bt:Nat) (w:World) (ht:IsTp w bt) :
  Calls Tryz.prog 14 #[.pointer (some ⟨bt,0,none⟩),.int .i64 8] w fun e w'=>∃ (v:Value) (l:List Rq),e=.returned v∧MadeQs l∧w'.ownsRow w.heap.size 48 3 v l.length (Ga.cellsQ l)∧Drew w bt w':=by
 have hbt:=ht.lt
 have HT:=hid ht
 clear ht
 go_enter Tryz.func14,Tryz.ntmps14
 go_wp2_with fail
 refine (qcL bt 9 _ HT.out (by omega) (by omega)).mono ?_
 rintro e w1 ⟨n,rfl,hn0,hn1,hd1⟩
 obtain ⟨n,rfl⟩:∃ k:Nat,n=k:=⟨n.toNat,by omega⟩
 have HD1:=hid hd1
 clear hd1
 go_wp2
 go_loopg [5,7,8] n (fun m va iv _ wr=>∃ (k:Nat) (l:List Rq),iv=.int .i64 k∧k≤n∧n≤m+k∧l.length=k∧(∀ j x,l[j]?=some x→MadeQ j x)∧wr.ownsRow w.heap.size 48 3 va k (Ga.cellsQ l)∧Drew w bt wr)
 case atStart=>exact ⟨0,[],rfl,by omega,by omega,rfl,fun j x h=>by simp at h,World.ownsRow_nil _ _ _ _,HD1.out⟩
 case round =>
  obtain ⟨k,l,rfl,hk,hmm,hl,hmade,hown,hd⟩:=hrel
  have HO:=hid hown
  have HD:=hid hd
  have HM:=hid hmade
  have HL:=hid hl
  have hsz:=hd.size
  by_cases hlt:k<n
  ·have HTW:=hid hd.1
   have hbW:=hd.1.lt
   clear hown hd hmade hl
   have w26:(k:Int).tmod 26=(k:Int):=Int.tmod_eq_of_lt (by omega) (by omega)
   have w97:IntKind.i64.wrap (97+(k:Int))=97+(k:Int):=IntWalk.i64_in _ (by omega)
   have w8:IntKind.u8.wrap (97+(k:Int))=97+(k:Int):=by rw [IntKind.wrap_u8];omega
   obtain ⟨sk,hsk⟩:∃ sk,sk=strOfNums [97+(k:Int)]:=⟨_,rfl⟩
   have hss:sk.size=1:=by rw [hsk,strOfNums_size];rfl
   have hcat:(⟨#[111]⟩:ByteArray)++sk=keyO k:=by rw [hsk];exact qzI k (by omega)
   have HSK:=hid hsk
   clear hsk
   go_upto_region 6 with fail
   refine qkC 11 [4,8,10] (fun g v w=>(g=4→EvRow wr.heap.size 1 (fun cs=>cs=[.int .u8 (97+(k:Int))]) v w)∧(g=8→EvInt (fun u=>1≤u∧u≤1000000) v w)∧(g=10→EvNew wr.heap.size 3 v w)) (fun a b=>Drew a bt b) [⟨18,[],fun _=>.int .i64 (k:Int)⟩,⟨19,[],fun _=>.int .i64 (k:Int)⟩,⟨20,[],fun _=>.int .i64 (97+(k:Int))⟩,⟨21,[],fun _=>.int .u8 (97+(k:Int))⟩,⟨22,[4],fun l=>(l.getD 0 undef)⟩,⟨23,[],fun _=>.string sk⟩,⟨24,[],fun _=>.string (keyO k)⟩,⟨25,[],fun _=>.pointer (some ⟨bt,0,none⟩)⟩,⟨26,[8],fun l=>(l.getD 0 undef)⟩,⟨27,[8],fun l=>.agg #[.string (keyO k),(l.getD 0 undef),.int .i64 0]⟩,⟨8,[10],fun l=>(l.getD 0 undef)⟩] _ (by simp only [List.take_succ_cons,List.take_zero,List.take_nil];rfl) (by simp only [List.drop_succ_cons,List.drop_zero,List.drop_nil];rfl) (by intro γ;simp only [finG,List.foldl_cons,List.foldl_nil,List.map_cons,List.map_nil,List.getD_cons_zero,List.getD_cons_succ,zq];rfl) (by kernel_rfl) (by kernel_rfl) (by kernel_rfl) (by kernel_rfl) (by kernel_rfl) (fun _ _ _ h k=>h.trans k) (Drew.refl HTW.out) (fun a b h k=>⟨k.1.below h,qgQ h _⟩) (fun g v x y h h1 h2=>⟨fun e=>EvRow.up hbW (h.1 e) h2,fun e=>(h.2.1 e),fun e=>EvNew.up hbW (h.2.2 e) h2⟩) ?_ ?_ ?_ ?_
   ·intro γ W' hK'
    iterate 4 (refine qzK ?_ ?_;(go_big_quiet_step (fail);(try simp only [zq]);exact wqn rfl))
    refine jaW (by rfl) ?_
    refine qdM (fun hf=>?_) ?_
    ·obtain ⟨g1,c1,e22,hg1,hA1,hc1⟩:=(hf 4 (by simp) (by kernel_rfl)).1 rfl
     subst hc1
     have hcc:=hA1.cel (k:=0) rfl
     simp only [e22,ivl]
     exact (qiX (by rfl) (fun W hb=>quZ rfl rfl Tryz.underlying82 Tryz.underlying5 Tryz.underlying9 (qcU hcc hb) HSK.out) (wqn (by simp only [zq])))
    iterate 2 (refine qzK ?_ ?_;(go_big_quiet_step (fail);(try simp only [zq]);exact wqn rfl))
    refine jaW (by rfl) ?_
    refine qdM (fun hf=>?_) ?_
    ·obtain ⟨u,e26,hu⟩:=(hf 8 (by simp) (by kernel_rfl)).2.1 rfl
     simp only [e26,ivl]
     go_big_quiet_step (fail);(try simp only [zq]);exact wqn rfl
    refine jaW (by rfl) ?_
    exact qiQ
   ·intro γ j hj oj hoj W' hK' hR'
    simp only [List.mem_cons,List.not_mem_nil,or_false] at hj
    have hT':=hK'.1
    have hB':=hK'.2.size
    rcases hj with rfl|rfl|rfl
    ·cases hoj
     refine ⟨rfl,GY.mono (D:=fun v w=>Drew W' bt w∧EvRow wr.heap.size 1 (fun cs=>cs=[.int .u8 (97+(k:Int))]) v w) ?_ fun v w h=>⟨h.1,⟨fun _=>h.2,fun e=>absurd e (by decide),fun e=>absurd e (by decide)⟩⟩⟩
     exact GY.rowOf (len:=1) (e:=5) (s:=1) [.int .u8 (97+(k:Int))] rfl (by simp [Act.eval]) rfl (by decide) (by decide) (by simp [Value.cells]) (by decide) Tryz.underlying82 (by kernel_rfl) (by kernel_rfl) hT' hB' rfl
    ·cases hoj
     refine ⟨rfl,GY.mono (D:=fun v w=>Drew W' bt w∧EvInt (fun u=>1≤u∧u≤1000000) v w) ?_ fun v w h=>⟨h.1,⟨fun e=>absurd e (by decide),fun _=>h.2,fun e=>absurd e (by decide)⟩⟩⟩
     refine GY.callOf (f:=28) (args:=#[.pointer (some ⟨bt,0,none⟩)]) (by simp [execOp,Act.eval,go_sem]) ((qqZ bt _ hT').mono ?_)
     rintro e w5 ⟨u,rfl,h1,h2,hd⟩
     exact ⟨_,rfl,hd,u,rfl,h1,h2⟩
    ·cases hoj
     refine ⟨rfl,GY.mono (D:=fun v w=>Drew W' bt w∧EvNew wr.heap.size 3 v w) ?_ fun v w h=>⟨h.1,⟨fun e=>absurd e (by decide),fun e=>absurd e (by decide),fun _=>h.2⟩⟩⟩
     exact GY.newOf Tryz.layQ rfl rfl hT' hB'
   ·intro γ j hj oj hoj
    simp only [List.mem_cons,List.not_mem_nil,or_false] at hj
    rcases hj with rfl|rfl|rfl<;>cases hoj<;>rfl
   intro γ W2 hK hR
   obtain ⟨g1,c1,e22,hg1,hA1,hc1⟩:=(hR 4 (by simp)).1 rfl
   obtain ⟨u,e26,hu⟩:=(hR 8 (by simp)).2.1 rfl
   obtain ⟨X,zs,e8,hX,hAX,hzl⟩:=(hR 10 (by simp)).2.2 rfl
   simp only [e22,e26,e8,ivl]
   clear hR
   obtain ⟨cq,hcq⟩:∃ cq:List Value,cq=[.string (keyO k),.int .i64 u,.int .i64 0]:=⟨_,rfl⟩
   have hag:(Value.agg #[.string (keyO k),.int .i64 u,.int .i64 0])=.agg cq.toArray:=by rw [hcq]
   rw [hag]
   have hcl:cq.length=3:=by rw [hcq];rfl
   have HTH:=hid (show W2.there X 0 cq.toArray.size by rw [List.size_toArray,hcl,←hzl];exact hAX.there)
   have HS:=hid (show (Tryz.prog.info? 48).map (·.size)=some cq.toArray.size by rw [List.size_toArray,hcl];kernel_rfl)
   have HON:=hid (show cq.toArray.all (·.oneCell')=true by rw [hcq];simp [Value.oneCell'])
   have AX:=hid (show At (W2.setCells X 0 cq) X 0 [.string (keyO k),.int .i64 u,.int .i64 0] by have:=hAX.allSet (ds:=cq) (by rw [hcl,hzl]);rw [hcq] at this ⊢;exact this)
   have DX:=hid (show Drew w bt (W2.setCells X 0 cq) from (HD.out.trans hK).sets hbt (Nat.le_trans hsz hX) cq)
   have HO2:=hid (show (W2.setCells X 0 cq).ownsRow w.heap.size 48 3 u5 k (Ga.cellsQ l) from by
    have h1:=HO.out.kept hK.2 (.inr (fun e=>by have:=(HO.out.lt bt e).1;omega))
    have h2:=qaB (B:=X) (b:=X) (Nat.le_refl _) cq 0 W2 (Below.refl _ _)
    exact h1.kept (row:=some X) ⟨h2.os,h2.tape,h2.output,h2.size,fun q hq hr=>qfW q X (fun e=>hr (by rw [e])) cq 0 W2⟩ (.inr (fun e=>by have:=(HO.out.lt X e).2;omega)))
   clear hK hag hcq hcl hAX hA1 hc1 e22 e26 e8 hg1
   go_upto_region 7 with (refine wpList_store_mid rfl _ _ _ rfl X 0 cq.toArray rfl rfl HTH.out HS.out HON.out ?_)
   obtain ⟨W3,hW3⟩:∃ W3,W3=W2.setCells X 0 cq:=⟨_,rfl⟩
   rw [←hW3] at AX DX HO2 ⊢
   clear hW3 HTH HS HON HTW hbW
   have HTW:=hid DX.out.1
   have hbW:=DX.out.1.lt
   have hXb:bt<X:=by omega
   have hXlt:=AX.out.lt
   clear hzl
   refine qkC 13 [6,9,10,11] (fun g v w=>(g=6→EvInt (fun u=>0≤u∧u<1000) v w)∧(g=9→EvInt (fun u=>0≤u∧u<100000) v w)∧(g=10→EvRow W3.heap.size 4 (fun cs=>∃ q:List Int,cs=q.map (Value.int .i64)∧q.length=4∧∀ x∈q,0≤x∧x≤999000000) v w)∧(g=11→EvInt (fun u=>0≤u∧u≤999000000) v w)) (fun a b=>Drew a bt b) [⟨28,[],fun _=>.pointer (some ⟨bt,0,none⟩)⟩,⟨29,[],fun _=>.pointer (some ⟨X,1,none⟩)⟩,⟨30,[],fun _=>.int .i64 u⟩,⟨31,[],fun _=>.pointer (some ⟨X,1,none⟩)⟩,⟨32,[],fun _=>.int .i64 u⟩,⟨33,[],fun _=>.pointer (some ⟨bt,0,none⟩)⟩,⟨34,[6],fun l=>(l.getD 0 undef)⟩,⟨35,[6],fun l=>.int .i64 (u*ivl (l.getD 0 undef))⟩,⟨36,[],fun _=>.pointer (some ⟨bt,0,none⟩)⟩,⟨37,[9],fun l=>(l.getD 0 undef)⟩,⟨38,[10],fun l=>(l.getD 0 undef)⟩,⟨39,[11],fun l=>(l.getD 0 undef)⟩,⟨40,[],fun _=>.pointer (some ⟨X,2,none⟩)⟩] _ (by simp only [List.take_succ_cons,List.take_zero,List.take_nil];rfl) (by simp only [List.drop_succ_cons,List.drop_zero,List.drop_nil];rfl) (by intro γ;simp only [finG,List.foldl_cons,List.foldl_nil,List.map_cons,List.map_nil,List.getD_cons_zero,List.getD_cons_succ,zq];rfl) (by kernel_rfl) (by kernel_rfl) (by kernel_rfl) (by kernel_rfl) (by kernel_rfl) (fun _ _ _ h k=>h.trans k) (Drew.refl HTW.out) (fun a b h k=>⟨k.1.below h,qgQ h _⟩) (fun g v x y h h1 h2=>⟨fun e=>(h.1 e),fun e=>(h.2.1 e),fun e=>EvRow.up hbW (h.2.2.1 e) h2,fun e=>(h.2.2.2 e)⟩) ?_ ?_ ?_ ?_
   ·intro γ W' hK'
    iterate 2 (refine qzK ?_ ?_;(go_big_quiet_step (fail);(try simp only [zq]);exact wqn rfl))
    refine qdM (fun hf=>?_) ?_
    ·skip
     have z1:=(AX.out.drw hK' (by omega)).cel (k:=1) rfl
     exact (wcg (by rfl) rfl rfl (fun W h=>by simp [loadVar,h,go_sem]) z1 (wqn (by simp only [zq])))
    refine qzK ?_ ?_;(go_big_quiet_step (fail);(try simp only [zq]);exact wqn rfl)
    refine qdM (fun hf=>?_) ?_
    ·skip
     have z1:=(AX.out.drw hK' (by omega)).cel (k:=1) rfl
     exact (wcg (by rfl) rfl rfl (fun W h=>by simp [loadVar,h,go_sem]) z1 (wqn (by simp only [zq])))
    refine qzK ?_ ?_;(go_big_quiet_step (fail);(try simp only [zq]);exact wqn rfl)
    refine jaW (by rfl) ?_
    refine qdM (fun hf=>?_) ?_
    ·obtain ⟨a,e34,ha⟩:=(hf 6 (by simp) (by kernel_rfl)).1 rfl
     have hm:=qxO hu ha
     have hw:=IntWalk.i64_in (u*a) (by omega)
     simp only [e34,ivl]
     go_big_quiet_step (fail);(try simp only [zq]);exact wqn rfl
    refine qzK ?_ ?_;(go_big_quiet_step (fail);(try simp only [zq]);exact wqn rfl)
    iterate 3 (refine jaW (by rfl) ?_)
    refine qzK ?_ ?_;(go_big_quiet_step (fail);(try simp only [zq]);exact wqn rfl)
    exact qiQ
   ·intro γ j hj oj hoj W' hK' hR'
    simp only [List.mem_cons,List.not_mem_nil,or_false] at hj
    have hT':=hK'.1
    have hB':=hK'.2.size
    rcases hj with rfl|rfl|rfl|rfl
    ·cases hoj
     refine ⟨rfl,GY.mono (D:=fun v w=>Drew W' bt w∧EvInt (fun u=>0≤u∧u<1000) v w) ?_ fun v w h=>⟨h.1,⟨fun _=>h.2,fun e=>absurd e (by decide),fun e=>absurd e (by decide),fun e=>absurd e (by decide)⟩⟩⟩
     refine GY.callOf (f:=17) (args:=#[.pointer (some ⟨bt,0,none⟩),.int .i64 1000]) (by simp [execOp,Act.eval,go_sem]) ((qcL bt 1000 _ hT' (by omega) (by omega)).mono ?_)
     rintro e w5 ⟨u,rfl,h1,h2,hd⟩
     exact ⟨_,rfl,hd,u,rfl,h1,h2⟩
    ·cases hoj
     refine ⟨rfl,GY.mono (D:=fun v w=>Drew W' bt w∧EvInt (fun u=>0≤u∧u<100000) v w) ?_ fun v w h=>⟨h.1,⟨fun e=>absurd e (by decide),fun _=>h.2,fun e=>absurd e (by decide),fun e=>absurd e (by decide)⟩⟩⟩
     refine GY.callOf (f:=17) (args:=#[.pointer (some ⟨bt,0,none⟩),.int .i64 100000]) (by simp [execOp,Act.eval,go_sem]) ((qcL bt 100000 _ hT' (by omega) (by omega)).mono ?_)
     rintro e w5 ⟨u,rfl,h1,h2,hd⟩
     exact ⟨_,rfl,hd,u,rfl,h1,h2⟩
    ·cases hoj
     obtain ⟨a,e34,ha⟩:=(hR' 6 (by simp) (by kernel_rfl)).1 rfl
     obtain ⟨b,e37,hb⟩:=(hR' 9 (by simp) (by kernel_rfl)).2.1 rfl
     refine ⟨rfl,GY.mono (D:=fun v w=>Drew W' bt w∧EvRow W3.heap.size 4 (fun cs=>∃ q:List Int,cs=q.map (Value.int .i64)∧q.length=4∧∀ x∈q,0≤x∧x≤999000000) v w) ?_ fun v w h=>⟨h.1,⟨fun e=>absurd e (by decide),fun e=>absurd e (by decide),fun _=>h.2,fun e=>absurd e (by decide)⟩⟩⟩
     have hm:=qxO hu ha
     refine GY.rowOf (len:=4) (e:=3) (s:=1) [.int .i64 0,.int .i64 u,.int .i64 (u*a),.int .i64 b] rfl (by simp [Act.eval,e34,e37,ivl]) rfl (by decide) (by decide) (by simp [Value.cells]) (by decide) Tryz.underlying30 (by kernel_rfl) (by kernel_rfl) hT' hB' ?_
     refine ⟨[0,u,u*a,b],rfl,rfl,fun x hx=>?_⟩
     simp only [List.mem_cons,List.not_mem_nil,or_false] at hx
     rcases hx with rfl|rfl|rfl|rfl<;>omega
    ·cases hoj
     obtain ⟨g2,c2,e38,hg2,hA2,q,hq,hql,hqb⟩:=(hR' 10 (by simp) (by kernel_rfl)).2.2.1 rfl
     refine ⟨rfl,GY.mono (D:=fun v w=>Drew W' bt w∧EvInt (fun u=>0≤u∧u≤999000000) v w) ?_ fun v w h=>⟨h.1,⟨fun e=>absurd e (by decide),fun e=>absurd e (by decide),fun e=>absurd e (by decide),fun _=>h.2⟩⟩⟩
     refine GY.callOf (f:=29) (args:=#[.pointer (some ⟨bt,0,none⟩),.slice (some ⟨g2,0,none⟩) 4 4]) (by simp [execOp,Act.eval,go_sem,e38]) ((qoM bt g2 4 4 q _ hql hT' (by omega) (by omega) (by omega) (fun j x hj=>?_)).mono ?_)
     ·exact hA2.cel (by rw [hq,List.getElem?_map,hj];rfl)
     ·rintro e w5 ⟨s,hs,rfl,hd⟩
      exact ⟨_,rfl,hd,s,rfl,hqb s hs⟩
   ·intro γ j hj oj hoj
    simp only [List.mem_cons,List.not_mem_nil,or_false] at hj
    rcases hj with rfl|rfl|rfl|rfl<;>cases hoj<;>rfl
   intro γ W4 hK hR
   obtain ⟨a,e34,ha⟩:=(hR 6 (by simp)).1 rfl
   obtain ⟨b,e37,hb⟩:=(hR 9 (by simp)).2.1 rfl
   obtain ⟨g2,c2,e38,hg2,hA2,q,hq,hql,hqb⟩:=(hR 10 (by simp)).2.2.1 rfl
   obtain ⟨v,e39,hv⟩:=(hR 11 (by simp)).2.2.2 rfl
   simp only [e34,e37,e38,e39,ivl]
   clear hR
   replace AX:=hid (AX.out.drw hK (by omega))
   replace HO2:=hid (HO2.out.kept hK.2 (.inr (fun e=>by have:=(HO2.out.lt bt e).1;omega)))
   replace DX:=hid (DX.out.trans hK)
   have f2:=AX.out.cel (k:=2) rfl
   have z2:=AX.out.frz (k:=2) (by show 2<3;decide)
   clear hK hA2 hq hql hqb e34 e37 e38 e39 hg2
   go_upto_region 8 with fail
   obtain ⟨W5,hW5⟩:∃ W5,W5=W4.setCell ⟨X,2,none⟩ (.int .i64 v):=⟨_,rfl⟩
   rw [←hW5]
   have hXw:w.heap.size≤X:=by omega
   replace AX:=hid (show At W5 X 0 [.string (keyO k),.int .i64 u,.int .i64 v] by rw [hW5];exact AX.out.oneSet (k:=2) (by show 2<3;decide))
   replace DX:=hid (show Drew w bt W5 by rw [hW5];exact DX.out.setCell hbt _ _ hXw)
   replace HO2:=hid (show W5.ownsRow w.heap.size 48 3 u5 k (Ga.cellsQ l) by
    rw [hW5];exact HO2.out.kept (row:=some X) (qaP _ rfl _) (.inr (fun e=>by have:=(HO.out.lt X e).2;omega)))
   clear hW5 f2 z2
   go_wp2_with fail
   refine (qwV bt 4 W5 DX.out.1 (by omega) (by omega)).mono ?_
   rintro e W6 ⟨c,rfl,hd⟩
   replace AX:=hid (AX.out.drw hd (by omega))
   replace HO2:=hid (HO2.out.kept hd.2 (.inr (fun e=>by have:=(HO2.out.lt bt e).1;omega)))
   replace DX:=hid (DX.out.trans hd)
   clear hd
   cases c with
   | false =>
    have TX:=hid (show MadeQ k ⟨keyO k,u,v⟩ from ⟨rfl,by show 1≤u∧u≤1000000;omega,by show 0≤v∧v≤999000000;omega⟩)
    obtain ⟨x,hx⟩:∃ x:Rq,x=⟨keyO k,u,v⟩:=⟨_,rfl⟩
    have hxc:x.cells=[.string (keyO k),.int .i64 u,.int .i64 v]:=by rw [hx];rfl
    rw [←hx] at TX
    have HXC:=hid hxc
    have d0:=AX.out.cel (k:=0) rfl
    have d1:=AX.out.cel (k:=1) rfl
    have d2:=AX.out.cel (k:=2) rfl
    have hzd:=DX.out.size
    obtain ⟨i0,hi,hz0,hz1,hz2⟩:=info_parts Tryz.infoQ3
    clear hx hxc
    go_wp2_with (first|(refine qcH rfl (s:=3) x.cells rfl (by rw [HXC.out];simp [Act.eval,Act.put]) (by decide) rfl (by decide) Tryz.underlying28 (by kernel_rfl) (by kernel_rfl) ?_)|(at_builtin;refine wpList_append_own _ rfl _ _ 28 rfl w.heap.size 48 i0 _ 3 32 Tryz.underlying28 hi hz0 hz1 hz2 rfl (by decide) _ _ _ rfl (World.ownsRow.alloc HO2.out _) ⟨W6.heap.size,0,none⟩ 1 1 x.cells rfl rfl ?_ ?_ ?_ ?_ ?_ ?_;exact qdQ _ _ _;(rw [HXC.out];simp [Value.oneCell']);exact qcX (by omega);omega;(simp;omega);intro v' w9 hown' hgrow _))
    have HW:=hid (show w9.ownsRow w.heap.size 48 3 v' (k+1) (Ga.cellsQ (l++[x])) by rw [Ga.cellsQ_app,show Ga.cellsQ [x]=x.cells by simp [Ga.cellsQ]];exact hown')
    have HD9:=hid (show Drew w bt w9 from ⟨(DX.out.1.below ((Below.refl _ _).alloc (Nat.le_refl _) _)).grown hgrow (fun q hq=>by have:=(HO2.out.lt q hq).1;omega),by
     have hG:=DX.out.2
     exact ⟨hgrow.os.trans hG.os,hgrow.tape.trans hG.tape,hgrow.output.trans hG.output,by have:=hgrow.size;simp at this;omega,fun q hq hr=>by
      rw [hgrow.block q (by simp;omega) (fun e=>by have:=(HO2.out.lt q e.symm).1;omega),Below.heap_alloc _ _ _ (by omega)]
      exact hG.block q hq hr⟩⟩)
    have HMN:=hid (show ∀ j y,(l++[x])[j]?=some y→MadeQ j y from fun j y hy=>by
     by_cases hj:j<l.length
     ·rw [List.getElem?_append_left hj] at hy;exact HM.out j y hy
     ·rw [List.getElem?_append_right (by omega)] at hy
      have hj0:j - l.length=0:=by have:=(List.getElem?_eq_some_iff.1 hy).1;simp at this;omega
      rw [hj0] at hy
      simp at hy
      have hjk:j=k:=by have:=HL.out;omega
      rw [←hy,hjk];exact TX.out)
    clear hown' hgrow d0 d1 d2
    go_roundg (gk - 1)
    case measure=>omega
    case rel=>exact ⟨k+1,l++[x],by go_num,by omega,by omega,by rw [List.length_append,HL.out];rfl,HMN.out,HW.out,HD9.out⟩
   | true =>
    by_cases hk0:k=0
    ·have hk0':decide ((0:Int)<(k:Int))=false:=by simp;omega
     have hk1:¬(0:Int)<(k:Int):=by omega
     clear hk0
     have TX:=hid (show MadeQ k ⟨keyO k,u,v⟩ from ⟨rfl,by show 1≤u∧u≤1000000;omega,by show 0≤v∧v≤999000000;omega⟩)
     obtain ⟨x,hx⟩:∃ x:Rq,x=⟨keyO k,u,v⟩:=⟨_,rfl⟩
     have hxc:x.cells=[.string (keyO k),.int .i64 u,.int .i64 v]:=by rw [hx];rfl
     rw [←hx] at TX
     have HXC:=hid hxc
     have d0:=AX.out.cel (k:=0) rfl
     have d1:=AX.out.cel (k:=1) rfl
     have d2:=AX.out.cel (k:=2) rfl
     have hzd:=DX.out.size
     obtain ⟨i0,hi,hz0,hz1,hz2⟩:=info_parts Tryz.infoQ3
     clear hx hxc
     go_wp2_with (first|(refine qcH rfl (s:=3) x.cells rfl (by rw [HXC.out];simp [Act.eval,Act.put]) (by decide) rfl (by decide) Tryz.underlying28 (by kernel_rfl) (by kernel_rfl) ?_)|(at_builtin;refine wpList_append_own _ rfl _ _ 28 rfl w.heap.size 48 i0 _ 3 32 Tryz.underlying28 hi hz0 hz1 hz2 rfl (by decide) _ _ _ rfl (World.ownsRow.alloc HO2.out _) ⟨W6.heap.size,0,none⟩ 1 1 x.cells rfl rfl ?_ ?_ ?_ ?_ ?_ ?_;exact qdQ _ _ _;(rw [HXC.out];simp [Value.oneCell']);exact qcX (by omega);omega;(simp;omega);intro v' w9 hown' hgrow _))
     have HW:=hid (show w9.ownsRow w.heap.size 48 3 v' (k+1) (Ga.cellsQ (l++[x])) by rw [Ga.cellsQ_app,show Ga.cellsQ [x]=x.cells by simp [Ga.cellsQ]];exact hown')
     have HD9:=hid (show Drew w bt w9 from ⟨(DX.out.1.below ((Below.refl _ _).alloc (Nat.le_refl _) _)).grown hgrow (fun q hq=>by have:=(HO2.out.lt q hq).1;omega),by
      have hG:=DX.out.2
      exact ⟨hgrow.os.trans hG.os,hgrow.tape.trans hG.tape,hgrow.output.trans hG.output,by have:=hgrow.size;simp at this;omega,fun q hq hr=>by
       rw [hgrow.block q (by simp;omega) (fun e=>by have:=(HO2.out.lt q e.symm).1;omega),Below.heap_alloc _ _ _ (by omega)]
       exact hG.block q hq hr⟩⟩)
     have HMN:=hid (show ∀ j y,(l++[x])[j]?=some y→MadeQ j y from fun j y hy=>by
      by_cases hj:j<l.length
      ·rw [List.getElem?_append_left hj] at hy;exact HM.out j y hy
      ·rw [List.getElem?_append_right (by omega)] at hy
       have hj0:j - l.length=0:=by have:=(List.getElem?_eq_some_iff.1 hy).1;simp at this;omega
       rw [hj0] at hy
       simp at hy
       have hjk:j=k:=by have:=HL.out;omega
       rw [←hy,hjk];exact TX.out)
     clear hown' hgrow d0 d1 d2
     go_roundg (gk - 1)
     case measure=>omega
     case rel=>exact ⟨k+1,l++[x],by go_num,by omega,by omega,by rw [List.length_append,HL.out];rfl,HMN.out,HW.out,HD9.out⟩
    ·have hk1:(0:Int)<(k:Int):=by omega
     obtain ⟨j,hjk⟩:∃ j,k=j+1:=⟨k - 1,by omega⟩
     have q1:(k:Int) - 1=(j:Int):=by omega
     have q2:IntKind.i64.wrap (j:Int)=(j:Int):=IntWalk.i64_in _ (by omega)
     have q3:j<k:=by omega
     obtain ⟨y,hy⟩:∃ y,l[j]?=some y:=⟨l[j]'(by rw [HL.out];exact q3),by simp [HL.out,q3]⟩
     have MY:=HM.out j y hy
     have my1:=MY.units
     have my2:=MY.value
     obtain ⟨_,_,A,cap,hv5,hrd⟩:=Rd.of_own HO2.out
     obtain ⟨g,off,rfl,hc⟩:=hrd (by omega)
     subst hv5
     have c1:W6.cell? ⟨g,off+j*3+1,none⟩=some (.int .i64 y.units):=by have:=hc (j*3+1) _ (Ga.cellsQ_get l j y hy 1 _ rfl);rwa [←Nat.add_assoc] at this
     have c2:W6.cell? ⟨g,off+j*3+2,none⟩=some (.int .i64 y.value):=by have:=hc (j*3+2) _ (Ga.cellsQ_get l j y hy 2 _ rfl);rwa [←Nat.add_assoc] at this
     have hgX:g≠X:=by have:=(HO.out.lt g rfl).2;omega
     have hgX':X≠g:=Ne.symm hgX
     have d1:=AX.out.cel (k:=1) rfl
     have d2:=AX.out.cel (k:=2) rfl
     have z1:=AX.out.frz (k:=1) (by show 1<3;decide)
     have z2:=AX.out.frz (k:=2) (by show 2<3;decide)
     clear hrd hc hy hk0 hjk MY
     go_upto_region 9 with fail
     go_region
     obtain ⟨W7,hW7⟩:∃ W7,W7=((W6.setCell ⟨X,1,none⟩ (.int .i64 y.units)).setCell ⟨X,2,none⟩ (.int .i64 y.value)).drew:=⟨_,rfl⟩
     rw [←hW7]
     replace AX:=hid (show At W7 X 0 [.string (keyO k),.int .i64 y.units,.int .i64 y.value] by rw [hW7];exact ((AX.out.oneSet (k:=1) (by show 1<3;decide)).oneSet (k:=2) (by show 2<3;decide)).below (qfJ (Below.refl _ _)))
     replace DX:=hid (show Drew w bt W7 by rw [hW7];exact ((DX.out.setCell hbt _ _ hXw).setCell hbt _ _ hXw).below (qfJ (Below.refl _ _)))
     replace HO2:=hid (show W7.ownsRow w.heap.size 48 3 (.slice (some ⟨g,off,none⟩) k cap) k (Ga.cellsQ l) by
      rw [hW7]
      exact qjI ((HO2.out.kept (row:=some X) (qaP _ rfl _) (.inr (fun e=>by have:=(HO.out.lt X e).2;omega))).kept (row:=some X) (qaP _ rfl _) (.inr (fun e=>by have:=(HO.out.lt X e).2;omega))) (qfJ (Below.refl _ _)))
     clear hW7 d1 d2 z1 z2 c1 c2
     have TX:=hid (show MadeQ k ⟨keyO k,y.units,y.value⟩ from ⟨rfl,by show 1≤y.units∧y.units≤1000000;omega,by show 0≤y.value∧y.value≤999000000;omega⟩)
     obtain ⟨x,hx⟩:∃ x:Rq,x=⟨keyO k,y.units,y.value⟩:=⟨_,rfl⟩
     have hxc:x.cells=[.string (keyO k),.int .i64 y.units,.int .i64 y.value]:=by rw [hx];rfl
     rw [←hx] at TX
     have HXC:=hid hxc
     have d0:=AX.out.cel (k:=0) rfl
     have d1:=AX.out.cel (k:=1) rfl
     have d2:=AX.out.cel (k:=2) rfl
     have hzd:=DX.out.size
     obtain ⟨i0,hi,hz0,hz1,hz2⟩:=info_parts Tryz.infoQ3
     clear hx hxc
     go_wp2_with (first|(refine qcH rfl (s:=3) x.cells rfl (by rw [HXC.out];simp [Act.eval,Act.put]) (by decide) rfl (by decide) Tryz.underlying28 (by kernel_rfl) (by kernel_rfl) ?_)|(at_builtin;refine wpList_append_own _ rfl _ _ 28 rfl w.heap.size 48 i0 _ 3 32 Tryz.underlying28 hi hz0 hz1 hz2 rfl (by decide) _ _ _ rfl (World.ownsRow.alloc HO2.out _) ⟨W7.heap.size,0,none⟩ 1 1 x.cells rfl rfl ?_ ?_ ?_ ?_ ?_ ?_;exact qdQ _ _ _;(rw [HXC.out];simp [Value.oneCell']);exact qcX (by omega);omega;(simp;omega);intro v' w9 hown' hgrow _))
     have HW:=hid (show w9.ownsRow w.heap.size 48 3 v' (k+1) (Ga.cellsQ (l++[x])) by rw [Ga.cellsQ_app,show Ga.cellsQ [x]=x.cells by simp [Ga.cellsQ]];exact hown')
     have HD9:=hid (show Drew w bt w9 from ⟨(DX.out.1.below ((Below.refl _ _).alloc (Nat.le_refl _) _)).grown hgrow (fun q hq=>by have:=(HO2.out.lt q hq).1;omega),by
      have hG:=DX.out.2
      exact ⟨hgrow.os.trans hG.os,hgrow.tape.trans hG.tape,hgrow.output.trans hG.output,by have:=hgrow.size;simp at this;omega,fun q hq hr=>by
       rw [hgrow.block q (by simp;omega) (fun e=>by have:=(HO2.out.lt q e.symm).1;omega),Below.heap_alloc _ _ _ (by omega)]
       exact hG.block q hq hr⟩⟩)
     have HMN:=hid (show ∀ j y,(l++[x])[j]?=some y→MadeQ j y from fun j y hy=>by
      by_cases hj:j<l.length
      ·rw [List.getElem?_append_left hj] at hy;exact HM.out j y hy
      ·rw [List.getElem?_append_right (by omega)] at hy
       have hj0:j - l.length=0:=by have:=(List.getElem?_eq_some_iff.1 hy).1;simp at this;omega
       rw [hj0] at hy
       simp at hy
       have hjk:j=k:=by have:=HL.out;omega
       rw [←hy,hjk];exact TX.out)
     clear hown' hgrow d0 d1 d2
     go_roundg (gk - 1)
     case measure=>omega
     case rel=>exact ⟨k+1,l++[x],by go_num,by omega,by omega,by rw [List.length_append,HL.out];rfl,HMN.out,HW.out,HD9.out⟩
  ·obtain rfl:k=n:=by omega
   clear hown
   go_wp2
   go_ret
   exact ⟨u5,l,rfl,⟨by omega,HM.out⟩,by have:=HO.out;rw [←HL.out] at this;exact this,HD.out⟩
end Go.Proofs.YtooeabibhjbkoaaGreat
