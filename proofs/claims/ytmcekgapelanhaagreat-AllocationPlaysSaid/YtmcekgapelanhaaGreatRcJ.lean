import Derived.Test.YtmcekgapelanhaaGreatRcG
import Derived.ProofKit
import Derived.OpenShut
import Derived.Deep.Slices
import Derived.Deep.Strs
import Derived.Lib.SmallJoins
import Derived.DataShut
import Derived.Test.YtmcekgapelanhaaGreatAlH
set_option linter.unusedVariables false
set_option linter.unusedSimpArgs false
set_option maxRecDepth 100000
namespace Go.Proofs.YtmcekgapelanhaaGreat
open Go.RowKit Big Al Tok Go.ChangeShapes Go.WideShapes Go.ChangeAt Go.Joins Go.Deep
instance:Inhabited Bk:=⟨⟨⟨#[]⟩,0,0,0,0⟩⟩
theorem lv_get {n i:Nat} (v:Nat) (h:i<n):(lv n v)[i]?=some (.int .u32 (lim v i:Nat)):=by
 unfold lv cells
 rw [List.getElem?_map,dg_get v h];rfl
set_option maxRecDepth 100000
section
variable {H:Type} {enc:TypeId × Value→H} {w:World} {base:Nat} {spare:Nat→Bool} {held:Bool}
end
end Go.Proofs.YtmcekgapelanhaaGreat
set_option maxHeartbeats 8000000
namespace Go.Proofs.YtmcekgapelanhaaGreat
open Go.RowKit Big Al Tok Ap
open Lib (hid)
theorem At.setAt {w:World} {b:Nat} {c:List Value} (h:At w b 0 c) {j:Nat} (v:Value) (hj:j<c.length):At (w.setCell ⟨b,j,none⟩ v) b 0 (c.set j v):=by
 refine ⟨fun k u hk=>?_,fun k hk=>?_,by simpa using h.lt⟩
 ·by_cases e:j=k
  ·subst e
   rw [List.getElem?_set_self hj] at hk
   injection hk with hk
   subst hk
   have:=h.cell (j:=j) (List.getElem?_eq_getElem hj)
   rw [Nat.zero_add] at this ⊢
   exact World.cell?_setCell_same _ _ _ this
  ·rw [List.getElem?_set_ne e] at hk
   rw [World.cell?_setCell_other _ _ _ _ (by intro h;injection h with h1 h2;omega)]
   exact h.range k u hk
 ·obtain ⟨h1,h2⟩:=h.there k (by simpa using hk)
  refine ⟨?_,by rw [World.frozen?_setCell];exact h2⟩
  by_cases e:j=0+k
  ·subst e
   obtain ⟨u,hu⟩:=Option.isSome_iff_exists.1 h1
   rw [World.cell?_setCell_same _ _ _ hu];rfl
  ·rw [World.cell?_setCell_other _ _ _ _ (by intro h;injection h with h1 h2;omega)];exact h1
theorem band_u32 (a b:Int):∃ m:Nat,m<BB∧Go.bits BinOp.and IntKind.u32 a b=(m:Int):=by
 have h:∃ x,Go.bits BinOp.and IntKind.u32 a b=IntKind.u32.wrap x:=by unfold Go.bits;exact ⟨_,rfl⟩
 obtain ⟨x,hx⟩:=h
 rw [IntKind.wrap_u32] at hx
 refine ⟨(x%4294967296).toNat,by unfold BB;omega,by rw [hx];omega⟩
theorem At.setAll {w:World} {b:Nat} {cs ds:List Value} (h:At w b 0 cs) (hl:ds.length=cs.length):At (w.setCells b 0 ds) b 0 ds:=by
 have hr:=World.rangeAt_setCells_same w b 0 ds (by rw [hl];exact h.there)
 refine ⟨hr,fun j hj=>⟨?_,by rw [frozen_sets];exact (h.there j (by omega)).2⟩,by rw [size_sets];exact h.lt⟩
 rw [hr j _ (List.getElem?_eq_getElem hj)];rfl
theorem sets_grown (w:World) (b:Nat) (ds:List Value):w.grownBy (w.setCells b 0 ds) (some b):=by
 have h:=below_sets (B:=b) (b:=b) (Nat.le_refl _) ds 0 w (Below.refl _ _)
 exact ⟨h.os,h.tape,h.output,h.size,fun k hk hr=>heap_sets k b (fun e=>hr (by rw [e])) ds 0 w⟩
theorem grown_sets {w w1:World} {bt b:Nat} (h:w.grownBy w1 (some bt)) (hb:w.heap.size≤b) (ds:List Value):w.grownBy (w1.setCells b 0 ds) (some bt):=by
 have h2:=below_sets (B:=b) (b:=b) (Nat.le_refl _) ds 0 w1 (Below.refl _ _)
 exact ⟨h2.os.trans h.os,h2.tape.trans h.tape,h2.output.trans h.output,Nat.le_trans h.size h2.size,fun k hk hr=>(h2.block k (by omega)).trans (h.block k hk hr)⟩
def IntP (bt at_:Nat) (w:World) (e:Ending) (w':World):Prop :=
 ∃ (z:Int) (at':Nat),z.natAbs<BB^32∧e=.returned (.agg (iZ z).toArray)∧IsTape w' bt at'∧at'≤at_+100∧w.grownBy w' (some bt)
theorem iZ_of {b:Bool} {v:Nat} (h:b=true→v≠0):∃ z:Int,z.natAbs=v∧iZ z=.bool b::lv 32 v:=by
 refine ⟨if b=true then -(v:Int) else v,by split<;>simp,?_⟩
 unfold iZ
 cases b with
 | false=>simp
 | true=>have:=h rfl;simp;omega
theorem rint_any (bt at_:Nat) (bits:Int) (w:World) (ht:IsTape w bt at_) (hat:at_<10000000000000000) (hb0:0≤bits) (hb1:bits≤1000) :
  Calls Tryz.prog 52 #[.pointer (some ⟨bt,0,none⟩),.int .i64 bits] w (IntP bt at_ w):=by
 obtain ⟨cz,V_cz⟩:∃ c:List Value,Hid (c=.bool false::lv 32 0):=⟨_,hid rfl⟩
 have hlt:=ht.lt
 have HT:=hid ht
 clear ht
 obtain ⟨B0,hB0⟩:∃ B,B=w.heap.size:=⟨_,rfl⟩
 obtain ⟨B1,hB1⟩:∃ B,B=w.heap.size+1:=⟨_,rfl⟩
 obtain ⟨w0,hw0⟩:∃ w0,w0=((w.alloc (.cells zero33 25)).alloc (.cells zero33 25)):=⟨_,rfl⟩
 have AB0:=hid (show At w0 B0 0 cz by rw [hw0];exact ((show At (w.alloc (.cells zero33 25)) B0 0 cz from (by rw [V_cz.out];exact At.zero _ _ (by simp [hB0]))).alloc _))
 have AB1:=hid (show At w0 B1 0 cz by rw [hw0];exact (show At ((w.alloc (.cells zero33 25)).alloc (.cells zero33 25)) B1 0 cz from (by rw [V_cz.out];exact At.zero _ _ (by simp [hB1]))))
 have FR:=hid (show Fr B0 w w0 by rw [hw0,hB0];exact ((Fr.start w).alloc _).alloc _)
 have FR0:=hid FR.out.le
 have l01:B0<B1:=by omega
 have hZB1:B0≤B1:=by omega
 have hZB0:B0≤B0:=Nat.le_refl _
 unfold zero33 at hw0
 have HB0:=hid hB0
 go_enter Tryz.func52,Tryz.ntmps52
 go_upto_region 2 with fail
 rw [←hw0,←hB1,←hB0]
 clear hw0 hB0 hB1
 have hB0t:bt<B0:=by have:=HB0.out;omega
 have HG:=hid (grownBy_below (row:=some bt) (show Below w.heap.size w w0 by rw [←HB0.out];exact FR.out.below))
 have ht0:IsTape w0 bt at_:=HT.out.below (by rw [←HB0.out];exact FR.out.below)
 have wb:IntKind.i64.wrap (bits+1)=bits+1:=IntWalk.i64_in _ (by omega)
 clear HT FR FR0 hZB0 hZB1
 go_wp2_with fail
 refine (next_any bt _ (bits+1) _ ht0 (by omega) (by omega)).mono ?_
 rintro e w1 ⟨u1,rfl,ht1,hg1⟩
 have hf1:=foldI_bd u1 (bits+1) (by omega)
 generalize foldI u1 (bits+1)=f1 at *
 replace AB0:=hid (AB0.out.grown hg1 (fun q hq=>by injection hq with hq;omega))
 replace AB1:=hid (AB1.out.grown hg1 (fun q hq=>by injection hq with hq;omega))
 replace HG:=hid (gBt HG.out hg1)
 have hs1:=AB1.out.lt
 clear ht0 hg1
 go_wp2_with fail
 refine (pick_any bt _ w1.heap.size 15 15 [0,1,5,20,31,32,33,64,65,100,200,400,bits,bits,f1] _ rfl (ht1.alloc _) (by omega) (by omega) (by omega) (by omega) (ints_new w1 [0,1,5,20,31,32,33,64,65,100,200,400,bits,bits,f1] _)).mono ?_
 rintro e w2 ⟨kv,hkv,rfl,ht2,hg2⟩
 have hk:0≤kv∧kv≤1001:=by
  simp only [List.mem_cons,List.not_mem_nil,or_false] at hkv
  omega
 have hg2':=grownBy_via (grownBy_refl w1 (some bt)) _ hg2
 replace AB0:=hid (AB0.out.grown hg2' (fun q hq=>by injection hq with hq;omega))
 replace AB1:=hid (AB1.out.grown hg2' (fun q hq=>by injection hq with hq;omega))
 replace HG:=hid (gBt HG.out hg2')
 clear ht1 hg2 hg2' hkv hf1 hs1
 go_upto_region 4 with fail
 obtain ⟨N,hN⟩:∃ N,N=if bits<kv then bits else kv:=⟨_,rfl⟩
 have hNb:0≤N∧N≤1000:=by rw [hN];split<;>omega
 rw [←hN]
 obtain ⟨w3,hw3⟩:∃ x,x=w2:=⟨_,rfl⟩
 rw [←hw3] at ht2 AB0 AB1 HG ⊢
 clear hN hk hb0 hb1 wb hw3
 go_wp2
 go_loopg [7] 33 (fun m iv wr=>∃ (i V at':Nat) (cx:List Value),iv=.int .i64 (i:Int)∧i≤32∧33≤m+i∧V<BB^32∧cx=.bool false::lv 32 V∧At wr B1 0 cx∧At wr B0 0 cz∧IsTape wr bt at'∧at'≤at_+2+2*i∧w.grownBy wr (some bt))
 case atStart=>exact ⟨0,0,_,cz,rfl,by omega,by omega,BP _,V_cz.out,AB1.out,AB0.out,ht2,by omega,HG.out⟩
 case round =>
  clear AB0 AB1 HG ht2
  obtain ⟨i,V,at',cx,rfl,hi,hm,hV,hcx,hA1,hA0,ht3,hat3,hG⟩:=hrel
  have V_cx:=hid hcx
  have AB1:=hid hA1
  have AB0:=hid hA0
  have HG:=hid hG
  have HV:=hid hV
  clear hcx hA1 hA0 hG hV
  have wm:IntKind.i64.wrap (32*(i:Int))=32*(i:Int):=IntWalk.i64_in _ (by omega)
  by_cases hlt2:32*(i:Int)<N
  ·have hi32:i<32:=by omega
   go_wp2_with fail
   refine (next_any bt _ 4294967296 _ ht3 (by omega) (by omega)).mono ?_
   rintro e w4 ⟨u2,rfl,ht4,hg4⟩
   have hf2:=foldI_bd u2 4294967296 (by omega)
   generalize foldI u2 4294967296=f2 at *
   obtain ⟨d,rfl⟩:=Int.eq_ofNat_of_zero_le hf2.1
   have wd:IntKind.u32.wrap (d:Int)=(d:Int):=by rw [IntKind.wrap_u32];omega
   replace AB0:=hid (AB0.out.grown hg4 (fun q hq=>by injection hq with hq;omega))
   replace AB1:=hid (AB1.out.grown hg4 (fun q hq=>by injection hq with hq;omega))
   replace HG:=hid (gBt HG.out hg4)
   clear ht3 hg4
   go_wp2_with fail
   refine (next_any bt _ 9 _ ht4 (by omega) (by omega)).mono ?_
   rintro e w5 ⟨u3,rfl,ht5,hg5⟩
   have hf3:=foldI_bd u3 9 (by omega)
   generalize foldI u3 9=f3 at *
   replace AB0:=hid (AB0.out.grown hg5 (fun q hq=>by injection hq with hq;omega))
   replace AB1:=hid (AB1.out.grown hg5 (fun q hq=>by injection hq with hq;omega))
   replace HG:=hid (gBt HG.out hg5)
   have hdb:d<BB:=by unfold BB;omega
   have HDB:=hid hdb
   obtain ⟨w6,hw6⟩:∃ x,x=w5:=⟨_,rfl⟩
   rw [←hw6] at ht5 AB0 AB1 HG ⊢
   clear ht4 hg5 hf2 hf3 wd hdb hw6
   go_upto_block 2 with fail
   go_cut [8] from 22 to 52 (fun t wx=>∃ d':Nat,d'<BB∧t=.int .u32 (d':Int)∧wx=w6)
   case first =>
    go_wp2
    all_goals go_meet
    all_goals first|exact ⟨d,HDB.out,rfl,rfl⟩|exact ⟨0,BB_pos,rfl,rfl⟩|exact ⟨4294967295,by unfold BB;omega,rfl,rfl⟩
   case rest =>
    obtain ⟨d',hd',rfl,rfl⟩:=hcut
    clear HDB
    have HD:=hid hd'
    obtain ⟨L,hL⟩:∃ L,L=N - 32*(i:Int):=⟨_,rfl⟩
    have wl:IntKind.i64.wrap (N - 32*(i:Int))=L:=by rw [IntWalk.i64_in _ (by omega)];exact hL.symm
    have hLb:0<L∧L≤1000:=by omega
    have HLL:=hid hL
    clear hL
    have key:∀ (m:Nat),m<BB→∃ (V':Nat) (cx':List Value),V'<BB^32∧cx'=.bool false::lv 32 V'∧At (wc.setCell ⟨B1,1+i,none⟩ (.int .u32 (m:Int))) B1 0 cx'∧At (wc.setCell ⟨B1,1+i,none⟩ (.int .u32 (m:Int))) B0 0 cz∧IsTape (wc.setCell ⟨B1,1+i,none⟩ (.int .u32 (m:Int))) bt (at'+1+1)∧w.grownBy (wc.setCell ⟨B1,1+i,none⟩ (.int .u32 (m:Int))) (some bt):=by
     intro m hm
     refine ⟨upd V i m,.bool false::lv 32 (upd V i m),upd_lt HV.out hi32 hm,rfl,?_,AB0.out.putOther _ _ (by show B1≠B0;omega),ht5.grown (grownBy_setCell (bt:=B1) ⟨B1,1+i,none⟩ rfl _) (fun q hq=>by injection hq with hq;omega),?_⟩
     ·have h:=AB1.out.setAt (j:=1+i) (.int .u32 (m:Int)) (by rw [V_cx.out,List.length_cons,qlL];omega)
      rw [V_cx.out,Nat.add_comm 1 i,List.set_cons_succ] at h
      rw [Nat.add_comm 1 i]
      have e:(lv 32 V).set i (.int .u32 (m:Int))=lv 32 (upd V i m):=by
       unfold lv cells
       rw [←dg_upd hi32 hm,List.map_set]
      rw [e] at h;exact h
     ·have hgl:=HG.out
      refine ⟨hgl.os,hgl.tape,hgl.output,by simpa using hgl.size,fun k hk hr=>?_⟩
      rw [Below.heap_setCell _ _ _ _ (by show k≠B1;have:=HB0.out;omega)]
      exact hgl.block k hk hr
    have KEY:=hid key
    have hcel:∃ v,wc.cell? ⟨B1,1+i,none⟩=some v:=by
     have:=(AB1.out.there (1+i) (by rw [V_cx.out,List.length_cons,qlL];omega)).1
     rw [Nat.zero_add] at this
     exact Option.isSome_iff_exists.1 this
    obtain ⟨ov,hov⟩:=hcel
    have hfz:wc.frozen? ⟨B1,1+i,none⟩=false:=by
     have:=(AB1.out.there (1+i) (by rw [V_cx.out,List.length_cons,qlL];omega)).2
     rwa [Nat.zero_add] at this
    clear key hd'
    by_cases h32:L<32
    ·go_upto_region 16 with fail
     obtain ⟨m,hm2,hme⟩:=band_u32 (d':Int) ((2^L.toNat - 1)%4294967296)
     rw [hme]
     obtain ⟨V',cx',k1,k2,k3,k4,k5,k6⟩:=KEY.out m hm2
     have HK:=hid (And.intro k1 (And.intro k2 (And.intro k3 (And.intro k4 (And.intro k5 k6)))))
     clear hme k1 k2 k3 k4 k5 k6
     go_wp2
     go_roundg (gk - 1)
     case measure=>omega
     case rel=>exact ⟨i+1,V',_,cx',by go_num,by omega,by omega,HK.out.1,HK.out.2.1,HK.out.2.2.1,HK.out.2.2.2.1,HK.out.2.2.2.2.1,by omega,HK.out.2.2.2.2.2⟩
    ·go_upto_region 16 with fail
     obtain ⟨V',cx',k1,k2,k3,k4,k5,k6⟩:=KEY.out d' HD.out
     have HK:=hid (And.intro k1 (And.intro k2 (And.intro k3 (And.intro k4 (And.intro k5 k6)))))
     clear k1 k2 k3 k4 k5 k6
     go_wp2
     go_roundg (gk - 1)
     case measure=>omega
     case rel=>exact ⟨i+1,V',_,cx',by go_num,by omega,by omega,HK.out.1,HK.out.2.1,HK.out.2.2.1,HK.out.2.2.2.1,HK.out.2.2.2.2.1,by omega,HK.out.2.2.2.2.2⟩
  ·go_upto_region 17 with fail
   clear hm wm hlt2 hNb
   go_cut [] from 53 to 60 (fun wx=>∃ (z:Int) (at2:Nat) (cy:List Value),z.natAbs<BB^32∧cy=iZ z∧At wx B1 0 cy∧At wx B0 0 cz∧IsTape wx bt at2∧at2≤at_+90∧w.grownBy wx (some bt))
   case first =>
    go_wp2_with fail
    refine (chance_any bt _ 1 3 _ ht3 (by omega) (by omega)).mono ?_
    rintro e w4 ⟨ch,rfl,ht4,hg4⟩
    replace AB0:=hid (AB0.out.grown hg4 (fun q hq=>by injection hq with hq;omega))
    replace AB1:=hid (AB1.out.grown hg4 (fun q hq=>by injection hq with hq;omega))
    replace HG:=hid (gBt HG.out hg4)
    clear ht3 hg4
    have HT4:=hid ht4
    clear ht4
    have key:∀ (W:World),At W B1 0 cx→At W B0 0 cz→IsTape W bt (at'+1)→w.grownBy W (some bt)→∀ (b:Bool),(b=true→V≠0)→∃ (z:Int) (at2:Nat) (cy:List Value),z.natAbs<BB^32∧cy=iZ z∧At (W.setCell ⟨B1,0,none⟩ (.bool b)) B1 0 cy∧At (W.setCell ⟨B1,0,none⟩ (.bool b)) B0 0 cz∧IsTape (W.setCell ⟨B1,0,none⟩ (.bool b)) bt at2∧at2≤at_+90∧w.grownBy (W.setCell ⟨B1,0,none⟩ (.bool b)) (some bt):=by
     intro W hA1 hA0 hT hgl b hbv
     obtain ⟨z,hz1,hz2⟩:=iZ_of hbv
     refine ⟨z,at'+1,.bool b::lv 32 V,by rw [hz1];exact HV.out,hz2.symm,?_,hA0.putOther _ _ (by show B1≠B0;omega),hT.grown (grownBy_setCell (bt:=B1) ⟨B1,0,none⟩ rfl _) (fun q hq=>by injection hq with hq;omega),by omega,?_⟩
     ·have h:=hA1.setAt (j:=0) (.bool b) (by rw [V_cx.out,List.length_cons,qlL];omega)
      rw [V_cx.out,List.set_cons_zero] at h
      exact h
     ·refine ⟨hgl.os,hgl.tape,hgl.output,by simpa using hgl.size,fun k hk hr=>?_⟩
      rw [Below.heap_setCell _ _ _ _ (by show k≠B1;have:=HB0.out;omega)]
      exact hgl.block k hk hr
    have KEY:=hid key
    clear key
    have hfz:∀ W,At W B1 0 cx→W.frozen? ⟨B1,0,none⟩=false:=fun W hA=>by
     have:=(hA.there 0 (by rw [V_cx.out,List.length_cons,qlL];omega)).2
     rwa [Nat.zero_add] at this
    have HFZ:=hid hfz
    clear hfz hi hat3
    cases ch with
    | false =>
     have hneg:=AB1.out.neg V_cx.out
     have hfn:=HFZ.out _ AB1.out
     have HR:=hid (KEY.out _ AB1.out AB0.out HT4.out HG.out false (fun h=>by cases h))
     go_wp2
     go_meet
     exact HR.out
    | true =>
     obtain ⟨sg,hsg⟩:∃ s,s=sgnI false V:=⟨_,rfl⟩
     have HSG:=hid (sign_op V_cx.out hsg HV.out)
     by_cases hv0:V=0
     ·have hsn:(sg != 0)=false:=by rw [hsg,hv0];rfl
      have HV0:=hid hv0
      clear hsg hv0
      go_wp2_with (first|(refine wpList_load_guard (by rfl) _ _ rfl B1 0 rfl cx _ AB1.out.range Tryz.underlying25 rfl (qI V_cx.out) ?_)|(go_at_call 53;refine (HSG.out _).mono ?_;rintro e w9 ⟨rfl,hb9⟩;have A9:=hid (AB1.out.below hb9);have hneg:=A9.out.neg V_cx.out;have hfn:=HFZ.out _ A9.out;have HR:=hid (KEY.out _ A9.out (AB0.out.below hb9) (HT4.out.below hb9) (gBt HG.out (grownBy_below hb9 _)) false (fun h=>by cases h));clear hb9))
      go_meet
      exact HR.out
     ·have hsn:(sg != 0)=true:=by rw [hsg];unfold sgnI;simp [hv0]
      have HV0:=hid hv0
      clear hsg hv0
      go_wp2_with (first|(refine wpList_load_guard (by rfl) _ _ rfl B1 0 rfl cx _ AB1.out.range Tryz.underlying25 rfl (qI V_cx.out) ?_)|(go_at_call 53;refine (HSG.out _).mono ?_;rintro e w9 ⟨rfl,hb9⟩;have A9:=hid (AB1.out.below hb9);have hneg:=A9.out.neg V_cx.out;have hfn:=HFZ.out _ A9.out;have HR:=hid (KEY.out _ A9.out (AB0.out.below hb9) (HT4.out.below hb9) (gBt HG.out (grownBy_below hb9 _)) true (fun _=>HV0.out));clear hb9))
      go_meet
      exact HR.out
   case rest =>
    clear AB0 AB1 HG ht3 HV V_cx hat3 hi
    obtain ⟨z,at2,cy,hz,hcy,hA1,hA0,hT,hat2,hG⟩:=hcut
    have V_cy:=hid (show cy=.bool (decide (z<0))::lv 32 z.natAbs from hcy)
    have AB1:=hid hA1
    have AB0:=hid hA0
    have hlc:cy.length=cz.length:=by rw [hcy,V_cz.out];simp [iZ,qlL]
    have AS:=hid (hA0.setAll hlc)
    have HE:=hid (show IntP bt at_ w (.returned (.agg cy.toArray)) (wc.setCells B0 0 cy) from ⟨z,at2,hz,by rw [hcy],hT.grown (sets_grown _ _ _) (fun q hq=>by injection hq with hq;omega),by omega,grown_sets hG (by rw [HB0.out];exact Nat.le_refl _) _⟩)
    have HTH:=hid (show wc.there B0 0 cy.toArray.size by rw [List.size_toArray,hlc];exact hA0.there)
    have HSZ:=hid (show (Tryz.prog.info? 25).map (·.size)=some cy.toArray.size by rw [List.size_toArray];exact qI V_cy.out)
    clear hz hcy hA1 hA0 hT hat2 hG hlc
    go_wp2_with (first|(refine wpList_load_mid rfl _ _ rfl B1 0 rfl cy _ AB1.out.range Tryz.underlying25 rfl (qI V_cy.out) ?_)|(refine wpList_store_mid rfl _ _ _ rfl B0 0 _ rfl rfl HTH.out HSZ.out (oneI V_cy.out) ?_))
    have hld:=AS.out.read (P:=Tryz.prog) Tryz.underlying25 rfl (qI V_cy.out)
    refine bodyPost_ret (v:=.agg cy.toArray) (by simp [results,Tryz.results52,asAddr,hld,Act.put]) rfl ?_
    exact HE.out
end Go.Proofs.YtmcekgapelanhaaGreat
