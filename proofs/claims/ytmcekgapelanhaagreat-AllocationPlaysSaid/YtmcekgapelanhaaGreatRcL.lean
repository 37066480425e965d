import Derived.Test.YtmcekgapelanhaaGreatRcJ
import Derived.Test.YtmcekgapelanhaaGreatAlR
set_option linter.unusedVariables false
set_option linter.unusedSimpArgs false
set_option maxRecDepth 100000
set_option maxHeartbeats 8000000
namespace Go.Proofs.YtmcekgapelanhaaGreat
open Go.RowKit Big Al Tok Ap
open Lib (hid)
def IsRat (c:List Value):Prop:=∃ (a b:Bool) (p q:Nat),c=rat a p b q∧p<BB^32∧q<BB^32
theorem isRat_res (o:Option Qn) (h:∀ r,o=some r→r.1.natAbs<BB^32∧r.2<BB^32):IsRat (resR o):=by
 cases o with
 | none=>exact ⟨false,false,0,0,rfl,BP _,BP _⟩
 | some r=>exact ⟨_,_,_,_,rfl,(h r rfl).1,(h r rfl).2⟩
theorem isRat_mk (N:Int) (D:Nat) (h0:D≠0):IsRat (resR (mkQ N D)) :=
 isRat_res _ fun r h=>by have:=mkQ_valid h0 h;exact ⟨b480_bb this.num,b480_bb this.den⟩
theorem range_grown {w w':World} {b bt o:Nat} {cs:List Value} (h:w.rangeAt b o cs) (hg:w.grownBy w' (some bt)) (hb:b≠bt):w'.rangeAt b o cs:=fun j v hj=>hg.cell (h j v hj) (by simpa using hb)
def RatP (bt at_ k:Nat) (w:World) (e:Ending) (w':World):Prop :=
 ∃ (c:List Value) (at':Nat),IsRat c∧e=.returned (.agg c.toArray)∧IsTape w' bt at'∧at'≤at_+k∧w.grownBy w' (some bt)
theorem pickr_any (bt at_ g cap:Nat) (c0 c1 c2:List Value) (h0:IsRat c0) (h1:IsRat c1) (h2:IsRat c2) (w:World) (ht:IsTape w bt at_) (hat:at_<10000000000000000) (hg:g≠bt) (r0:w.rangeAt g 0 c0) (r1:w.rangeAt g 66 c1) (r2:w.rangeAt g 132 c2) :
  Calls Tryz.prog 17 #[.pointer (some ⟨bt,0,none⟩),.slice (some ⟨g,0,none⟩) 3 cap] w (RatP bt at_ 1 w):=by
 obtain ⟨cz,V_cz⟩:∃ c:List Value,Hid (c=rat false 0 false 0):=⟨_,hid rfl⟩
 have hlt:=ht.lt
 have HT:=hid ht
 have HR:=hid (show ∀ k,k<3→∃ c,IsRat c∧w.rangeAt g (k*66) c from fun k hk=>by
  have:k=0∨k=1∨k=2:=by omega
  rcases this with rfl|rfl|rfl
  ·exact ⟨c0,h0,r0⟩
  ·exact ⟨c1,h1,r1⟩
  ·exact ⟨c2,h2,r2⟩)
 clear ht r0 r1 r2 h0 h1 h2
 obtain ⟨B0,hB0⟩:∃ B,B=w.heap.size:=⟨_,rfl⟩
 obtain ⟨w0,hw0⟩:∃ w0,w0=(w.alloc (.cells Tryz.zeroCells27 27)):=⟨_,rfl⟩
 have AB0:=hid (show At w0 B0 0 cz by rw [hw0];exact (show At (w.alloc (.cells Tryz.zeroCells27 27)) B0 0 cz from (by rw [Tryz.zeroR,V_cz.out];exact At.fresh _ (rat false 0 false 0) _ (by simp [hB0]))))
 have FR:=hid (show Fr B0 w w0 by rw [hw0,hB0];exact (Fr.start w).alloc _)
 have FR0:=hid FR.out.le
 have hZB0:B0≤B0:=Nat.le_refl _
 have HB0:=hid hB0
 go_enter Tryz.func17,Tryz.ntmps17
 go_upto_region 1 with fail
 rw [←hw0,←hB0]
 clear hw0 hB0
 have hB0t:bt<B0:=by have:=HB0.out;omega
 have HG:=hid (grownBy_below (row:=some bt) (show Below w.heap.size w w0 by rw [←HB0.out];exact FR.out.below))
 have hb0:Below w.heap.size w w0:=by rw [←HB0.out];exact FR.out.below
 have ht0:IsTape w0 bt at_:=HT.out.below hb0
 have HR0:=hid (fun k hk=>show ∃ c,IsRat c∧w0.rangeAt g (k*66) c from by obtain ⟨c,h1,h2⟩:=HR.out k hk;exact ⟨c,h1,ranges_up h2 hb0⟩)
 clear HT FR FR0 hZB0 hb0 HR
 go_wp2_with fail
 refine (next_any bt _ 3 _ ht0 (by omega) (by omega)).mono ?_
 rintro e w1 ⟨u1,rfl,ht1,hg1⟩
 have hf1:=foldI_bd u1 3 (by omega)
 generalize foldI u1 3=f1 at *
 obtain ⟨k,rfl⟩:=Int.eq_ofNat_of_zero_le hf1.1
 have hk:k<3:=by omega
 obtain ⟨cR,⟨ra,rb,rp,rq,hcR,hp,hq⟩,hrg⟩:=HR0.out k hk
 have V_cR:=hid hcR
 have HRG:=hid (range_grown hrg hg1 hg)
 replace AB0:=hid (AB0.out.grown hg1 (fun q hq=>by injection hq with hq;omega))
 have hG2:=gBt HG.out hg1
 have hlc:cR.length=cz.length:=by rw [hcR,V_cz.out];simp [rat,qlL]
 have AS:=hid (AB0.out.setAll hlc)
 have HE:=hid (show RatP bt at_ 1 w (.returned (.agg cR.toArray)) (w1.setCells B0 0 cR) from ⟨cR,at_+1,⟨ra,rb,rp,rq,hcR,hp,hq⟩,rfl,ht1.grown (sets_grown _ _ _) (fun q hq=>by injection hq with hq;omega),by omega,grown_sets hG2 (by rw [HB0.out];exact Nat.le_refl _) _⟩)
 have HTH:=hid (show w1.there B0 0 cR.toArray.size by rw [List.size_toArray,hlc];exact AB0.out.there)
 have HSZ:=hid (show (Tryz.prog.info? 27).map (·.size)=some cR.toArray.size by rw [List.size_toArray];exact qR V_cR.out)
 clear hcR hp hq hrg hG2 hlc ht1 ht0 hg1 HG HR0 hf1
 go_wp2_with (first|(refine wpList_load_mid rfl _ _ rfl g (k*66) rfl cR _ HRG.out Tryz.underlying27 rfl (qR V_cR.out) ?_)|(refine wpList_store_mid rfl _ _ _ rfl B0 0 _ rfl rfl HTH.out HSZ.out (oneR V_cR.out) ?_))
 have hld:=AS.out.read (P:=Tryz.prog) Tryz.underlying27 rfl (qR V_cR.out)
 refine bodyPost_ret (v:=.agg cR.toArray) (by simp [results,Tryz.results17,asAddr,hld,Act.put]) rfl ?_
 exact HE.out
theorem wpList_newI {ops:Array Oper} {rest:List Oper} {o1 o2:Oper} {a:Act} {w:World} {Q:Exit→Act→World→Prop} (hg1:o1.guard=none) (hg2:o2.guard=none) (ho1:o1.op=.alloc 25) {x y:Operand} (ho2:o2.op=.store 25 x y) {cs:List Value}
  (hx:(a.put o1.dst (.pointer (some ⟨w.heap.size,0,none⟩))).eval x=.pointer (some ⟨w.heap.size,0,none⟩)) (hy:(a.put o1.dst (.pointer (some ⟨w.heap.size,0,none⟩))).eval y=.agg cs.toArray) (hs:(Tryz.prog.info? 25).map (·.size)=some cs.length) (h1:cs.toArray.all (·.oneCell')=true)
  (h:∀ w',Below w.heap.size w w'→At w' w.heap.size 0 cs→w'.heap.size=w.heap.size+1→wpList Tryz.prog ops Q rest ((a.put o1.dst (.pointer (some ⟨w.heap.size,0,none⟩))).put o2.dst undef) w'):wpList Tryz.prog ops Q (o1::o2::rest) a w:=by
 obtain ⟨z,hL,hz⟩:=Tryz.alI hs
 refine wpList_plain hg1 fun K hK=>?_
 have hrun:=hL o1 ho1 a w
 unfold Oper.wp
 rw [hrun]
 refine hK _ _ ?_
 have hA:At (w.alloc (.cells z 25)) w.heap.size 0 z.toList:=by have:=At.fresh w z.toList 25 rfl;simpa using this
 have hth:(w.alloc (.cells z 25)).there w.heap.size 0 cs.length:=fun j hj=>hA.there j (by simp;omega)
 refine wpList_store_mid hg2 _ _ _ ho2 w.heap.size 0 cs.toArray hx hy (by simpa using hth) (by simpa using hs) h1 ?_
 refine h _ ?_ ?_ (by simp [size_sets])
 ·exact below_sets (Nat.le_refl _) _ _ _ ((Below.refl _ _).alloc (Nat.le_refl _) _)
 ·exact ⟨World.rangeAt_setCells_same _ _ _ _ hth,World.there_setCells hth _ _ _,by rw [size_sets];simp⟩
theorem wtD {P:Program} {md:Region.Mode} {ops:Array Oper} {Q:Exit→Act→World→Prop} {S:World→Prop} (d:Option Tmp) {i:Nat} {oi:Oper} (hd:oi.dst=d) {v:Value} {fuel:Nat} {listed:Array Bool} {a:Act} {w:World} (hi:ops[i]?=some oi)
  (hs:Region.noSelect ops=true) (hf:Region.free md ops listed i=true) (hr:(Region.ready md ops listed).contains i=true)
  (hQ:∀ c a w,Q (.panic c) (a.put oi.dst v) w→Q (.panic c) a w) (hy:YieldsIf P ops S oi v a) (hS:S w)
  (h:wpAnyH P md ops Q S fuel (listed.setIfInBounds i true) (a.put d v) w):wpAnyH P md ops Q S (fuel+1) listed a w:=by
 subst hd;exact wpAnyH_take hi hs hf hr hQ hy hS h
theorem wAt {P:Program} {md:Region.Mode} {ops:Array Oper} {Q:Exit→Act→World→Prop} {S:World→Prop} {fuel:Nat} {listed:Array Bool} {a:Act} {w:World} (L:Array Bool) (n:Nat) (a':Act) (hl:listed=L) (hn:fuel=n) (ha:a=a') (h:wpAnyH P md ops Q S n L a' w):wpAnyH P md ops Q S fuel listed a w:=by
 subst hl hn ha;exact h
theorem rratio_any (bt at_:Nat) (w:World) (ht:IsTape w bt at_) (hat:at_<1000000000000000) :
  Calls Tryz.prog 19 #[.pointer (some ⟨bt,0,none⟩)] w (RatP bt at_ 300 w):=by
 obtain ⟨cz,V_cz⟩:∃ c:List Value,Hid (c=rat false 0 false 0):=⟨_,hid rfl⟩
 have hlt:=ht.lt
 have HT:=hid ht
 clear ht
 obtain ⟨B0,hB0⟩:∃ B,B=w.heap.size:=⟨_,rfl⟩
 obtain ⟨w0,hw0⟩:∃ w0,w0=(w.alloc (.cells Tryz.zeroCells27 27)):=⟨_,rfl⟩
 have AB0:=hid (show At w0 B0 0 cz by rw [hw0];exact (show At (w.alloc (.cells Tryz.zeroCells27 27)) B0 0 cz from (by rw [Tryz.zeroR,V_cz.out];exact At.fresh _ (rat false 0 false 0) _ (by simp [hB0]))))
 have FR:=hid (show Fr B0 w w0 by rw [hw0,hB0];exact (Fr.start w).alloc _)
 have FR0:=hid FR.out.le
 have hZB0:B0≤B0:=Nat.le_refl _
 have HB0:=hid hB0
 go_enter Tryz.func19,Tryz.ntmps19
 go_upto_region 1 with fail
 rw [←hw0,←hB0]
 clear hw0 hB0
 have hB0t:bt<B0:=by have:=HB0.out;omega
 have HG:=hid (grownBy_below (row:=some bt) (show Below w.heap.size w w0 by rw [←HB0.out];exact FR.out.below))
 have ht0:IsTape w0 bt at_:=HT.out.below (by rw [←HB0.out];exact FR.out.below)
 clear HT FR FR0 hZB0
 go_wp2_with fail
 refine (chance_any bt _ 1 6 _ ht0 (by omega) (by omega)).mono ?_
 rintro e w1 ⟨ch,rfl,ht1,hg1⟩
 replace AB0:=hid (AB0.out.grown hg1 (fun q hq=>by injection hq with hq;omega))
 replace HG:=hid (gBt HG.out hg1)
 clear ht0 hg1
 cases ch with
 | false =>
  go_wp2_with fail
  refine (range_any bt _ (-200) 400 _ ht1 (by omega) (by omega) (by omega) (by omega)).mono ?_
  rintro e w2 ⟨x,hx1,hx2,rfl,ht2,hg2⟩
  replace AB0:=hid (AB0.out.grown hg2 (fun q hq=>by injection hq with hq;omega))
  replace HG:=hid (gBt HG.out hg2)
  have hs2:=AB0.out.lt
  clear ht1 hg2
  go_wp2_with fail
  refine (pick_any bt _ w2.heap.size 5 5 [1,1,1,1000,1000003] _ rfl (ht2.alloc _) (by omega) (by omega) (by omega) (by omega) (ints_new w2 [1,1,1,1000,1000003] _)).mono ?_
  rintro e w3 ⟨s,hs,rfl,ht3,hg3⟩
  have hg3':=grownBy_via (grownBy_refl w2 (some bt)) _ hg3
  replace AB0:=hid (AB0.out.grown hg3' (fun q hq=>by injection hq with hq;omega))
  replace HG:=hid (gBt HG.out hg3')
  have hs3:=AB0.out.lt
  have hxs:-1000000000≤x*s∧x*s≤1000000000:=by
   simp only [List.mem_cons,List.not_mem_nil,or_false] at hs
   rcases hs with rfl|rfl|rfl|rfl|rfl<;>omega
  obtain ⟨y,hy⟩:∃ y,y=x*s:=⟨_,rfl⟩
  have wy:IntKind.i64.wrap (x*s)=y:=by rw [IntWalk.i64_in _ (by omega)];exact hy.symm
  rw [←hy] at hxs
  clear ht2 hg3 hg3' hs hy
  go_wp2_with fail
  refine (pick_any bt _ w3.heap.size 13 13 [1,1,2,3,4,7,10,12,100,365,366,1000,1000000] _ rfl (ht3.alloc _) (by omega) (by omega) (by omega) (by omega) (ints_new w3 [1,1,2,3,4,7,10,12,100,365,366,1000,1000000] _)).mono ?_
  rintro e w4 ⟨dd,hdd,rfl,ht4,hg4⟩
  have hg4':=grownBy_via (grownBy_refl w3 (some bt)) _ hg4
  replace AB0:=hid (AB0.out.grown hg4' (fun q hq=>by injection hq with hq;omega))
  replace HG:=hid (gBt HG.out hg4')
  have hdb:0<dd∧dd≤1000000:=by simp only [List.mem_cons,List.not_mem_nil,or_false] at hdd;omega
  obtain ⟨d,rfl⟩:=Int.eq_ofNat_of_zero_le (show 0≤dd by omega)
  obtain ⟨cR,hcR⟩:∃ c,c=resR (mkQ y d):=⟨_,rfl⟩
  obtain ⟨ra,rb,rp,rq,hrr,hp,hq⟩:=isRat_mk y d (by omega)
  rw [←hcR] at hrr
  have V_cR:=hid hrr
  have HOF:=hid (mofQ (y:=(d:Int)) rfl (by omega) hcR (by omega) (by omega) (by omega))
  have hlc:cR.length=cz.length:=by rw [hrr,V_cz.out];simp [rat,qlL]
  have HAF:=hid (show ∀ W,Below w4.heap.size w4 W→At (W.setCells B0 0 cR) B0 0 cR∧W.there B0 0 cR.toArray.size∧RatP bt at_ 300 w (.returned (.agg cR.toArray)) (W.setCells B0 0 cR) from fun W hW=>by
   have hA:=AB0.out.below hW
   exact ⟨hA.setAll hlc,by rw [List.size_toArray,hlc];exact hA.there,cR,_,⟨ra,rb,rp,rq,hrr,hp,hq⟩,rfl,(ht4.below hW).grown (sets_grown _ _ _) (fun q hq=>by injection hq with hq;omega),by omega,grown_sets (gBt HG.out (grownBy_below hW _)) (by rw [HB0.out];exact Nat.le_refl _) _⟩)
  have HSZ:=hid (show (Tryz.prog.info? 27).map (·.size)=some cR.toArray.size by rw [List.size_toArray];exact qR V_cR.out)
  clear hcR hrr hp hq hlc ht3 hg4 hg4' hdd ht4
  go_wp2_with (first|(go_at_call 45;refine (HOF.out _).mono ?_;rintro e w5 ⟨rfl,hb5⟩)|(refine wpList_store_mid rfl _ _ _ rfl B0 0 _ rfl rfl (HAF.out _ hb5).2.1 HSZ.out (oneR V_cR.out) ?_))
  have AS:=hid (HAF.out _ hb5).1
  have hld:=AS.out.read (P:=Tryz.prog) Tryz.underlying27 rfl (qR V_cR.out)
  refine bodyPost_ret (v:=.agg cR.toArray) (by simp [results,Tryz.results19,asAddr,hld,Act.put]) rfl ?_
  exact (HAF.out _ hb5).2.2
 | true =>
  go_wp2_with fail
  refine (rint_any bt _ 200 _ ht1 (by omega) (by omega) (by omega)).mono ?_
  rintro e w2 ⟨z,at2,hz,rfl,ht2,ha2,hg2⟩
  replace AB0:=hid (AB0.out.grown hg2 (fun q hq=>by injection hq with hq;omega))
  replace HG:=hid (gBt HG.out hg2)
  have HAB0L:=hid AB0.out.lt
  obtain ⟨ca,hca⟩:∃ c,c=iZ z:=⟨_,rfl⟩
  rw [←hca]
  obtain ⟨cb,V_cb⟩:∃ c:List Value,Hid (c=iZ (z.natAbs:Int)):=⟨_,hid rfl⟩
  have HAB:=hid (rabsZ hca V_cb.out hz)
  have V_cb2:=hid (show cb=.bool false::lv 32 z.natAbs by rw [V_cb.out,iZ_nat])
  have HZ:=hid hz
  clear ht1 hg2 hca hz
  have HT2:=hid ht2
  clear ht2
  go_upto_region 3 with (first|(go_at_call 51;refine (HAB.out _).mono ?_;rintro e w3 ⟨rfl,hb3⟩)|(refine wpList_newI rfl rfl rfl rfl rfl rfl (qI V_cb2.out) (oneI V_cb2.out) ?_;intro w4 hb4 hA4 hs4))
  obtain ⟨b3,hq3⟩:∃ b,b=w3.heap.size:=⟨_,rfl⟩
  rw [←hq3] at hA4 ⊢
  have hb34:=hb3.trans (hb4.mono hb3.size)
  replace AB0:=hid (AB0.out.below hb34)
  replace HG:=hid (gBt HG.out (grownBy_below hb34 _))
  have ht4:=hid (HT2.out.below hb34)
  have hb3t:B0<b3:=by rw [hq3];have h1:=HAB0L.out;have:=hb3.size;omega
  have AB3:=hid hA4
  clear hb3 hb4 hA4 hs4 hq3 hb34 HT2 HAB HAB0L
  have HSG:=hid (fun s (hs:s=sgnI false z.natAbs)=>sign_op V_cb2.out hs HZ.out)
  obtain ⟨sg,hsg⟩:∃ s,s=sgnI false z.natAbs:=⟨_,rfl⟩
  have HS:=hid hsg
  have HSG2:=hid (sign_op V_cb2.out hsg HZ.out)
  clear hsg HSG
  go_upto_if 13 with (first|(refine wpList_load_mid rfl _ _ rfl b3 0 rfl cb _ AB3.out.range Tryz.underlying25 rfl (qI V_cb2.out) ?_)|(go_at_call 53;refine (HSG2.out _).mono ?_;rintro e w5 ⟨rfl,hb5⟩))
  replace AB0:=hid (AB0.out.below hb5)
  replace AB3:=hid (AB3.out.below hb5)
  replace HG:=hid (gBt HG.out (grownBy_below hb5 _))
  replace ht4:=hid (ht4.out.below hb5)
  clear hb5
  go_cut [] from 11 to 14 (fun wx=>∃ (D:Nat) (cd:List Value),cd=.bool false::lv 32 D∧D≠0∧D<BB^32∧At wx b3 0 cd∧At wx B0 0 cz∧IsTape wx bt at2∧w.grownBy wx (some bt))
  case first =>
   by_cases hz0:z.natAbs=0
   ·have hs0:(sg==0)=true:=by rw [HS.out,hz0];rfl
    obtain ⟨c1,V_c1⟩:∃ c:List Value,Hid (c=iZ 1):=⟨_,hid rfl⟩
    have HF1:=hid (rfromZ V_c1.out (by decide) (by decide))
    have V_c12:=hid (show c1=.bool false::lv 32 1 from V_c1.out)
    have hlc:c1.length=cb.length:=by rw [V_c12.out,V_cb2.out];simp [qlL]
    have HAF:=hid (show ∀ W,Below w5.heap.size w5 W→W.there b3 0 c1.toArray.size∧(∃ (D:Nat) (cd:List Value),cd=.bool false::lv 32 D∧D≠0∧D<BB^32∧At (W.setCells b3 0 c1) b3 0 cd∧At (W.setCells b3 0 c1) B0 0 cz∧IsTape (W.setCells b3 0 c1) bt at2∧w.grownBy (W.setCells b3 0 c1) (some bt)) from fun W hW=>by
     have hA:=AB3.out.below hW
     exact ⟨by rw [List.size_toArray,hlc];exact hA.there,1,c1,V_c12.out,by decide,Nat.one_lt_pow (by omega) (by unfold BB;decide),hA.setAll hlc,(AB0.out.below hW).sets (by omega) _ _,(ht4.out.below hW).grown (sets_grown _ _ _) (fun q hq=>by injection hq with hq;omega),grown_sets (gBt HG.out (grownBy_below hW _)) (by have:=HB0.out;omega) _⟩)
    have HSZ:=hid (show (Tryz.prog.info? 25).map (·.size)=some c1.toArray.size by rw [List.size_toArray];exact qI V_c12.out)
    clear hz0 hlc
    go_wp2_with (first|(go_at_call 49;refine (HF1.out _).mono ?_;rintro e w6 ⟨rfl,hb6⟩)|(refine wpList_store_mid rfl _ _ _ rfl b3 0 _ rfl rfl (HAF.out _ hb6).1 HSZ.out (oneI V_c12.out) ?_))
    go_meet
    exact (HAF.out _ hb6).2
   ·have hs0:(sg==0)=false:=by rw [HS.out];unfold sgnI;rw [if_neg hz0];rfl
    have HZ0:=hid hz0
    clear hz0
    go_wp2
    go_meet
    exact ⟨_,cb,V_cb2.out,HZ0.out,HZ.out,AB3.out,AB0.out,ht4.out,HG.out⟩
  case rest =>
   clear AB0 AB3 HG ht4 V_cb V_cb2 HZ HS HSG2
   obtain ⟨D,cd,hcd,hD0,hDb,hA3,hA0,hT,hG⟩:=hcut
   have V_cd:=hid hcd
   have AB3:=hid hA3
   have AB0:=hid hA0
   have HG:=hid hG
   have HT:=hid hT
   have HDD:=hid (And.intro hD0 hDb)
   clear hcd hD0 hDb hA3 hA0 hT hG
   go_upto_region 5 with fail
   go_cut [4,5] from 15 to 21 (fun p4 q5 wx=>∃ (b4 at3:Nat) (cR:List Value),p4=.pointer (some ⟨b4,0,none⟩)∧IsRat cR∧At wx b4 0 cR∧At wx B0 0 cz∧IsTape wx bt at3∧at3≤at_+250∧w.grownBy wx (some bt))
   case first =>
    refine wp_region_noPanic ?_
    refine wp_region_held_drew (S:=fun W=>W.rangeAt b3 0 cd) (by kernel_rfl) (show (wc.drew).rangeAt b3 0 cd from fun j v hv=>AB3.out.range j v hv) (fun hS=>?_)
    refine wtD (some 16) rfl (i:=0) (v:=.pointer (some ⟨bt,0,none⟩)) rfl (by kernel_rfl) (by kernel_rfl) (by kernel_rfl) (fun _ _ _ h=>h) (.inl ⟨by rfl,fun w _=>by rfl⟩) hS ?_
    refine wtD (some 18) rfl (i:=2) (v:=.agg cd.toArray) rfl (by kernel_rfl) (by kernel_rfl) (by kernel_rfl) (fun _ _ _ h=>h) (yieldsIf_load_mid (by rfl) 25 _ rfl b3 0 (by rfl) cd _ (fun _ h=>h) Tryz.underlying25 rfl (qI V_cd.out)) hS ?_
    replace AB3:=hid (AB3.out.below (below_drew (Below.refl _ _)))
    replace AB0:=hid (AB0.out.below (below_drew (Below.refl _ _)))
    replace HG:=hid (gBt HG.out (grownBy_below (below_drew (Below.refl _ _)) _))
    replace HT:=hid (HT.out.below (below_drew (Below.refl _ _)))
    obtain ⟨wd,hwd⟩:∃ x,x=wc.drew:=⟨_,rfl⟩
    rw [←hwd] at AB3 AB0 HG HT hS ⊢
    clear hwd
    refine wpAnyH_ready (rs:=[1,7]) (by kernel_rfl) (by simp) (AllReadyH.cons rfl (fun K hK=>?_) (AllReadyH.cons rfl (fun K hK=>?_) AllReadyH.nil))
    ·skip
     rw [if_pos (by rfl)]
     go_simp
     go_at_call 52
     refine (rint_any bt _ 200 _ HT.out (by omega) (by omega) (by omega)).mono ?_
     rintro e w7 ⟨z2,at3,hz2,rfl,htq,ha3,hgq⟩
     replace AB3:=hid (AB3.out.grown hgq (fun q hq=>by injection hq with hq;omega))
     replace AB0:=hid (AB0.out.grown hgq (fun q hq=>by injection hq with hq;omega))
     replace HG:=hid (gBt HG.out hgq)
     replace HT:=hid htq
     obtain ⟨cn,hcn⟩:∃ c,c=iZ z2:=⟨_,rfl⟩
     rw [←hcn]
     obtain ⟨code,hcode⟩:∃ c,c=resE (mkQ z2 D):=⟨_,rfl⟩
     obtain ⟨cR,hcR⟩:∃ c,c=resR (mkQ z2 D):=⟨_,rfl⟩
     have HMK:=hid (rmakeQ (D:=D) hcn (show cd=iZ (D:Int) by rw [iZ_nat];exact V_cd.out) hcR hcode hz2 HDD.out.2 HDD.out.1)
     have HRT:=hid (show IsRat cR by rw [hcR];exact isRat_mk z2 D HDD.out.1)
     clear hcn hcode hcR hz2 htq hgq
     show K _ w7
     refine hK.out _ _ AB3.out.range (fun hS=>?_)
     refine wAt #[true,true,true,false,false,false,false,false,false,false] 7 _ (by kernel_rfl) (by rfl) (by first|(simp only [zq];rfl)|rfl) ?_
     refine wpAnyH_ready (rs:=[3,7]) (by kernel_rfl) (by simp) (AllReadyH.cons rfl (fun K hK=>?_) (AllReadyH.cons rfl (fun K hK=>?_) AllReadyH.nil))
     ·skip
      rw [if_pos (by rfl)]
      go_simp
      go_at_call 54
      refine (HMK.out _).mono ?_
      rintro e w8 ⟨rfl,hbq⟩
      replace AB3:=hid (AB3.out.below hbq)
      replace AB0:=hid (AB0.out.below hbq)
      replace HG:=hid (gBt HG.out (grownBy_below hbq _))
      replace HT:=hid (HT.out.below hbq)
      clear hbq
      show K _ w8
      refine hK.out _ _ AB3.out.range (fun hS=>?_)
      refine wtD (some 15) rfl (i:=4) (v:=.tuple #[.agg cR.toArray,.int .i64 code]) rfl (by kernel_rfl) (by kernel_rfl) (by kernel_rfl) (fun _ _ _ h=>h) (.inl ⟨by rfl,fun w _=>by rfl⟩) hS ?_
      refine wtD (some 20) rfl (i:=5) (v:=.agg cR.toArray) rfl (by kernel_rfl) (by kernel_rfl) (by kernel_rfl) (fun _ _ _ h=>h) (.inl ⟨by rfl,fun w _=>by rfl⟩) hS ?_
      refine wtD (some 21) rfl (i:=6) (v:=.int .i64 code) rfl (by kernel_rfl) (by kernel_rfl) (by kernel_rfl) (fun _ _ _ h=>h) (.inl ⟨by rfl,fun w _=>by rfl⟩) hS ?_
      refine wAt #[true,true,true,true,true,true,true,false,false,false] 3 _ (by kernel_rfl) (by rfl) (by first|(simp only [zq];rfl)|rfl) ?_
      refine wpAnyH_ready (rs:=[7]) (by kernel_rfl) (by simp) (AllReadyH.cons rfl (fun K hK=>?_) AllReadyH.nil)
      rw [if_pos (by rfl)]
      obtain ⟨z4,hL,hz4⟩:=Tryz.alR (qR V_cz.out)
      unfold Oper.wp
      rw [hL _ rfl _ _]
      obtain ⟨b4,hb4⟩:∃ b,b=(w8).heap.size:=⟨_,rfl⟩
      obtain ⟨w9,hww9⟩:∃ x,x=(w8).alloc (.cells z4 27):=⟨_,rfl⟩
      have hbq:Below (w8).heap.size (w8) w9:=by rw [hww9];exact (Below.refl _ _).alloc (Nat.le_refl _) _
      have A4:=hid (show At w9 b4 0 z4.toList by rw [hww9,hb4];have:=At.fresh (w8) z4.toList 27 rfl;simpa using this)
      have h34:b3<b4:=by rw [hb4];exact AB3.out.lt
      replace AB3:=hid (AB3.out.below hbq)
      replace AB0:=hid (AB0.out.below hbq)
      replace HG:=hid (gBt HG.out (grownBy_below hbq _))
      replace HT:=hid (HT.out.below hbq)
      first|rw [←hww9,←hb4]|(simp only [←hww9,←hb4])
      show K (Act.put _ (some 4) (.pointer (some ⟨b4,0,none⟩))) w9
      clear hbq hww9 hL hb4
      have HZ4:=hid hz4
      clear hz4
      refine hK.out _ _ AB3.out.range (fun hS=>?_)
      refine wAt #[true,true,true,true,true,true,true,true,false,false] 2 _ (by kernel_rfl) (by rfl) (by first|(simp only [zq];rfl)|rfl) ?_
      refine wpAnyH_ready (rs:=[8]) (by kernel_rfl) (by simp) (AllReadyH.cons rfl (fun K hK=>?_) AllReadyH.nil)
      rw [if_pos (by rfl)]
      have hl4:cR.length=cz.length:=by obtain ⟨_,_,_,_,h,_⟩:=HRT.out;rw [h,V_cz.out];simp [rat,qlL]
      have hth:(w9).there b4 0 cR.toArray.size:=by rw [List.size_toArray,hl4];exact fun j hj=>A4.out.there j (by have:=HZ4.out;simp;omega)
      obtain ⟨ra,rb,rp,rq,hrr,_,_⟩:=HRT.out
      refine wp_store_mid 27 _ _ rfl b4 0 cR.toArray (by rfl) (by rfl) hth (by rw [List.size_toArray];exact qR hrr) (oneR hrr) ?_
      obtain ⟨w10,hww10⟩:∃ x,x=(w9).setCells b4 0 cR:=⟨_,rfl⟩
      replace AB3:=hid (show At w10 b3 0 cd by rw [hww10];exact AB3.out.sets (by omega) _ _)
      replace AB0:=hid (show At w10 B0 0 cz by rw [hww10];exact AB0.out.sets (by omega) _ _)
      replace A4:=hid (show At w10 b4 0 cR by rw [hww10];exact ⟨World.rangeAt_setCells_same _ _ _ _ (by simpa using hth),World.there_setCells (by simpa using hth) _ _ _,by rw [size_sets];exact A4.out.lt⟩)
      replace HT:=hid (show IsTape w10 bt at3 by rw [hww10];exact HT.out.grown (sets_grown _ _ _) (fun q hq=>by injection hq with hq;omega))
      replace HG:=hid (show w.grownBy w10 (some bt) by rw [hww10];exact grown_sets HG.out (by have:=HB0.out;omega) _)
      first|rw [List.toList_toArray,←hww10]|rw [←hww10]
      show K (Act.put _ none undef) w10
      clear hww10 hth hrr
      refine hK.out _ _ AB3.out.range (fun hS=>?_)
      refine wtD (some 5) rfl (i:=9) (v:=.int .i64 code) rfl (by kernel_rfl) (by kernel_rfl) (by kernel_rfl) (fun _ _ _ h=>h) (.inl ⟨by rfl,fun w _=>by rfl⟩) hS ?_
      refine wAt #[true,true,true,true,true,true,true,true,true,true] 0 _ (by kernel_rfl) (by rfl) (by first|(simp only [zq];rfl)|rfl) ?_
      refine wpAnyH_done (by kernel_rfl) (NoPanic.normal ?_) _
      go_wp2
      go_meet
      exact ⟨b4,at3,cR,rfl,HRT.out,A4.out,AB0.out,HT.out,by omega,HG.out⟩
     ·skip
      rw [if_pos (by rfl)]
      obtain ⟨z4,hL,hz4⟩:=Tryz.alR (qR V_cz.out)
      unfold Oper.wp
      rw [hL _ rfl _ _]
      obtain ⟨b4,hb4⟩:∃ b,b=(w7).heap.size:=⟨_,rfl⟩
      obtain ⟨w11,hww11⟩:∃ x,x=(w7).alloc (.cells z4 27):=⟨_,rfl⟩
      have hbq:Below (w7).heap.size (w7) w11:=by rw [hww11];exact (Below.refl _ _).alloc (Nat.le_refl _) _
      have A4:=hid (show At w11 b4 0 z4.toList by rw [hww11,hb4];have:=At.fresh (w7) z4.toList 27 rfl;simpa using this)
      have h34:b3<b4:=by rw [hb4];exact AB3.out.lt
      replace AB3:=hid (AB3.out.below hbq)
      replace AB0:=hid (AB0.out.below hbq)
      replace HG:=hid (gBt HG.out (grownBy_below hbq _))
      replace HT:=hid (HT.out.below hbq)
      first|rw [←hww11,←hb4]|(simp only [←hww11,←hb4])
      show K (Act.put _ (some 4) (.pointer (some ⟨b4,0,none⟩))) w11
      clear hbq hww11 hL hb4
      have HZ4:=hid hz4
      clear hz4
      refine hK.out _ _ AB3.out.range (fun hS=>?_)
      refine wAt #[true,true,true,false,false,false,false,true,false,false] 6 _ (by kernel_rfl) (by rfl) (by first|(simp only [zq];rfl)|rfl) ?_
      refine wpAnyH_ready (rs:=[3]) (by kernel_rfl) (by simp) (AllReadyH.cons rfl (fun K hK=>?_) AllReadyH.nil)
      rw [if_pos (by rfl)]
      go_simp
      go_at_call 54
      refine (HMK.out _).mono ?_
      rintro e w12 ⟨rfl,hbq⟩
      replace AB3:=hid (AB3.out.below hbq)
      replace AB0:=hid (AB0.out.below hbq)
      replace A4:=hid (A4.out.below hbq)
      replace HG:=hid (gBt HG.out (grownBy_below hbq _))
      replace HT:=hid (HT.out.below hbq)
      clear hbq
      show K _ w12
      refine hK.out _ _ AB3.out.range (fun hS=>?_)
      refine wtD (some 15) rfl (i:=4) (v:=.tuple #[.agg cR.toArray,.int .i64 code]) rfl (by kernel_rfl) (by kernel_rfl) (by kernel_rfl) (fun _ _ _ h=>h) (.inl ⟨by rfl,fun w _=>by rfl⟩) hS ?_
      refine wtD (some 20) rfl (i:=5) (v:=.agg cR.toArray) rfl (by kernel_rfl) (by kernel_rfl) (by kernel_rfl) (fun _ _ _ h=>h) (.inl ⟨by rfl,fun w _=>by rfl⟩) hS ?_
      refine wtD (some 21) rfl (i:=6) (v:=.int .i64 code) rfl (by kernel_rfl) (by kernel_rfl) (by kernel_rfl) (fun _ _ _ h=>h) (.inl ⟨by rfl,fun w _=>by rfl⟩) hS ?_
      refine wAt #[true,true,true,true,true,true,true,true,false,false] 2 _ (by kernel_rfl) (by rfl) (by first|(simp only [zq];rfl)|rfl) ?_
      refine wpAnyH_ready (rs:=[8]) (by kernel_rfl) (by simp) (AllReadyH.cons rfl (fun K hK=>?_) AllReadyH.nil)
      rw [if_pos (by rfl)]
      have hl4:cR.length=cz.length:=by obtain ⟨_,_,_,_,h,_⟩:=HRT.out;rw [h,V_cz.out];simp [rat,qlL]
      have hth:(w12).there b4 0 cR.toArray.size:=by rw [List.size_toArray,hl4];exact fun j hj=>A4.out.there j (by have:=HZ4.out;simp;omega)
      obtain ⟨ra,rb,rp,rq,hrr,_,_⟩:=HRT.out
      refine wp_store_mid 27 _ _ rfl b4 0 cR.toArray (by rfl) (by rfl) hth (by rw [List.size_toArray];exact qR hrr) (oneR hrr) ?_
      obtain ⟨w13,hww13⟩:∃ x,x=(w12).setCells b4 0 cR:=⟨_,rfl⟩
      replace AB3:=hid (show At w13 b3 0 cd by rw [hww13];exact AB3.out.sets (by omega) _ _)
      replace AB0:=hid (show At w13 B0 0 cz by rw [hww13];exact AB0.out.sets (by omega) _ _)
      replace A4:=hid (show At w13 b4 0 cR by rw [hww13];exact ⟨World.rangeAt_setCells_same _ _ _ _ (by simpa using hth),World.there_setCells (by simpa using hth) _ _ _,by rw [size_sets];exact A4.out.lt⟩)
      replace HT:=hid (show IsTape w13 bt at3 by rw [hww13];exact HT.out.grown (sets_grown _ _ _) (fun q hq=>by injection hq with hq;omega))
      replace HG:=hid (show w.grownBy w13 (some bt) by rw [hww13];exact grown_sets HG.out (by have:=HB0.out;omega) _)
      first|rw [List.toList_toArray,←hww13]|rw [←hww13]
      show K (Act.put _ none undef) w13
      clear hww13 hth hrr
      refine hK.out _ _ AB3.out.range (fun hS=>?_)
      refine wtD (some 5) rfl (i:=9) (v:=.int .i64 code) rfl (by kernel_rfl) (by kernel_rfl) (by kernel_rfl) (fun _ _ _ h=>h) (.inl ⟨by rfl,fun w _=>by rfl⟩) hS ?_
      refine wAt #[true,true,true,true,true,true,true,true,true,true] 0 _ (by kernel_rfl) (by rfl) (by first|(simp only [zq];rfl)|rfl) ?_
      refine wpAnyH_done (by kernel_rfl) (NoPanic.normal ?_) _
      go_wp2
      go_meet
      exact ⟨b4,at3,cR,rfl,HRT.out,A4.out,AB0.out,HT.out,by omega,HG.out⟩
    ·skip
     rw [if_pos (by rfl)]
     obtain ⟨z4,hL,hz4⟩:=Tryz.alR (qR V_cz.out)
     unfold Oper.wp
     rw [hL _ rfl _ _]
     obtain ⟨b4,hb4⟩:∃ b,b=(wd).heap.size:=⟨_,rfl⟩
     obtain ⟨w14,hww14⟩:∃ x,x=(wd).alloc (.cells z4 27):=⟨_,rfl⟩
     have hbq:Below (wd).heap.size (wd) w14:=by rw [hww14];exact (Below.refl _ _).alloc (Nat.le_refl _) _
     have A4:=hid (show At w14 b4 0 z4.toList by rw [hww14,hb4];have:=At.fresh (wd) z4.toList 27 rfl;simpa using this)
     have h34:b3<b4:=by rw [hb4];exact AB3.out.lt
     replace AB3:=hid (AB3.out.below hbq)
     replace AB0:=hid (AB0.out.below hbq)
     replace HG:=hid (gBt HG.out (grownBy_below hbq _))
     replace HT:=hid (HT.out.below hbq)
     first|rw [←hww14,←hb4]|(simp only [←hww14,←hb4])
     show K (Act.put _ (some 4) (.pointer (some ⟨b4,0,none⟩))) w14
     clear hbq hww14 hL hb4
     have HZ4:=hid hz4
     clear hz4
     refine hK.out _ _ AB3.out.range (fun hS=>?_)
     refine wAt #[true,false,true,false,false,false,false,true,false,false] 7 _ (by kernel_rfl) (by rfl) (by first|(simp only [zq];rfl)|rfl) ?_
     refine wpAnyH_ready (rs:=[1]) (by kernel_rfl) (by simp) (AllReadyH.cons rfl (fun K hK=>?_) AllReadyH.nil)
     rw [if_pos (by rfl)]
     go_simp
     go_at_call 52
     refine (rint_any bt _ 200 _ HT.out (by omega) (by omega) (by omega)).mono ?_
     rintro e w15 ⟨z2,at3,hz2,rfl,htq,ha3,hgq⟩
     replace AB3:=hid (AB3.out.grown hgq (fun q hq=>by injection hq with hq;omega))
     replace AB0:=hid (AB0.out.grown hgq (fun q hq=>by injection hq with hq;omega))
     replace A4:=hid (A4.out.grown hgq (fun q hq=>by injection hq with hq;omega))
     replace HG:=hid (gBt HG.out hgq)
     replace HT:=hid htq
     obtain ⟨cn,hcn⟩:∃ c,c=iZ z2:=⟨_,rfl⟩
     rw [←hcn]
     obtain ⟨code,hcode⟩:∃ c,c=resE (mkQ z2 D):=⟨_,rfl⟩
     obtain ⟨cR,hcR⟩:∃ c,c=resR (mkQ z2 D):=⟨_,rfl⟩
     have HMK:=hid (rmakeQ (D:=D) hcn (show cd=iZ (D:Int) by rw [iZ_nat];exact V_cd.out) hcR hcode hz2 HDD.out.2 HDD.out.1)
     have HRT:=hid (show IsRat cR by rw [hcR];exact isRat_mk z2 D HDD.out.1)
     clear hcn hcode hcR hz2 htq hgq
     show K _ w15
     refine hK.out _ _ AB3.out.range (fun hS=>?_)
     refine wAt #[true,true,true,false,false,false,false,true,false,false] 6 _ (by kernel_rfl) (by rfl) (by first|(simp only [zq];rfl)|rfl) ?_
     refine wpAnyH_ready (rs:=[3]) (by kernel_rfl) (by simp) (AllReadyH.cons rfl (fun K hK=>?_) AllReadyH.nil)
     rw [if_pos (by rfl)]
     go_simp
     go_at_call 54
     refine (HMK.out _).mono ?_
     rintro e w16 ⟨rfl,hbq⟩
     replace AB3:=hid (AB3.out.below hbq)
     replace AB0:=hid (AB0.out.below hbq)
     replace A4:=hid (A4.out.below hbq)
     replace HG:=hid (gBt HG.out (grownBy_below hbq _))
     replace HT:=hid (HT.out.below hbq)
     clear hbq
     show K _ w16
     refine hK.out _ _ AB3.out.range (fun hS=>?_)
     refine wtD (some 15) rfl (i:=4) (v:=.tuple #[.agg cR.toArray,.int .i64 code]) rfl (by kernel_rfl) (by kernel_rfl) (by kernel_rfl) (fun _ _ _ h=>h) (.inl ⟨by rfl,fun w _=>by rfl⟩) hS ?_
     refine wtD (some 20) rfl (i:=5) (v:=.agg cR.toArray) rfl (by kernel_rfl) (by kernel_rfl) (by kernel_rfl) (fun _ _ _ h=>h) (.inl ⟨by rfl,fun w _=>by rfl⟩) hS ?_
     refine wtD (some 21) rfl (i:=6) (v:=.int .i64 code) rfl (by kernel_rfl) (by kernel_rfl) (by kernel_rfl) (fun _ _ _ h=>h) (.inl ⟨by rfl,fun w _=>by rfl⟩) hS ?_
     refine wAt #[true,true,true,true,true,true,true,true,false,false] 2 _ (by kernel_rfl) (by rfl) (by first|(simp only [zq];rfl)|rfl) ?_
     refine wpAnyH_ready (rs:=[8]) (by kernel_rfl) (by simp) (AllReadyH.cons rfl (fun K hK=>?_) AllReadyH.nil)
     rw [if_pos (by rfl)]
     have hl4:cR.length=cz.length:=by obtain ⟨_,_,_,_,h,_⟩:=HRT.out;rw [h,V_cz.out];simp [rat,qlL]
     have hth:(w16).there b4 0 cR.toArray.size:=by rw [List.size_toArray,hl4];exact fun j hj=>A4.out.there j (by have:=HZ4.out;simp;omega)
     obtain ⟨ra,rb,rp,rq,hrr,_,_⟩:=HRT.out
     refine wp_store_mid 27 _ _ rfl b4 0 cR.toArray (by rfl) (by rfl) hth (by rw [List.size_toArray];exact qR hrr) (oneR hrr) ?_
     obtain ⟨w17,hww17⟩:∃ x,x=(w16).setCells b4 0 cR:=⟨_,rfl⟩
     replace AB3:=hid (show At w17 b3 0 cd by rw [hww17];exact AB3.out.sets (by omega) _ _)
     replace AB0:=hid (show At w17 B0 0 cz by rw [hww17];exact AB0.out.sets (by omega) _ _)
     replace A4:=hid (show At w17 b4 0 cR by rw [hww17];exact ⟨World.rangeAt_setCells_same _ _ _ _ (by simpa using hth),World.there_setCells (by simpa using hth) _ _ _,by rw [size_sets];exact A4.out.lt⟩)
     replace HT:=hid (show IsTape w17 bt at3 by rw [hww17];exact HT.out.grown (sets_grown _ _ _) (fun q hq=>by injection hq with hq;omega))
     replace HG:=hid (show w.grownBy w17 (some bt) by rw [hww17];exact grown_sets HG.out (by have:=HB0.out;omega) _)
     first|rw [List.toList_toArray,←hww17]|rw [←hww17]
     show K (Act.put _ none undef) w17
     clear hww17 hth hrr
     refine hK.out _ _ AB3.out.range (fun hS=>?_)
     refine wtD (some 5) rfl (i:=9) (v:=.int .i64 code) rfl (by kernel_rfl) (by kernel_rfl) (by kernel_rfl) (fun _ _ _ h=>h) (.inl ⟨by rfl,fun w _=>by rfl⟩) hS ?_
     refine wAt #[true,true,true,true,true,true,true,true,true,true] 0 _ (by kernel_rfl) (by rfl) (by first|(simp only [zq];rfl)|rfl) ?_
     refine wpAnyH_done (by kernel_rfl) (NoPanic.normal ?_) _
     go_wp2
     go_meet
     exact ⟨b4,at3,cR,rfl,HRT.out,A4.out,AB0.out,HT.out,by omega,HG.out⟩
   case rest =>
    clear AB0 AB3 HG HT V_cd HDD
    obtain ⟨b4,at3,cR,rfl,hR,hA4,hA0,hT,hat3,hG⟩:=hcut
    obtain ⟨ra,rb,rp,rq,hrr,hp,hq⟩:=hR
    have V_cR:=hid hrr
    have hlc:cR.length=cz.length:=by rw [hrr,V_cz.out];simp [rat,qlL]
    have AB4:=hid hA4
    have AS:=hid (hA0.setAll hlc)
    have HTH:=hid (show wc.there B0 0 cR.toArray.size by rw [List.size_toArray,hlc];exact hA0.there)
    have HE:=hid (show RatP bt at_ 300 w (.returned (.agg cR.toArray)) (wc.setCells B0 0 cR) from ⟨cR,_,⟨ra,rb,rp,rq,hrr,hp,hq⟩,rfl,hT.grown (sets_grown _ _ _) (fun q hq=>by injection hq with hq;omega),by omega,grown_sets hG (by rw [HB0.out];exact Nat.le_refl _) _⟩)
    have HSZ:=hid (show (Tryz.prog.info? 27).map (·.size)=some cR.toArray.size by rw [List.size_toArray];exact qR V_cR.out)
    clear hrr hp hq hlc hA4 hA0 hT hG
    go_wp2_with (first|(refine wpList_load_mid rfl _ _ rfl b4 0 rfl cR _ AB4.out.range Tryz.underlying27 rfl (qR V_cR.out) ?_)|(refine wpList_store_mid rfl _ _ _ rfl B0 0 _ rfl rfl HTH.out HSZ.out (oneR V_cR.out) ?_))
    have hld:=AS.out.read (P:=Tryz.prog) Tryz.underlying27 rfl (qR V_cR.out)
    refine bodyPost_ret (v:=.agg cR.toArray) (by simp [results,Tryz.results19,asAddr,hld,Act.put]) rfl ?_
    exact HE.out
end Go.Proofs.YtmcekgapelanhaaGreat
set_option maxHeartbeats 16000000
namespace Go.Proofs.YtmcekgapelanhaaGreat
open Go.RowKit Big Al Tok Ap
open Lib (hid)
theorem rlong_any (bt at_:Nat) (w:World) (ht:IsTape w bt at_) (hat:at_<100000000000000) :
  Calls Tryz.prog 20 #[.pointer (some ⟨bt,0,none⟩)] w (RatP bt at_ 1500 w):=by
 obtain ⟨cz,V_cz⟩:∃ c:List Value,Hid (c=rat false 0 false 0):=⟨_,hid rfl⟩
 have hlt:=ht.lt
 have HT:=hid ht
 clear ht
 obtain ⟨B0,hB0⟩:∃ B,B=w.heap.size:=⟨_,rfl⟩
 obtain ⟨w0,hw0⟩:∃ w0,w0=(w.alloc (.cells Tryz.zeroCells27 27)):=⟨_,rfl⟩
 have AB0:=hid (show At w0 B0 0 cz by rw [hw0];exact (show At (w.alloc (.cells Tryz.zeroCells27 27)) B0 0 cz from (by rw [Tryz.zeroR,V_cz.out];exact At.fresh _ (rat false 0 false 0) _ (by simp [hB0]))))
 have FR:=hid (show Fr B0 w w0 by rw [hw0,hB0];exact (Fr.start w).alloc _)
 have FR0:=hid FR.out.le
 have hZB0:B0≤B0:=Nat.le_refl _
 have HB0:=hid hB0
 go_enter Tryz.func20,Tryz.ntmps20
 go_upto_region 1 with fail
 rw [←hw0,←hB0]
 clear hw0 hB0
 have hB0t:bt<B0:=by have:=HB0.out;omega
 have HG:=hid (grownBy_below (row:=some bt) (show Below w.heap.size w w0 by rw [←HB0.out];exact FR.out.below))
 replace HT:=hid (HT.out.below (by rw [←HB0.out];exact FR.out.below))
 clear FR FR0 hZB0
 go_wp2
 go_loopg [3] 5 (fun m iv wr=>∃ (i at1:Nat),iv=.int .i64 (i:Int)∧i≤4∧5≤m+i∧at1≤at_+201*i∧At wr B0 0 cz∧IsTape wr bt at1∧w.grownBy wr (some bt))
 case atStart=>exact ⟨0,at_,rfl,by omega,by omega,by omega,AB0.out,HT.out,HG.out⟩
 case round =>
  clear AB0 HT HG
  obtain ⟨i,at1,rfl,hi,hm,hat1,hA0,hT,hG⟩:=hrel
  have AB0:=hid hA0
  have HT:=hid hT
  have HG:=hid hG
  clear hA0 hT hG
  by_cases hi4:i<4
  ·go_wp2_with fail
   refine (rint_any bt _ 480 _ HT.out (by omega) (by omega) (by omega)).mono ?_
   rintro e w2 ⟨z,at2,hz,rfl,ht2,ha2,hg2⟩
   replace AB0:=hid (AB0.out.grown hg2 (fun q hq=>by injection hq with hq;omega))
   replace HG:=hid (gBt HG.out hg2)
   have HAB0L:=hid AB0.out.lt
   obtain ⟨ca,hca⟩:∃ c,c=iZ z:=⟨_,rfl⟩
   rw [←hca]
   obtain ⟨cd,V_cb⟩:∃ c:List Value,Hid (c=iZ (z.natAbs:Int)):=⟨_,hid rfl⟩
   have HAB:=hid (rabsZ hca V_cb.out hz)
   have V_cd:=hid (show cd=.bool false::lv 32 z.natAbs by rw [V_cb.out,iZ_nat])
   have HZ:=hid hz
   have HT2:=hid ht2
   clear hg2 hca hz ht2 HT
   go_upto_region 5 with (first|(go_at_call 51;refine (HAB.out _).mono ?_;rintro e w3 ⟨rfl,hb3⟩)|(refine wpList_newI rfl rfl rfl rfl rfl rfl (qI V_cd.out) (oneI V_cd.out) ?_;intro w4 hb4 hA4 hs4))
   obtain ⟨b3,hq3⟩:∃ b,b=w3.heap.size:=⟨_,rfl⟩
   rw [←hq3] at hA4 ⊢
   have hb34:=hb3.trans (hb4.mono hb3.size)
   replace AB0:=hid (AB0.out.below hb34)
   replace HG:=hid (gBt HG.out (grownBy_below hb34 _))
   have HT:=hid (HT2.out.below hb34)
   have hb3t:B0<b3:=by rw [hq3];have h1:=HAB0L.out;have:=hb3.size;omega
   have AB3:=hid hA4
   obtain ⟨sg,hsg⟩:∃ s,s=sgnI false z.natAbs:=⟨_,rfl⟩
   have HSG:=hid (sign_op V_cd.out hsg HZ.out)
   obtain ⟨wl,hwl⟩:∃ x,x=w4:=⟨_,rfl⟩
   rw [←hwl] at AB0 AB3 HG HT ⊢
   clear hb3 hb4 hA4 hs4 hq3 hb34 HT2 HAB HAB0L hwl
   by_cases hz0:z.natAbs=0
   ·have hsn:(sg != 0)=false:=by rw [hsg,hz0];rfl
    clear hsg hz0
    go_wp2_with (first|(refine wpList_load_mid rfl _ _ rfl b3 0 rfl cd _ AB3.out.range Tryz.underlying25 rfl (qI V_cd.out) ?_)|(go_at_call 53;refine (HSG.out _).mono ?_;rintro e w5 ⟨rfl,hb5⟩))
    go_roundg (gk - 1)
    case measure=>omega
    case rel=>exact ⟨i+1,at2,by go_num,by omega,by omega,by omega,AB0.out.below hb5,HT.out.below hb5,gBt HG.out (grownBy_below hb5 _)⟩
   ·have hsn:(sg != 0)=true:=by rw [hsg];unfold sgnI;rw [if_neg hz0];rfl
    obtain ⟨D,hDz⟩:∃ D,D=z.natAbs:=⟨_,rfl⟩
    have HDD:=hid (show D≠0∧D<BB^32 by rw [hDz];exact ⟨hz0,HZ.out⟩)
    rw [←hDz] at V_cd
    clear hsg hz0 hDz
    go_upto_region 6 with (first|(refine wpList_load_mid rfl _ _ rfl b3 0 rfl cd _ AB3.out.range Tryz.underlying25 rfl (qI V_cd.out) ?_)|(go_at_call 53;refine (HSG.out _).mono ?_;rintro e w5 ⟨rfl,hb5⟩))
    replace AB0:=hid (AB0.out.below hb5)
    replace AB3:=hid (AB3.out.below hb5)
    replace HG:=hid (gBt HG.out (grownBy_below hb5 _))
    replace HT:=hid (HT.out.below hb5)
    clear hb5 HSG hsn HZ V_cb
    have hatm:at2+100≤at_+1400:=by omega
    go_cut [5,6] from 7 to 24 (fun p4 q5 wx=>∃ (b4 at3:Nat) (cR:List Value),p4=.pointer (some ⟨b4,0,none⟩)∧IsRat cR∧At wx b4 0 cR∧At wx B0 0 cz∧IsTape wx bt at3∧at3≤at_+1400∧w.grownBy wx (some bt))
    case first =>
     obtain ⟨wc,hwc⟩:∃ x,x=w5:=⟨_,rfl⟩
     rw [←hwc] at AB0 AB3 HG HT ⊢
     clear hwc
     refine wp_region_noPanic ?_
     refine wp_region_held_drew (S:=fun W=>W.rangeAt b3 0 cd) (by kernel_rfl) (show (wc.drew).rangeAt b3 0 cd from fun j v hv=>AB3.out.range j v hv) (fun hS=>?_)
     refine wtD (some 18) rfl (i:=0) (v:=.pointer (some ⟨bt,0,none⟩)) rfl (by kernel_rfl) (by kernel_rfl) (by kernel_rfl) (fun _ _ _ h=>h) (.inl ⟨by rfl,fun w _=>by rfl⟩) hS ?_
     refine wtD (some 20) rfl (i:=2) (v:=.agg cd.toArray) rfl (by kernel_rfl) (by kernel_rfl) (by kernel_rfl) (fun _ _ _ h=>h) (yieldsIf_load_mid (by rfl) 25 _ rfl b3 0 (by rfl) cd _ (fun _ h=>h) Tryz.underlying25 rfl (qI V_cd.out)) hS ?_
     replace AB3:=hid (AB3.out.below (below_drew (Below.refl _ _)))
     replace AB0:=hid (AB0.out.below (below_drew (Below.refl _ _)))
     replace HG:=hid (gBt HG.out (grownBy_below (below_drew (Below.refl _ _)) _))
     replace HT:=hid (HT.out.below (below_drew (Below.refl _ _)))
     obtain ⟨wd,hwd⟩:∃ x,x=wc.drew:=⟨_,rfl⟩
     rw [←hwd] at AB3 AB0 HG HT hS ⊢
     clear hwd
     refine wpAnyH_ready (rs:=[1,7]) (by kernel_rfl) (by simp) (AllReadyH.cons rfl (fun K hK=>?_) (AllReadyH.cons rfl (fun K hK=>?_) AllReadyH.nil))
     ·skip
      rw [if_pos (by rfl)]
      go_simp
      go_at_call 52
      refine (rint_any bt _ 480 _ HT.out (by omega) (by omega) (by omega)).mono ?_
      rintro e w7 ⟨z2,at3,hz2,rfl,htq,ha3,hgq⟩
      replace AB3:=hid (AB3.out.grown hgq (fun q hq=>by injection hq with hq;omega))
      replace AB0:=hid (AB0.out.grown hgq (fun q hq=>by injection hq with hq;omega))
      replace HG:=hid (gBt HG.out hgq)
      replace HT:=hid htq
      obtain ⟨cn,hcn⟩:∃ c,c=iZ z2:=⟨_,rfl⟩
      rw [←hcn]
      obtain ⟨code,hcode⟩:∃ c,c=resE (mkQ z2 D):=⟨_,rfl⟩
      obtain ⟨cR,hcR⟩:∃ c,c=resR (mkQ z2 D):=⟨_,rfl⟩
      have HMK:=hid (rmakeQ (D:=D) hcn (show cd=iZ (D:Int) by rw [iZ_nat];exact V_cd.out) hcR hcode hz2 HDD.out.2 HDD.out.1)
      have HRT:=hid (show IsRat cR by rw [hcR];exact isRat_mk z2 D HDD.out.1)
      clear hcn hcode hcR hz2 htq hgq
      show K _ w7
      refine hK.out _ _ AB3.out.range (fun hS=>?_)
      refine wAt #[true,true,true,false,false,false,false,false,false,false] 7 _ (by kernel_rfl) (by rfl) (by first|(simp only [zq];rfl)|rfl) ?_
      refine wpAnyH_ready (rs:=[3,7]) (by kernel_rfl) (by simp) (AllReadyH.cons rfl (fun K hK=>?_) (AllReadyH.cons rfl (fun K hK=>?_) AllReadyH.nil))
      ·skip
       rw [if_pos (by rfl)]
       go_simp
       go_at_call 54
       refine (HMK.out _).mono ?_
       rintro e w8 ⟨rfl,hbq⟩
       replace AB3:=hid (AB3.out.below hbq)
       replace AB0:=hid (AB0.out.below hbq)
       replace HG:=hid (gBt HG.out (grownBy_below hbq _))
       replace HT:=hid (HT.out.below hbq)
       clear hbq
       show K _ w8
       refine hK.out _ _ AB3.out.range (fun hS=>?_)
       refine wtD (some 17) rfl (i:=4) (v:=.tuple #[.agg cR.toArray,.int .i64 code]) rfl (by kernel_rfl) (by kernel_rfl) (by kernel_rfl) (fun _ _ _ h=>h) (.inl ⟨by rfl,fun w _=>by rfl⟩) hS ?_
       refine wtD (some 22) rfl (i:=5) (v:=.agg cR.toArray) rfl (by kernel_rfl) (by kernel_rfl) (by kernel_rfl) (fun _ _ _ h=>h) (.inl ⟨by rfl,fun w _=>by rfl⟩) hS ?_
       refine wtD (some 23) rfl (i:=6) (v:=.int .i64 code) rfl (by kernel_rfl) (by kernel_rfl) (by kernel_rfl) (fun _ _ _ h=>h) (.inl ⟨by rfl,fun w _=>by rfl⟩) hS ?_
       refine wAt #[true,true,true,true,true,true,true,false,false,false] 3 _ (by kernel_rfl) (by rfl) (by first|(simp only [zq];rfl)|rfl) ?_
       refine wpAnyH_ready (rs:=[7]) (by kernel_rfl) (by simp) (AllReadyH.cons rfl (fun K hK=>?_) AllReadyH.nil)
       rw [if_pos (by rfl)]
       obtain ⟨z4,hL,hz4⟩:=Tryz.alR (qR V_cz.out)
       unfold Oper.wp
       rw [hL _ rfl _ _]
       obtain ⟨b4,hb4⟩:∃ b,b=(w8).heap.size:=⟨_,rfl⟩
       obtain ⟨w9,hww9⟩:∃ x,x=(w8).alloc (.cells z4 27):=⟨_,rfl⟩
       have hbq:Below (w8).heap.size (w8) w9:=by rw [hww9];exact (Below.refl _ _).alloc (Nat.le_refl _) _
       have A4:=hid (show At w9 b4 0 z4.toList by rw [hww9,hb4];have:=At.fresh (w8) z4.toList 27 rfl;simpa using this)
       have h34:b3<b4:=by rw [hb4];exact AB3.out.lt
       replace AB3:=hid (AB3.out.below hbq)
       replace AB0:=hid (AB0.out.below hbq)
       replace HG:=hid (gBt HG.out (grownBy_below hbq _))
       replace HT:=hid (HT.out.below hbq)
       first|rw [←hww9,←hb4]|(simp only [←hww9,←hb4])
       show K (Act.put _ (some 5) (.pointer (some ⟨b4,0,none⟩))) w9
       clear hbq hww9 hL hb4
       have HZ4:=hid hz4
       clear hz4
       refine hK.out _ _ AB3.out.range (fun hS=>?_)
       refine wAt #[true,true,true,true,true,true,true,true,false,false] 2 _ (by kernel_rfl) (by rfl) (by first|(simp only [zq];rfl)|rfl) ?_
       refine wpAnyH_ready (rs:=[8]) (by kernel_rfl) (by simp) (AllReadyH.cons rfl (fun K hK=>?_) AllReadyH.nil)
       rw [if_pos (by rfl)]
       have hl4:cR.length=cz.length:=by obtain ⟨_,_,_,_,h,_⟩:=HRT.out;rw [h,V_cz.out];simp [rat,qlL]
       have hth:(w9).there b4 0 cR.toArray.size:=by rw [List.size_toArray,hl4];exact fun j hj=>A4.out.there j (by have:=HZ4.out;simp;omega)
       obtain ⟨ra,rb,rp,rq,hrr,_,_⟩:=HRT.out
       refine wp_store_mid 27 _ _ rfl b4 0 cR.toArray (by rfl) (by rfl) hth (by rw [List.size_toArray];exact qR hrr) (oneR hrr) ?_
       obtain ⟨w10,hww10⟩:∃ x,x=(w9).setCells b4 0 cR:=⟨_,rfl⟩
       replace AB3:=hid (show At w10 b3 0 cd by rw [hww10];exact AB3.out.sets (by omega) _ _)
       replace AB0:=hid (show At w10 B0 0 cz by rw [hww10];exact AB0.out.sets (by omega) _ _)
       replace A4:=hid (show At w10 b4 0 cR by rw [hww10];exact ⟨World.rangeAt_setCells_same _ _ _ _ (by simpa using hth),World.there_setCells (by simpa using hth) _ _ _,by rw [size_sets];exact A4.out.lt⟩)
       replace HT:=hid (show IsTape w10 bt at3 by rw [hww10];exact HT.out.grown (sets_grown _ _ _) (fun q hq=>by injection hq with hq;omega))
       replace HG:=hid (show w.grownBy w10 (some bt) by rw [hww10];exact grown_sets HG.out (by have:=HB0.out;omega) _)
       first|rw [List.toList_toArray,←hww10]|rw [←hww10]
       show K (Act.put _ none undef) w10
       clear hww10 hth hrr
       refine hK.out _ _ AB3.out.range (fun hS=>?_)
       refine wtD (some 6) rfl (i:=9) (v:=.int .i64 code) rfl (by kernel_rfl) (by kernel_rfl) (by kernel_rfl) (fun _ _ _ h=>h) (.inl ⟨by rfl,fun w _=>by rfl⟩) hS ?_
       refine wAt #[true,true,true,true,true,true,true,true,true,true] 0 _ (by kernel_rfl) (by rfl) (by first|(simp only [zq];rfl)|rfl) ?_
       refine wpAnyH_done (by kernel_rfl) (NoPanic.normal ?_) _
       go_wp2
       go_meet
       exact ⟨b4,at3,cR,rfl,HRT.out,A4.out,AB0.out,HT.out,by omega,HG.out⟩
      ·skip
       rw [if_pos (by rfl)]
       obtain ⟨z4,hL,hz4⟩:=Tryz.alR (qR V_cz.out)
       unfold Oper.wp
       rw [hL _ rfl _ _]
       obtain ⟨b4,hb4⟩:∃ b,b=(w7).heap.size:=⟨_,rfl⟩
       obtain ⟨w11,hww11⟩:∃ x,x=(w7).alloc (.cells z4 27):=⟨_,rfl⟩
       have hbq:Below (w7).heap.size (w7) w11:=by rw [hww11];exact (Below.refl _ _).alloc (Nat.le_refl _) _
       have A4:=hid (show At w11 b4 0 z4.toList by rw [hww11,hb4];have:=At.fresh (w7) z4.toList 27 rfl;simpa using this)
       have h34:b3<b4:=by rw [hb4];exact AB3.out.lt
       replace AB3:=hid (AB3.out.below hbq)
       replace AB0:=hid (AB0.out.below hbq)
       replace HG:=hid (gBt HG.out (grownBy_below hbq _))
       replace HT:=hid (HT.out.below hbq)
       first|rw [←hww11,←hb4]|(simp only [←hww11,←hb4])
       show K (Act.put _ (some 5) (.pointer (some ⟨b4,0,none⟩))) w11
       clear hbq hww11 hL hb4
       have HZ4:=hid hz4
       clear hz4
       refine hK.out _ _ AB3.out.range (fun hS=>?_)
       refine wAt #[true,true,true,false,false,false,false,true,false,false] 6 _ (by kernel_rfl) (by rfl) (by first|(simp only [zq];rfl)|rfl) ?_
       refine wpAnyH_ready (rs:=[3]) (by kernel_rfl) (by simp) (AllReadyH.cons rfl (fun K hK=>?_) AllReadyH.nil)
       rw [if_pos (by rfl)]
       go_simp
       go_at_call 54
       refine (HMK.out _).mono ?_
       rintro e w12 ⟨rfl,hbq⟩
       replace AB3:=hid (AB3.out.below hbq)
       replace AB0:=hid (AB0.out.below hbq)
       replace A4:=hid (A4.out.below hbq)
       replace HG:=hid (gBt HG.out (grownBy_below hbq _))
       replace HT:=hid (HT.out.below hbq)
       clear hbq
       show K _ w12
       refine hK.out _ _ AB3.out.range (fun hS=>?_)
       refine wtD (some 17) rfl (i:=4) (v:=.tuple #[.agg cR.toArray,.int .i64 code]) rfl (by kernel_rfl) (by kernel_rfl) (by kernel_rfl) (fun _ _ _ h=>h) (.inl ⟨by rfl,fun w _=>by rfl⟩) hS ?_
       refine wtD (some 22) rfl (i:=5) (v:=.agg cR.toArray) rfl (by kernel_rfl) (by kernel_rfl) (by kernel_rfl) (fun _ _ _ h=>h) (.inl ⟨by rfl,fun w _=>by rfl⟩) hS ?_
       refine wtD (some 23) rfl (i:=6) (v:=.int .i64 code) rfl (by kernel_rfl) (by kernel_rfl) (by kernel_rfl) (fun _ _ _ h=>h) (.inl ⟨by rfl,fun w _=>by rfl⟩) hS ?_
       refine wAt #[true,true,true,true,true,true,true,true,false,false] 2 _ (by kernel_rfl) (by rfl) (by first|(simp only [zq];rfl)|rfl) ?_
       refine wpAnyH_ready (rs:=[8]) (by kernel_rfl) (by simp) (AllReadyH.cons rfl (fun K hK=>?_) AllReadyH.nil)
       rw [if_pos (by rfl)]
       have hl4:cR.length=cz.length:=by obtain ⟨_,_,_,_,h,_⟩:=HRT.out;rw [h,V_cz.out];simp [rat,qlL]
       have hth:(w12).there b4 0 cR.toArray.size:=by rw [List.size_toArray,hl4];exact fun j hj=>A4.out.there j (by have:=HZ4.out;simp;omega)
       obtain ⟨ra,rb,rp,rq,hrr,_,_⟩:=HRT.out
       refine wp_store_mid 27 _ _ rfl b4 0 cR.toArray (by rfl) (by rfl) hth (by rw [List.size_toArray];exact qR hrr) (oneR hrr) ?_
       obtain ⟨w13,hww13⟩:∃ x,x=(w12).setCells b4 0 cR:=⟨_,rfl⟩
       replace AB3:=hid (show At w13 b3 0 cd by rw [hww13];exact AB3.out.sets (by omega) _ _)
       replace AB0:=hid (show At w13 B0 0 cz by rw [hww13];exact AB0.out.sets (by omega) _ _)
       replace A4:=hid (show At w13 b4 0 cR by rw [hww13];exact ⟨World.rangeAt_setCells_same _ _ _ _ (by simpa using hth),World.there_setCells (by simpa using hth) _ _ _,by rw [size_sets];exact A4.out.lt⟩)
       replace HT:=hid (show IsTape w13 bt at3 by rw [hww13];exact HT.out.grown (sets_grown _ _ _) (fun q hq=>by injection hq with hq;omega))
       replace HG:=hid (show w.grownBy w13 (some bt) by rw [hww13];exact grown_sets HG.out (by have:=HB0.out;omega) _)
       first|rw [List.toList_toArray,←hww13]|rw [←hww13]
       show K (Act.put _ none undef) w13
       clear hww13 hth hrr
       refine hK.out _ _ AB3.out.range (fun hS=>?_)
       refine wtD (some 6) rfl (i:=9) (v:=.int .i64 code) rfl (by kernel_rfl) (by kernel_rfl) (by kernel_rfl) (fun _ _ _ h=>h) (.inl ⟨by rfl,fun w _=>by rfl⟩) hS ?_
       refine wAt #[true,true,true,true,true,true,true,true,true,true] 0 _ (by kernel_rfl) (by rfl) (by first|(simp only [zq];rfl)|rfl) ?_
       refine wpAnyH_done (by kernel_rfl) (NoPanic.normal ?_) _
       go_wp2
       go_meet
       exact ⟨b4,at3,cR,rfl,HRT.out,A4.out,AB0.out,HT.out,by omega,HG.out⟩
     ·skip
      rw [if_pos (by rfl)]
      obtain ⟨z4,hL,hz4⟩:=Tryz.alR (qR V_cz.out)
      unfold Oper.wp
      rw [hL _ rfl _ _]
      obtain ⟨b4,hb4⟩:∃ b,b=(wd).heap.size:=⟨_,rfl⟩
      obtain ⟨w14,hww14⟩:∃ x,x=(wd).alloc (.cells z4 27):=⟨_,rfl⟩
      have hbq:Below (wd).heap.size (wd) w14:=by rw [hww14];exact (Below.refl _ _).alloc (Nat.le_refl _) _
      have A4:=hid (show At w14 b4 0 z4.toList by rw [hww14,hb4];have:=At.fresh (wd) z4.toList 27 rfl;simpa using this)
      have h34:b3<b4:=by rw [hb4];exact AB3.out.lt
      replace AB3:=hid (AB3.out.below hbq)
      replace AB0:=hid (AB0.out.below hbq)
      replace HG:=hid (gBt HG.out (grownBy_below hbq _))
      replace HT:=hid (HT.out.below hbq)
      first|rw [←hww14,←hb4]|(simp only [←hww14,←hb4])
      show K (Act.put _ (some 5) (.pointer (some ⟨b4,0,none⟩))) w14
      clear hbq hww14 hL hb4
      have HZ4:=hid hz4
      clear hz4
      refine hK.out _ _ AB3.out.range (fun hS=>?_)
      refine wAt #[true,false,true,false,false,false,false,true,false,false] 7 _ (by kernel_rfl) (by rfl) (by first|(simp only [zq];rfl)|rfl) ?_
      refine wpAnyH_ready (rs:=[1]) (by kernel_rfl) (by simp) (AllReadyH.cons rfl (fun K hK=>?_) AllReadyH.nil)
      rw [if_pos (by rfl)]
      go_simp
      go_at_call 52
      refine (rint_any bt _ 480 _ HT.out (by omega) (by omega) (by omega)).mono ?_
      rintro e w15 ⟨z2,at3,hz2,rfl,htq,ha3,hgq⟩
      replace AB3:=hid (AB3.out.grown hgq (fun q hq=>by injection hq with hq;omega))
      replace AB0:=hid (AB0.out.grown hgq (fun q hq=>by injection hq with hq;omega))
      replace A4:=hid (A4.out.grown hgq (fun q hq=>by injection hq with hq;omega))
      replace HG:=hid (gBt HG.out hgq)
      replace HT:=hid htq
      obtain ⟨cn,hcn⟩:∃ c,c=iZ z2:=⟨_,rfl⟩
      rw [←hcn]
      obtain ⟨code,hcode⟩:∃ c,c=resE (mkQ z2 D):=⟨_,rfl⟩
      obtain ⟨cR,hcR⟩:∃ c,c=resR (mkQ z2 D):=⟨_,rfl⟩
      have HMK:=hid (rmakeQ (D:=D) hcn (show cd=iZ (D:Int) by rw [iZ_nat];exact V_cd.out) hcR hcode hz2 HDD.out.2 HDD.out.1)
      have HRT:=hid (show IsRat cR by rw [hcR];exact isRat_mk z2 D HDD.out.1)
      clear hcn hcode hcR hz2 htq hgq
      show K _ w15
      refine hK.out _ _ AB3.out.range (fun hS=>?_)
      refine wAt #[true,true,true,false,false,false,false,true,false,false] 6 _ (by kernel_rfl) (by rfl) (by first|(simp only [zq];rfl)|rfl) ?_
      refine wpAnyH_ready (rs:=[3]) (by kernel_rfl) (by simp) (AllReadyH.cons rfl (fun K hK=>?_) AllReadyH.nil)
      rw [if_pos (by rfl)]
      go_simp
      go_at_call 54
      refine (HMK.out _).mono ?_
      rintro e w16 ⟨rfl,hbq⟩
      replace AB3:=hid (AB3.out.below hbq)
      replace AB0:=hid (AB0.out.below hbq)
      replace A4:=hid (A4.out.below hbq)
      replace HG:=hid (gBt HG.out (grownBy_below hbq _))
      replace HT:=hid (HT.out.below hbq)
      clear hbq
      show K _ w16
      refine hK.out _ _ AB3.out.range (fun hS=>?_)
      refine wtD (some 17) rfl (i:=4) (v:=.tuple #[.agg cR.toArray,.int .i64 code]) rfl (by kernel_rfl) (by kernel_rfl) (by kernel_rfl) (fun _ _ _ h=>h) (.inl ⟨by rfl,fun w _=>by rfl⟩) hS ?_
      refine wtD (some 22) rfl (i:=5) (v:=.agg cR.toArray) rfl (by kernel_rfl) (by kernel_rfl) (by kernel_rfl) (fun _ _ _ h=>h) (.inl ⟨by rfl,fun w _=>by rfl⟩) hS ?_
      refine wtD (some 23) rfl (i:=6) (v:=.int .i64 code) rfl (by kernel_rfl) (by kernel_rfl) (by kernel_rfl) (fun _ _ _ h=>h) (.inl ⟨by rfl,fun w _=>by rfl⟩) hS ?_
      refine wAt #[true,true,true,true,true,true,true,true,false,false] 2 _ (by kernel_rfl) (by rfl) (by first|(simp only [zq];rfl)|rfl) ?_
      refine wpAnyH_ready (rs:=[8]) (by kernel_rfl) (by simp) (AllReadyH.cons rfl (fun K hK=>?_) AllReadyH.nil)
      rw [if_pos (by rfl)]
      have hl4:cR.length=cz.length:=by obtain ⟨_,_,_,_,h,_⟩:=HRT.out;rw [h,V_cz.out];simp [rat,qlL]
      have hth:(w16).there b4 0 cR.toArray.size:=by rw [List.size_toArray,hl4];exact fun j hj=>A4.out.there j (by have:=HZ4.out;simp;omega)
      obtain ⟨ra,rb,rp,rq,hrr,_,_⟩:=HRT.out
      refine wp_store_mid 27 _ _ rfl b4 0 cR.toArray (by rfl) (by rfl) hth (by rw [List.size_toArray];exact qR hrr) (oneR hrr) ?_
      obtain ⟨w17,hww17⟩:∃ x,x=(w16).setCells b4 0 cR:=⟨_,rfl⟩
      replace AB3:=hid (show At w17 b3 0 cd by rw [hww17];exact AB3.out.sets (by omega) _ _)
      replace AB0:=hid (show At w17 B0 0 cz by rw [hww17];exact AB0.out.sets (by omega) _ _)
      replace A4:=hid (show At w17 b4 0 cR by rw [hww17];exact ⟨World.rangeAt_setCells_same _ _ _ _ (by simpa using hth),World.there_setCells (by simpa using hth) _ _ _,by rw [size_sets];exact A4.out.lt⟩)
      replace HT:=hid (show IsTape w17 bt at3 by rw [hww17];exact HT.out.grown (sets_grown _ _ _) (fun q hq=>by injection hq with hq;omega))
      replace HG:=hid (show w.grownBy w17 (some bt) by rw [hww17];exact grown_sets HG.out (by have:=HB0.out;omega) _)
      first|rw [List.toList_toArray,←hww17]|rw [←hww17]
      show K (Act.put _ none undef) w17
      clear hww17 hth hrr
      refine hK.out _ _ AB3.out.range (fun hS=>?_)
      refine wtD (some 6) rfl (i:=9) (v:=.int .i64 code) rfl (by kernel_rfl) (by kernel_rfl) (by kernel_rfl) (fun _ _ _ h=>h) (.inl ⟨by rfl,fun w _=>by rfl⟩) hS ?_
      refine wAt #[true,true,true,true,true,true,true,true,true,true] 0 _ (by kernel_rfl) (by rfl) (by first|(simp only [zq];rfl)|rfl) ?_
      refine wpAnyH_done (by kernel_rfl) (NoPanic.normal ?_) _
      go_wp2
      go_meet
      exact ⟨b4,at3,cR,rfl,HRT.out,A4.out,AB0.out,HT.out,by omega,HG.out⟩
    case rest =>
     clear AB0 AB3 HG HT V_cd HDD
     obtain ⟨b4,at3,cR,rfl,hR,hA4,hA0,hT,hat3,hG⟩:=hcut
     obtain ⟨ra,rb,rp,rq,hrr,hp,hq⟩:=hR
     have V_cR:=hid hrr
     have hlc:cR.length=cz.length:=by rw [hrr,V_cz.out];simp [rat,qlL]
     have AB4:=hid hA4
     have AS:=hid (hA0.setAll hlc)
     have HTH:=hid (show wc.there B0 0 cR.toArray.size by rw [List.size_toArray,hlc];exact hA0.there)
     have HE:=hid (show RatP bt at_ 1500 w (.returned (.agg cR.toArray)) (wc.setCells B0 0 cR) from ⟨cR,_,⟨ra,rb,rp,rq,hrr,hp,hq⟩,rfl,hT.grown (sets_grown _ _ _) (fun q hq=>by injection hq with hq;omega),by omega,grown_sets hG (by rw [HB0.out];exact Nat.le_refl _) _⟩)
     have HSZ:=hid (show (Tryz.prog.info? 27).map (·.size)=some cR.toArray.size by rw [List.size_toArray];exact qR V_cR.out)
     clear hrr hp hq hlc hA4 hA0 hT hG
     go_wp2_with (first|(refine wpList_load_mid rfl _ _ rfl b4 0 rfl cR _ AB4.out.range Tryz.underlying27 rfl (qR V_cR.out) ?_)|(refine wpList_store_mid rfl _ _ _ rfl B0 0 _ rfl rfl HTH.out HSZ.out (oneR V_cR.out) ?_))
     have hld:=AS.out.read (P:=Tryz.prog) Tryz.underlying27 rfl (qR V_cR.out)
     refine bodyPost_ret (v:=.agg cR.toArray) (by simp [results,Tryz.results20,asAddr,hld,Act.put]) rfl ?_
     exact HE.out
  ·go_wp2_with fail
   refine (rratio_any bt _ _ HT.out (by omega)).mono ?_
   rintro e w6 ⟨cR,at3,⟨ra,rb,rp,rq,hrr,hp,hq⟩,rfl,ht6,ha6,hg6⟩
   replace AB0:=hid (AB0.out.grown hg6 (fun q hq=>by injection hq with hq;omega))
   replace HG:=hid (gBt HG.out hg6)
   have V_cR:=hid hrr
   have hlc:cR.length=cz.length:=by rw [hrr,V_cz.out];simp [rat,qlL]
   have AS:=hid (AB0.out.setAll hlc)
   have HTH:=hid (show w6.there B0 0 cR.toArray.size by rw [List.size_toArray,hlc];exact AB0.out.there)
   have HE:=hid (show RatP bt at_ 1500 w (.returned (.agg cR.toArray)) (w6.setCells B0 0 cR) from ⟨cR,_,⟨ra,rb,rp,rq,hrr,hp,hq⟩,rfl,ht6.grown (sets_grown _ _ _) (fun q hq=>by injection hq with hq;omega),by omega,grown_sets HG.out (by rw [HB0.out];exact Nat.le_refl _) _⟩)
   have HSZ:=hid (show (Tryz.prog.info? 27).map (·.size)=some cR.toArray.size by rw [List.size_toArray];exact qR V_cR.out)
   clear hrr hp hq hlc ht6 hg6
   go_wp2_with (refine wpList_store_mid rfl _ _ _ rfl B0 0 _ rfl rfl HTH.out HSZ.out (oneR V_cR.out) ?_)
   have hld:=AS.out.read (P:=Tryz.prog) Tryz.underlying27 rfl (qR V_cR.out)
   refine bodyPost_ret (v:=.agg cR.toArray) (by simp [results,Tryz.results20,asAddr,hld,Act.put]) rfl ?_
   exact HE.out
end Go.Proofs.YtmcekgapelanhaaGreat
