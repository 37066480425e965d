import Derived.Test.YtemoddmadfoaiaaGreatEvF
import Derived.Test.YtemoddmadfoaiaaGreatScP
set_option linter.unusedVariables false
set_option linter.unusedSimpArgs false
set_option maxRecDepth 100000
set_option maxHeartbeats 8000000
namespace Go.Proofs.YtemoddmadfoaiaaGreat
open Go.RowKit Big Reg Al Ga Dl
open Lib (hid)
def ExeP (g:Nat) (v0:Value) (l0:List Lot) (co cb:List Value) (z ser:Int) (r:Except Int (List Lot × Nt)) (w:World) (e:Ending) (w':World):Prop:=w.grownBy w' (some g)∧match r with
 | .error c=>e=.returned (.tuple #[.agg zeroNt.toArray,.int .i64 c])
 | .ok (l',x)=>∃ v' vl,e=.returned (.tuple #[.agg (ntC x.key x.nom x.hol x.kind x.units x.money vl).toArray,.int .i64 0])∧Cnt w' g v' co cb z ser∧(Own w' w.heap.size v' l'∨v'=v0∧l'=l0)∧Own w' w.heap.size vl x.lots
theorem qaM {P:Program} {o:Oper} {a:Act} {ty:TypeId} {x:Operand} {ad:Addr} {v:Value} {W:World} (ho:o.op=.load ty x) (hx:a.eval x=.pointer (some ad)) (h:(loadVar ty ad).run P W=.ok v W):(execOp a.eval o).run P W=.ok (.value v) W:=by
 unfold execOp;simp only [ho,hx,Instr.loadAt,Instr.sureAddr,Sem.run_bind,Sem.run_pure,Result.andThen_ok,h]
theorem Own.growS {w w':World} {B X:Nat} {v:Value} {l:List Lot} (h:Own w B v l) (hg:w.grownBy w' (some X)) (hX:X<B):Own w' B v l :=
 World.ownsRow.kept h hg (.inr fun e=>by have:=(h.lt X e).1;omega)
theorem EvRed.upG {B X:Nat} {la lb:List Lot} {v:Value} {x y:World} (h:EvRed B la lb v x) (hg:x.grownBy y (some X)) (hX:X<B):EvRed B la lb v y:=by
 obtain ⟨va,vb,h1,h2,h3⟩:=h;exact ⟨va,vb,h1,h2.growS hg hX,h3.growS hg hX⟩
theorem EvRed.base {B B':Nat} {la lb:List Lot} {v:Value} {x:World} (h:EvRed B la lb v x) (hB:B'≤B):EvRed B' la lb v x:=by
 obtain ⟨va,vb,h1,h2,h3⟩:=h;exact ⟨va,vb,h1,h2.base hB,h3.base hB⟩
theorem EvIss.upG {B X:Nat} {la:List Lot} {er:Int} {v:Value} {x y:World} (h:EvIss B la er v x) (hg:x.grownBy y (some X)) (hX:X<B):EvIss B la er v y:=by
 obtain ⟨va,h1,h2⟩:=h;exact ⟨va,h1,h2.growS hg hX⟩
theorem EvIss.base {B B':Nat} {la:List Lot} {er:Int} {v:Value} {x:World} (h:EvIss B la er v x) (hB:B'≤B):EvIss B' la er v x:=by
 obtain ⟨va,h1,h2⟩:=h;exact ⟨va,h1,h2.base hB⟩
theorem qeR {w:World} {B:Nat} {v:Value} {l:List Lot} (h:Own w B v l):(#[v]:Array Value).all (·.oneCell')=true:=by
 obtain ⟨A,c,rfl⟩:=Rd.form h.lots;simp [Value.oneCell']
theorem qnP {a b:World} {r:Option Nat} (h:a.grownBy b r):a.grownBy b.drew r:=⟨h.os,h.tape,h.output,h.size,h.block⟩
theorem At.drew1 {w:World} {b o:Nat} {cs:List Value} (h:At w b o cs):At w.drew b o cs:=⟨h.range,h.there,h.lt⟩
theorem Tryz.layRg:LaysAs Tryz.prog 40 #[.slice none 0 0]:=by intro o ho b w;unfold execOp;simp only [ho];rfl
theorem qdL {w y:World} {r:Option Nat} (h:w.grownBy y r) (p:Addr) (v:Value) (hp:w.heap.size≤p.block):w.grownBy (y.setCell p v) r :=
 ⟨h.os,h.tape,h.output,by simpa [World.setCell] using h.size,fun k hk hr=>by rw [Below.heap_setCell _ _ _ _ (by omega)];exact h.block k hk hr⟩
theorem qeO (y:World) (b:Nat) (cs:List Value):y.grownBy (y.setCells b 0 cs) (some b):=by
 have h2:=qaB (B:=b) (b:=b) (Nat.le_refl _) cs 0 y (Below.refl _ _);exact ⟨h2.os,h2.tape,h2.output,h2.size,fun q hq hr=>qcH q b (fun e=>hr (by rw [e])) cs 0 y⟩
theorem qdA {w y:World} {r:Option Nat} {b:Nat} (h:w.grownBy y r) (hb:w.heap.size≤b) (cs:List Value):w.grownBy (y.setCells b 0 cs) r:=by
 have h2:=qeO y b cs;exact ⟨h2.os.trans h.os,h2.tape.trans h.tape,h2.output.trans h.output,Nat.le_trans h.size h2.size,fun k hk hr=>by rw [h2.block k (Nat.lt_of_lt_of_le hk h.size) (fun e=>by injection e with e;omega)];exact h.block k hk hr⟩
theorem Cnt.sets {w:World} {g b:Nat} {v:Value} {co cb:List Value} {z ser:Int} (h:Cnt w g v co cb z ser) (hne:g≠b) (cs:List Value):Cnt (w.setCells b 0 cs) g v co cb z ser:=h.grown (qeO w b cs) hne
theorem Own.sets2 {w:World} {B b:Nat} {v:Value} {l:List Lot} (h:Own w B v l) (hne:v.ownBlock≠some b) (cs:List Value):Own (w.setCells b 0 cs) B v l:=World.ownsRow.kept h (qeO w b cs) (.inr hne)
theorem qwV {l:List Lot} {nm hl:ByteArray} (h1:checkB l=true) (h2:acctB nm hl=true):balN l nm hl=sumU (ownL nm hl l)∧balE l nm hl=0:=by
 unfold balN balE;rw [if_pos ⟨h1,h2⟩,if_neg (by rw [h1];decide),if_neg (by rw [h2];decide)];exact ⟨rfl,rfl⟩
theorem qtW {l:List Lot} {nm hl:ByteArray} {n:Int} (h1:checkB l=true) (h2:acctB nm hl=true) (h3:0≤n) (h4:n≤1000000000000000):redE l nm hl n=0∧redL l nm hl n=takeR nm hl l n:=by
 have e:redE l nm hl n=0:=by unfold redE;rw [if_neg (by rw [h1];decide),if_neg (by rw [h2];decide),if_neg (by omega)]
 exact ⟨e,by unfold redL;rw [if_pos e]⟩
theorem qpE {l:List Lot} {nm hl:ByteArray} (h:checkB l=true):0≤sumU (ownL nm hl l)∧sumU (ownL nm hl l)≤1000000000000000:=by
 obtain ⟨f1,f2,f3,f4,f5⟩:=qaQ h;have h1:=(qiD nm hl l).1;have h2:=(qbB (ownL nm hl l) (ownL nm hl l).length (fun x hx=>by have:=(qfV f5).1 x hx;omega)).2;have h3:=(qbB (othL nm hl l) (othL nm hl l).length (fun x hx=>(qfV f5).2 x hx)).2;rw [List.take_length] at h2 h3;omega
theorem qtV {co cb cod crg:List Value} {A:Option Addr} {cap pl g:Nat} {z ser:Int} {o:Od} {l:List Lot} {bid:Qn} (hcod:cod=o.cells) (hcb:cb=ratZ bid.1 bid.2) (hp:Pc bid) (hz:z=(pl:Int)) (h6:pl≤6) (hO:Dl.Ask o) (hk:subs o=false) (hA:acctB o.nom o.hol=true) (hC:checkB l=true) (w:World)
  (hc:Cnt w g (.slice A l.length cap) co cb z ser) (hl:LotsAt w (.slice A l.length cap) l) :
  Calls Tryz.prog 56 #[.pointer (some ⟨g,0,none⟩),.agg cod.toArray] w (ExeP g (.slice A l.length cap) l co cb z ser (redO bid pl l o) w):=by
 obtain ⟨nS,hnS⟩:∃ n,n=l.length:=⟨_,rfl⟩;rw [←hnS] at hc hl;obtain ⟨has,hhas⟩:∃ h,h=sumU (ownL o.nom o.hol l):=⟨_,rfl⟩;have hasb:0≤has∧has≤1000000000000000:=by rw [hhas];exact qpE hC
 obtain ⟨RES,hRES⟩:∃ r,r=redO bid pl l o:=⟨_,rfl⟩;have HRES:=hid (show RES=match redN bid pl has o with|.error e=>.error e|.ok (n,m)=>match redM bid pl n m with|.error e=>.error e|.ok m=>.ok ((takeR o.nom o.hol l n).1,noteO o n m (takeR o.nom o.hol l n).2) by rw [hRES,hhas];rfl);rw [←hRES];have V_cod:=hid (show cod=[.string o.key,.string o.nom,.string o.hol,.string o.fund,.string o.cls,.int .i64 o.kind,.int .i64 o.amount,.int .i64 o.units,.int .i64 o.at_,.int .i64 o.known,.bool o.void] from hcod);have V_cb:=hid (show cb=rat (decide (bid.1<0)) bid.1.natAbs false bid.2 from hcb);obtain ⟨ca,V_ca⟩:∃ c:List Value,Hid (c=acC o.nom o.hol):=⟨_,hid rfl⟩;obtain ⟨crg,V_crg⟩:∃ c:List Value,Hid (c=[.slice A nS cap]):=⟨_,hid rfl⟩;obtain ⟨cz,V_cz⟩:∃ c:List Value,Hid (c=ntC ⟨#[]⟩ ⟨#[]⟩ ⟨#[]⟩ 0 0 0 (.slice none 0 0)):=⟨_,hid rfl⟩;obtain ⟨cn,V_cn⟩:∃ c:List Value,Hid (c=ntC o.key o.nom o.hol o.kind 0 0 (.slice none 0 0)):=⟨_,hid rfl⟩
 have HBAL:=hid (fun W (h:Below w.heap.size w W)=>show Calls Tryz.prog 87 #[.agg crg.toArray,.agg ca.toArray] W (fun e w'=>e=.returned (.tuple #[.int .i64 has,.int .i64 0])∧Below W.heap.size W w') by
  rw [V_crg.out,V_ca.out,hnS]
  have:=qpS A cap l o.nom o.hol W (hnS ▸ hl.below h)
  rw [(qwV hC hA).1,(qwV hC hA).2,←hhas] at this;exact this)
 have HRED:=hid (fun n (h0:0≤n) (h1:n≤1000000000000000) W (h:Below w.heap.size w W)=>show Calls Tryz.prog 90 #[.agg crg.toArray,.agg ca.toArray,.int .i64 n] W (RedP (takeR o.nom o.hol l n).1 (takeR o.nom o.hol l n).2 0 W) by
  rw [V_crg.out,V_ca.out,hnS]
  have:=qrP _ l o.nom o.hol n W (hnS ▸ hl.below h)
  rw [(qtW hC hA h0 h1).1,(qtW hC hA h0 h1).2] at this;exact this)
 have HKD:=hid (show o.kind=3∨o.kind=4∨o.kind=5 by
  have h1:=hO.knd;unfold subs at hk;simp only [Bool.or_eq_false_iff,decide_eq_false_iff_not] at hk
  omega)
 have HAS:=hid hasb;have HOA:=hid hO
 have HRC:=hid (fun (r code:Int) (h:o.kind=4)=>qmY (mode:=4) (am:=o.amount) (most:=has) (r:=r) (code:=code) (g:=g) hcb hp hz h6 (by
  have:=hO.amt (.inr h);omega) (by have:=hO.amt (.inr h);omega) hasb.1 hasb.2)
 have HMN:=hid (fun (n r code:Int) (h0:0≤n) (h1:n≤1000000000000000)=>qnE (mode:=3) (k:=n) (r:=r) (code:=code) (g:=g) hcb hp hz h6 h0 h1 (.inl rfl));have HMP:=hid (fun q (hk4:o.kind=4) (hq:manyQ bid pl o.amount=some q)=>qkK hp h6 (by have:=hO.amt (.inr hk4);omega) hq);have HG:=hid hc.reg.lt;have Ag:=hid (show At w g 0 crg by rw [V_crg.out];exact hc.reg);have Ago:=hid hc.off;have Agb:=hid hc.bid;have Agp:=hid hc.pl;have Ags:=hid hc.ser;clear hnS hhas hasb hRES hcod hcb hp hz h6 hO hk hA hC hc hl;obtain ⟨B0,hB0⟩:∃ B,B=w.heap.size:=⟨_,rfl⟩;obtain ⟨B1,hB1⟩:∃ B,B=w.heap.size+1:=⟨_,rfl⟩;obtain ⟨w0,hw0⟩:∃ w0,w0=((w.alloc (.cells cod.toArray 58)).alloc (.cells #[.string ⟨#[]⟩,.string ⟨#[]⟩,.string ⟨#[]⟩,.int .i64 0,.int .i64 0,.int .i64 0,.slice none 0 0] 66)):=⟨_,rfl⟩;have AB0:=hid (show At w0 B0 0 cod by rw [hw0];exact ((show At (w.alloc (.cells cod.toArray 58)) B0 0 cod from At.fresh _ cod _ (by simp [hB0])).alloc _));have AB1:=hid (show At w0 B1 0 cz by rw [hw0];exact (show At ((w.alloc (.cells cod.toArray 58)).alloc (.cells #[.string ⟨#[]⟩,.string ⟨#[]⟩,.string ⟨#[]⟩,.int .i64 0,.int .i64 0,.int .i64 0,.slice none 0 0] 66)) B1 0 cz from (by rw [V_cz.out];exact At.fresh _ zeroNt _ (by simp [hB1]))));have FR:=hid (show Fr B0 w w0 by rw [hw0,hB0];exact ((Fr.start w).alloc _).alloc _);have FR0:=hid FR.out.le;have l01:B0<B1:=by omega
 have hZB1:B0≤B1:=by omega
 have hZB0:B0≤B0:=Nat.le_refl _;have HB0:=hid hB0;go_enter Tryz.func56,Tryz.ntmps56
 go_upto_region 1 with fail
 rw [←hw0,←hB1,←hB0];clear hw0 hB0 hB1;have AB0_a:=hid (show At w0 B0 1 ca by have h:=AB0.out;rw [V_cod.out] at h;rw [V_ca.out];exact At.sub (xs:=[.string o.key]) (ys:=acC o.nom o.hol) (zs:=_) h rfl);have HGB:=hid (show g<B0 by rw [HB0.out];exact HG.out);have lgB0:g<B0:=HGB.out;have hB0w:=hid (show Below w.heap.size w w0 by have:=FR.out.below;rwa [HB0.out] at this);replace Ag:=hid (Ag.out.below hB0w.out);replace Ago:=hid (Ago.out.below hB0w.out);replace Agb:=hid (Agb.out.below hB0w.out);replace Agp:=hid (Agp.out.below hB0w.out);replace Ags:=hid (Ags.out.below hB0w.out);refine wT [⟨true,7,6,8,0,0,66,23,cn,0,cn,[]⟩] [(17,.pointer (some ⟨B0,0,none⟩)),(18,.string o.key),(19,.pointer (some ⟨B0,1,none⟩)),(20,.agg ca.toArray),(21,.pointer (some ⟨B0,5,none⟩)),(22,.int .i64 o.kind),(23,.agg cn.toArray)] (by simp only [zr,zq];rfl) (by kernel_rfl) rfl ?_ ?_ ?_ ?_
 ·intro W' hW';have z0:=((AB0.out.below hW').one (k:=0) (by rw [V_cod.out];rfl) (by rfl)).1;have z5:=((AB0.out.below hW').one (k:=5) (by rw [V_cod.out];rfl) (by rfl)).1;refine fxo ?_<|fxo (wcg (by rfl) rfl rfl (fun W h=>by simp [loadVar,h,go_sem]) z0 (wqn (by simp only [zq])))<|fxo ?_<|fxl (abl AB0_a hW') (qjB V_ca.out) Tryz.underlying54 rfl rfl<|fxo ?_<|fxo (wcg (by rfl) rfl rfl (fun W h=>by simp [loadVar,h,go_sem]) z5 (wqn (by simp only [zq])))<|fxb (jaB V_ca.out V_cn.out) rfl<|fxs rfl<|fxs rfl<|fxn;all_goals (go_big_quiet_step (fail);exact wqn rfl)
 ·exact fP1 (Tryz.alNt (qaV V_cn.out))
 ·exact fP1 (stw rfl (qaV V_cn.out) (qfW V_cn.out) (fun _=>rfl))
 intro β wx1 E;replace FR:=fnf FR E rfl;obtain ⟨b6,hb6,eb6⟩:=nwb E mms;have lB0_b6:B0<b6:=ltb AB0 eb6.1;have lB1_b6:B1<b6:=ltb AB1 eb6.1;have lg_b6:g<b6:=ltb Ag eb6.1;have hZb6:B0≤b6:=Nat.le_trans FR0.out eb6.1;replace AB0:=fnh AB0 E rfl;replace AB1:=fnh AB1 E rfl;replace AB0_a:=fnh AB0_a E rfl;replace Ag:=fnh Ag E rfl;replace Ago:=fnh Ago E rfl;replace Agb:=fnh Agb E rfl;replace Agp:=fnh Agp E rfl;replace Ags:=fnh Ags E rfl;have Ab6:=hid eb6.2;simp only [nP,zr,zq];rw [←hb6];replace FR0:=hid FR.out.le;clear E eb6 hb6;go_upto_region 2 with fail
 refine wT [] [(25,.pointer (some ⟨g,0,none⟩)),(26,.pointer (some ⟨g,0,none⟩)),(27,.pointer (some ⟨g,0,none⟩)),(28,.agg crg.toArray),(29,.pointer (some ⟨B0,1,none⟩)),(30,.agg ca.toArray),(31,.tuple #[.int .i64 has,.int .i64 0]),(24,.tuple #[.int .i64 has,.int .i64 0]),(32,.int .i64 has),(33,.int .i64 0),(7,.int .i64 has),(8,.int .i64 0)] (by simp only [zr,zq];rfl) (by kernel_rfl) rfl ?_ oN oN ?_
 ·intro W' hW';have hWW:∀ p:GB,Below w.heap.size w (gw W' p.d p.os):=fun p=>(show Below w.heap.size w W' from (by have:=FR.out.below;rw [HB0.out] at this;exact this.trans (hW'.mono (by have:=FR.out.le;have:=HB0.out;omega)))).trans ((qbG W' p.d p.os).mono (by have h1:=FR.out.le;have h2:=HB0.out;have h3:=hW'.size;omega))
  refine fo3 ?_ ?_ ?_<|fxl (abl Ag hW') (qhW V_crg.out) Tryz.underlying40 rfl rfl<|fxo ?_<|fxl (abl AB0_a hW') (qjB V_ca.out) Tryz.underlying54 rfl rfl<|fo4 ?_ ?_ ?_ ?_<|fo2 ?_ ?_<|fxn;all_goals (go_big_quiet_step ((go_at_call 87;exact qaA (HBAL.out _ (hWW ⟨_,_⟩))));exact wqn rfl)
 intro β wx2 E;replace FR:=fnf FR E rfl;replace AB0:=fnh AB0 E rfl;replace AB1:=fnh AB1 E rfl;replace AB0_a:=fnh AB0_a E rfl;replace Ag:=fnh Ag E rfl;replace Ago:=fnh Ago E rfl;replace Agb:=fnh Agb E rfl;replace Agp:=fnh Agp E rfl;replace Ags:=fnh Ags E rfl;replace Ab6:=fnh Ab6 E rfl;simp only [nP,zr,zq];replace FR0:=hid FR.out.le;clear E;have y5:=(AB0.out.one (k:=5) (by rw [V_cod.out];rfl) (by rfl)).1;have y7:=(AB0.out.one (k:=7) (by rw [V_cod.out];rfl) (by rfl)).1;have y6:=(AB0.out.one (k:=6) (by rw [V_cod.out];rfl) (by rfl)).1
 go_upto_block 0 with fail
 have FX:=hid (Fr.start wx2)
 go_cut [9,10,11] from 37 (fun p9 p10 p11 wx=>∃ n m0:Int,redN bid pl has o=.ok (n,m0)∧p9=.int .i64 n∧0≤n∧n≤has∧At wx b6 0 (ntC o.key o.nom o.hol o.kind 0 m0 (.slice none 0 0))∧wx2.grownBy wx (some b6))
 case first =>
  have hAS:=HAS.out;have Ab6':=hid (show At wx2 b6 0 (ntC o.key o.nom o.hol o.kind 0 0 (.slice none 0 0)) by have:=Ab6.out;rwa [V_cn.out] at this);rcases HKD.out with hk|hk|hk
  ·have HK:=hid hk;have b3:(o.kind==3)=true:=by rw [hk];rfl
   have HU:=hid (HOA.out.unt (.inr hk));clear hk;go_wp2_with fail
   go_meet
   have h2:=HU.out;exact ⟨min has o.units,0,by unfold redN;rw [if_pos HK.out],rfl,by omega,by omega,Ab6'.out,qdM _ _⟩
  ·have HK:=hid hk;have b3:(o.kind==3)=false:=by rw [hk];rfl
   have b4:(o.kind==4)=true:=by rw [hk];rfl
   clear hk
   cases hq:manyQ bid pl o.amount with
   | none =>
    have HE:=hid (show RES=.error 10 by
     have e:redN bid pl has o=.error 10:=by unfold redN;rw [if_neg (by rw [HK.out];decide),if_pos HK.out,hq]
     rw [HRES.out,e])
    have HR4:=hid (HRC.out 0 10 HK.out (.inl ⟨hq,rfl,rfl⟩));clear hq;go_upto_region 8 with fail
    refine wT [] [(46,.pointer (some ⟨g,0,none⟩)),(47,.pointer (some ⟨g,0,none⟩)),(48,.pointer (some ⟨g,0,none⟩)),(49,.pointer (some ⟨g,67,none⟩)),(50,.agg cb.toArray),(51,.pointer (some ⟨B0,6,none⟩)),(52,.int .i64 o.amount),(53,.int .i64 has),(54,.tuple #[.int .i64 0,.int .i64 10]),(45,.tuple #[.int .i64 0,.int .i64 10]),(55,.int .i64 0),(56,.int .i64 10),(10,.int .i64 0),(11,.int .i64 10)] (by simp only [zr,zq];rfl) (by kernel_rfl) rfl ?_ oN oN ?_
    ·intro W' hW';have hpl:=fun p:GB=>(((Agp.out.below hW').below (qbG W' p.d p.os)).one (k:=0) rfl rfl).1
     have hpt:=fun p:GB=>((Agp.out.below hW').below (qbG W' p.d p.os)).lt
     have z6:=((AB0.out.below hW').one (k:=6) (by rw [V_cod.out];rfl) (by rfl)).1;refine fo4 ?_ ?_ ?_ ?_<|ldR (abl Agb hW') V_cb rfl<|fxo ?_<|fxo (wcg (by rfl) rfl rfl (fun W h=>by simp [loadVar,h,go_sem]) z6 (wqn (by simp only [zq])))<|fo4 ?_ ?_ ?_ ?_<|fo3 ?_ ?_ ?_<|fxn;all_goals (go_big_quiet_step ((go_at_call 88;exact qaA (HR4.out _ (hpt ⟨_,_⟩) (hpl ⟨_,_⟩))));exact wqn rfl)
    intro β wx3 E;replace FR:=fnf FR E rfl;replace FX:=fnf FX E rfl;replace AB0:=fnh AB0 E rfl;replace AB1:=fnh AB1 E rfl;replace AB0_a:=fnh AB0_a E rfl;replace Ag:=fnh Ag E rfl;replace Ago:=fnh Ago E rfl;replace Agb:=fnh Agb E rfl;replace Agp:=fnh Agp E rfl;replace Ags:=fnh Ags E rfl;replace Ab6:=fnh Ab6 E rfl;simp only [nP,zr,zq];replace FR0:=hid FR.out.le;clear E;go_upto_region 10 with fail
    refine wF [⟨false,0,4,2,B1,0,66,59,cz,0,cz,[]⟩] [(59,.agg cz.toArray),(60,.int .i64 10),(5,.int .i64 10)] (by simp only [zr,zq];rfl) (by kernel_rfl) ?_ ?_ (fP1 bnC) ?_ uno ?_ ?_
    ·intro W' hW';refine fxb (qbQ V_cz.out) rfl<|fxo ?_<|fxs rfl<|fxo ?_<|fxn;all_goals (go_big_quiet_step (fail);exact wqn rfl)
    ·intro W' hK';refine fxb (qbQ V_cz.out) rfl<|fxi ?_<|fxs (by kernel_rfl)<|fxi ?_<|fxn;all_goals (first|(refine .inr ?_;go_big_quiet_step (fail);exact wqn rfl)|exact .inl (by kernel_rfl))
    ·exact fP1 (fun _=>⟨AB1.out.lt,rfl,At.room AB1.out (qaV V_cz.out) (qaV V_cz.out)⟩)
    ·exact fP1 (stw rfl (qaV V_cz.out) (qfW V_cz.out) (fun _=>rfl))
    intro β wx4 E;replace FR:=ffh FR E (by show B0≤B1;omega);replace AB0:=afh AB0 E (by show B1≠B0;omega);replace AB1:=hid (show At wx4 B1 0 cz from E.atOld mms rfl AB1.out.lt);replace AB0_a:=afh AB0_a E (by show B1≠B0;omega);replace Ag:=afh Ag E (by show B1≠g;omega);replace Ago:=afh Ago E (by show B1≠g;omega);replace Agb:=afh Agb E (by show B1≠g;omega);replace Agp:=afh Agp E (by show B1≠g;omega);replace Ags:=afh Ags E (by show B1≠g;omega);replace Ab6:=afh Ab6 E (by show B1≠b6;omega);simp only [nP,zr,zq];replace FR0:=hid FR.out.le;clear E;go_wp2_with fail
    have hld:=AB1.out.read (P:=Tryz.prog) Tryz.underlying66 rfl (qaV V_cz.out);refine bodyPost_ret (v:=.tuple #[.agg cz.toArray,.int .i64 10]) (by simp [results,Tryz.results56,asAddr,hld]) rfl ?_;rw [HE.out];exact ⟨qaL (by have:=FR.out.below;rwa [HB0.out] at this) _,by rw [V_cz.out];rfl⟩
   | some q =>
    obtain ⟨r,hr⟩:∃ r,r=reachC q has:=⟨_,rfl⟩;have HR4:=hid (HRC.out r 0 HK.out (.inr ⟨q,hq,rfl,.inr ⟨rfl,hr⟩⟩));have HQ:=hid hq;have HP:=hid (HMP.out q HK.out hq);have HE:=hid (show redN bid pl has o=if ceilQ q≤has then .ok (ceilQ q,o.amount) else .ok (has,0) by unfold redN;rw [if_neg (by rw [HK.out];decide),if_pos HK.out,hq]);have HRR:=hid hr;clear hq hr;go_upto_region 8 with fail
    refine wT [] [(46,.pointer (some ⟨g,0,none⟩)),(47,.pointer (some ⟨g,0,none⟩)),(48,.pointer (some ⟨g,0,none⟩)),(49,.pointer (some ⟨g,67,none⟩)),(50,.agg cb.toArray),(51,.pointer (some ⟨B0,6,none⟩)),(52,.int .i64 o.amount),(53,.int .i64 has),(54,.tuple #[.int .i64 r,.int .i64 0]),(45,.tuple #[.int .i64 r,.int .i64 0]),(55,.int .i64 r),(56,.int .i64 0),(10,.int .i64 r),(11,.int .i64 0)] (by simp only [zr,zq];rfl) (by kernel_rfl) rfl ?_ oN oN ?_
    ·intro W' hW';have hpl:=fun p:GB=>(((Agp.out.below hW').below (qbG W' p.d p.os)).one (k:=0) rfl rfl).1
     have hpt:=fun p:GB=>((Agp.out.below hW').below (qbG W' p.d p.os)).lt
     have z6:=((AB0.out.below hW').one (k:=6) (by rw [V_cod.out];rfl) (by rfl)).1;refine fo4 ?_ ?_ ?_ ?_<|ldR (abl Agb hW') V_cb rfl<|fxo ?_<|fxo (wcg (by rfl) rfl rfl (fun W h=>by simp [loadVar,h,go_sem]) z6 (wqn (by simp only [zq])))<|fo4 ?_ ?_ ?_ ?_<|fo3 ?_ ?_ ?_<|fxn;all_goals (go_big_quiet_step ((go_at_call 88;exact qaA (HR4.out _ (hpt ⟨_,_⟩) (hpl ⟨_,_⟩))));exact wqn rfl)
    intro β wx3 E;replace FR:=fnf FR E rfl;replace FX:=fnf FX E rfl;replace AB0:=fnh AB0 E rfl;replace AB1:=fnh AB1 E rfl;replace AB0_a:=fnh AB0_a E rfl;replace Ag:=fnh Ag E rfl;replace Ago:=fnh Ago E rfl;replace Agb:=fnh Agb E rfl;replace Agp:=fnh Agp E rfl;replace Ags:=fnh Ags E rfl;replace Ab6:=fnh Ab6 E rfl;simp only [nP,zr,zq];replace FR0:=hid FR.out.le;clear E;by_cases hle:ceilQ q≤has
    ·have HRE:=hid (show r=ceilQ q by rw [HRR.out];unfold reachC;rw [if_pos hle]);have HE2:=hid (show redN bid pl has o=.ok (ceilQ q,o.amount) by rw [HE.out,if_pos hle]);have HLE:=hid hle;have c1:r≤has:=by have:=HRE.out;omega
     clear hle;have y6:=(AB0.out.one (k:=6) (by rw [V_cod.out];rfl) (by rfl)).1;have n5:=(Ab6.out.one (k:=5) (v:=.int .i64 0) (by rw [V_cn.out];rfl) (by rfl));have n5c:=n5.1;have n5f:=n5.2;clear n5;go_upto_region 12 with fail
     go_region
     all_goals
      go_wp2_with fail
      go_meet
      have hr:=HRE.out;have hle:=HLE.out;have hp:=HP.out;refine ⟨ceilQ q,o.amount,HE2.out,by rw [←hr],hp.2.2,hle,?_,qnP (gBt (qaL FX.out.below _) (qbC _ rfl _))⟩
      have:=Ab6.out
      rw [V_cn.out] at this;exact At.drew1 (this.set (k:=5) (v:=.int .i64 o.amount) (by rfl) (by show 5<7;decide))
    ·have HE2:=hid (show redN bid pl has o=.ok (has,0) by rw [HE.out,if_neg hle]);have c1:¬r≤has:=by have:=HRR.out;unfold reachC at this;rw [if_neg hle] at this;omega
     clear hle;go_wp2_with fail
     go_meet
     have hAS:=HAS.out;exact ⟨has,0,HE2.out,rfl,hAS.1,Int.le_refl _,by have:=Ab6.out;rwa [V_cn.out] at this,qaL FX.out.below _⟩
  ·have HK:=hid hk;have b3:(o.kind==3)=false:=by rw [hk];rfl
   have b4:(o.kind==4)=false:=by rw [hk];rfl
   clear hk;go_wp2_with fail
   go_meet
   exact ⟨has,0,by unfold redN;rw [if_neg (by rw [HK.out];decide),if_neg (by rw [HK.out];decide)],rfl,hAS.1,Int.le_refl _,Ab6'.out,qdM _ _⟩
 case rest =>
  obtain ⟨n,m0,hN,rfl,hn0,hn1,hA6,hgr⟩:=hcut;have HN:=hid hN;have HNB:=hid (And.intro hn0 (show n≤1000000000000000 by have:=HAS.out;omega));have HA6:=hid hA6;clear hN hn0 hn1 hA6 FX y5 y6 y7;replace AB0:=hid (AB0.out.gro hgr (by omega));replace AB1:=hid (AB1.out.gro hgr (by omega));replace AB0_a:=hid (AB0_a.out.gro hgr (by omega));replace Ag:=hid (Ag.out.gro hgr (by omega));replace Ago:=hid (Ago.out.gro hgr (by omega));replace Agb:=hid (Agb.out.gro hgr (by omega));replace Agp:=hid (Agp.out.gro hgr (by omega));replace Ags:=hid (Ags.out.gro hgr (by omega));replace FR:=hid (FR.out.grown hgr (by omega));replace FR0:=hid FR.out.le;clear hgr Ab6;obtain ⟨c2,V_c2⟩:∃ c:List Value,Hid (c=ntC o.key o.nom o.hol o.kind 0 m0 (.slice none 0 0)):=⟨_,hid rfl⟩;have Ab6:=hid (show At wc b6 0 c2 by rw [V_c2.out];exact HA6.out);have n5:=(Ab6.out.one (k:=5) (v:=.int .i64 m0) (by rw [V_c2.out];rfl) (by rfl));have n5c:=n5.1;have n5f:=n5.2;clear n5 HA6
  go_upto_if 70 with fail
  have FX:=hid (Fr.start wc);obtain ⟨wd,hwd⟩:∃ wd,wd=wc:=⟨_,rfl⟩
  go_cut [12,13] from 70 (fun p12 p13 wx=>∃ m:Int,redM bid pl n m0=.ok m∧At wx b6 0 (ntC o.key o.nom o.hol o.kind 0 m (.slice none 0 0))∧wd.grownBy wx (some b6))
  case first =>
   by_cases hm:m0=0
   ·have HM:=hid hm;have bm:(m0==0)=true:=by rw [hm];rfl
    clear hm;have HRM:=hid (show redM bid pl n m0=moneyZ (worthQ bid pl n) (rndM 3) by unfold redM;rw [if_pos HM.out];rfl)
    cases hz:moneyZ (worthQ bid pl n) (rndM 3) with
    | error c =>
     have HE:=hid (show RES=.error c by rw [HRES.out,HN.out];simp only;rw [HRM.out,hz])
     have hc0:(c==0)=false:=by
      unfold moneyZ at hz;split at hz
      ·injection hz with hz;rw [←hz];rfl
      ·split at hz
       ·cases hz
       ·injection hz with hz;rw [←hz];rfl
     have HR4:=hid (HMN.out n 0 c HNB.out.1 HNB.out.2 (.inr ⟨hz,rfl⟩));clear hz;go_upto_region 14 with fail
     refine wT [] [(72,.pointer (some ⟨g,0,none⟩)),(73,.pointer (some ⟨g,0,none⟩)),(74,.pointer (some ⟨g,0,none⟩)),(75,.pointer (some ⟨g,67,none⟩)),(76,.agg cb.toArray),(77,.int .i64 n),(78,.tuple #[.int .i64 0,.int .i64 c]),(71,.tuple #[.int .i64 0,.int .i64 c]),(79,.int .i64 0),(80,.int .i64 c),(12,.int .i64 0),(13,.int .i64 c)] (by simp only [zr,zq];rfl) (by kernel_rfl) rfl ?_ oN oN ?_
     ·intro W' hW';have hpl:=fun p:GB=>(((Agp.out.below hW').below (qbG W' p.d p.os)).one (k:=0) rfl rfl).1
      have hpt:=fun p:GB=>((Agp.out.below hW').below (qbG W' p.d p.os)).lt
      refine fo4 ?_ ?_ ?_ ?_<|ldR (abl Agb hW') V_cb rfl<|fo4 ?_ ?_ ?_ ?_<|fo3 ?_ ?_ ?_<|fxn;all_goals (go_big_quiet_step ((go_at_call 89;exact qaA (HR4.out _ (hpt ⟨_,_⟩) (hpl ⟨_,_⟩))));exact wqn rfl)
     intro β wx3 E;replace FR:=fnf FR E rfl;replace FX:=fnf FX E rfl;replace AB0:=fnh AB0 E rfl;replace AB1:=fnh AB1 E rfl;replace AB0_a:=fnh AB0_a E rfl;replace Ag:=fnh Ag E rfl;replace Ago:=fnh Ago E rfl;replace Agb:=fnh Agb E rfl;replace Agp:=fnh Agp E rfl;replace Ags:=fnh Ags E rfl;replace Ab6:=fnh Ab6 E rfl;simp only [nP,zr,zq];replace FR0:=hid FR.out.le;clear E;go_upto_region 16 with fail
     refine wF [⟨false,0,4,2,B1,0,66,83,cz,0,cz,[]⟩] [(83,.agg cz.toArray),(84,.int .i64 c),(5,.int .i64 c)] (by simp only [zr,zq];rfl) (by kernel_rfl) ?_ ?_ (fP1 bnC) ?_ uno ?_ ?_
     ·intro W' hW';refine fxb (qbQ V_cz.out) rfl<|fxo ?_<|fxs rfl<|fxo ?_<|fxn;all_goals (go_big_quiet_step (fail);exact wqn rfl)
     ·intro W' hK';refine fxb (qbQ V_cz.out) rfl<|fxi ?_<|fxs (by kernel_rfl)<|fxi ?_<|fxn;all_goals (first|(refine .inr ?_;go_big_quiet_step (fail);exact wqn rfl)|exact .inl (by kernel_rfl))
     ·exact fP1 (fun _=>⟨AB1.out.lt,rfl,At.room AB1.out (qaV V_cz.out) (qaV V_cz.out)⟩)
     ·exact fP1 (stw rfl (qaV V_cz.out) (qfW V_cz.out) (fun _=>rfl))
     intro β wx4 E;replace FR:=ffh FR E (by show B0≤B1;omega);replace AB0:=afh AB0 E (by show B1≠B0;omega);replace AB1:=hid (show At wx4 B1 0 cz from E.atOld mms rfl AB1.out.lt);replace AB0_a:=afh AB0_a E (by show B1≠B0;omega);replace Ag:=afh Ag E (by show B1≠g;omega);replace Ago:=afh Ago E (by show B1≠g;omega);replace Agb:=afh Agb E (by show B1≠g;omega);replace Agp:=afh Agp E (by show B1≠g;omega);replace Ags:=afh Ags E (by show B1≠g;omega);replace Ab6:=afh Ab6 E (by show B1≠b6;omega);simp only [nP,zr,zq];replace FR0:=hid FR.out.le;clear E;go_wp2_with fail
     have hld:=AB1.out.read (P:=Tryz.prog) Tryz.underlying66 rfl (qaV V_cz.out);refine bodyPost_ret (v:=.tuple #[.agg cz.toArray,.int .i64 c]) (by simp [results,Tryz.results56,asAddr,hld]) rfl ?_;rw [HE.out];exact ⟨qaL (by have:=FR.out.below;rwa [HB0.out] at this) _,by rw [V_cz.out];rfl⟩
    | ok m =>
     have HE2:=hid (show redM bid pl n m0=.ok m by rw [HRM.out,hz]);have HR4:=hid (HMN.out n m 0 HNB.out.1 HNB.out.2 (.inl ⟨hz,rfl⟩));clear hz n5c n5f;go_upto_region 14 with fail
     refine wT [] [(72,.pointer (some ⟨g,0,none⟩)),(73,.pointer (some ⟨g,0,none⟩)),(74,.pointer (some ⟨g,0,none⟩)),(75,.pointer (some ⟨g,67,none⟩)),(76,.agg cb.toArray),(77,.int .i64 n),(78,.tuple #[.int .i64 m,.int .i64 0]),(71,.tuple #[.int .i64 m,.int .i64 0]),(79,.int .i64 m),(80,.int .i64 0),(12,.int .i64 m),(13,.int .i64 0)] (by simp only [zr,zq];rfl) (by kernel_rfl) rfl ?_ oN oN ?_
     ·intro W' hW';have hpl:=fun p:GB=>(((Agp.out.below hW').below (qbG W' p.d p.os)).one (k:=0) rfl rfl).1
      have hpt:=fun p:GB=>((Agp.out.below hW').below (qbG W' p.d p.os)).lt
      refine fo4 ?_ ?_ ?_ ?_<|ldR (abl Agb hW') V_cb rfl<|fo4 ?_ ?_ ?_ ?_<|fo3 ?_ ?_ ?_<|fxn;all_goals (go_big_quiet_step ((go_at_call 89;exact qaA (HR4.out _ (hpt ⟨_,_⟩) (hpl ⟨_,_⟩))));exact wqn rfl)
     intro β wx3 E;replace FR:=fnf FR E rfl;replace FX:=fnf FX E rfl;replace AB0:=fnh AB0 E rfl;replace AB1:=fnh AB1 E rfl;replace AB0_a:=fnh AB0_a E rfl;replace Ag:=fnh Ag E rfl;replace Ago:=fnh Ago E rfl;replace Agb:=fnh Agb E rfl;replace Agp:=fnh Agp E rfl;replace Ags:=fnh Ags E rfl;replace Ab6:=fnh Ab6 E rfl;simp only [nP,zr,zq];replace FR0:=hid FR.out.le;clear E;have n5:=(Ab6.out.one (k:=5) (v:=.int .i64 m0) (by rw [V_c2.out];rfl) (by rfl));have n5c:=n5.1;have n5f:=n5.2;clear n5;go_wp2_with fail
     go_meet
     refine ⟨m,HE2.out,?_,by rw [hwd];exact gBt (qaL FX.out.below _) (qbC _ rfl _)⟩
     have:=Ab6.out
     rw [V_c2.out] at this;exact this.set (k:=5) (by rfl) (by show 5<7;decide)
   ·have bm:(m0==0)=false:=beq_eq_false_iff_ne.2 hm;have HM:=hid hm;clear hm;go_wp2_with fail
    go_meet
    exact ⟨m0,by unfold redM;rw [if_neg HM.out],by have:=Ab6.out;rwa [V_c2.out] at this,by rw [hwd];exact qdM _ _⟩
  case rest =>
   obtain ⟨m,hM,hA6,hgr⟩:=hcut;have HE:=hid (show RES=.ok ((takeR o.nom o.hol l n).1,noteO o n m (takeR o.nom o.hol l n).2) by rw [HRES.out,HN.out];simp only;rw [hM]);have HA6:=hid hA6;rw [hwd] at hgr;clear hM hA6 FX n5c n5f hwd wd;replace AB0:=hid (AB0.out.gro hgr (by omega));replace AB1:=hid (AB1.out.gro hgr (by omega));replace AB0_a:=hid (AB0_a.out.gro hgr (by omega));replace Ag:=hid (Ag.out.gro hgr (by omega));replace Ago:=hid (Ago.out.gro hgr (by omega));replace Agb:=hid (Agb.out.gro hgr (by omega));replace Agp:=hid (Agp.out.gro hgr (by omega));replace Ags:=hid (Ags.out.gro hgr (by omega));replace FR:=hid (FR.out.grown hgr (by omega));replace FR0:=hid FR.out.le;clear hgr Ab6;obtain ⟨c3,V_c3⟩:∃ c:List Value,Hid (c=ntC o.key o.nom o.hol o.kind 0 m (.slice none 0 0)):=⟨_,hid rfl⟩;have Ab6:=hid (show At wc b6 0 c3 by rw [V_c3.out];exact HA6.out);obtain ⟨la,hla⟩:∃ la,la=(takeR o.nom o.hol l n).1:=⟨_,rfl⟩;obtain ⟨lb,hlb⟩:∃ lb,lb=(takeR o.nom o.hol l n).2:=⟨_,rfl⟩;have HR5:=hid (HRED.out n HNB.out.1 HNB.out.2);have HB3:=hid (show Below w.heap.size w wc by have:=FR.out.below;rwa [HB0.out] at this);rw [←hla,←hlb] at HR5 HE;clear hla hlb HA6;go_upto_region 18 with fail
   refine qfA [(0,88,.pointer (some ⟨g,0,none⟩)),(1,89,.pointer (some ⟨g,0,none⟩)),(2,90,.pointer (some ⟨g,0,none⟩)),(3,91,.agg crg.toArray),(4,92,.pointer (some ⟨B0,1,none⟩)),(5,93,.agg ca.toArray),(6,94,.int .i64 n)] 7 12 13 [8,9,10,11] (fun v=>[(8,87,v),(9,96,tix v 0),(10,97,tix v 1),(11,98,tix v 2)]) [14,15] (fun v=>[(14,15,tix v 1),(15,16,tix v 2)])
    95 14 40 (.tmp 14) (.tmp 96) #[.slice none 0 0] (fun v=>match tix v 0 with|.agg c=>c|_=>#[]) (fun B=>EvRed B la lb) undef _ (by kernel_rfl) (by kernel_rfl) (by rfl) (by rfl) (by rfl) (by rfl) (by rfl) (by rfl) (by rfl) (by rfl) (by rfl) (by rfl) (by rfl) (fun _=>rfl) (fun _=>rfl) Tryz.layRg (by kernel_rfl) (by simp only [putsA,List.foldl_cons,List.foldl_nil,zq]) ?_ ?_ (fun b v x y h hb=>h.upB hb) (fun b v x y X h hg hX=>h.upG hg hX) (fun b b' v x h hb=>h.base hb) ?_ (by intro p v;simp only [putsA,List.foldl_cons,List.foldl_nil,zq];rfl) (by intro p v;simp only [putsA,List.foldl_cons,List.foldl_nil,zq]) ?_ ?_ ?_
   ·have rg:=fun W (h:Below wc.heap.size wc W)=>(Ag.out.below h).read (P:=Tryz.prog) Tryz.underlying40 rfl (qhW V_crg.out)
    have ra:=fun W (h:Below wc.heap.size wc W)=>(AB0_a.out.below h).read (P:=Tryz.prog) Tryz.underlying54 rfl (qjB V_ca.out)
    refine ⟨⟨_,rfl,rfl,.inl ⟨by rfl,fun _ _=>by rfl⟩⟩,?_⟩;simp only [zq];refine ⟨⟨_,rfl,rfl,.inl ⟨by rfl,fun _ _=>by rfl⟩⟩,?_⟩;simp only [zq];refine ⟨⟨_,rfl,rfl,.inl ⟨by rfl,fun _ _=>by rfl⟩⟩,?_⟩;simp only [zq];refine ⟨⟨_,rfl,rfl,.inl ⟨by rfl,fun W hW=>qaM rfl rfl (rg W hW)⟩⟩,?_⟩;simp only [zq];refine ⟨⟨_,rfl,rfl,.inl ⟨by rfl,fun _ _=>by rfl⟩⟩,?_⟩;simp only [zq];refine ⟨⟨_,rfl,rfl,.inl ⟨by rfl,fun W hW=>qaM rfl rfl (ra W hW)⟩⟩,?_⟩;simp only [zq];refine ⟨⟨_,rfl,rfl,.inl ⟨by rfl,fun _ _=>by rfl⟩⟩,?_⟩;simp only [zq];exact trivial
   ·intro u W hW;simp only [putsA,List.foldl_cons,List.foldl_nil,zq];refine GY.callOf (f:=90) (args:=#[.agg crg.toArray,.agg ca.toArray,.int .i64 n]) (by simp [execOp,Act.eval,go_sem]) ((HR5.out _ (HB3.out.trans (hW.mono HB3.out.size))).mono ?_);rintro e w5 ⟨va,vb,rfl,h1,h2,hb⟩;exact ⟨_,rfl,hb,va,vb,rfl,h1,h2⟩
   ·rintro u b v W ⟨va,vb,rfl,_,_⟩;simp only [putsA,List.foldl_cons,List.foldl_nil,zq];refine ⟨⟨_,rfl,rfl,.inl ⟨by rfl,fun _ _=>by rfl⟩⟩,?_⟩;simp only [zq];refine ⟨⟨_,rfl,rfl,.inl ⟨by rfl,fun _ _=>by rfl⟩⟩,?_⟩;simp only [zq];refine ⟨⟨_,rfl,rfl,.inl ⟨by rfl,fun _ _=>by rfl⟩⟩,?_⟩;simp only [zq];refine ⟨⟨_,rfl,rfl,.inl ⟨by rfl,fun _ _=>by rfl⟩⟩,?_⟩;simp only [zq];exact trivial
   ·rintro p v b W ⟨va,vb,rfl,h1,h2⟩;exact ⟨rfl,rfl,rfl,qeR h1⟩
   ·rintro p v b W ⟨va,vb,rfl,_,_⟩;refine ⟨⟨_,rfl,rfl,.inl ⟨by rfl,fun _ _=>by rfl⟩⟩,?_⟩;simp only [zq];refine ⟨⟨_,rfl,rfl,.inl ⟨by rfl,fun _ _=>by rfl⟩⟩,?_⟩;simp only [zq];exact trivial
   rintro X v w4 hb4 hX hAX ⟨va,vb,rfl,oa,ob⟩;simp only [putsA,List.foldl_cons,List.foldl_nil,zq,tix];obtain ⟨A1,q1,rfl⟩:=Rd.form oa.lots;obtain ⟨A2,q2,rfl⟩:=Rd.form ob.lots;obtain ⟨N1,hN1⟩:∃ N,N=la.length:=⟨_,rfl⟩;obtain ⟨N2,hN2⟩:∃ N,N=lb.length:=⟨_,rfl⟩;rw [←hN1] at hAX oa ⊢;rw [←hN2] at ob ⊢;clear hN1 hN2;obtain ⟨va,hva⟩:∃ v,v=Value.slice A1 N1 q1:=⟨_,rfl⟩;obtain ⟨vb,hvb⟩:∃ v,v=Value.slice A2 N2 q2:=⟨_,rfl⟩;rw [←hva] at oa;rw [←hvb] at ob;have l6:=Ab6.out.lt;have l1:=AB1.out.lt
   have HD1:=hid (show va.ownBlock≠some b6∧vb.ownBlock≠some b6∧va.ownBlock≠some B1∧vb.ownBlock≠some B1∧va.ownBlock≠some g∧vb.ownBlock≠some g from
    ⟨fun e=>by have:=oa.lt _ e;omega,fun e=>by have:=ob.lt _ e;omega,fun e=>by have:=oa.lt _ e;omega,fun e=>by have:=ob.lt _ e;omega,fun e=>by have:=oa.lt _ e;omega,fun e=>by have:=ob.lt _ e;omega⟩)
   clear l6 l1;have HVA:=hid hva;have HVB:=hid hvb;clear hva hvb;have Ag4:=(Ag.out.below hb4);rw [V_crg.out] at Ag4;have HCN:=hid (show Cnt w4 g (.slice A nS cap) co cb z ser from ⟨Ag4,Ago.out.below hb4,Agb.out.below hb4,Agp.out.below hb4,Ags.out.below hb4⟩);have hx0:=(hAX.one (k:=0) (v:=.slice A1 N1 q1) rfl rfl).1;have g0:=(Ag4.one (k:=0) (v:=.slice A nS cap) rfl rfl).1;have g1:=(Ag4.one (k:=0) (v:=.slice A nS cap) rfl rfl).2;have A64:=Ab6.out.below hb4;rw [V_c3.out] at A64;have n4:=(A64.one (k:=4) (v:=.int .i64 0) rfl rfl).1;have n4f:=(A64.one (k:=4) (v:=.int .i64 0) rfl rfl).2;have n6:=(A64.one (k:=6) (v:=.slice none 0 0) rfl rfl).1;have n6f:=(A64.one (k:=6) (v:=.slice none 0 0) rfl rfl).2;have HA64:=hid A64;have HB14:=hid (AB1.out.below hb4);have hgb:g≠b6:=by omega
   have hbg:b6≠g:=by omega
   have hXs:B0≤X:=Nat.le_trans FR.out.le hX;have HOA:=hid (oa.base FR.out.le);have HOB:=hid (ob.base FR.out.le);have HB4:=hid (HB3.out.trans (hb4.mono HB3.out.size));have HN4:=hid (show w4.heap.size=w4.heap.size from rfl);clear Ag4 A64 oa ob hb4 hAX Ag Ago Agb Agp Ags AB0 AB0_a Ab6 HR5;go_upto_region 22 with fail
   obtain ⟨w5,hw5⟩:∃ w5,w5=((w4.setCell ⟨g,0,none⟩ (.slice A1 N1 q1)).setCell ⟨b6,4,none⟩ (.int .i64 n)).setCell ⟨b6,6,none⟩ (.slice A2 N2 q2):=⟨_,rfl⟩;rw [←hw5];rw [←HVA.out,←HVB.out] at hw5;obtain ⟨c5,V_c5⟩:∃ c:List Value,Hid (c=ntC o.key o.nom o.hol o.kind n m vb):=⟨_,hid rfl⟩
   have HL6:=hid (show At w5 b6 0 c5 by
    rw [hw5,V_c5.out];exact ((HA64.out.othSet ⟨g,0,none⟩ va hgb).set (k:=4) (v:=.int .i64 n) (by rfl) (by show 4<7;decide)).set (k:=6) (v:=vb) (by rfl) (by show 6<7;decide))
   have HT:=hid (show At w5 B1 0 cz by rw [hw5];exact ((HB14.out.othSet ⟨g,0,none⟩ va (by show g≠B1;omega)).othSet ⟨b6,4,none⟩ _ (by show b6≠B1;omega)).othSet ⟨b6,6,none⟩ vb (by show b6≠B1;omega));have HCN5:=hid (show Cnt w5 g va co cb z ser by rw [hw5];exact (HCN.out.setReg.oth ⟨b6,4,none⟩ hbg).oth ⟨b6,6,none⟩ hbg)
   have HOA5:=hid (show Own w5 B0 va la by
    rw [hw5];exact ((HOA.out.setCell _ _ HD1.out.2.2.2.2.1).setCell _ _ HD1.out.1).setCell _ _ HD1.out.1)
   have HOB5:=hid (show Own w5 B0 vb lb by
    rw [hw5];exact ((HOB.out.setCell _ _ HD1.out.2.2.2.2.2).setCell _ _ HD1.out.2.1).setCell _ _ HD1.out.2.1)
   have HGR:=hid (show w.grownBy w5 (some g) by
    rw [hw5];have e6:w.heap.size≤b6:=by have:=HB0.out;omega
    exact qdL (qdL (gBt (qaL HB4.out _) (qbC _ rfl _)) _ _ e6) _ _ e6)
   have HS5:=hid (show (Tryz.prog.info? 66).map (·.size)=some c5.toArray.size by rw [List.size_toArray];exact qaV V_c5.out);have HO5:=hid (show c5.toArray.all (·.oneCell')=true from qfW V_c5.out (by rw [HVB.out];rfl))
   have HT5:=hid (show w5.there B1 0 c5.toArray.size by
    have h1:c5.toArray.size=cz.length:=by rw [List.size_toArray,V_c5.out,V_cz.out];rfl
    rw [h1];exact HT.out.there)
   clear hw5 hx0 g0 g1 n4 n4f n6 n6f HCN HOA HOB HA64 HB14;go_wp2_with (first|(refine wpList_load_mid rfl _ _ rfl b6 0 rfl c5 _ HL6.out.range Tryz.underlying66 rfl (qaV V_c5.out) ?_)|(refine wpList_store_mid rfl _ _ _ rfl B1 0 _ rfl rfl HT5.out HS5.out HO5.out ?_))
   have A6:=HT.out.allSet (ds:=c5) (by rw [V_c5.out,V_cz.out];rfl);have hld:=A6.read (P:=Tryz.prog) Tryz.underlying66 rfl (qaV V_c5.out);refine bodyPost_ret (v:=.tuple #[.agg c5.toArray,.int .i64 0]) (by simp [results,Tryz.results56,asAddr,hld]) rfl ?_;rw [HE.out];have e1:w.heap.size≤B1:=by have:=HB0.out;omega
   refine ⟨qdA HGR.out e1 _,va,vb,by rw [V_c5.out];rfl,HCN5.out.sets (by omega) _,?_,?_⟩
   ·left;rw [←HB0.out];exact HOA5.out.sets2 HD1.out.2.2.1 _
   ·rw [←HB0.out];exact HOB5.out.sets2 HD1.out.2.2.2.1 _
end Go.Proofs.YtemoddmadfoaiaaGreat
namespace Go.Proofs.YtemoddmadfoaiaaGreat
open Go.RowKit Big Reg Al Ap Ga
namespace Dl
theorem qsH {l:List Lot} (h:checkB l=true):0≤sumU l∧sumU l≤1000000000000000:=by
 obtain ⟨f1,f2,f3,f4,f5⟩:=qaQ h;have h2:=(qbB l l.length (fun x hx=>by have:=f5 x hx;omega)).2;rw [List.take_length] at h2;exact ⟨h2,f3⟩
theorem take_sum {l:List Lot} (nm hl:ByteArray) (n:Int) (hn:0≤n) (hu:∀ x∈l,1≤x.units):sumU (takeR nm hl l n).1=sumU l - min n (sumU (ownL nm hl l)):=by
 have h:=jaK (p:=fun _=>true) (fun _ _ _=>rfl) nm hl l n hn hu;rw [qpT (fun _ _=>rfl),qpT (fun _ _=>rfl),qpT (fun _ _=>rfl),qxJ nm hl l n hn hu] at h;omega
theorem qsG {l:List Lot} {nm hl:ByteArray} {n:Int} (h:checkB l=true) (hn:0≤n):checkB (takeR nm hl l n).1=true:=by
 obtain ⟨f1,f2,f3,f4,f5⟩:=qaQ h;have hu:∀ x∈l,1≤x.units:=fun x hx=>(f5 x hx).1
 have ho:=qpE (nm:=nm) (hl:=hl) h;refine qqU (by have:=(qtB nm hl l n).1;omega) (qmM nm hl l n f4) (fun z hz=>?_) (by rw [take_sum nm hl n hn hu];omega);obtain ⟨a,y,hy,hk⟩:=(qxL nm hl l n hn hu).1 z hz;exact jeB hk (qqT h y hy) a
theorem qwC {l:List Lot} {x:Lot} (h:checkB l=true) (hx:okLot x) (hl:(putL l x).length≤256) (hs:x.units≤1000000000000000 - sumU l):checkB (putL l x)=true:=by
 obtain ⟨f1,f2,f3,f4,f5⟩:=qaQ h;exact qqU hl (quE l x f4) (jbW jcD (qqT h) hx) (by rw [quD];omega)
structure OkD (o:Od):Prop where
 ask:Dl.Ask o
 unt:o.kind=1→o.units=0
 acc:acctB o.nom o.hol=true
theorem jeD {o:Od} (h:okO o=true):OkD o:=by
 refine ⟨jeV h,fun hk=>?_,?_⟩
 ·unfold okO askO at h;simp only [Bool.and_eq_true] at h;have h2:=h.2.2;rw [if_pos (.inl hk)] at h2;simp only [Bool.and_eq_true,decide_eq_true_eq] at h2;exact h2.2
 ·unfold okO at h;simp only [Bool.and_eq_true] at h;exact h.2.1.1.1
theorem qyA {bid:Qn} {pl:Nat} {l l':List Lot} {o:Od} {x:Nt} (hp:Pc bid) (h3:pl≤6) (ho:OkD o) (hC:checkB l=true) (h:redO bid pl l o=.ok (l',x)):checkB l'=true:=by
 have hs:=qpE (nm:=o.nom) (hl:=o.hol) hC;obtain ⟨h1,h2,h4,h5⟩:=qtX hp h3 ho.ask hs.1 hs.2 h;rw [h4];exact qsG hC h1.unt.1
theorem qxQ {offer:Qn} {pl:Nat} {ser:Int} {l l':List Lot} {o:Od} {x:Nt} (hp:Pc offer) (h3:pl≤6) (ho:OkD o) (hk:subs o=true) (hs0:0≤ser) (hs1:ser≤73048) (hC:checkB l=true) (h:subO offer pl ser l o=.ok (l',x)):checkB l'=true:=by
 have hs:=qsH hC;obtain ⟨h1,h2⟩:=qtI hp h3 ho.ask hk hs.1 h;rcases h2 with ⟨_,h2,_⟩|⟨g1,g2,g3,g4,_⟩
 ·rw [h2];exact hC
 ·rw [g3] at g4 ⊢;exact qwC hC ⟨ho.acc,hs0,hs1,g1⟩ g4 g2
def selB (i:Nat) (o:Od):Bool:=if i=0 then !subs o else subs o
def exeO (offer bid:Qn) (pl:Nat) (ser:Int) (i:Nat) (l:List Lot) (o:Od):Except Int (List Lot × Nt):=if i=0 then redO bid pl l o else subO offer pl ser l o
def remO (offer bid:Qn) (pl:Nat) (ser:Int) (ts:List Tk) (i:Nat) (l:List Lot) (N:List Nt):Except Int (List Lot × List Nt) :=
 if i=0 then (match passP (selB 0) (exeO offer bid pl ser 0) ts 0 l N with|.error e=>.error e|.ok (l',N')=>passP (selB 1) (exeO offer bid pl ser 1) ts 0 l' N')
 else if i=1 then passP (selB 1) (exeO offer bid pl ser 1) ts 0 l N else .ok (l,N)
theorem qxY (offer bid:Qn) (pl:Nat) (ser:Int) (ts:List Tk) (i:Nat) (hi:i<2) (l:List Lot) (N:List Nt) :
  remO offer bid pl ser ts i l N=match passP (selB i) (exeO offer bid pl ser i) ts 0 l N with|.error e=>.error e|.ok (l',N')=>remO offer bid pl ser ts (i+1) l' N':=by
 obtain rfl|rfl:i=0∨i=1:=by omega
 ·rfl
 ·unfold remO;rw [if_neg (by omega),if_pos rfl]
  cases h:passP (selB 1) (exeO offer bid pl ser 1) ts 0 l N with
  | error e=>rfl
  | ok p=>obtain ⟨a,b⟩:=p;rfl
def nextO (offer bid:Qn) (pl:Nat) (ser:Int) (ts:List Tk) (i:Nat) (T:Except Int (List Lot × List Nt)):Except Int (List Lot × List Nt):=match T with|.error e=>.error e|.ok p=>remO offer bid pl ser ts (i+1) p.1 p.2
theorem qxZ (offer bid:Qn) (pl:Nat) (ser:Int) (ts:List Tk) (i:Nat) (hi:i<2) (l:List Lot) (N:List Nt) :
  remO offer bid pl ser ts i l N=nextO offer bid pl ser ts i (passP (selB i) (exeO offer bid pl ser i) ts 0 l N):=by
 rw [qxY _ _ _ _ _ i hi];unfold nextO
 cases passP (selB i) (exeO offer bid pl ser i) ts 0 l N with
 | error e=>rfl
 | ok p=>rfl
theorem jcL {w:Option Qn} {f:Qn→Int} {c:Int} (h:moneyZ w f=.error c):c=10∨c=33:=by
 unfold moneyZ at h;split at h
 ·injection h with h;omega
 ·split at h
  ·cases h
  ·injection h with h;omega
theorem jbP {bid:Qn} {pl:Nat} {l:List Lot} {o:Od} {c:Int} (h:redO bid pl l o=.error c):c=10∨c=33:=by
 unfold redO at h;split at h
 ·rename_i e he
  injection h with h
  subst h;unfold redN at he;split at he
  ·cases he
  ·split at he
   ·split at he
    ·injection he with he;omega
    ·split at he<;>cases he
   ·cases he
 ·split at h
  ·rename_i e he
   injection h with h
   subst h;unfold redM at he;split at he
   ·exact jcL he
   ·cases he
  ·cases h
theorem qvG {ser:Int} {l:List Lot} {o:Od} {n m c:Int} (h:issO ser l o n m=.error c):c=253∨c=254:=by
 unfold issO at h;split at h
 ·injection h with h;omega
 ·split at h
  ·injection h with h;omega
  ·cases h
theorem jbF {offer:Qn} {pl:Nat} {ser:Int} {l:List Lot} {o:Od} {c:Int} (h:subO offer pl ser l o=.error c):c=10∨c=33∨c=253∨c=254:=by
 unfold subO at h;split at h
 ·split at h
  ·injection h with h;omega
  ·split at h
   ·injection h with h;omega
   ·split at h
    ·cases h
    ·have:=qvG h;omega
 ·split at h
  ·injection h with h;omega
  ·split at h
   ·injection h with h;omega
   ·split at h
    ·injection h with h;omega
    ·have:=qvG h;omega
theorem jcX {offer bid:Qn} {pl:Nat} {ser:Int} {i:Nat} {l:List Lot} {o:Od} {c:Int} (h:exeO offer bid pl ser i l o=.error c):c≠0:=by
 unfold exeO at h;split at h
 ·have:=jbP h;omega
 ·have:=jbF h;omega
end Dl
end Go.Proofs.YtemoddmadfoaiaaGreat
