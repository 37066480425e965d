import Derived.Test.YtemoddmadfoaiaaGreatEvE
set_option linter.unusedVariables false
set_option linter.unusedSimpArgs false
set_option maxRecDepth 100000
set_option maxHeartbeats 8000000
namespace Go.Proofs.YtemoddmadfoaiaaGreat
open Go.RowKit Big Reg Al Ga Dl
open Lib (hid)
theorem qxK {l:List Lot} {nm hl:ByteArray} {s u:Int} (h1:checkB l=true) (h2:acctB nm hl=true) (h3:0≤s) (h4:s≤73048) (h5:1≤u) (h6:¬1000000000000000 - sumU l<u) :
  issE l ⟨nm,hl,s,u⟩=(if 256<(putL l ⟨nm,hl,s,u⟩).length then 254 else 0)∧issL l ⟨nm,hl,s,u⟩=(if 256<(putL l ⟨nm,hl,s,u⟩).length then [] else putL l ⟨nm,hl,s,u⟩):=by
 have e:issE l ⟨nm,hl,s,u⟩=(if 256<(putL l ⟨nm,hl,s,u⟩).length then 254 else 0):=by
  unfold issE;rw [if_neg (by rw [h1];decide),if_neg (by rw [h2];decide),if_neg (by simp only;omega),if_neg (by simp only;omega)]
 refine ⟨e,?_⟩;unfold issL;rw [e];by_cases h:256<(putL l ⟨nm,hl,s,u⟩).length
 ·rw [if_pos h,if_pos h,if_neg (by decide)]
 ·rw [if_neg h,if_neg h,if_pos rfl]
theorem qoA {W:World} {ad:Addr} {A:Option Addr} {n c:Nat} (h:W.cell? ad=some (.slice A n c)):(loadVar 40 ad).run Tryz.prog W=.ok (.agg #[.slice A n c]) W:=by
 simp [loadVar,h,go_sem]
theorem qdH {P:Program} {o:Oper} {a:Act} {ty:TypeId} {xs:Array (Nat × Operand)} {vs:List (Nat × Value)} {Z:Array Value} {W:World} (ho:o.op=.build ty xs) (hx:xs.toList.map (fun p=>(p.1,a.eval p.2))=vs) (hb:P.built ty vs=some Z):(execOp a.eval o).run P W=.ok (.value (.agg Z)) W:=by
 have hr:=run_build (P:=P) W ty vs.toArray Z (by simpa using hb);have hx2:xs.map (fun p=>(p.1,a.eval p.2))=vs.toArray:=by rw [←hx];apply Array.toList_inj.1;simp
 unfold execOp;simp [ho,hx2,hr]
theorem qwL (w:World) (x:Lot):Own (w.alloc (.cells (cellsL [x]).toArray 56)) w.heap.size (.slice (some ⟨w.heap.size,0,none⟩) 1 1) [x] :=
 ⟨rfl,.inr ⟨w.heap.size,1,(cellsL [x]).toArray,rfl,Nat.le_refl _,Array.getElem?_push_size,Nat.le_refl _,by unfold maxLen;decide,rfl,rfl⟩⟩
theorem quI {op:Oper} {a:Act} {w:World} {K:Act→World→Prop} {Q:Exit→Act→World→Prop} (ty:TypeId) (x y:Operand) (ho:op.op=.store ty x y) {ad:Addr} {u:Value} {A:Option Addr} {n c:Nat} (hx:a.eval x=.pointer (some ad)) (hy:a.eval y=.slice A n c)
  (hc:w.cell? ad=some u) (hf:w.frozen? ad=false) (hi:∀ W:World,W.cell? ad=some u→W.frozen? ad=false→(Instr.storeAt ty (.pointer (some ad)) (.slice A n c)).run Tryz.prog W=.ok () (W.setCell ad (.slice A n c))) (h:K (a.put op.dst undef) (w.setCell ad (.slice A n c))):op.wp Tryz.prog a w K Q:=by
 unfold Oper.wp execOp;simp only [ho,hx,hy,Sem.run_bind,hi w hc hf,Result.andThen_ok];exact h
theorem qdX {W:World} {ad:Addr} {x:Int} (h:W.cell? ad=some (.int .i64 x)):(loadVar 3 ad).run Tryz.prog W=.ok (.int .i64 x) W:=by
 simp [loadVar,h,go_sem]
def restO (ser:Int) (l:List Lot) (o:Od) (u m late:Int):Except Int (List Lot × Nt) :=
 if mostZ - sumU l<u then .error 253 else if late≠0 then .error late else issO ser l o u m
theorem qnV {co cb cod:List Value} {A:Option Addr} {cap pl g:Nat} {z ser:Int} {o:Od} {l:List Lot} {offer:Qn} (hcod:cod=o.cells) (hco:co=ratZ offer.1 offer.2) (hp:Pc offer) (hz:z=(pl:Int)) (h6:pl≤6) (hO:Dl.Ask o) (hU:o.kind=1→o.units=0) (hk:subs o=true) (hA:acctB o.nom o.hol=true) (hC:checkB l=true) (hs0:0≤ser) (hs1:ser≤73048) (w:World)
  (hc:Cnt w g (.slice A l.length cap) co cb z ser) (hl:LotsAt w (.slice A l.length cap) l) :
  Calls Tryz.prog 57 #[.pointer (some ⟨g,0,none⟩),.agg cod.toArray] w (ExeP g (.slice A l.length cap) l co cb z ser (subO offer pl ser l o) w):=by
 obtain ⟨nS,hnS⟩:=nqx (l.length);rw [←hnS] at hc hl;obtain ⟨all,hall⟩:=nqx (sumU l)
 have allb:0≤all∧all≤1000000000000000:=by
  obtain ⟨f1,f2,f3,f4,f5⟩:=qaS hC;have h2:=(qbJ l l.length (fun x hx=>by have:=f5 x hx;omega)).2;rw [List.take_length] at h2;omega
 obtain ⟨RES,hRES⟩:=nqx (subO offer pl ser l o);rw [←hRES];have V_cod:=hid (show cod=[.string o.key,.string o.nom,.string o.hol,.string o.fund,.string o.cls,.int .i64 o.kind,.int .i64 o.amount,.int .i64 o.units,.int .i64 o.at_,.int .i64 o.known,.bool o.void] from hcod);have V_co:=hid (show co=rat (decide (offer.1<0)) offer.1.natAbs false offer.2 from hco);obtain ⟨ca,V_ca⟩:=nvx (acC o.nom o.hol);obtain ⟨crg,V_crg⟩:=nvx ([.slice A nS cap]);obtain ⟨cz,V_cz⟩:=nvx (ntC ⟨#[]⟩ ⟨#[]⟩ ⟨#[]⟩ 0 0 0 (.slice none 0 0));obtain ⟨cn,V_cn⟩:=nvx (ntC o.key o.nom o.hol o.kind o.units o.amount (.slice none 0 0))
 have HTOT:=hid (fun W (h:Below w.heap.size w W)=>show CB 91 #[.agg crg.toArray] (.tuple #[.int .i64 all,.int .i64 0]) W by
  rw [V_crg.out,hnS]
  have:=quR A cap l W (hnS ▸ hl.below h)
  rw [show totN l=all by unfold totN;rw [if_pos hC,hall],show totE l=0 by unfold totE;rw [if_pos hC]] at this;exact this)
 have HISS:=hid (fun u er la (hu:1≤u) (hu2:¬1000000000000000 - all<u) (her:er=if 256<(putL l ⟨o.nom,o.hol,ser,u⟩).length then 254 else 0) (hla:la=if 256<(putL l ⟨o.nom,o.hol,ser,u⟩).length then [] else putL l ⟨o.nom,o.hol,ser,u⟩) W (h:Below w.heap.size w W)=>show Calls Tryz.prog 92 #[.agg crg.toArray,.agg ca.toArray,.int .i64 ser,.int .i64 u] W (IssP la er W) by
  rw [V_crg.out,V_ca.out,hnS]
  have:=qxJ _ l ⟨o.nom,o.hol,ser,u⟩ W (hnS ▸ hl.below h)
  rw [hall] at hu2;rw [(qxK hC hA hs0 hs1 hu hu2).1,(qxK hC hA hs0 hs1 hu hu2).2,←her,←hla] at this;exact this)
 have HKD:=hid (show o.kind=1∨o.kind=2 by
  unfold subs at hk;simp only [Bool.or_eq_true,decide_eq_true_eq] at hk;exact hk)
 have HAL:=hid (And.intro allb hall);have HOA:=hid hO;have HOU:=hid hU
 have HRES:=hid (show RES=if o.kind=1 then (match manyQ offer pl o.amount with|none=>.error 10|some q=>if mostZ<dnQ q then .error 253 else if dnQ q=0 then .ok (l,noteO o 0 0 []) else issO ser l o (dnQ q) o.amount)
  else (match worthQ offer pl o.units with|none=>.error 10|some w=>if mostZ - sumU l<o.units then .error 253 else if mostZ<ceilQ w then .error 33 else issO ser l o o.units (ceilQ w)) from hRES)
 have HRC:=hid (fun (r code:Int) (h:o.kind=1)=>qoE (mode:=3) (am:=o.amount) (most:=1000000000000000) (r:=r) (code:=code) (g:=g) hco hp hz h6 (by
  have:=hO.amt (.inl h);omega) (by have:=hO.amt (.inl h);omega) (by decide) (by decide))
 have HMN:=hid (fun (r code:Int) (h:o.kind=2)=>qoL (mode:=4) (k:=o.units) (r:=r) (code:=code) (g:=g) hco hp hz h6 (by have:=hO.unt (.inl h);omega) (by have:=hO.unt (.inl h);omega) (.inr rfl));have HMP:=hid (fun q (hk4:o.kind=1) (hq:manyQ offer pl o.amount=some q)=>qmO hp h6 (by have:=hO.amt (.inl hk4);omega) hq);have HG:=hid hc.reg.lt;have Ag:=hid (show At w g 0 crg by rw [V_crg.out];exact hc.reg);have Ago:=hid hc.off;have Agb:=hid hc.bid;have Agp:=hid hc.pl;have Ags:=hid hc.ser;have HNS:=hid hnS;have wal:IntKind.i64.wrap (1000000000000000 - all)=1000000000000000 - all:=IntWalk.i64_in _ (by omega);clear hnS hall allb hRES hcod hco hp hz h6 hO hU hk hA hC hs0 hs1 hc hl;obtain ⟨B0,hB0⟩:=nqx (w.heap.size);obtain ⟨B1,hB1⟩:=nqx (w.heap.size+1);obtain ⟨w0,hw0⟩:∃ w0,w0=((w.alloc (.cells cod.toArray 58)).alloc (.cells #[.string ⟨#[]⟩,.string ⟨#[]⟩,.string ⟨#[]⟩,.int .i64 0,.int .i64 0,.int .i64 0,.slice none 0 0] 66)):=⟨_,rfl⟩;have AB0:=hid (show At w0 B0 0 cod by rw [hw0];exact ((show At (w.alloc (.cells cod.toArray 58)) B0 0 cod from At.fresh _ cod _ (by simp [hB0])).alloc _));have AB1:=hid (show At w0 B1 0 cz by rw [hw0];exact (show At ((w.alloc (.cells cod.toArray 58)).alloc (.cells #[.string ⟨#[]⟩,.string ⟨#[]⟩,.string ⟨#[]⟩,.int .i64 0,.int .i64 0,.int .i64 0,.slice none 0 0] 66)) B1 0 cz from (by rw [V_cz.out];exact At.fresh _ zeroNt _ (by simp [hB1]))));have FR:=hid (show Fr B0 w w0 by rw [hw0,hB0];exact ((Fr.start w).alloc _).alloc _);have FR0:=hid FR.out.le;have l01:B0<B1:=by omega
 have hZB1:B0≤B1:=by omega
 have hZB0:B0≤B0:=Nat.le_refl _;have HB0:=hid hB0;go_enter Tryz.func57,Tryz.ntmps57
 go_upto_region 1 with fail
 rw [←hw0,←hB1,←hB0];clear hw0 hB0 hB1;have AB0_a:=hid (show At w0 B0 1 ca by have h:=AB0.out;rw [V_cod.out] at h;rw [V_ca.out];exact At.sub (xs:=[.string o.key]) (ys:=acC o.nom o.hol) (zs:=_) h rfl);have HGB:=hid (show g<B0 by rw [HB0.out];exact HG.out);have lgB0:g<B0:=HGB.out;have hB0w:=hid (show Below w.heap.size w w0 by have:=FR.out.below;rwa [HB0.out] at this);replace Ag:=hid (Ag.out.below hB0w.out);replace Ago:=hid (Ago.out.below hB0w.out);replace Agb:=hid (Agb.out.below hB0w.out);replace Agp:=hid (Agp.out.below hB0w.out);replace Ags:=hid (Ags.out.below hB0w.out);refine wT [⟨true,11,6,12,0,0,66,26,cn,0,cn,[]⟩] [(16,pT B0 0),(17,.string o.key),(18,pT B0 1),(19,aT ca),(20,pT B0 5),(21,iT o.kind),(22,pT B0 7),(23,iT o.units),(24,pT B0 6),(25,iT o.amount),(26,aT cn)] (by simp only [zu];rfl) (by kernel_rfl) rfl ?_ ?_ ?_ ?_
 ·intro W' hW';have z0:=((AB0.out.below hW').one (k:=0) (by rw [V_cod.out];rfl) (by rfl)).1;have z5:=((AB0.out.below hW').one (k:=5) (by rw [V_cod.out];rfl) (by rfl)).1;have z6:=((AB0.out.below hW').one (k:=6) (by rw [V_cod.out];rfl) (by rfl)).1;have z7:=((AB0.out.below hW').one (k:=7) (by rw [V_cod.out];rfl) (by rfl)).1;refine fxo ?_<|fxc z0 (fun W h=>by simp [loadVar,h,go_sem]) rfl<|fxo ?_<|fxl (abl AB0_a hW') (qkD V_ca.out) Tryz.underlying54 rfl rfl<|fxo ?_<|fxc z5 (fun W h=>by simp [loadVar,h,go_sem]) rfl<|fxo ?_<|fxc z7 (fun W h=>by simp [loadVar,h,go_sem]) rfl<|fxo ?_<|fxc z6 (fun W h=>by simp [loadVar,h,go_sem]) rfl<|fxb (jcQ V_ca.out V_cn.out) rfl<|fxs rfl<|fxs rfl<|fxn;all_goals (go_big_quiet_step (fail);exact wqn rfl)
 ·exact fP1 (Tryz.alNt (qaY V_cn.out))
 ·exact fP1 (stw rfl (qaY V_cn.out) (qgS V_cn.out) (fun _=>rfl))
 intro β wx1 E;replace FR:=fnf FR E rfl;obtain ⟨b6,hb6,eb6⟩:=nwb E mms;have lB0_b6:B0<b6:=ltb AB0 eb6.1;have lB1_b6:B1<b6:=ltb AB1 eb6.1;have lg_b6:g<b6:=ltb Ag eb6.1;have hZb6:B0≤b6:=Nat.le_trans FR0.out eb6.1;replace AB0:=fnh AB0 E rfl;replace AB1:=fnh AB1 E rfl;replace AB0_a:=fnh AB0_a E rfl;replace Ag:=fnh Ag E rfl;replace Ago:=fnh Ago E rfl;replace Agb:=fnh Agb E rfl;replace Agp:=fnh Agp E rfl;replace Ags:=fnh Ags E rfl;have Ab6:=hid eb6.2;simp only [nP,zu];rw [←hb6];clear E eb6 hb6;go_upto_region 2 with fail
 refine wE [(28,pT g 0),(29,pT g 0),(30,pT g 0),(31,aT crg),(32,.tuple #[iT all,iT 0]),(27,.tuple #[iT all,iT 0]),(33,iT all),(34,iT 0),(7,iT all),(8,iT 0)] (by simp only [zu];rfl) (by kernel_rfl) ?_ ?_
 ·intro W' hW';have hWW:∀ p:GB,Below w.heap.size w (gw W' p.d p.os):=fun p=>(show Below w.heap.size w W' from (by have:=FR.out.below;rw [HB0.out] at this;exact this.trans (hW'.mono (by have:=FR.out.le;have:=HB0.out;omega)))).trans ((qbG W' p.d p.os).mono (by have h1:=FR.out.le;have h2:=HB0.out;have h3:=hW'.size;omega))
  refine fo3 ?_ ?_ ?_<|fxl (abl Ag hW') (qiY V_crg.out) Tryz.underlying40 rfl rfl<|fo4 ?_ ?_ ?_ ?_<|fo2 ?_ ?_<|fxn;all_goals (go_big_quiet_step (exact qaA (HTOT.out _ (hWW ⟨_,_⟩)));exact wqn rfl)
 intro β wx2 E;replace FR:=fnf FR E rfl;replace AB0:=fnh AB0 E rfl;replace AB1:=fnh AB1 E rfl;replace AB0_a:=fnh AB0_a E rfl;replace Ag:=fnh Ag E rfl;replace Ago:=fnh Ago E rfl;replace Agb:=fnh Agb E rfl;replace Agp:=fnh Agp E rfl;replace Ags:=fnh Ags E rfl;replace Ab6:=fnh Ab6 E rfl;have hE:=E.below rfl;simp only [nP,zu];have y5:=(AB0.out.one (k:=5) (by rw [V_cod.out];rfl) (by rfl)).1
 go_upto_if 37 with fail
 have FX:=hid (Fr.start wx2)
 go_cut [9,10,11,12,13] from 37 (fun p9 p10 p11 p12 p13 wx=>∃ u m late:Int,p9=.int .i64 late∧1≤u∧RES=restO ser l o u m late∧At wx b6 0 (ntC o.key o.nom o.hol o.kind u m (.slice none 0 0))∧wx2.grownBy wx (some b6))
 case first =>
  have hAL:=HAL.out;rcases HKD.out with hk|hk
  ·have HK:=hid hk;have b1:(o.kind==1)=true:=by rw [hk];rfl
   clear hk
   cases hq:manyQ offer pl o.amount with
   | none =>
    have HE:=hid (show RES=.error 10 by rw [HRES.out,if_pos HK.out,hq]);have HR4:=hid (HRC.out 0 10 HK.out (.inl ⟨hq,rfl,rfl⟩));clear hq hAL;go_upto_region 5 with fail
    refine wE [(39,pT g 0),(40,pT g 0),(41,pT g 0),(42,pT g 1),(43,aT co),(44,pT B0 6),(45,iT o.amount),(46,.tuple #[iT 0,iT 10]),(38,.tuple #[iT 0,iT 10]),(47,iT 0),(48,iT 10),(10,iT 0),(11,iT 10)] (by simp only [zu];rfl) (by kernel_rfl) ?_ ?_
    ·intro W' hW';have hpl:=fun p:GB=>(((Agp.out.below hW').below (qbG W' p.d p.os)).one (k:=0) rfl rfl).1
     have hpt:=fun p:GB=>((Agp.out.below hW').below (qbG W' p.d p.os)).lt
     have z6:=((AB0.out.below hW').one (k:=6) (by rw [V_cod.out];rfl) (by rfl)).1;refine fo4 ?_ ?_ ?_ ?_<|lhR Ago hW' V_co rfl<|fxo ?_<|fxc z6 (fun W h=>by simp [loadVar,h,go_sem]) rfl<|fo4 ?_ ?_ ?_ ?_<|fo2 ?_ ?_<|fxn;all_goals (go_big_quiet_step (exact qaA (HR4.out _ (hpt ⟨_,_⟩) (hpl ⟨_,_⟩)));exact wqn rfl)
    intro β wx3 E;replace FR:=fnf FR E rfl;replace AB1:=fnh AB1 E rfl;have hE:=E.below rfl;simp only [nP,zu];go_upto_region 7 with fail
    refine wF [⟨false,0,4,2,B1,0,66,51,cz,0,cz,[]⟩] [(51,aT cz),(52,iT 10),(5,iT 10)] (by simp only [zu];rfl) (by kernel_rfl) ?_ ?_ (fP1 bnC) ?_ uno ?_ ?_
    ·intro W' hW';refine fxb (qbX V_cz.out) rfl<|fxo ?_<|fxs rfl<|fxo ?_<|fxn;all_goals (go_big_quiet_step (fail);exact wqn rfl)
    ·intro W' hK';refine fxb (qbX V_cz.out) rfl<|fxi ?_<|fxs (by kernel_rfl)<|fxi ?_<|fxn;all_goals (first|(refine .inr ?_;go_big_quiet_step (fail);exact wqn rfl)|exact .inl (by kernel_rfl))
    ·exact fP1 (fun _=>rmh AB1 (qaY V_cz.out) (qaY V_cz.out) rfl)
    ·exact fP1 (stw rfl (qaY V_cz.out) (qgS V_cz.out) (fun _=>rfl))
    intro β wx4 E;replace FR:=ffh FR E (by omega);replace AB1:=aoh E AB1 mms;simp only [nP,zu];go_wp2_with fail
    have hld:=AB1.out.read (P:=Tryz.prog) Tryz.underlying66 rfl (qaY V_cz.out);refine bodyPost_ret (v:=.tuple #[.agg cz.toArray,.int .i64 10]) (by simp [results,Tryz.results57,asAddr,hld]) rfl ?_;rw [HE.out];exact ⟨qaM (by have:=FR.out.below;rwa [HB0.out] at this) _,by rw [V_cz.out];rfl⟩
   | some q =>
    obtain ⟨r,hr⟩:=nqx (reachF q 1000000000000000);have HR4:=hid (HRC.out r 0 HK.out (.inr ⟨q,hq,rfl,.inl ⟨rfl,hr⟩⟩));have HE:=hid (show RES=if mostZ<dnQ q then .error 253 else if dnQ q=0 then .ok (l,noteO o 0 0 []) else issO ser l o (dnQ q) o.amount by rw [HRES.out,if_pos HK.out,hq]);have HP:=hid (HMP.out q HK.out hq);have HRR:=hid hr;have HU0:=hid (HOU.out HK.out);clear hq hr hAL;go_upto_region 5 with fail
    refine wE [(39,pT g 0),(40,pT g 0),(41,pT g 0),(42,pT g 1),(43,aT co),(44,pT B0 6),(45,iT o.amount),(46,.tuple #[iT r,iT 0]),(38,.tuple #[iT r,iT 0]),(47,iT r),(48,iT 0),(10,iT r),(11,iT 0)] (by simp only [zu];rfl) (by kernel_rfl) ?_ ?_
    ·intro W' hW';have hpl:=fun p:GB=>(((Agp.out.below hW').below (qbG W' p.d p.os)).one (k:=0) rfl rfl).1
     have hpt:=fun p:GB=>((Agp.out.below hW').below (qbG W' p.d p.os)).lt
     have z6:=((AB0.out.below hW').one (k:=6) (by rw [V_cod.out];rfl) (by rfl)).1;refine fo4 ?_ ?_ ?_ ?_<|lhR Ago hW' V_co rfl<|fxo ?_<|fxc z6 (fun W h=>by simp [loadVar,h,go_sem]) rfl<|fo4 ?_ ?_ ?_ ?_<|fo2 ?_ ?_<|fxn;all_goals (go_big_quiet_step (exact qaA (HR4.out _ (hpt ⟨_,_⟩) (hpl ⟨_,_⟩)));exact wqn rfl)
    intro β wx3 E;replace FR:=fnf FR E rfl;replace FX:=fnf FX E rfl;replace AB1:=fnh AB1 E rfl;replace Ag:=fnh Ag E rfl;replace Ago:=fnh Ago E rfl;replace Agb:=fnh Agb E rfl;replace Agp:=fnh Agp E rfl;replace Ags:=fnh Ags E rfl;replace Ab6:=fnh Ab6 E rfl;have hE:=E.below rfl;simp only [nP,zu];by_cases hr0:r=0
    ·have HE2:=hid (show RES=.ok (l,noteO o 0 0 []) by
      have h1:=HRR.out;unfold reachF at h1;have hd:dnQ q=0:=by split at h1<;>omega
      rw [HE.out,if_neg (by unfold mostZ;omega),if_pos hd])
     have c0:(r==0)=true:=by rw [hr0];rfl
     clear hr0;have n5:=(Ab6.out.one (k:=5) (v:=.int .i64 o.amount) (by rw [V_cn.out];rfl) (by rfl)).1;have n5f:=(Ab6.out.one (k:=5) (v:=.int .i64 o.amount) (by rw [V_cn.out];rfl) (by rfl)).2;go_upto_region 10 with fail
     obtain ⟨w5,hw5⟩:=nqx (wx3.setCell ⟨b6,5,none⟩ (.int .i64 0));rw [←hw5];obtain ⟨c5,V_c5⟩:=nvx (ntC o.key o.nom o.hol o.kind 0 0 (.slice none 0 0))
     have HL6:=hid (show At w5 b6 0 c5 by
      rw [hw5,V_c5.out]
      have:=Ab6.out
      rw [V_cn.out,HU0.out] at this;exact this.set (k:=5) (v:=.int .i64 0) (by rfl) (by show 5<7;decide))
     have HT:=hid (show At w5 B1 0 cz by rw [hw5];exact AB1.out.othSet ⟨b6,5,none⟩ _ (by show b6≠B1;omega))
     have HCN5:=hid (show Cnt w5 g (.slice A nS cap) co cb z ser by
      rw [hw5];exact Cnt.oth ⟨by have:=Ag.out;rwa [V_crg.out] at this,Ago.out,Agb.out,Agp.out,Ags.out⟩ ⟨b6,5,none⟩ (by show b6≠g;omega))
     have HGR:=hid (show w.grownBy w5 (some g) by
      rw [hw5];exact qdZ (qaM (by have:=FR.out.below;rwa [HB0.out] at this) _) _ _ (by have:=HB0.out;show w.heap.size≤b6;omega))
     have HS5:=hid (show (Tryz.prog.info? 66).map (·.size)=some c5.toArray.size by rw [List.size_toArray];exact qaY V_c5.out);have HO5:=hid (show c5.toArray.all (·.oneCell')=true from qgS V_c5.out)
     have HT5:=hid (show w5.there B1 0 c5.toArray.size by
      have h1:c5.toArray.size=cz.length:=by rw [List.size_toArray,V_c5.out,V_cz.out];rfl
      rw [h1];exact HT.out.there)
     clear hw5 n5 n5f;go_wp2_with (first|(refine wpList_load_mid rfl _ _ rfl b6 0 rfl c5 _ HL6.out.range Tryz.underlying66 rfl (qaY V_c5.out) ?_)|(refine wpList_store_mid rfl _ _ _ rfl B1 0 _ rfl rfl HT5.out HS5.out HO5.out ?_))
     have A6:=HT.out.allSet (ds:=c5) (by rw [V_c5.out,V_cz.out];rfl);have hld:=A6.read (P:=Tryz.prog) Tryz.underlying66 rfl (qaY V_c5.out);refine bodyPost_ret (v:=.tuple #[.agg c5.toArray,.int .i64 0]) (by simp [results,Tryz.results57,asAddr,hld]) rfl ?_;rw [HE2.out];have e1:w.heap.size≤B1:=by have:=HB0.out;omega
     exact ⟨qdJ HGR.out e1 _,.slice A nS cap,.slice none 0 0,by rw [V_c5.out];rfl,HCN5.out.sets (by omega) _,.inr ⟨by rw [HNS.out],rfl⟩,Own.nil _ _⟩
    ·have c0:(r==0)=false:=beq_eq_false_iff_ne.2 hr0
     have HE2:=hid (show RES=restO ser l o r o.amount 0∧1≤r by
      have h1:=HRR.out;have h2:=HP.out.2.1;have h3:=HAL.out;unfold reachF at h1;rw [HE.out];unfold restO;by_cases hd:dnQ q≤1000000000000000
      ·rw [if_pos hd] at h1;refine ⟨?_,by omega⟩;rw [if_neg (by unfold mostZ;omega),if_neg (by omega),←h1,if_neg (by simp:¬(0:Int)≠0)];by_cases hb:mostZ - sumU l<r
       ·rw [if_pos hb];unfold issO;rw [if_pos hb]
       ·rw [if_neg hb]
      ·rw [if_neg hd] at h1;refine ⟨?_,by omega⟩;rw [if_pos (by unfold mostZ;omega),if_pos (by unfold mostZ;omega)])
     clear hr0;have n4:=(Ab6.out.one (k:=4) (v:=.int .i64 o.units) (by rw [V_cn.out];rfl) (by rfl)).1;have n4f:=(Ab6.out.one (k:=4) (v:=.int .i64 o.units) (by rw [V_cn.out];rfl) (by rfl)).2;go_wp2_with fail
     go_meet
     refine ⟨r,o.amount,0,rfl,HE2.out.2,HE2.out.1,?_,gBt (qaM FX.out.below _) (qbB _ rfl _)⟩
     have:=Ab6.out
     rw [V_cn.out] at this;exact this.set (k:=4) (v:=.int .i64 r) (by rfl) (by show 4<7;decide)
  ·have HK:=hid hk;have b1:(o.kind==1)=false:=by rw [hk];rfl
   have HK1:=hid (show ¬o.kind=1 by omega);have HU1:=hid (HOA.out.unt (.inl hk));clear hk
   cases hq:worthQ offer pl o.units with
   | none =>
    have HE:=hid (show RES=.error 10 by rw [HRES.out,if_neg HK1.out,hq]);have HR4:=hid (HMN.out 0 10 HK.out (.inr ⟨by rw [hq];rfl,rfl⟩));clear hq hAL;go_upto_region 12 with fail
    refine wE [(60,pT g 0),(61,pT g 0),(62,pT g 0),(63,pT g 1),(64,aT co),(65,pT B0 7),(66,iT o.units),(67,.tuple #[iT 0,iT 10]),(59,.tuple #[iT 0,iT 10]),(68,iT 0),(69,iT 10),(12,iT 0),(13,iT 10)] (by simp only [zu];rfl) (by kernel_rfl) ?_ ?_
    ·intro W' hW';have hpl:=fun p:GB=>(((Agp.out.below hW').below (qbG W' p.d p.os)).one (k:=0) rfl rfl).1
     have hpt:=fun p:GB=>((Agp.out.below hW').below (qbG W' p.d p.os)).lt
     have z7:=((AB0.out.below hW').one (k:=7) (by rw [V_cod.out];rfl) (by rfl)).1;refine fo4 ?_ ?_ ?_ ?_<|lhR Ago hW' V_co rfl<|fxo ?_<|fxc z7 (fun W h=>by simp [loadVar,h,go_sem]) rfl<|fo4 ?_ ?_ ?_ ?_<|fo2 ?_ ?_<|fxn;all_goals (go_big_quiet_step (exact qaA (HR4.out _ (hpt ⟨_,_⟩) (hpl ⟨_,_⟩)));exact wqn rfl)
    intro β wx3 E;replace FR:=fnf FR E rfl;replace AB1:=fnh AB1 E rfl;have hE:=E.below rfl;simp only [nP,zu];go_upto_region 14 with fail
    refine wF [⟨false,0,4,2,B1,0,66,72,cz,0,cz,[]⟩] [(72,aT cz),(73,iT 10),(5,iT 10)] (by simp only [zu];rfl) (by kernel_rfl) ?_ ?_ (fP1 bnC) ?_ uno ?_ ?_
    ·intro W' hW';refine fxb (qbX V_cz.out) rfl<|fxo ?_<|fxs rfl<|fxo ?_<|fxn;all_goals (go_big_quiet_step (fail);exact wqn rfl)
    ·intro W' hK';refine fxb (qbX V_cz.out) rfl<|fxi ?_<|fxs (by kernel_rfl)<|fxi ?_<|fxn;all_goals (first|(refine .inr ?_;go_big_quiet_step (fail);exact wqn rfl)|exact .inl (by kernel_rfl))
    ·exact fP1 (fun _=>rmh AB1 (qaY V_cz.out) (qaY V_cz.out) rfl)
    ·exact fP1 (stw rfl (qaY V_cz.out) (qgS V_cz.out) (fun _=>rfl))
    intro β wx4 E;replace FR:=ffh FR E (by omega);replace AB1:=aoh E AB1 mms;simp only [nP,zu];go_wp2_with fail
    have hld:=AB1.out.read (P:=Tryz.prog) Tryz.underlying66 rfl (qaY V_cz.out);refine bodyPost_ret (v:=.tuple #[.agg cz.toArray,.int .i64 10]) (by simp [results,Tryz.results57,asAddr,hld]) rfl ?_;rw [HE.out];exact ⟨qaM (by have:=FR.out.below;rwa [HB0.out] at this) _,by rw [V_cz.out];rfl⟩
   | some w0 =>
    obtain ⟨m,late,hrr,hE,hl10⟩:∃ m late:Int,((moneyZ (worthQ offer pl o.units) (rndM 4)=.ok m∧late=0)∨(moneyZ (worthQ offer pl o.units) (rndM 4)=.error late∧m=0))∧RES=restO ser l o o.units m late∧(late==10)=false:=by
     rw [hq,HRES.out,if_neg HK1.out,hq];by_cases hf:ceilQ w0≤1000000000000000
     ·refine ⟨ceilQ w0,0,.inl ⟨by show (if ceilQ w0≤mostZ then _ else _)=_;rw [if_pos (by unfold mostZ;omega)];rfl,rfl⟩,?_,rfl⟩;unfold restO;by_cases hb:mostZ - sumU l<o.units
      ·simp only [if_pos hb]
      ·simp only [if_neg hb];rw [if_neg (by unfold mostZ;omega),if_neg (by simp:¬(0:Int)≠0)]
     ·refine ⟨0,33,.inr ⟨by show (if ceilQ w0≤mostZ then _ else _)=_;rw [if_neg (by unfold mostZ;omega)],rfl⟩,?_,rfl⟩;unfold restO;by_cases hb:mostZ - sumU l<o.units
      ·simp only [if_pos hb]
      ·simp only [if_neg hb];rw [if_pos (by unfold mostZ;omega),if_pos (by decide)]
    have HR4:=hid (HMN.out m late HK.out hrr);have HE:=hid hE;clear hq hAL hrr hE;go_upto_region 12 with fail
    refine wE [(60,pT g 0),(61,pT g 0),(62,pT g 0),(63,pT g 1),(64,aT co),(65,pT B0 7),(66,iT o.units),(67,.tuple #[iT m,iT late]),(59,.tuple #[iT m,iT late]),(68,iT m),(69,iT late),(12,iT m),(13,iT late)] (by simp only [zu];rfl) (by kernel_rfl) ?_ ?_
    ·intro W' hW';have hpl:=fun p:GB=>(((Agp.out.below hW').below (qbG W' p.d p.os)).one (k:=0) rfl rfl).1
     have hpt:=fun p:GB=>((Agp.out.below hW').below (qbG W' p.d p.os)).lt
     have z7:=((AB0.out.below hW').one (k:=7) (by rw [V_cod.out];rfl) (by rfl)).1;refine fo4 ?_ ?_ ?_ ?_<|lhR Ago hW' V_co rfl<|fxo ?_<|fxc z7 (fun W h=>by simp [loadVar,h,go_sem]) rfl<|fo4 ?_ ?_ ?_ ?_<|fo2 ?_ ?_<|fxn;all_goals (go_big_quiet_step (exact qaA (HR4.out _ (hpt ⟨_,_⟩) (hpl ⟨_,_⟩)));exact wqn rfl)
    intro β wx3 E;replace FX:=fnf FX E rfl;replace Ab6:=fnh Ab6 E rfl;have hE:=E.below rfl;simp only [nP,zu];have n5:=(Ab6.out.one (k:=5) (v:=.int .i64 o.amount) (by rw [V_cn.out];rfl) (by rfl)).1;have n5f:=(Ab6.out.one (k:=5) (v:=.int .i64 o.amount) (by rw [V_cn.out];rfl) (by rfl)).2;go_wp2_with fail
    go_meet
    refine ⟨o.units,m,late,rfl,HU1.out.1,HE.out,?_,gBt (qaM FX.out.below _) (qbB _ rfl _)⟩
    have:=Ab6.out
    rw [V_cn.out] at this;exact this.set (k:=5) (v:=.int .i64 m) (by rfl) (by show 5<7;decide)
 case rest =>
  obtain ⟨u,m,late,rfl,hu1,hE,hA6,hgr⟩:=hcut;have HE:=hid hE;have HA6:=hid hA6;have HU1:=hid hu1;clear hE hA6 hu1 FX y5;replace AB0:=hid (AB0.out.gro hgr (by omega));replace AB1:=hid (AB1.out.gro hgr (by omega));replace AB0_a:=hid (AB0_a.out.gro hgr (by omega));replace Ag:=hid (Ag.out.gro hgr (by omega));replace Ago:=hid (Ago.out.gro hgr (by omega));replace Agb:=hid (Agb.out.gro hgr (by omega));replace Agp:=hid (Agp.out.gro hgr (by omega));replace Ags:=hid (Ags.out.gro hgr (by omega));replace FR:=hid (FR.out.grown hgr (by omega));clear hgr Ab6;obtain ⟨c2,V_c2⟩:=nvx (ntC o.key o.nom o.hol o.kind u m (.slice none 0 0));have Ab6:=hid (show At wc b6 0 c2 by rw [V_c2.out];exact HA6.out);have n4:=(Ab6.out.one (k:=4) (v:=.int .i64 u) (by rw [V_c2.out];rfl) (by rfl)).1;have n4f:=(Ab6.out.one (k:=4) (v:=.int .i64 u) (by rw [V_c2.out];rfl) (by rfl)).2;clear n4f HA6;by_cases hbig:1000000000000000 - all<u
  ·have HE2:=hid (show RES=.error 253 by rw [HE.out];unfold restO;rw [←HAL.out.2,if_pos (by unfold mostZ;exact hbig)]);go_upto_region 17 with fail
   refine wF [⟨false,0,4,1,B1,0,66,82,cz,0,cz,[]⟩] [(82,aT cz),(5,iT 253)] (by simp only [zu];rfl) (by kernel_rfl) ?_ ?_ (fP1 bnC) ?_ uno ?_ ?_
   ·intro W' hW';refine fxb (qbX V_cz.out) rfl<|fxs rfl<|fxo ?_<|fxn
    go_big_quiet_step (fail);exact wqn rfl
   ·intro W' hK';refine fxb (qbX V_cz.out) rfl<|fxs (by kernel_rfl)<|fxi ?_<|fxn
    first|(refine .inr ?_;go_big_quiet_step (fail);exact wqn rfl)|exact .inl (by kernel_rfl)
   ·exact fP1 (fun _=>rmh AB1 (qaY V_cz.out) (qaY V_cz.out) rfl)
   ·exact fP1 (stw rfl (qaY V_cz.out) (qgS V_cz.out) (fun _=>rfl))
   intro β wx3 E;replace FR:=ffh FR E (by omega);replace AB1:=aoh E AB1 mms;simp only [nP,zu];go_wp2_with fail
   have hld:=AB1.out.read (P:=Tryz.prog) Tryz.underlying66 rfl (qaY V_cz.out);refine bodyPost_ret (v:=.tuple #[.agg cz.toArray,.int .i64 253]) (by simp [results,Tryz.results57,asAddr,hld]) rfl ?_;rw [HE2.out];exact ⟨qaM (by have:=FR.out.below;rwa [HB0.out] at this) _,by rw [V_cz.out];rfl⟩
  ·have HE2:=hid (show RES=if late≠0 then .error late else issO ser l o u m by rw [HE.out];unfold restO;rw [←HAL.out.2,if_neg (by unfold mostZ;exact hbig)]);by_cases hl0:late=0
   ·obtain ⟨er,her⟩:=nqx (if 256<(putL l ⟨o.nom,o.hol,ser,u⟩).length then 254 else 0:Int);obtain ⟨la,hla⟩:=nqx (if 256<(putL l ⟨o.nom,o.hol,ser,u⟩).length then [] else putL l ⟨o.nom,o.hol,ser,u⟩);have HE3:=hid (show RES=issO ser l o u m by rw [HE2.out,if_neg (by simp [hl0])]);have HI:=hid (HISS.out u er la HU1.out hbig her hla)
    have HER:=hid (show (er=254∧RES=.error 254)∨(er=0∧RES=.ok (la,noteO o u m [⟨o.nom,o.hol,ser,u⟩])) by
     rw [HE3.out];unfold issO;rw [←HAL.out.2,if_neg (by unfold mostZ;exact hbig)];by_cases h:256<(putL l ⟨o.nom,o.hol,ser,u⟩).length
     ·rw [if_pos h] at her;rw [if_pos h];exact .inl ⟨her,rfl⟩
     ·rw [if_neg h] at her hla;rw [if_neg h,hla];exact .inr ⟨her,rfl⟩)
    have hlb:(late==0)=true:=by rw [hl0];rfl
    have HB3:=hid (show Below w.heap.size w wc by have:=FR.out.below;rwa [HB0.out] at this);clear her hla HE2 HE3 hl0;go_upto_region 20 with fail
    refine qfT [(0,88,.pointer (some ⟨g,0,none⟩)),(1,89,.pointer (some ⟨g,0,none⟩)),(2,90,.pointer (some ⟨g,0,none⟩)),(3,91,.agg crg.toArray),(4,92,.pointer (some ⟨B0,1,none⟩)),(5,93,.agg ca.toArray),(6,94,.pointer (some ⟨g,0,none⟩)),(7,95,.pointer (some ⟨g,0,none⟩)),(8,96,.pointer (some ⟨g,134,none⟩)),(9,97,.int .i64 ser),(10,98,.pointer (some ⟨b6,4,none⟩)),(11,99,.int .i64 u)] 12 16 17 [13,14,15] (fun v=>[(13,87,v),(14,101,tix v 0),(15,102,tix v 1)]) [18] (fun v=>[(18,15,tix v 1)])
     100 14 40 (.tmp 14) (.tmp 101) #[.slice none 0 0] (fun v=>match tix v 0 with|.agg c=>c|_=>#[]) (fun B=>EvIss B la er) undef _ (by kernel_rfl) (by kernel_rfl) (by rfl) (by rfl) (by rfl) (by rfl) (by rfl) (by rfl) (by rfl) (by rfl) (by rfl) (by rfl) (by rfl) (fun _=>rfl) (fun _=>rfl) Tryz.layRg (by kernel_rfl) (by simp only [putsA,List.foldl_cons,List.foldl_nil,zq]) ?_ ?_ (fun b v x y h hb=>h.upB hb) (fun b v x y X h hg hX=>h.upG hg hX) (fun b b' v x h hb=>h.base hb) ?_ (by intro p v;simp only [putsA,List.foldl_cons,List.foldl_nil,zq];rfl) (by intro p v;simp only [putsA,List.foldl_cons,List.foldl_nil,zq]) ?_ ?_ ?_
    ·have rg:=fun W (h:Below wc.heap.size wc W)=>(Ag.out.below h).read (P:=Tryz.prog) Tryz.underlying40 rfl (qiY V_crg.out)
     have ra:=fun W (h:Below wc.heap.size wc W)=>(AB0_a.out.below h).read (P:=Tryz.prog) Tryz.underlying54 rfl (qkD V_ca.out)
     have rs:=fun W (h:Below wc.heap.size wc W)=>qdX (((Ags.out.below h).one (k:=0) rfl rfl).1)
     have ru:=fun W (h:Below wc.heap.size wc W)=>qdX (((Ab6.out.below h).one (k:=4) (v:=.int .i64 u) (by rw [V_c2.out];rfl) rfl).1)
     refine ⟨⟨_,rfl,rfl,.inl ⟨by rfl,fun _ _=>by rfl⟩⟩,?_⟩;simp only [zq];refine ⟨⟨_,rfl,rfl,.inl ⟨by rfl,fun _ _=>by rfl⟩⟩,?_⟩;simp only [zq];refine ⟨⟨_,rfl,rfl,.inl ⟨by rfl,fun _ _=>by rfl⟩⟩,?_⟩;simp only [zq];refine ⟨⟨_,rfl,rfl,.inl ⟨by rfl,fun W hW=>qaF rfl rfl (rg W hW)⟩⟩,?_⟩;simp only [zq];refine ⟨⟨_,rfl,rfl,.inl ⟨by rfl,fun _ _=>by rfl⟩⟩,?_⟩;simp only [zq];refine ⟨⟨_,rfl,rfl,.inl ⟨by rfl,fun W hW=>qaF rfl rfl (ra W hW)⟩⟩,?_⟩;simp only [zq];refine ⟨⟨_,rfl,rfl,.inl ⟨by rfl,fun _ _=>by rfl⟩⟩,?_⟩;simp only [zq];refine ⟨⟨_,rfl,rfl,.inl ⟨by rfl,fun _ _=>by rfl⟩⟩,?_⟩;simp only [zq];refine ⟨⟨_,rfl,rfl,.inl ⟨by rfl,fun _ _=>by rfl⟩⟩,?_⟩;simp only [zq];refine ⟨⟨_,rfl,rfl,.inl ⟨by rfl,fun W hW=>qaF rfl rfl (rs W hW)⟩⟩,?_⟩;simp only [zq];refine ⟨⟨_,rfl,rfl,.inl ⟨by rfl,fun _ _=>by rfl⟩⟩,?_⟩;simp only [zq];refine ⟨⟨_,rfl,rfl,.inl ⟨by rfl,fun W hW=>qaF rfl rfl (ru W hW)⟩⟩,?_⟩;simp only [zq];exact trivial
    ·intro u2 W hW;simp only [putsA,List.foldl_cons,List.foldl_nil,zq];refine GY.callOf (f:=92) (args:=#[.agg crg.toArray,.agg ca.toArray,.int .i64 ser,.int .i64 u]) (by simp [execOp,Act.eval,go_sem]) ((HI.out _ (HB3.out.trans (hW.mono HB3.out.size))).mono ?_);rintro e w5 ⟨va,rfl,h1,hb⟩;exact ⟨_,rfl,hb,va,rfl,h1⟩
    ·rintro u2 b v W ⟨va,rfl,_⟩;simp only [putsA,List.foldl_cons,List.foldl_nil,zq];refine ⟨⟨_,rfl,rfl,.inl ⟨by rfl,fun _ _=>by rfl⟩⟩,?_⟩;simp only [zq];refine ⟨⟨_,rfl,rfl,.inl ⟨by rfl,fun _ _=>by rfl⟩⟩,?_⟩;simp only [zq];refine ⟨⟨_,rfl,rfl,.inl ⟨by rfl,fun _ _=>by rfl⟩⟩,?_⟩;simp only [zq];exact trivial
    ·rintro p v b W ⟨va,rfl,h1⟩;exact ⟨rfl,rfl,rfl,qfK h1⟩
    ·rintro p v b W ⟨va,rfl,_⟩;refine ⟨⟨_,rfl,rfl,.inl ⟨by rfl,fun _ _=>by rfl⟩⟩,?_⟩;simp only [zq];exact trivial
    rintro X v w4 hb4 hX hAX ⟨va,rfl,oa⟩;simp only [putsA,List.foldl_cons,List.foldl_nil,zq,tix];obtain ⟨A1,q1,rfl⟩:=Rd.form oa.lots;obtain ⟨N1,hN1⟩:=nqx (la.length);rw [←hN1] at hAX oa ⊢;clear hN1;rcases HER.out with ⟨rfl,hER⟩|⟨rfl,hER⟩
    ·have HE4:=hid hER;clear hER HER oa hAX;have HTZ:=hid (AB1.out.below hb4);have HGZ:=hid (HB3.out.trans (hb4.mono HB3.out.size));have HCZ:=hid (show Tryz.prog.built 66 []=some cz.toArray from qbX V_cz.out);have HS5:=hid (show (Tryz.prog.info? 66).map (·.size)=some cz.toArray.size by rw [List.size_toArray];exact qaY V_cz.out);have HO5:=hid (show cz.toArray.all (·.oneCell')=true from qgS V_cz.out);have HT5:=hid (show w4.there B1 0 cz.toArray.size by rw [List.size_toArray];exact HTZ.out.there);clear hb4;go_wp2_with (first|(refine qgI rfl 66 _ rfl [] rfl cz.toArray HCZ.out ?_)|(refine wpList_store_mid rfl _ _ _ rfl B1 0 _ rfl rfl HT5.out HS5.out HO5.out ?_))
     have A6:=HTZ.out.allSet (ds:=cz) rfl;have hld:=A6.read (P:=Tryz.prog) Tryz.underlying66 rfl (qaY V_cz.out);refine bodyPost_ret (v:=.tuple #[.agg cz.toArray,.int .i64 254]) (by simp [results,Tryz.results57,asAddr,hld]) rfl ?_;rw [HE4.out];exact ⟨qdJ (qaM HGZ.out _) (by have:=HB0.out;omega) _,by rw [V_cz.out];rfl⟩
    ·have HE4:=hid hER;clear hER HER;obtain ⟨va,hva⟩:=nqx (Value.slice A1 N1 q1);have hx0:=(hAX.one (k:=0) (v:=.slice A1 N1 q1) rfl rfl).1;rw [←hva] at oa;have l6:=Ab6.out.lt;have l1:=AB1.out.lt;have lg:=Ag.out.lt;have HD1:=hid (show va.ownBlock≠some b6∧va.ownBlock≠some B1∧va.ownBlock≠some g from ⟨fun e=>by have:=oa.lt _ e;omega,fun e=>by have:=oa.lt _ e;omega,fun e=>by have:=oa.lt _ e;omega⟩);have HLE:=hid (show b6<w4.heap.size∧B1<w4.heap.size∧g<w4.heap.size from by have:=hb4.size;omega);have Ag4:=(Ag.out.below hb4);rw [V_crg.out] at Ag4;have HCN:=hid (show Cnt w4 g (.slice A nS cap) co cb z ser from ⟨Ag4,Ago.out.below hb4,Agb.out.below hb4,Agp.out.below hb4,Ags.out.below hb4⟩);have A64:=Ab6.out.below hb4;rw [V_c2.out] at A64;have HA64:=hid A64;have HB14:=hid (AB1.out.below hb4);have HBA:=hid (AB0_a.out.below hb4);have HX0:=hid hx0;have hgb:g≠b6:=by omega
     have hbg:b6≠g:=by omega
     have hXne:X≠g∧X≠b6:=by omega
     have hBne:B0≠g∧B0≠b6:=by omega
     have HOA:=hid (oa.base FR.out.le);have HB4:=hid (HB3.out.trans (hb4.mono HB3.out.size));have HVA:=hid hva;clear Ag4 A64 oa hb4 Ag Ago Agb Agp Ags AB0 AB0_a Ab6 l6 l1 lg hva n4;go_upto_region 23 with fail
     obtain ⟨lot,hlot⟩:∃ x:Lot,x=⟨o.nom,o.hol,ser,u⟩:=⟨_,rfl⟩
     have HSW:=hid (fun W (hg:w4.grownBy W (some g)) (hs:At W g 134 [.int .i64 ser])=>show W.cell? ⟨X,0,none⟩=some (.slice A1 N1 q1)∧At W B0 1 ca∧W.cell? ⟨g,134,none⟩=some (.int .i64 ser)∧W.cell? ⟨b6,4,none⟩=some (.int .i64 u) from
      ⟨qcT hg HX0.out (fun e=>by injection e with e;exact hXne.1 e.symm),HBA.out.gro hg hBne.1,(hs.one (k:=0) rfl rfl).1,((HA64.out.gro hg hbg).one (k:=4) rfl rfl).1⟩)
     refine qkU [(0,107,.pointer (some ⟨g,0,none⟩)),(1,108,.agg #[.slice A1 N1 q1]),(2,109,.pointer (some ⟨B0,1,none⟩)),(3,110,.agg ca.toArray),(4,111,.pointer (some ⟨g,0,none⟩)),(5,112,.pointer (some ⟨g,0,none⟩)),(6,113,.pointer (some ⟨g,134,none⟩)),(7,114,.int .i64 ser),(8,115,.pointer (some ⟨b6,4,none⟩)),(9,116,.int .i64 u),(10,117,.agg #[.string o.nom,.string o.hol,.int .i64 ser,.int .i64 u]),(12,119,.pointer (some ⟨g,0,none⟩)),(13,120,.pointer (some ⟨g,0,none⟩))] [(15,121,.pointer (some ⟨b6,6,none⟩))] 11 14 16
      118 (fun W=>W.cell? ⟨X,0,none⟩=some (.slice A1 N1 q1)∧At W B0 1 ca∧W.cell? ⟨g,134,none⟩=some (.int .i64 ser)∧W.cell? ⟨b6,4,none⟩=some (.int .i64 u)) (fun v W=>Below w4.heap.size w4 W∧Own W w4.heap.size v [lot]∧∃ G,v=.slice (some ⟨G,0,none⟩) 1 1)
      (fun v W=>w4.grownBy W (some g)∧Cnt W g va co cb z ser∧Own W w4.heap.size v [lot]∧∃ G,v=.slice (some ⟨G,0,none⟩) 1 1) _ _ (fun W=>W.setCells g 0 [.slice A1 N1 q1]) (fun v W=>W.setCell ⟨b6,6,none⟩ v)
      (by kernel_rfl) (by kernel_rfl) (by rfl) (by rfl) (by rfl) (by rfl) (by rfl) (by rfl) (by rfl) (by rfl) (by rfl) (by intro v;simp only [putsA,List.foldl_cons,List.foldl_nil,zq];rfl) (by intro v;simp only [putsA,List.foldl_cons,List.foldl_nil,zq];rfl) ?_ ?_ ?_ ?_ ?_ ?_ ?_ ?_ ?_
     ·exact HSW.out _ (qaM (qcB (Below.refl _ _)) _) (HCN.out.below (qcB (Below.refl _ _))).ser
     ·have ra:=fun W (h:At W B0 1 ca)=>h.read (P:=Tryz.prog) Tryz.underlying54 rfl (qkD V_ca.out)
      have hbl:Tryz.prog.built 56 [(0,.agg ca.toArray),(1,.int .i64 ser),(2,.int .i64 u)]=some #[.string o.nom,.string o.hol,.int .i64 ser,.int .i64 u]:=by rw [V_ca.out];kernel_rfl
      refine ⟨⟨_,rfl,rfl,.inl ⟨by rfl,fun _ _=>by rfl⟩⟩,?_⟩;simp only [zq];refine ⟨⟨_,rfl,rfl,.inl ⟨by rfl,fun W hW=>qaF rfl rfl (qoA hW.1)⟩⟩,?_⟩;simp only [zq];refine ⟨⟨_,rfl,rfl,.inl ⟨by rfl,fun _ _=>by rfl⟩⟩,?_⟩;simp only [zq];refine ⟨⟨_,rfl,rfl,.inl ⟨by rfl,fun W hW=>qaF rfl rfl (ra W hW.2.1)⟩⟩,?_⟩;simp only [zq];refine ⟨⟨_,rfl,rfl,.inl ⟨by rfl,fun _ _=>by rfl⟩⟩,?_⟩;simp only [zq];refine ⟨⟨_,rfl,rfl,.inl ⟨by rfl,fun _ _=>by rfl⟩⟩,?_⟩;simp only [zq];refine ⟨⟨_,rfl,rfl,.inl ⟨by rfl,fun _ _=>by rfl⟩⟩,?_⟩;simp only [zq];refine ⟨⟨_,rfl,rfl,.inl ⟨by rfl,fun W hW=>qaF rfl rfl (qdX hW.2.2.1)⟩⟩,?_⟩;simp only [zq];refine ⟨⟨_,rfl,rfl,.inl ⟨by rfl,fun _ _=>by rfl⟩⟩,?_⟩;simp only [zq];refine ⟨⟨_,rfl,rfl,.inl ⟨by rfl,fun W hW=>qaF rfl rfl (qdX hW.2.2.2)⟩⟩,?_⟩;simp only [zq];refine ⟨⟨_,rfl,rfl,.inl ⟨by rfl,fun W _=>qdH rfl rfl hbl⟩⟩,?_⟩;simp only [zq];refine ⟨⟨_,rfl,rfl,.inl ⟨by rfl,fun _ _=>by rfl⟩⟩,?_⟩;simp only [zq];refine ⟨⟨_,rfl,rfl,.inl ⟨by rfl,fun _ _=>by rfl⟩⟩,?_⟩;simp only [zq];exact trivial
     ·skip
      simp only [putsA,List.foldl_cons,List.foldl_nil,zq];refine GY.rowB (len:=1) (e:=56) (s:=4) [.agg #[.string o.nom,.string o.hol,.int .i64 ser,.int .i64 u]] (by rfl) (by simp [Act.eval]) rfl (by decide) (by decide) (by intro v hv;simp at hv;subst hv;rfl) (by decide) Tryz.underlying38 Tryz.sizeLot (by kernel_rfl) ?_;have e:([Value.agg #[.string o.nom,.string o.hol,.int .i64 ser,.int .i64 u]].flatMap fun v=>v.cells.toList)=cellsL [lot]:=by rw [hlot];rfl
      rw [e];have hb:Below w4.heap.size w4 (w4.drew.alloc (.cells (cellsL [lot]).toArray 56)):=(qcB (Below.refl _ _)).alloc (Nat.le_refl _) _;exact ⟨HSW.out _ (qaM hb _) (HCN.out.below hb).ser,hb,qwL w4.drew lot,_,rfl⟩
     ·rintro v W K ⟨hb,ho,G,rfl⟩ hK;have hg:=gBt (qaM hb (some g)) (qfH W g [.slice A1 N1 q1]);have hc:=(HCN.out.below hb).setReg (v':=.slice A1 N1 q1);refine wp_store_mid 40 _ _ rfl g 0 #[.slice A1 N1 q1] rfl rfl (HCN.out.reg.below hb).there (by kernel_rfl) (by simp [Value.oneCell']) (hK (HSW.out _ hg hc.ser) ⟨hg,by rw [HVA.out];exact hc,ho.sets2 (fun e=>by have h1:=ho.lt _ e;have h2:=HLE.out;omega) _,G,rfl⟩)
     ·intro K hK;have hd:=qcB (Below.refl w4.heap.size w4);have hg:=gBt (qaM hd (some g)) (qfH w4.drew g [.slice A1 N1 q1]);have hc:=(HCN.out.below hd).setReg (v':=.slice A1 N1 q1);simp only [putsA,List.foldl_cons,List.foldl_nil,zq] at hK ⊢;exact wp_store_mid 40 _ _ rfl g 0 #[.slice A1 N1 q1] rfl rfl (HCN.out.reg.below hd).there (by kernel_rfl) (by simp [Value.oneCell']) (hK (HSW.out _ hg hc.ser))
     ·skip
      simp only [putsA,List.foldl_cons,List.foldl_nil,zq];refine GY.rowB (len:=1) (e:=56) (s:=4) [.agg #[.string o.nom,.string o.hol,.int .i64 ser,.int .i64 u]] (by rfl) (by simp [Act.eval]) rfl (by decide) (by decide) (by intro v hv;simp at hv;subst hv;rfl) (by decide) Tryz.underlying38 Tryz.sizeLot (by kernel_rfl) ?_;have e:([Value.agg #[.string o.nom,.string o.hol,.int .i64 ser,.int .i64 u]].flatMap fun v=>v.cells.toList)=cellsL [lot]:=by rw [hlot];rfl
      rw [e];have hd:=qcB (Below.refl w4.heap.size w4);have hb:=qaX (w4.drew.setCells g 0 [.slice A1 N1 q1]) (.cells (cellsL [lot]).toArray 56);have hg:=gBt (gBt (qaM hd (some g)) (qfH w4.drew g [.slice A1 N1 q1])) (qaM hb _);have hc:=((HCN.out.below hd).setReg (v':=.slice A1 N1 q1)).below hb;exact ⟨HSW.out _ hg hc.ser,hg,by rw [HVA.out];exact hc,(qwL (w4.drew.setCells g 0 [.slice A1 N1 q1]) lot).base (by rw [qaU];exact Nat.le_refl _),_,rfl⟩
     ·intro v;refine ⟨⟨_,rfl,rfl,.inl ⟨by rfl,fun _ _=>by rfl⟩⟩,?_⟩;simp only [zq];exact trivial
     ·rintro v W K hS ⟨hg,hc,ho,G,rfl⟩ hK;have c6:=(HA64.out.gro hg hbg).one (k:=6) (v:=.slice none 0 0) rfl rfl;have c6c:=c6.1;have c6f:=c6.2;have h2:=qbB (w:=W) ⟨b6,6,none⟩ rfl (.slice (some ⟨G,0,none⟩) 1 1)
      refine quI 38 _ _ rfl rfl rfl c6c c6f (fun W h1 h2=>by simp [Instr.storeAt,h1,h2,go_sem]) (hK ⟨qcT h2 hS.1 (fun e=>by injection e with e;exact hXne.2 e.symm),hS.2.1.gro h2 hBne.2,qcT h2 hS.2.2.1 (fun e=>by injection e with e;exact hbg e),
       ((HA64.out.gro hg hbg).set (k:=6) (v:=.slice (some ⟨G,0,none⟩) 1 1) rfl (by show 6<7;decide) |>.one (k:=4) rfl rfl).1⟩)
     rintro v W ⟨hb,hc,ho,G,rfl⟩;obtain ⟨vb,hvb⟩:=nqx (Value.slice (some ⟨G,0,none⟩) 1 1);rw [←hvb] at ho ⊢;have HVB:=hid hvb;clear hvb;obtain ⟨w5,hw5'⟩:=nqx (W.setCell ⟨b6,6,none⟩ vb);rw [←hw5'];have HDB:=hid (show vb.ownBlock≠some b6∧vb.ownBlock≠some B1∧vb.ownBlock≠some g from by have:=HLE.out;exact ⟨fun e=>by have:=ho.lt _ e;omega,fun e=>by have:=ho.lt _ e;omega,fun e=>by have:=ho.lt _ e;omega⟩);obtain ⟨c5,V_c5⟩:=nvx (ntC o.key o.nom o.hol o.kind u m vb)
     have HL6:=hid (show At w5 b6 0 c5 by
      rw [hw5',V_c5.out];exact (HA64.out.gro hb hbg).set (k:=6) (v:=vb) (by rfl) (by show 6<7;decide))
     have HT:=hid (show At w5 B1 0 cz by rw [hw5'];exact (HB14.out.gro hb (by omega)).othSet ⟨b6,6,none⟩ vb (by show b6≠B1;omega));have HCN5:=hid (show Cnt w5 g va co cb z ser by rw [hw5'];exact hc.oth ⟨b6,6,none⟩ hbg);have HOA5:=hid (show Own w5 B0 va la by rw [hw5'];exact Own.setCell (World.ownsRow.kept HOA.out hb (.inr HD1.out.2.2)) _ _ HD1.out.1);have HOB5:=hid (show Own w5 w4.heap.size vb [lot] by rw [hw5'];exact ho.setCell _ _ HDB.out.1)
     have HGR:=hid (show w.grownBy w5 (some g) by
      rw [hw5'];have e6:w.heap.size≤b6:=by have:=HB0.out;omega
      exact qdZ (gBt (qaM HB4.out _) hb) _ _ e6)
     have HS5:=hid (show (Tryz.prog.info? 66).map (·.size)=some c5.toArray.size by rw [List.size_toArray];exact qaY V_c5.out);have HO5:=hid (show c5.toArray.all (·.oneCell')=true from qgS V_c5.out (by rw [HVB.out];rfl))
     have HT5:=hid (show w5.there B1 0 c5.toArray.size by
      have h1:c5.toArray.size=cz.length:=by rw [List.size_toArray,V_c5.out,V_cz.out];rfl
      rw [h1];exact HT.out.there)
     have HLO:=hid hlot;clear hw5' hx0 hAX HCN HOA HA64 HB14 ho hb hc hlot HSW;go_wp2_with (first|(refine wpList_load_mid rfl _ _ rfl b6 0 rfl c5 _ HL6.out.range Tryz.underlying66 rfl (qaY V_c5.out) ?_)|(refine wpList_store_mid rfl _ _ _ rfl B1 0 _ rfl rfl HT5.out HS5.out HO5.out ?_))
     have A6:=HT.out.allSet (ds:=c5) (by rw [V_c5.out,V_cz.out];rfl);have hld:=A6.read (P:=Tryz.prog) Tryz.underlying66 rfl (qaY V_c5.out);refine bodyPost_ret (v:=.tuple #[.agg c5.toArray,.int .i64 0]) (by simp [results,Tryz.results57,asAddr,hld]) rfl ?_;rw [HE4.out];have e1:w.heap.size≤B1:=by have:=HB0.out;omega
     refine ⟨qdJ HGR.out e1 _,va,vb,by rw [V_c5.out];rfl,HCN5.out.sets (by omega) _,?_,?_⟩
     ·left;rw [←HB0.out];exact HOA5.out.sets2 HD1.out.2.1 _
     ·rw [show (noteO o u m [⟨o.nom,o.hol,ser,u⟩]).lots=[lot] by rw [HLO.out];rfl];exact (HOB5.out.base HB4.out.size).sets2 HDB.out.2.1 _
   ·have HE3:=hid (show RES=.error late by rw [HE2.out,if_pos hl0]);have hlb:(late==0)=false:=beq_eq_false_iff_ne.2 hl0;clear hl0;go_upto_region 19 with fail
    refine wF [⟨false,0,4,2,B1,0,66,85,cz,0,cz,[]⟩] [(85,aT cz),(86,iT late),(5,iT late)] (by simp only [zu];rfl) (by kernel_rfl) ?_ ?_ (fP1 bnC) ?_ uno ?_ ?_
    ·intro W' hW';refine fxb (qbX V_cz.out) rfl<|fxo ?_<|fxs rfl<|fxo ?_<|fxn;all_goals (go_big_quiet_step (fail);exact wqn rfl)
    ·intro W' hK';refine fxb (qbX V_cz.out) rfl<|fxi ?_<|fxs (by kernel_rfl)<|fxi ?_<|fxn;all_goals (first|(refine .inr ?_;go_big_quiet_step (fail);exact wqn rfl)|exact .inl (by kernel_rfl))
    ·exact fP1 (fun _=>rmh AB1 (qaY V_cz.out) (qaY V_cz.out) rfl)
    ·exact fP1 (stw rfl (qaY V_cz.out) (qgS V_cz.out) (fun _=>rfl))
    intro β wx3 E;replace FR:=ffh FR E (by omega);replace AB1:=aoh E AB1 mms;simp only [nP,zu];go_wp2_with fail
    have hld:=AB1.out.read (P:=Tryz.prog) Tryz.underlying66 rfl (qaY V_cz.out);refine bodyPost_ret (v:=.tuple #[.agg cz.toArray,.int .i64 late]) (by simp [results,Tryz.results57,asAddr,hld]) rfl ?_;rw [HE3.out];exact ⟨qaM (by have:=FR.out.below;rwa [HB0.out] at this) _,by rw [V_cz.out];rfl⟩
end Go.Proofs.YtemoddmadfoaiaaGreat
namespace Go.Proofs.YtemoddmadfoaiaaGreat
open Go.RowKit Reg
section
variable {P:Program} {ops:Array Oper}
theorem qdF {md:Region.Mode} {Q:Exit→Act→World→Prop} {S S':World→Prop} (h:∀ W,S' W→S W):∀ (fuel:Nat) (L:Array Bool) (a:Act) (w:World),wpAnyH P md ops Q S' fuel L a w→wpAnyH P md ops Q S fuel L a w
 | 0,_,_,_,h0=>h0
 | fuel+1,_,_,_,h0=>⟨h0.1,fun i hi=>wpOp_mono (fun a' w' h3=>⟨h _ h3.1,qdF h fuel _ a' w' h3.2⟩) (h0.2 i hi)⟩
def endB (ops:Array Oper) (is:Nat) (finI:List Nat) (T:Array Bool):Bool :=
 decide (Region.ready .any ops T=[is])&&takesB .any ops (T.setIfInBounds is true) finI&&decide (Region.ready .any ops (takesL (T.setIfInBounds is true) finI)=[])
def tailT (ops:Array Oper) (ic is:Nat) (postI finI:List Nat) (T:Array Bool):Bool :=
 decide (Region.ready .any ops T=[ic])&&takesB .any ops (T.setIfInBounds ic true) postI&&endB ops is finI (takesL (T.setIfInBounds ic true) postI)
def tailF (ops:Array Oper) (ic ia is:Nat) (postI finI:List Nat) (T:Array Bool):Bool :=
 let A3:=takesL (T.setIfInBounds ic true) postI
 decide (Region.ready .any ops T=[ic,ia])&&takesB .any ops (T.setIfInBounds ic true) postI&&decide (Region.ready .any ops A3=[ia])&&endB ops is finI (A3.setIfInBounds ia true)&&tailT ops ic is postI finI (T.setIfInBounds ia true)
def chT (ops:Array Oper) (tl:Array Bool→Bool):Array Bool→List (Nat × List Nat)→Bool
 | T,[]=>tl T
 | T,(i,mi)::s=>decide (Region.ready .any ops T=[i])&&takesB .any ops (T.setIfInBounds i true) mi&&chT ops tl (takesL (T.setIfInBounds i true) mi) s
def chF (ops:Array Oper) (ia:Nat) (tf tt:Array Bool→Bool):Array Bool→List (Nat × List Nat)→Bool
 | T,[]=>tf T
 | T,(i,mi)::s=>decide (Region.ready .any ops T=[i,ia])&&takesB .any ops (T.setIfInBounds i true) mi&&chF ops ia tf tt (takesL (T.setIfInBounds i true) mi) s&&chT ops tt (T.setIfInBounds ia true) ((i,mi)::s)
def chN:List (Nat × List Nat)→Nat→Nat
 | [],n=>n
 | (_,mi)::s,n=>chN s n+mi.length+1
def chainOk (ops:Array Oper) (preI:List Nat) (sts:List (Nat × List Nat)) (ic ia is:Nat) (postI finI:List Nat):Bool :=
 takesB .any ops (Array.replicate ops.size false) preI&&chF ops ia (tailF ops ic ia is postI finI) (tailT ops ic is postI finI) (takesL (Array.replicate ops.size false) preI) sts&&Region.noSelect ops&&decide (ops.size=chN sts (finI.length+1+postI.length+1)+1+preI.length)
def chY (P:Program) (ops:Array Oper) (S:World→Prop) (da:Tmp) (fin:(Value→Act)→(World→Prop)→Prop):List (Nat × List Nat)→(Value→Act)→(World→Prop)→Prop
 | [],A,K=>fin A K
 | (i,mi)::s,A,K=>∃ o d,ops[i]?=some o∧o.guard=none∧o.dst=some d∧∃ D:Value→World→Prop,(∀ v W ob,D v W→D v (W.alloc ob))∧(∀ u W,S W→K W→GY P (A u) o W (fun v w''=>Below W.heap.size W w''∧D v w'')) ∧
   ∀ v,(∃ W,D v W)→∃ (mid:List (Nat × Tmp × Value)) (A':Value→Act),mid.map (·.1)=mi∧(∀ u,takesY P ops S mid ((A u).put (some d) v))∧(∀ u,putsA ((A u).put (some d) v) mid=A' u)∧(∀ u p,(A' u).put (some da) p=A' p)∧chY P ops S da fin s A' (D v)
def TailH (P:Program) (ops:Array Oper) (Q:Exit→Act→World→Prop) (S:World→Prop) (da:Tmp) (z:Array Value) (oc:Oper) (dc:Tmp) (x y:Operand) (postI finI:List Nat) (A:Value→Act) (K:World→Prop):Prop :=
 ∃ R:Nat→Value→World→Prop,(∀ u W,S W→K W→GY P (A u) oc W (fun v w''=>Below W.heap.size W w''∧R W.heap.size v w'')) ∧
  (∀ b v x y,R b v x→Below x.heap.size x y→R b v y)∧(∀ b v x y X,R b v x→x.grownBy y (some X)→X<b→R b v y) ∧
  ∀ b v,(∃ W,R b v W)→∃ (post fin:List (Nat × Tmp × Value)) (cv:Array Value) (A':Value→Act),post.map (·.1)=postI∧fin.map (·.1)=finI∧(∀ u,takesY P ops (fun W=>S W∧R b v W) post ((A u).put (some dc) v))∧(∀ u,putsA ((A u).put (some dc) v) post=A' u)∧(∀ u p,(A' u).put (some da) p=A' p) ∧
   (∀ p,(A' p).eval x=p)∧(∀ p,(A' p).eval y=.agg cv)∧cv.size=z.size∧cv.all (·.oneCell')=true ∧
   ∀ X W,S W→R b v W→At W X 0 cv.toList→takesY P ops (fun W'=>W'=W) fin (A' (.pointer (some ⟨X,0,none⟩)))∧Q .normal (putsA (A' (.pointer (some ⟨X,0,none⟩))) fin) W
variable {Q:Exit→Act→World→Prop} {w:World} {oc oa os:Oper} {ic ia is:Nat} {postI finI:List Nat} {dc da:Tmp} {tR:TypeId} {x y:Operand} {z:Array Value}
theorem qpE (hs:Region.noSelect ops=true) (hos:ops[is]?=some os) (gs:os.guard=none) (ds:os.dst=none) (op:os.op=.store tR x y) (hinfo:(P.info? tR).map (·.size)=some z.size)
  {T:Array Bool} (hT:endB ops is finI T=true) {A':Value→Act} {cv:Array Value} {Rv:World→Prop} {fin:List (Nat × Tmp × Value)} {w1:World} {X:Nat} {z0:List Value} (hfI:fin.map (·.1)=finI)
  (hx:∀ p,(A' p).eval x=p) (hy:∀ p,(A' p).eval y=.agg cv) (hz:cv.size=z.size) (h1:cv.all (·.oneCell')=true) (hz0:z0.length=z.size) (hX:w.heap.size≤X) (hA:At w1 X 0 z0) (hb:Below w.heap.size w w1)
  (hR:∀ W',w1.grownBy W' (some X)→Rv W') (hQ:∀ X W,Below w.heap.size w W→Rv W→At W X 0 cv.toList→takesY P ops (fun W'=>W'=W) fin (A' (.pointer (some ⟨X,0,none⟩)))∧Q .normal (putsA (A' (.pointer (some ⟨X,0,none⟩))) fin) W) :
  wpAnyH P .any ops (NoPanic Q) (fun W=>Below w.heap.size w W∧Rv W) (finI.length+1) T (A' (.pointer (some ⟨X,0,none⟩))) w1:=by
 simp only [endB,Bool.and_eq_true,decide_eq_true_eq] at hT;obtain ⟨⟨k1,k2⟩,k3⟩:=hT;refine wpAnyH_ready k1 (by simp) (AllReadyH.cons hos (fun K hK=>?_) AllReadyH.nil);rw [if_pos (by simp [Region.wanted,gs])];refine wp_store_mid tR x y op X 0 cv (hx _) (hy _) (by rw [hz,←hz0];exact hA.there) (by rw [hz];exact hinfo) h1 ?_;have hb2:Below w.heap.size w (w1.setCells X 0 cv.toList):=qaC hX cv.toList 0 w1 hb;have h2:=qaC (B:=X) (b:=X) (Nat.le_refl _) cv.toList 0 w1 (Below.refl _ _);have hR2:=hR (w1.setCells X 0 cv.toList) ⟨h2.os,h2.tape,h2.output,h2.size,fun q hq hr=>qcC q X (fun e=>hr (by rw [e])) cv.toList 0 w1⟩;obtain ⟨q1,q2⟩:=hQ X _ hb2 hR2 (hA.allSet (by rw [hz0,←hz];simp));refine hK.out _ _ ⟨hb2,hR2⟩ fun _=>?_
 rw [ds];refine qdF (S':=fun W'=>W'=w1.setCells X 0 cv.toList) (fun W h=>h ▸ ⟨hb2,hR2⟩) _ _ _ _ ?_;rw [←hfI] at k2 k3 ⊢
 have:=qaR (md:=.any) (P:=P) (S:=fun W'=>W'=w1.setCells X 0 cv.toList) hs (Q:=Q) (w1.setCells X 0 cv.toList) rfl 0 fin (T.setIfInBounds is true) _ k2 q1 (wpAnyH_done k3 (NoPanic.normal q2) 0)
 rw [Nat.zero_add] at this;rw [List.length_map];exact this
theorem qjT (hs:Region.noSelect ops=true) (hoc:ops[ic]?=some oc) (hos:ops[is]?=some os) (gc:oc.guard=none) (gs:os.guard=none) (hdc:oc.dst=some dc) (ds:os.dst=none) (op:os.op=.store tR x y) (hinfo:(P.info? tR).map (·.size)=some z.size)
  {T:Array Bool} (hT:tailT ops ic is postI finI T=true) {A:Value→Act} {K:World→Prop} (hH:TailH P ops Q (fun W=>Below w.heap.size w W) da z oc dc x y postI finI A K) {w1:World} {X:Nat} (hX:w.heap.size≤X) (hXl:X<w1.heap.size) (hA:At w1 X 0 z.toList) (hb:Below w.heap.size w w1) (hK1:K w1) :
  wpAnyH P .any ops (NoPanic Q) (fun W=>Below w.heap.size w W) (finI.length+1+postI.length+1) T (A (.pointer (some ⟨X,0,none⟩))) w1:=by
 simp only [tailT,Bool.and_eq_true,decide_eq_true_eq] at hT;obtain ⟨⟨k1,k2⟩,k3⟩:=hT;obtain ⟨R,hc,hR1,hR2,hv⟩:=hH;refine wpAnyH_ready k1 (by simp) (AllReadyH.cons hoc (fun K hK=>?_) AllReadyH.nil);rw [if_pos (by simp [Region.wanted,gc])];refine GY.wp (hc _ w1 hb hK1) ?_;rintro v w2 ⟨hb2,hR⟩;have hS2:Below w.heap.size w w2:=hb.trans (hb2.mono hb.size);refine hK.out _ _ hS2 fun _=>?_
 rw [hdc];obtain ⟨post,fin,cv,A',hpI,hfI,hy,hpA,hda,ex,ey,hz,h1,hQ⟩:=hv _ v ⟨_,hR⟩;refine qdF (S':=fun W=>Below w.heap.size w W∧R w1.heap.size v W) (fun W h=>h.1) _ _ _ _ ?_;rw [←hpI] at k2 k3 ⊢;rw [List.length_map];refine qaR hs _ ⟨hS2,hR⟩ _ post _ _ k2 (hy _) ?_;rw [hpA];exact qpE hs hos gs ds op hinfo k3 hfI ex ey hz h1 (z0:=z.toList) (by simp) hX (hA.below hb2) hS2 (fun W' hg=>hR2 _ _ _ _ _ hR hg hXl) hQ
theorem qqP (hs:Region.noSelect ops=true) (hoc:ops[ic]?=some oc) (hoa:ops[ia]?=some oa) (hos:ops[is]?=some os) (gc:oc.guard=none) (ga:oa.guard=none) (gs:os.guard=none) (hdc:oc.dst=some dc) (hda:oa.dst=some da) (ds:os.dst=none) (hopa:oa.op=.alloc tR) (op:os.op=.store tR x y) (hLay:LaysAs P tR z) (hinfo:(P.info? tR).map (·.size)=some z.size)
  {T:Array Bool} (hT:tailF ops ic ia is postI finI T=true) {A:Value→Act} {K:World→Prop} (hKa:∀ W ob,K W→K (W.alloc ob)) (hAp:∀ u p,(A u).put (some da) p=A p) (hH:TailH P ops Q (fun W=>Below w.heap.size w W) da z oc dc x y postI finI A K) {w1:World} (u:Value) (hb:Below w.heap.size w w1) (hK1:K w1) :
  wpAnyH P .any ops (NoPanic Q) (fun W=>Below w.heap.size w W) (finI.length+1+postI.length+1+1) T (A u) w1:=by
 simp only [tailF,Bool.and_eq_true,decide_eq_true_eq] at hT;obtain ⟨⟨⟨⟨k1,k2⟩,k3⟩,k4⟩,k5⟩:=hT;refine wpAnyH_ready k1 (by simp) (AllReadyH.cons hoc (fun K hK=>?_) (AllReadyH.cons hoa (fun K hK=>?_) AllReadyH.nil))
 ·rw [if_pos (by simp [Region.wanted,gc])];obtain ⟨R,hc,hR1,hR2,hv⟩:=hH;refine GY.wp (hc _ w1 hb hK1) ?_;rintro v w2 ⟨hb2,hR⟩;have hS2:Below w.heap.size w w2:=hb.trans (hb2.mono hb.size);refine hK.out _ _ hS2 fun _=>?_
  rw [hdc];obtain ⟨post,fin,cv,A',hpI,hfI,hy,hpA,hda',ex,ey,hz,h1,hQ⟩:=hv _ v ⟨_,hR⟩;refine qdF (S':=fun W=>Below w.heap.size w W∧R w1.heap.size v W) (fun W h=>h.1) _ _ _ _ ?_;rw [←hpI] at k2 k3 k4 ⊢;rw [List.length_map,show finI.length+1+post.length+1=(finI.length+1+1)+post.length by omega];refine qaR hs _ ⟨hS2,hR⟩ _ post _ _ k2 (hy _) ?_;rw [hpA];refine wpAnyH_ready k3 (by simp) (AllReadyH.cons hoa (fun K hK=>?_) AllReadyH.nil);rw [if_pos (by simp [Region.wanted,ga])];unfold Oper.wp;rw [hLay _ hopa _ _];have hb3:=qaX w2 (.cells z tR);have hS3:=hS2.trans (hb3.mono hS2.size);show K (Act.put _ oa.dst _) _
  refine hK.out _ _ ⟨hS3,hR1 _ _ _ _ hR hb3⟩ fun _=>?_
  rw [hda,hda'];have hA:=At.fresh w2 z.toList tR rfl;rw [show z.toList.toArray=z by simp] at hA;refine qpE hs hos gs ds op hinfo k4 hfI ex ey hz h1 (z0:=z.toList) (by simp) hS2.size hA hS3 (fun W' hg=>hR1 _ _ _ _ hR ?_) hQ;exact qeR (gBt (qaM hb3 _) hg) (Nat.le_refl _) (Nat.le_refl _)
 ·rw [if_pos (by simp [Region.wanted,ga])];unfold Oper.wp;rw [hLay _ hopa _ _];have hb3:=qaX w1 (.cells z tR);have hS3:=hb.trans (hb3.mono hb.size);show K (Act.put _ oa.dst _) _
  refine hK.out _ _ hS3 fun _=>?_
  rw [hda,hAp];have hA:=At.fresh w1 z.toList tR rfl;rw [show z.toList.toArray=z by simp] at hA;exact qjT hs hoc hos gc gs hdc ds op hinfo k5 hH hb.size (by simp) hA hS3 (hKa _ _ hK1)
theorem qyR (hs:Region.noSelect ops=true) (hoc:ops[ic]?=some oc) (hos:ops[is]?=some os) (gc:oc.guard=none) (gs:os.guard=none) (hdc:oc.dst=some dc) (ds:os.dst=none) (op:os.op=.store tR x y) (hinfo:(P.info? tR).map (·.size)=some z.size) {X:Nat} (hX:w.heap.size≤X) :
  ∀ (sts:List (Nat × List Nat)) (T:Array Bool) (A:Value→Act) (K:World→Prop) (w1:World),chT ops (tailT ops ic is postI finI) T sts=true→chY P ops (fun W=>Below w.heap.size w W) da (TailH P ops Q (fun W=>Below w.heap.size w W) da z oc dc x y postI finI) sts A K →
  X<w1.heap.size→At w1 X 0 z.toList→Below w.heap.size w w1→K w1→wpAnyH P .any ops (NoPanic Q) (fun W=>Below w.heap.size w W) (chN sts (finI.length+1+postI.length+1)) T (A (.pointer (some ⟨X,0,none⟩))) w1
 | [],T,A,K,w1,hT,hY,hXl,hA,hb,hK1=>qjT hs hoc hos gc gs hdc ds op hinfo hT hY hX hXl hA hb hK1
 | (i,mi)::s,T,A,K,w1,hT,hY,hXl,hA,hb,hK1=>by
  simp only [chT,Bool.and_eq_true,decide_eq_true_eq] at hT;obtain ⟨⟨k1,k2⟩,k3⟩:=hT;obtain ⟨o,d,ho,hg,hd,D,hDa,hcall,hv⟩:=hY;refine wpAnyH_ready k1 (by simp) (AllReadyH.cons ho (fun K hK=>?_) AllReadyH.nil);rw [if_pos (by simp [Region.wanted,hg])];refine GY.wp (hcall _ w1 hb hK1) ?_;rintro v w2 ⟨hb2,hD⟩;have hS2:Below w.heap.size w w2:=hb.trans (hb2.mono hb.size);refine hK.out _ _ hS2 fun _=>?_
  rw [hd];obtain ⟨mid,A',hmI,hy,hpA,hdA,hrest⟩:=hv v ⟨_,hD⟩;rw [←hmI] at k2 k3;show wpAnyH P .any ops (NoPanic Q) _ (chN s (finI.length+1+postI.length+1)+mi.length) _ _ _
  rw [←hmI,List.length_map];refine qaR hs _ hS2 _ mid _ _ k2 (hy _) ?_;rw [hpA];exact qyR hs hoc hos gc gs hdc ds op hinfo hX s _ A' _ w2 k3 hrest (Nat.lt_of_lt_of_le hXl hb2.size) (hA.below hb2) hS2 hD
theorem qyS (hs:Region.noSelect ops=true) (hoc:ops[ic]?=some oc) (hoa:ops[ia]?=some oa) (hos:ops[is]?=some os) (gc:oc.guard=none) (ga:oa.guard=none) (gs:os.guard=none) (hdc:oc.dst=some dc) (hda:oa.dst=some da) (ds:os.dst=none) (hopa:oa.op=.alloc tR) (op:os.op=.store tR x y) (hLay:LaysAs P tR z) (hinfo:(P.info? tR).map (·.size)=some z.size) (u:Value) :
  ∀ (sts:List (Nat × List Nat)) (T:Array Bool) (A:Value→Act) (K:World→Prop) (w1:World),chF ops ia (tailF ops ic ia is postI finI) (tailT ops ic is postI finI) T sts=true→chY P ops (fun W=>Below w.heap.size w W) da (TailH P ops Q (fun W=>Below w.heap.size w W) da z oc dc x y postI finI) sts A K →
  (∀ W ob,K W→K (W.alloc ob))→(∀ u p,(A u).put (some da) p=A p)→Below w.heap.size w w1→K w1→wpAnyH P .any ops (NoPanic Q) (fun W=>Below w.heap.size w W) (chN sts (finI.length+1+postI.length+1)+1) T (A u) w1
 | [],T,A,K,w1,hT,hY,hKa,hAp,hb,hK1=>qqP hs hoc hoa hos gc ga gs hdc hda ds hopa op hLay hinfo hT hKa hAp hY u hb hK1
 | (i,mi)::s,T,A,K,w1,hT,hY,hKa,hAp,hb,hK1=>by
  simp only [chF,Bool.and_eq_true,decide_eq_true_eq] at hT;obtain ⟨⟨⟨k1,k2⟩,k3⟩,k4⟩:=hT;have hY0:=hY;obtain ⟨o,d,ho,hg,hd,D,hDa,hcall,hv⟩:=hY;refine wpAnyH_ready k1 (by simp) (AllReadyH.cons ho (fun K hK=>?_) (AllReadyH.cons hoa (fun K hK=>?_) AllReadyH.nil))
  ·rw [if_pos (by simp [Region.wanted,hg])];refine GY.wp (hcall _ w1 hb hK1) ?_;rintro v w2 ⟨hb2,hD⟩;have hS2:Below w.heap.size w w2:=hb.trans (hb2.mono hb.size);refine hK.out _ _ hS2 fun _=>?_
   rw [hd];obtain ⟨mid,A',hmI,hy,hpA,hdA,hrest⟩:=hv v ⟨_,hD⟩;rw [←hmI] at k2 k3;show wpAnyH P .any ops (NoPanic Q) _ (chN s (finI.length+1+postI.length+1)+mi.length+1) _ _ _
   rw [←hmI,List.length_map,show ∀ a:Nat,a+mid.length+1=(a+1)+mid.length by intro a;omega];refine qaR hs _ hS2 _ mid _ _ k2 (hy _) ?_;rw [hpA];exact qyS hs hoc hoa hos gc ga gs hdc hda ds hopa op hLay hinfo u s _ A' _ w2 k3 hrest (fun W ob h=>hDa _ _ _ h) hdA hS2 hD
  ·rw [if_pos (by simp [Region.wanted,ga])];unfold Oper.wp;rw [hLay _ hopa _ _];have hb3:=qaX w1 (.cells z tR);have hS3:=hb.trans (hb3.mono hb.size);show K (Act.put _ oa.dst _) _
   refine hK.out _ _ hS3 fun _=>?_
   rw [hda,hAp];have hA:=At.fresh w1 z.toList tR rfl;rw [show z.toList.toArray=z by simp] at hA;exact qyR hs hoc hos gc gs hdc ds op hinfo hb.size ((i,mi)::s) _ A _ _ k4 hY0 (by simp) hA hS3 (hKa _ _ hK1)
end
theorem jeG (a:Act) (d:Tmp) (u p:Value):(a.put (some d) u).put (some d) p=a.put (some d) p:=by simp [Act.put]
theorem qdS {P:Program} {id:Nat} {Q:Exit→Act→World→Prop} {a:Act} {w:World} {l:List Oper} (pre:List (Nat × Tmp × Value)) (sts:List (Nat × List Nat)) (ic ia is:Nat) (postI finI:List Nat) (dc da:Tmp) (tR:TypeId) (x y:Operand) (z:Array Value) (u0:Value) {oc oa os:Oper}
  (hm:P.follows .mixedOrders=true) (hB:chainOk l.toArray (pre.map (·.1)) sts ic ia is postI finI=true) (hoc:l.toArray[ic]?=some oc) (hoa:l.toArray[ia]?=some oa) (hos:l.toArray[is]?=some os) (gc:oc.guard=none) (ga:oa.guard=none) (gs:os.guard=none) (hdc:oc.dst=some dc) (hda:oa.dst=some da) (hds:os.dst=none) (hopa:oa.op=.alloc tR) (hops:os.op=.store tR x y)
  (hLay:LaysAs P tR z) (hinfo:(P.info? tR).map (·.size)=some z.size) (hu0:(putsA a pre).put (some da) u0=putsA a pre) (hypre:takesY P l.toArray (fun W=>Below w.heap.size w W) pre a)
  (hY:chY P l.toArray (fun W=>Below w.heap.size w W) da (TailH P l.toArray Q (fun W=>Below w.heap.size w W) da z oc dc x y postI finI) sts (fun u=>(putsA a pre).put (some da) u) (fun _=>True)):(Code.region id l.toArray true).wp P Q a w:=by
 simp only [chainOk,Bool.and_eq_true,decide_eq_true_eq] at hB;obtain ⟨⟨⟨k1,k2⟩,hs⟩,hsz⟩:=hB;refine wp_region_noPanic (wp_region_any hm (wpAny_of_held (S:=fun W=>Below w.heap.size w W) _ _ _ _ ?_));have hS0:Below w.heap.size w w.drew:=qcB (Below.refl _ _);rw [List.length_map] at hsz;generalize Array.replicate l.toArray.size false=L0 at *
 rw [hsz];refine qaR hs _ hS0 _ pre _ _ k1 hypre ?_;rw [←hu0];exact qyS hs hoc hoa hos gc ga gs hdc hda hds hopa hops hLay hinfo u0 sts _ _ _ _ k2 hY (fun _ _ h=>h) (fun u p=>jeG _ _ _ _) hS0 trivial
end Go.Proofs.YtemoddmadfoaiaaGreat
