import Derived.Test.YtemoddmadfoaiaaGreatQrA
import Derived.Test.YtemoddmadfoaiaaGreatBkM
import Derived.Test.YtemoddmadfoaiaaGreatPcA
set_option linter.unusedVariables false
set_option linter.unusedSimpArgs false
set_option maxRecDepth 100000
set_option maxHeartbeats 8000000
namespace Go.Proofs.YtemoddmadfoaiaaGreat
open Go.RowKit Big
open Lib (hid)
theorem qpC {ca cb:List Value} {na nb:Bool} {a b:Nat} {z:Int} (hca:ca=.bool na::lv 32 a) (hcb:cb=.bool nb::lv 32 b) (hz:z=cmpZ (zI na a) (zI nb b)) (ha:a<BB^32) (hb:b<BB^32) (w:World) :
  Calls Tryz.prog 154 #[.agg ca.toArray,.agg cb.toArray] w fun e w'=>e=.returned (.int .i64 z)∧Below w.heap.size w w':=by
 have V_ca:=hid hca;have V_cb:=hid hcb;obtain ⟨ma,V_ma⟩:∃ c:List Value,Hid (c=lv 32 a):=⟨_,hid rfl⟩;obtain ⟨mb,V_mb⟩:∃ c:List Value,Hid (c=lv 32 b):=⟨_,hid rfl⟩;obtain ⟨s,hs⟩:∃ s,s=sgnI na a:=⟨_,rfl⟩;obtain ⟨t,ht⟩:∃ t,t=sgnI nb b:=⟨_,rfl⟩;obtain ⟨x,hx⟩:∃ x,x=cmpI a b:=⟨_,rfl⟩;obtain ⟨n1,hn1⟩:∃ n,n=cs1 na a:=⟨_,rfl⟩;obtain ⟨n2,hn2⟩:∃ n,n=cs1 nb b:=⟨_,rfl⟩;have hsb:(s=-1∨s=0∨s=1)∧(t=-1∨t=0∨t=1)∧(x=-1∨x=0∨x=1):=⟨by rw [hs];exact qmU _ _,by rw [ht];exact qmU _ _,by rw [hx];exact qvZ _ _⟩;have HZ:=hid (show (s<t→z=-1)∧(t<s→z=1)∧(s=t→z=s*x) by rw [hz,hs,ht,hx];exact qwA na nb a b);have HS:=hid (qdY V_ca.out hs ha);have HT:=hid (qdY V_cb.out ht hb);have HPA:=hid (qbL V_ca.out V_ma.out hn1 ha);have HPB:=hid (qbL V_cb.out V_mb.out hn2 hb);have HX:=hid (And.intro hx (And.intro ha hb));clear hs ht hx ha hb hz hca hcb hn1 hn2;obtain ⟨B0,B1,w0,hw0,hB0,hB1,AB0,AB1,FR,FR0,HB0,hZB0,l01,hZB1⟩:=en2 w 25 25 (bxq ca) (bxq cb);go_enter Tryz.func154,Tryz.ntmps154
 go_upto_region 1 with fail
 rw [←hw0,←hB1,←hB0];clear hw0 hB0 hB1;refine wT [] [(11,.agg ca.toArray),(12,.int .i64 s),(13,.agg cb.toArray),(14,.int .i64 t),(5,.int .i64 s),(6,.int .i64 t)] (by simp only [zr,zq];rfl) (by kernel_rfl) rfl ?_ oN oN ?_
 ·intro W' hW';refine ldI (abl AB0 hW') V_ca rfl<|fxo ?_<|ldI (abl AB1 hW') V_cb rfl<|fxo (by go_big_quiet_step ((go_at_call 107;exact qaA (HT.out _)));exact wqn rfl)<|fo2 ?_ ?_<|fxn;all_goals (go_big_quiet_step ((go_at_call 107;exact qaA (HS.out _)));exact wqn rfl)
 intro β wx1 E;replace FR:=fnf FR E rfl;replace AB0:=fnh AB0 E rfl;replace AB1:=fnh AB1 E rfl;simp only [nP,zr,zq];replace FR0:=hid FR.out.le;clear E;obtain ⟨hs,ht,hx⟩:=hsb;by_cases c1:s<t
 ·have HE:=hid (HZ.out.1 c1);have ne:s≠t:=by omega
  clear hs ht hx HS HT;go_wp2
  go_ret
  exact ⟨qaI HE.out.symm,by rw [HB0.out] at FR;exact FR.out.below⟩
 ·by_cases c2:t<s
  ·have HE:=hid (HZ.out.2.1 c2);have ne:s≠t:=by omega
   clear hs ht hx HS HT;go_wp2
   go_ret
   exact ⟨qaI HE.out.symm,by rw [HB0.out] at FR;exact FR.out.below⟩
  ·have hst:t=s:=by omega
   have HE:=hid (HZ.out.2.2 hst.symm);have wq:IntKind.i64.wrap (s*x)=s*x:=by rcases hs with rfl|rfl|rfl<;>rcases hx with rfl|rfl|rfl<;>exact IntWalk.i64_in _ (by omega)
   clear hs ht hx HS HT c1 c2;subst hst;go_upto_region 6 with fail
   refine wT [⟨true,5,8,7,0,0,140,25,ma,0,ma,[]⟩] [(22,.agg ca.toArray),(23,.tuple #[.bool n1,.agg ma.toArray]),(21,.tuple #[.bool n1,.agg ma.toArray]),(24,.bool n1),(25,.agg ma.toArray),(7,.bool n1)] (by simp only [zr,zq];rfl) (by kernel_rfl) rfl ?_ ?_ ?_ ?_
   ·intro W' hW';refine ldI (abl AB0 hW') V_ca rfl<|fo4 ?_ ?_ ?_ ?_<|fxs rfl<|fxo ?_<|fxs rfl<|fxn;all_goals (go_big_quiet_step ((go_at_call 144;exact qaA (HPA.out _)));exact wqn rfl)
   ·exact fP1 (Tryz.alG (qG V_ma.out))
   ·exact fP1 (sG V_ma (fun _=>rfl) rfl)
   intro β wx2 E;replace FR:=fnf FR E rfl;obtain ⟨b8,hb8,eb8⟩:=nwb E mms;have lB0_b8:B0<b8:=ltb AB0 eb8.1;have lB1_b8:B1<b8:=ltb AB1 eb8.1;have hZb8:B0≤b8:=Nat.le_trans FR0.out eb8.1;replace AB0:=fnh AB0 E rfl;replace AB1:=fnh AB1 E rfl;have Ab8:=hid eb8.2;simp only [nP,zr,zq];rw [←hb8];replace FR0:=hid FR.out.le;clear E eb8 hb8;go_upto_region 7 with fail
   refine wT [⟨true,5,10,7,0,0,140,30,mb,0,mb,[]⟩] [(27,.agg cb.toArray),(28,.tuple #[.bool n2,.agg mb.toArray]),(26,.tuple #[.bool n2,.agg mb.toArray]),(29,.bool n2),(30,.agg mb.toArray),(9,.bool n2)] (by simp only [zr,zq];rfl) (by kernel_rfl) rfl ?_ ?_ ?_ ?_
   ·intro W' hW';refine ldI (abl AB1 hW') V_cb rfl<|fo4 ?_ ?_ ?_ ?_<|fxs rfl<|fxo ?_<|fxs rfl<|fxn;all_goals (go_big_quiet_step ((go_at_call 144;exact qaA (HPB.out _)));exact wqn rfl)
   ·exact fP1 (Tryz.alG (qG V_mb.out))
   ·exact fP1 (sG V_mb (fun _=>rfl) rfl)
   intro β wx3 E;replace FR:=fnf FR E rfl;obtain ⟨b10,hb10,eb10⟩:=nwb E mms;have lB0_b10:B0<b10:=ltb AB0 eb10.1;have lB1_b10:B1<b10:=ltb AB1 eb10.1;have lb8_b10:b8<b10:=ltb Ab8 eb10.1;have hZb10:B0≤b10:=Nat.le_trans FR0.out eb10.1;replace AB0:=fnh AB0 E rfl;replace AB1:=fnh AB1 E rfl;replace Ab8:=fnh Ab8 E rfl;have Ab10:=hid eb10.2;simp only [nP,zr,zq];rw [←hb10];replace FR0:=hid FR.out.le;clear E eb10 hb10;have HC:=hid (qkV a b b8 0 b10 0 wx3 (by have:=Ab8.out;rwa [V_ma.out] at this) (by have:=Ab10.out;rwa [V_mb.out] at this) HX.out.2.1 HX.out.2.2);rw [←HX.out.1] at HC;go_wp2_with (go_at_call 165;refine HC.out.mono ?_;rintro e w' ⟨rfl,hbc⟩)
   go_ret
   exact ⟨qaI HE.out.symm,by rw [HB0.out] at FR;exact (FR.out.below.trans (hbc.mono FR.out.below.size))⟩
theorem jcK {ca cb cN cD:List Value} {na nb n:Bool} {pa qa pb qb v d:Nat} (h1:ca=rat na pa false qa) (h2:cb=rat nb pb false qb) (hN:cN=.bool n::lv 32 v) (hD:cD=.bool false::lv 32 d)
  (hv:v=pa*pb) (hd:d=qa*qb) (hn:n=cs1 (na != nb) v) (b1:pa<B480) (b2:qa<B480) (b3:pb<B480) (b4:qb<B480) (w:World) :
  Calls Tryz.prog 78 #[.agg ca.toArray,.agg cb.toArray] w fun e w'=>e=.returned (.tuple #[.agg cN.toArray,.agg cD.toArray])∧Below w.heap.size w w':=by
 have V_ca:=hid h1;have V_cb:=hid h2;have V_cN:=hid hN;have V_cD:=hid hD;have u30:BB^30≤BB^32:=Nat.pow_le_pow_right qaX (by omega);have hvB:v<BB^30:=by rw [hv];exact qeD b1 b3
 have hdB:d<BB^30:=by rw [hd];exact qeD b2 b4
 obtain ⟨cna,V_cna⟩:∃ c:List Value,Hid (c=.bool na::lv 32 pa):=⟨_,hid rfl⟩;obtain ⟨cda,V_cda⟩:∃ c:List Value,Hid (c=.bool false::lv 32 qa):=⟨_,hid rfl⟩;obtain ⟨cnb,V_cnb⟩:∃ c:List Value,Hid (c=.bool nb::lv 32 pb):=⟨_,hid rfl⟩;obtain ⟨cdb,V_cdb⟩:∃ c:List Value,Hid (c=.bool false::lv 32 qb):=⟨_,hid rfl⟩;obtain ⟨cz,V_cz⟩:∃ c:List Value,Hid (c=.bool false::lv 32 0):=⟨_,hid rfl⟩;have HPN:=hid (qgK V_cna.out V_cnb.out V_cN.out hv hn (qaO b1) (qaO b3) (by omega));have HPD:=hid (qgK V_cda.out V_cdb.out V_cD.out hd rfl (qaO b2) (qaO b4) (by omega));clear h1 h2 hN hD hv hd hn b1 b2 b3 b4 u30 hvB hdB;obtain ⟨B0,B1,B2,B3,w0,hw0,hB0,hB1,hB2,hB3,AB0,AB1,AB2,AB3,FR,FR0,HB0,hZB0,l01,hZB1,l12,hZB2,l23,hZB3⟩:=en4 w 27 27 25 25 (bxq ca) (bxq cb) (zQI V_cz) (zQI V_cz);unfold zero33 at hw0;go_enter Tryz.func78,Tryz.ntmps78
 go_upto_region 1 with fail
 rw [←hw0,←hB3,←hB2,←hB1,←hB0];clear hw0 hB0 hB1 hB2 hB3;have AB0_n:=hid (AB0.out.num V_ca.out V_cna.out);have AB0_d:=hid (AB0.out.den V_ca.out V_cda.out);have AB1_n:=hid (AB1.out.num V_cb.out V_cnb.out);have AB1_d:=hid (AB1.out.den V_cb.out V_cdb.out);refine wF [⟨false,0,4,10,B2,0,25,10,cN,0,cN,[]⟩,⟨false,0,5,11,B3,0,25,15,cD,0,cD,[]⟩] [(6,.pointer (some ⟨B0,0,none⟩)),(7,.agg cna.toArray),(8,.pointer (some ⟨B1,0,none⟩)),(9,.agg cnb.toArray),(10,.agg cN.toArray),(11,.pointer (some ⟨B0,33,none⟩)),(12,.agg cda.toArray),(13,.pointer (some ⟨B1,33,none⟩)),(14,.agg cdb.toArray),(15,.agg cD.toArray)] (by simp only [zr,zq];rfl) (by kernel_rfl) ?_ ?_ (oP _ _ bnC (fP1 bnC)) ?_ ?_ ?_ ?_
 ·intro W' hW';refine fxo ?_<|ldI (abl AB0_n hW') V_cna rfl<|fxo ?_<|ldI (abl AB1_n hW') V_cnb rfl<|fo2 ?_ ?_<|ldI (abl AB0_d hW') V_cda rfl<|fxo ?_<|ldI (abl AB1_d hW') V_cdb rfl<|fxo (by go_big_quiet_step ((go_at_call 79;exact qaA (HPD.out _)));exact wqn rfl)<|fxs rfl<|fxs rfl<|fxn;all_goals (go_big_quiet_step ((go_at_call 79;exact qaA (HPN.out _)));exact wqn rfl)
 ·intro W' hK';have rd0:=At.keep hK' AB0_n.out (oP _ _ (fun _=>(by show B2≠B0;omega)) (oP _ _ (fun _=>(by show B3≠B0;omega)) (oN)));have rd1:=At.keep hK' AB1_n.out (oP _ _ (fun _=>(by show B2≠B1;omega)) (oP _ _ (fun _=>(by show B3≠B1;omega)) (oN)));have rd2:=At.keep hK' AB0_d.out (oP _ _ (fun _=>(by show B2≠B0;omega)) (oP _ _ (fun _=>(by show B3≠B0;omega)) (oN)));have rd3:=At.keep hK' AB1_d.out (oP _ _ (fun _=>(by show B2≠B1;omega)) (oP _ _ (fun _=>(by show B3≠B1;omega)) (oN)));refine fxi ?_<|ldI rd0 V_cna rfl<|fxi ?_<|ldI rd1 V_cnb rfl<|fxs (by kernel_rfl)<|fxi ?_<|ldI rd2 V_cda rfl<|fxi ?_<|ldI rd3 V_cdb rfl<|fxs (by kernel_rfl)<|fxs (by kernel_rfl)<|fxs (by kernel_rfl)<|fxn;all_goals (first|(refine .inr ?_;go_big_quiet_step (fail);exact wqn rfl)|exact .inl (by kernel_rfl))
 ·exact oP _ _ (fun _=>⟨AB2.out.lt,rfl,At.room AB2.out (qI V_cz.out) (qI V_cN.out)⟩) (oP _ _ (fun _=>⟨AB3.out.lt,rfl,At.room AB3.out (qI V_cz.out) (qI V_cD.out)⟩) (oN))
 ·intro q hq r hr hqn hrn e;simp only [List.mem_cons,List.not_mem_nil,or_false] at hq hr;rcases hq with rfl|rfl<;>rcases hr with rfl|rfl<;>first|rfl|(exact Bool.noConfusion hqn)|(exact Bool.noConfusion hrn)|(exfalso;simp only at e;omega)
 ·exact oP _ _ (stw rfl (qI V_cN.out) (qfM V_cN.out) (fun _=>rfl)) (oP _ _ (stw rfl (qI V_cD.out) (qfM V_cD.out) (fun _=>rfl)) (oN))
 intro β wx1 E;replace FR:=hid (FR.out.flow E (oP _ _ (fun _=>(by show B0≤B2;omega)) (oP _ _ (fun _=>(by show B0≤B3;omega)) (oN))));replace AB0:=hid (At.flow E AB0.out (oP _ _ (fun _=>(by show B2≠B0;omega)) (oP _ _ (fun _=>(by show B3≠B0;omega)) (oN))));replace AB1:=hid (At.flow E AB1.out (oP _ _ (fun _=>(by show B2≠B1;omega)) (oP _ _ (fun _=>(by show B3≠B1;omega)) (oN))));replace AB2:=hid (show At wx1 B2 0 cN from E.atOld mms rfl AB2.out.lt);replace AB3:=hid (show At wx1 B3 0 cD from E.atOld (List.mem_cons_of_mem _ mms) rfl AB3.out.lt);replace AB0_n:=hid (At.flow E AB0_n.out (oP _ _ (fun _=>(by show B2≠B0;omega)) (oP _ _ (fun _=>(by show B3≠B0;omega)) (oN))));replace AB0_d:=hid (At.flow E AB0_d.out (oP _ _ (fun _=>(by show B2≠B0;omega)) (oP _ _ (fun _=>(by show B3≠B0;omega)) (oN))));replace AB1_n:=hid (At.flow E AB1_n.out (oP _ _ (fun _=>(by show B2≠B1;omega)) (oP _ _ (fun _=>(by show B3≠B1;omega)) (oN))));replace AB1_d:=hid (At.flow E AB1_d.out (oP _ _ (fun _=>(by show B2≠B1;omega)) (oP _ _ (fun _=>(by show B3≠B1;omega)) (oN))));simp only [nP,zr,zq];clear E;go_wp2_with fail
 have hld0:=AB2.out.read (P:=Tryz.prog) Tryz.underlying25 rfl (qI V_cN.out);have hld1:=AB3.out.read (P:=Tryz.prog) Tryz.underlying25 rfl (qI V_cD.out);refine bodyPost_ret (v:=.tuple #[.agg cN.toArray,.agg cD.toArray]) (by simp [results,Tryz.results78,asAddr,hld0,hld1]) rfl ?_;exact ⟨rfl,fend HB0 FR⟩
theorem qzX {ca cb cN cD cR:List Value} {na nb:Bool} {pa qa pb qb:Nat} {code:Int} (w:World) (h1:ca=rat na pa false qa) (h2:cb=rat nb pb false qb)
  (ha:∀ W,Calls Tryz.prog 106 #[.agg ca.toArray] W fun e w'=>e=.returned (.bool true)∧Below W.heap.size W w') (hb:∀ W,Calls Tryz.prog 106 #[.agg cb.toArray] W fun e w'=>e=.returned (.bool true)∧Below W.heap.size W w')
  (hC:∀ W,Calls Tryz.prog 78 #[.agg ca.toArray,.agg cb.toArray] W fun e w'=>e=.returned (.tuple #[.agg cN.toArray,.agg cD.toArray])∧Below W.heap.size W w')
  (hMk:∀ W,Calls Tryz.prog 75 #[.agg cN.toArray,.agg cD.toArray] W fun e w'=>e=.returned (.tuple #[.agg cR.toArray,.int .i64 code])∧Below W.heap.size W w') {rn:Bool} {rp rq:Nat} {rm:Bool} (hcR:cR=rat rn rp rm rq) :
  Calls Tryz.prog 77 #[.agg ca.toArray,.agg cb.toArray,.func (.func 78) #[] #[]] w fun e w'=>e=.returned (.tuple #[.agg cR.toArray,.int .i64 code])∧Below w.heap.size w w':=by
 have V_ca:=hid h1;have V_cb:=hid h2;have V_cR:=hid hcR;obtain ⟨cz,V_cz⟩:∃ c:List Value,Hid (c=rat false 0 false 0):=⟨_,hid rfl⟩;have HA:=hid ha;have HB:=hid hb;have HC:=hid hC;have HK:=hid hMk;clear h1 h2 ha hb hC hMk hcR;obtain ⟨B0,B1,B2,w0,hw0,hB0,hB1,hB2,AB0,AB1,AB2,FR,FR0,HB0,hZB0,l01,hZB1,l12,hZB2⟩:=en3 w 27 27 27 (bxq ca) (bxq cb) (zQR V_cz);go_enter Tryz.func77,Tryz.ntmps77
 go_upto_region 1 with fail
 rw [←hw0,←hB2,←hB1,←hB0];clear hw0 hB0 hB1 hB2;refine wT [] [(8,.agg ca.toArray),(9,.bool true),(10,.bool false),(11,.bool false),(12,.agg cb.toArray),(13,.bool true),(14,.bool false),(15,.bool false)] (by simp only [zr,zq];rfl) (by kernel_rfl) rfl ?_ oN oN ?_
 ·intro W' hW';refine ldR (abl AB0 hW') V_ca rfl<|fo3 ?_ ?_ ?_<|ldR (abl AB1 hW') V_cb rfl<|fxo (by go_big_quiet_step ((go_at_call 106;exact qaA (HB.out _)));exact wqn rfl)<|fo2 ?_ ?_<|fxn;all_goals (go_big_quiet_step ((go_at_call 106;exact qaA (HA.out _)));exact wqn rfl)
 intro β wx1 E;replace FR:=fnf FR E rfl;replace AB0:=fnh AB0 E rfl;replace AB1:=fnh AB1 E rfl;replace AB2:=fnh AB2 E rfl;simp only [nP,zr,zq];clear E;go_upto_region 3 with fail
 refine wF [⟨false,0,6,9,B2,0,27,24,cR,0,cR,[]⟩] [(17,.func (.func 78) #[] #[]),(18,.agg ca.toArray),(19,.agg cb.toArray),(20,.tuple #[.agg cN.toArray,.agg cD.toArray]),(21,.agg cN.toArray),(22,.agg cD.toArray),(23,.tuple #[.agg cR.toArray,.int .i64 code]),(24,.agg cR.toArray),(25,.int .i64 code),(7,.int .i64 code)] (by simp only [zr,zq];rfl) (by kernel_rfl) ?_ ?_ (fP1 bnC) ?_ uno ?_ ?_
 ·intro W' hW';refine fxo ?_<|ldR (abl AB0 hW') V_ca rfl<|ldR (abl AB1 hW') V_cb rfl<|fo3 ?_ ?_ ?_<|fxo (by go_big_quiet_step ((go_at_call 75;exact qaA (HK.out _)));exact wqn rfl)<|fo2 ?_ ?_<|fxs rfl<|fxo ?_<|fxn;all_goals (go_big_quiet_step ((go_at_call 78;exact qaA (HC.out _)));exact wqn rfl)
 ·intro W' hK';have rd0:=akh AB0 hK' (by show B2≠B0;omega);have rd1:=akh AB1 hK' (by show B2≠B1;omega);refine fxi ?_<|ldR rd0 V_ca rfl<|ldR rd1 V_cb rfl<|fxs (by kernel_rfl)<|fxi ?_<|fxi ?_<|fxs (by kernel_rfl)<|fxi ?_<|fxi ?_<|fxs (by kernel_rfl)<|fxi ?_<|fxn;all_goals (first|(refine .inr ?_;go_big_quiet_step (fail);exact wqn rfl)|exact .inl (by kernel_rfl))
 ·exact fP1 (fun _=>⟨AB2.out.lt,rfl,At.room AB2.out (qR V_cz.out) (qR V_cR.out)⟩)
 ·exact fP1 (sR V_cR (fun _=>rfl) rfl)
 intro β wx2 E;replace FR:=ffh FR E (by show B0≤B2;omega);replace AB0:=afh AB0 E (by show B2≠B0;omega);replace AB1:=afh AB1 E (by show B2≠B1;omega);replace AB2:=hid (show At wx2 B2 0 cR from E.atOld mms rfl AB2.out.lt);simp only [nP,zr,zq];clear E;go_wp2_with fail
 have hld:=AB2.out.read (P:=Tryz.prog) Tryz.underlying27 rfl (qR V_cR.out);refine bodyPost_ret (v:=.tuple #[.agg cR.toArray,.int .i64 code]) (by simp [results,Tryz.results77,asAddr,hld]) rfl ?_;exact ⟨rfl,fend HB0 FR⟩
theorem jcJ {ca cb cR:List Value} {na nb:Bool} {pa qa pb qb:Nat} {code:Int} (w:World) (h1:ca=rat na pa false qa) (h2:cb=rat nb pb false qb) {rn:Bool} {rp rq:Nat} {rm:Bool} (hcR:cR=rat rn rp rm rq)
  (hC:∀ W,Calls Tryz.prog 77 #[.agg ca.toArray,.agg cb.toArray,.func (.func 78) #[] #[]] W fun e w'=>e=.returned (.tuple #[.agg cR.toArray,.int .i64 code])∧Below W.heap.size W w') :
  Calls Tryz.prog 45 #[.agg ca.toArray,.agg cb.toArray] w fun e w'=>e=.returned (.tuple #[.agg cR.toArray,.int .i64 code])∧Below w.heap.size w w':=by
 have V_ca:=hid h1;have V_cb:=hid h2;have V_cR:=hid hcR;obtain ⟨cz,V_cz⟩:∃ c:List Value,Hid (c=rat false 0 false 0):=⟨_,hid rfl⟩;have HC:=hid hC;clear h1 h2 hC hcR;obtain ⟨B0,B1,B2,w0,hw0,hB0,hB1,hB2,AB0,AB1,AB2,FR,FR0,HB0,hZB0,l01,hZB1,l12,hZB2⟩:=en3 w 27 27 27 (bxq ca) (bxq cb) (zQR V_cz);go_enter Tryz.func45,Tryz.ntmps45
 go_upto_region 1 with fail
 rw [←hw0,←hB2,←hB1,←hB0];clear hw0 hB0 hB1 hB2;refine wF [⟨false,0,4,5,B2,0,27,9,cR,0,cR,[]⟩] [(6,.agg ca.toArray),(7,.agg cb.toArray),(8,.tuple #[.agg cR.toArray,.int .i64 code]),(9,.agg cR.toArray),(10,.int .i64 code),(5,.int .i64 code)] (by simp only [zr,zq];rfl) (by kernel_rfl) ?_ ?_ (fP1 bnC) ?_ uno ?_ ?_
 ·intro W' hW';refine ldR (abl AB0 hW') V_ca rfl<|ldR (abl AB1 hW') V_cb rfl<|fo3 ?_ ?_ ?_<|fxs rfl<|fxo ?_<|fxn;all_goals (go_big_quiet_step ((go_at_call 77;exact qaA (HC.out _)));exact wqn rfl)
 ·intro W' hK';have rd0:=akh AB0 hK' (by show B2≠B0;omega);have rd1:=akh AB1 hK' (by show B2≠B1;omega);refine ldR rd0 V_ca rfl<|ldR rd1 V_cb rfl<|fxs (by kernel_rfl)<|fxi ?_<|fxi ?_<|fxs (by kernel_rfl)<|fxi ?_<|fxn;all_goals (first|(refine .inr ?_;go_big_quiet_step (fail);exact wqn rfl)|exact .inl (by kernel_rfl))
 ·exact fP1 (fun _=>⟨AB2.out.lt,rfl,At.room AB2.out (qR V_cz.out) (qR V_cR.out)⟩)
 ·exact fP1 (sR V_cR (fun _=>rfl) rfl)
 intro β wx1 E;replace FR:=ffh FR E (by show B0≤B2;omega);replace AB0:=afh AB0 E (by show B2≠B0;omega);replace AB1:=afh AB1 E (by show B2≠B1;omega);replace AB2:=hid (show At wx1 B2 0 cR from E.atOld mms rfl AB2.out.lt);simp only [nP,zr,zq];clear E;go_wp2_with fail
 have hld:=AB2.out.read (P:=Tryz.prog) Tryz.underlying27 rfl (qR V_cR.out);refine bodyPost_ret (v:=.tuple #[.agg cR.toArray,.int .i64 code]) (by simp [results,Tryz.results45,asAddr,hld]) rfl ?_;exact ⟨rfl,fend HB0 FR⟩
namespace Big
def mulQ (a b:Qn):Option Qn:=mkQ (a.1*b.1) (a.2*b.2)
end Big
theorem quU {a b:Qn} (ha:VQ a) (hb:VQ b):(a.1*b.1).natAbs<BB^32∧a.2*b.2<BB^32∧a.2*b.2≠0:=by
 have h1:=quV ha.num hb.num;have h2:=quV ha.den hb.den;rw [Int.natAbs_mul];exact ⟨b30 h1,b30 h2,Nat.mul_ne_zero ha.pos hb.pos⟩
theorem pmulQ {ca cb cR:List Value} {a b:Qn} {code:Int} (h1:ca=ratZ a.1 a.2) (h2:cb=ratZ b.1 b.2) (ha:VQ a) (hb:VQ b) (hR:cR=resR (mulQ a b)) (hc:code=resE (mulQ a b)) (w:World) :
  Calls Tryz.prog 45 #[.agg ca.toArray,.agg cb.toArray] w fun e w'=>e=.returned (.tuple #[.agg cR.toArray,.int .i64 code])∧Below w.heap.size w w':=by
 obtain ⟨B1,B2,B3⟩:=quU ha hb;obtain ⟨cN,hN⟩:∃ c,c=iZ (a.1*b.1):=⟨_,rfl⟩;obtain ⟨cD,hD⟩:∃ c,c=iZ ((a.2*b.2:Nat):Int):=⟨_,rfl⟩
 obtain ⟨rn,rp,rm,rq,hcr⟩:∃ rn rp rm rq,cR=rat rn rp rm rq:=by
  rw [hR];cases mulQ a b with
  | none=>exact ⟨_,_,_,_,rfl⟩
  | some r=>exact ⟨_,_,_,_,rfl⟩
 exact jcJ w h1 h2 hcr fun W=>qzX W h1 h2 (qfL h1 ha) (qfL h2 hb)
  (fun W=>jcK h1 h2 hN (by rw [hD];unfold iZ;rw [Int.natAbs_natCast,decide_eq_false (Int.not_lt.2 (Int.natCast_nonneg _))]) (by rw [Int.natAbs_mul]) rfl (by rw [qhH,Int.natAbs_mul]) ha.num ha.den hb.num hb.den W)
  (fun W=>quI hN hD hR hc B1 B2 B3 W) hcr
theorem qxR {cr:List Value} {n m ok:Bool} {p q:Nat} {s:Int} {code:Int} (h:cr=rat n p m q) (hok:ok=decide (p<B480∧q<B480∧n=cs1 n p∧m=false∧q≠0∧Nat.gcd p q=1)) (hs:s=if ok=true then sgnI n p else 0) (hc:code=if ok=true then 0 else 20) (hp:p<BB^32) (hq:q<BB^32) (w:World) :
  Calls Tryz.prog 74 #[.agg cr.toArray] w fun e w'=>e=.returned (.tuple #[.int .i64 s,.int .i64 code])∧Below w.heap.size w w':=by
 have V_cr:=hid h;obtain ⟨cn,V_cn⟩:∃ c:List Value,Hid (c=.bool n::lv 32 p):=⟨_,hid rfl⟩;obtain ⟨cd,V_cd⟩:∃ c:List Value,Hid (c=.bool m::lv 32 q):=⟨_,hid rfl⟩;have HV:=hid (qmZ V_cr.out hok hp hq);have HP:=hid hp;clear h hok hp hq;obtain ⟨B0,w0,hw0,hB0,AB0,FR,FR0,HB0,hZB0⟩:=en1 w 27 (bxq cr);go_enter Tryz.func74,Tryz.ntmps74
 go_upto_region 1 with fail
 rw [←hw0,←hB0];clear hw0 hB0;have AB0_n:=hid (AB0.out.num V_cr.out V_cn.out);have AB0_d:=hid (AB0.out.den V_cr.out V_cd.out)
 cases ok with
 | false =>
  subst hs hc;refine wT [] [(4,.agg cr.toArray),(5,.bool false),(6,.bool true)] (by simp only [zr,zq];rfl) (by kernel_rfl) rfl ?_ oN oN ?_
  ·intro W' hW';refine ldR (abl AB0 hW') V_cr rfl<|fo2 ?_ ?_<|fxn;all_goals (go_big_quiet_step ((go_at_call 106;exact qaA (HV.out _)));exact wqn rfl)
  intro β wx1 E;replace FR:=fnf FR E rfl;replace AB0:=fnh AB0 E rfl;replace AB0_n:=fnh AB0_n E rfl;replace AB0_d:=fnh AB0_d E rfl;simp only [nP,zr,zq];clear E;go_wp2
  go_ret2
  exact ⟨rfl,fend HB0 FR⟩
 | true =>
  have HS:=hid (qdY V_cn.out (show s=sgnI n p by rw [hs];rfl) HP.out);clear hs;subst hc;refine wT [] [(4,.agg cr.toArray),(5,.bool true),(6,.bool false)] (by simp only [zr,zq];rfl) (by kernel_rfl) rfl ?_ oN oN ?_
  ·intro W' hW';refine ldR (abl AB0 hW') V_cr rfl<|fo2 ?_ ?_<|fxn;all_goals (go_big_quiet_step ((go_at_call 106;exact qaA (HV.out _)));exact wqn rfl)
  intro β wx1 E;replace FR:=fnf FR E rfl;replace AB0:=fnh AB0 E rfl;replace AB0_n:=fnh AB0_n E rfl;replace AB0_d:=fnh AB0_d E rfl;simp only [nP,zr,zq];clear E;go_upto_region 3 with fail
  refine wT [] [(7,.pointer (some ⟨B0,0,none⟩)),(8,.agg cn.toArray),(9,.int .i64 s),(2,.int .i64 s),(3,.int .i64 0)] (by simp only [zr,zq];rfl) (by kernel_rfl) rfl ?_ oN oN ?_
  ·intro W' hW';refine fxo ?_<|ldI (abl AB0_n hW') V_cn rfl<|fo3 ?_ ?_ ?_<|fxn;all_goals (go_big_quiet_step ((go_at_call 107;exact qaA (HS.out _)));exact wqn rfl)
  intro β wx2 E;replace FR:=fnf FR E rfl;replace AB0:=fnh AB0 E rfl;replace AB0_n:=fnh AB0_n E rfl;replace AB0_d:=fnh AB0_d E rfl;simp only [nP,zr,zq];clear E;go_wp2
  go_ret2
  exact ⟨rfl,fend HB0 FR⟩
theorem jdE {ca cb:List Value} {na nb:Bool} {pa qa pb qb:Nat} {z:Int} (h1:ca=rat na pa false qa) (h2:cb=rat nb pb false qb)
  (ha:∀ W,Calls Tryz.prog 106 #[.agg ca.toArray] W fun e w'=>e=.returned (.bool true)∧Below W.heap.size W w') (hb:∀ W,Calls Tryz.prog 106 #[.agg cb.toArray] W fun e w'=>e=.returned (.bool true)∧Below W.heap.size W w')
  (hz:z=cmpZ (zI (cs1 na (pa*qb)) (pa*qb)) (zI (cs1 nb (pb*qa)) (pb*qa))) (b1:pa<B480) (b2:qa<B480) (b3:pb<B480) (b4:qb<B480) (w:World) :
  Calls Tryz.prog 124 #[.agg ca.toArray,.agg cb.toArray] w fun e w'=>e=.returned (.tuple #[.int .i64 z,.int .i64 0])∧Below w.heap.size w w':=by
 have V_ca:=hid h1;have V_cb:=hid h2;obtain ⟨x,hx⟩:∃ x,x=pa*qb:=⟨_,rfl⟩;obtain ⟨y,hy⟩:∃ y,y=pb*qa:=⟨_,rfl⟩;rw [←hx,←hy] at hz;obtain ⟨nx,hnx⟩:∃ n,n=cs1 na x:=⟨_,rfl⟩;obtain ⟨ny,hny⟩:∃ n,n=cs1 nb y:=⟨_,rfl⟩;rw [←hnx,←hny] at hz;have u30:BB^30≤BB^32:=Nat.pow_le_pow_right qaX (by omega);have hxB:x<BB^30:=by rw [hx];exact qeD b1 b4
 have hyB:y<BB^30:=by rw [hy];exact qeD b3 b2
 obtain ⟨cna,V_cna⟩:∃ c:List Value,Hid (c=.bool na::lv 32 pa):=⟨_,hid rfl⟩;obtain ⟨cda,V_cda⟩:∃ c:List Value,Hid (c=.bool false::lv 32 qa):=⟨_,hid rfl⟩;obtain ⟨cnb,V_cnb⟩:∃ c:List Value,Hid (c=.bool nb::lv 32 pb):=⟨_,hid rfl⟩;obtain ⟨cdb,V_cdb⟩:∃ c:List Value,Hid (c=.bool false::lv 32 qb):=⟨_,hid rfl⟩;obtain ⟨cx,V_cx⟩:∃ c:List Value,Hid (c=.bool nx::lv 32 x):=⟨_,hid rfl⟩;obtain ⟨cy,V_cy⟩:∃ c:List Value,Hid (c=.bool ny::lv 32 y):=⟨_,hid rfl⟩;have HA:=hid ha;have HB:=hid hb;have HPX:=hid (qgK V_cna.out V_cdb.out V_cx.out hx (by rw [hnx];cases na<;>rfl) (qaO b1) (qaO b4) (by omega));have HPY:=hid (qgK V_cnb.out V_cda.out V_cy.out hy (by rw [hny];cases nb<;>rfl) (qaO b3) (qaO b2) (by omega));have HZ:=hid (qpC V_cx.out V_cy.out hz (by omega) (by omega));clear h1 h2 ha hb hz hx hy hnx hny b1 b2 b3 b4 u30 hxB hyB;obtain ⟨B0,B1,w0,hw0,hB0,hB1,AB0,AB1,FR,FR0,HB0,hZB0,l01,hZB1⟩:=en2 w 27 27 (bxq ca) (bxq cb);go_enter Tryz.func124,Tryz.ntmps124
 go_upto_region 1 with fail
 rw [←hw0,←hB1,←hB0];clear hw0 hB0 hB1;have AB0_n:=hid (AB0.out.num V_ca.out V_cna.out);have AB0_d:=hid (AB0.out.den V_ca.out V_cda.out);have AB1_n:=hid (AB1.out.num V_cb.out V_cnb.out);have AB1_d:=hid (AB1.out.den V_cb.out V_cdb.out);refine wT [] [(6,.agg ca.toArray),(7,.bool true),(8,.bool false),(9,.bool false),(10,.agg cb.toArray),(11,.bool true),(12,.bool false),(13,.bool false)] (by simp only [zr,zq];rfl) (by kernel_rfl) rfl ?_ oN oN ?_
 ·intro W' hW';refine ldR (abl AB0 hW') V_ca rfl<|fo3 ?_ ?_ ?_<|ldR (abl AB1 hW') V_cb rfl<|fxo (by go_big_quiet_step ((go_at_call 106;exact qaA (HB.out _)));exact wqn rfl)<|fo2 ?_ ?_<|fxn;all_goals (go_big_quiet_step ((go_at_call 106;exact qaA (HA.out _)));exact wqn rfl)
 intro β wx1 E;replace FR:=fnf FR E rfl;replace AB0:=fnh AB0 E rfl;replace AB1:=fnh AB1 E rfl;replace AB0_n:=fnh AB0_n E rfl;replace AB0_d:=fnh AB0_d E rfl;replace AB1_n:=fnh AB1_n E rfl;replace AB1_d:=fnh AB1_d E rfl;simp only [nP,zr,zq];clear E;go_upto_region 3 with fail
 refine wT [] [(14,.pointer (some ⟨B0,0,none⟩)),(15,.agg cna.toArray),(16,.pointer (some ⟨B1,33,none⟩)),(17,.agg cdb.toArray),(18,.agg cx.toArray),(19,.pointer (some ⟨B1,0,none⟩)),(20,.agg cnb.toArray),(21,.pointer (some ⟨B0,33,none⟩)),(22,.agg cda.toArray),(23,.agg cy.toArray),(24,.int .i64 z),(4,.int .i64 z),(5,.int .i64 0)] (by simp only [zr,zq];rfl) (by kernel_rfl) rfl ?_ oN oN ?_
 ·intro W' hW';refine fxo ?_<|ldI (abl AB0_n hW') V_cna rfl<|fxo ?_<|ldI (abl AB1_d hW') V_cdb rfl<|fo2 ?_ ?_<|ldI (abl AB1_n hW') V_cnb rfl<|fxo ?_<|ldI (abl AB0_d hW') V_cda rfl<|fxo (by go_big_quiet_step ((go_at_call 79;exact qaA (HPY.out _)));exact wqn rfl)<|fxo (by go_big_quiet_step ((go_at_call 154;exact qaA (HZ.out _)));exact wqn rfl)<|fo2 ?_ ?_<|fxn;all_goals (go_big_quiet_step ((go_at_call 79;exact qaA (HPX.out _)));exact wqn rfl)
 intro β wx2 E;replace FR:=fnf FR E rfl;replace AB0:=fnh AB0 E rfl;replace AB1:=fnh AB1 E rfl;replace AB0_n:=fnh AB0_n E rfl;replace AB0_d:=fnh AB0_d E rfl;replace AB1_n:=fnh AB1_n E rfl;replace AB1_d:=fnh AB1_d E rfl;simp only [nP,zr,zq];clear E;go_wp2
 go_ret2
 exact ⟨rfl,fend HB0 FR⟩
theorem jdZ {ca cb:List Value} {a b:Qn} {z:Int} (h1:ca=ratZ a.1 a.2) (h2:cb=ratZ b.1 b.2) (ha:VQ a) (hb:VQ b) (hz:z=cmpZ (a.1*b.2) (b.1*a.2)) (w:World) :
  Calls Tryz.prog 124 #[.agg ca.toArray,.agg cb.toArray] w fun e w'=>e=.returned (.tuple #[.int .i64 z,.int .i64 0])∧Below w.heap.size w w' :=
 jdE h1 h2 (qfL h1 ha) (qfL h2 hb) (by
  rw [hz];have e:=(qjN (a:=a) (b:=b) true).1;have f:=(qjN (a:=b) (b:=a) true).1;rw [e,f]) ha.num ha.den hb.num hb.den w
end Go.Proofs.YtemoddmadfoaiaaGreat
