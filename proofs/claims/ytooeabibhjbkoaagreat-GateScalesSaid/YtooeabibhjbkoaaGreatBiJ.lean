import Derived.Test.YtooeabibhjbkoaaGreatBiX
set_option linter.unusedVariables false
set_option linter.unusedSimpArgs false
set_option maxRecDepth 100000
set_option maxHeartbeats 4000000
namespace Go.Proofs.YtooeabibhjbkoaaGreat
open Go.RowKit Big
open Lib (hid)
theorem qqT {c:List Value} {v:Nat} (h:c=lv 32 v) (hv:v<BB^32) {z:Bool} (hz:z=decide (v=0)) (W:World) :
  Calls Tryz.prog 146 #[.agg c.toArray] W fun e w'=>e=.returned (.bool z)∧Below W.heap.size W w':=by
 subst h;exact qhJ v z W hv hz
theorem qtL {c d q r:List Value} {a b:Nat} (hc:c=lv 32 a) (hd:d=lv 32 b) (hq:q=lv 32 (a / b)) (hr:r=lv 32 (a%b)) (ha:a<BB^32) (hb:b<BB^32) (h0:b≠0) (W:World) :
  Calls Tryz.prog 147 #[.agg c.toArray,.agg d.toArray] W fun e w'=>e=.returned (.tuple #[.agg q.toArray,.agg r.toArray])∧Below W.heap.size W w':=by
 subst hc hd hq hr;exact qmH a b W ha hb h0
theorem qeE {c d:List Value} {neg n:Bool} {v:Nat} (hc:c=lv 32 v) (hd:d=.bool n::lv 32 v) (hn:n=cs1 neg v) (hv:v<BB^32) (W:World) :
  Calls Tryz.prog 113 #[.bool neg,.agg c.toArray] W fun e w'=>e=.returned (.agg d.toArray)∧Below W.heap.size W w':=by
 subst hc hd hn;exact qhI neg v W hv
theorem qiP {a b n:Nat} (ha:a<n) (hb:b<n):Nat.gcd a b<n:=by
 by_cases h:a=0
 ·subst h;rw [Nat.gcd_zero_left];exact hb
 ·exact Nat.lt_of_le_of_lt (Nat.gcd_le_left b (Nat.pos_of_ne_zero h)) ha
theorem jaV (na nb:Bool) (a b:Nat) (w:World) (ha:a<BB^32) (hb:b<BB^32) :
  Calls Tryz.prog 116 #[iV na a,iV nb b] w fun e w'=>e=.returned (iV false (Nat.gcd a b))∧Below w.heap.size w w':=by
 obtain ⟨G,hG⟩:∃ G,G=Nat.gcd a b:=⟨_,rfl⟩
 rw [←hG]
 have HGB:=hid (show G<BB^32 by rw [hG];exact qiP ha hb)
 obtain ⟨ca,V_ca⟩:∃ c:List Value,Hid (c=.bool na::lv 32 a):=⟨_,hid rfl⟩
 obtain ⟨cb,V_cb⟩:∃ c:List Value,Hid (c=.bool nb::lv 32 b):=⟨_,hid rfl⟩
 obtain ⟨cg,V_cg⟩:∃ c:List Value,Hid (c=.bool false::lv 32 G):=⟨_,hid rfl⟩
 obtain ⟨cz,V_cz⟩:∃ c:List Value,Hid (c=.bool false::lv 32 0):=⟨_,hid rfl⟩
 obtain ⟨ma,V_ma⟩:∃ c:List Value,Hid (c=lv 32 a):=⟨_,hid rfl⟩
 obtain ⟨mb,V_mb⟩:∃ c:List Value,Hid (c=lv 32 b):=⟨_,hid rfl⟩
 rw [qxC V_ca.out,qxC V_cb.out,qxC V_cg.out]
 have HA:=hid (And.intro ha (And.intro hb hG))
 clear ha hb hG
 obtain ⟨B0,hB0⟩:∃ B,B=w.heap.size:=⟨_,rfl⟩
 obtain ⟨B1,hB1⟩:∃ B,B=w.heap.size+1:=⟨_,rfl⟩
 obtain ⟨B2,hB2⟩:∃ B,B=w.heap.size+1+1:=⟨_,rfl⟩
 obtain ⟨w0,hw0⟩:∃ w0,w0=((w.alloc (.cells ca.toArray 25)).alloc (.cells cb.toArray 25)).alloc (.cells zero33 25):=⟨_,rfl⟩
 have AB0_1:=hid (show At w0 B0 1 ma by rw [hw0];exact (((At.fresh w ca _ hB0).alloc _).alloc _).mag V_ca.out V_ma.out)
 have AB1_1:=hid (show At w0 B1 1 mb by rw [hw0];exact ((At.fresh _ cb _ (by simp [hB1])).alloc _).mag V_cb.out V_mb.out)
 have AB2:=hid (show At w0 B2 0 cz by rw [hw0,V_cz.out];exact At.zero _ _ (by simp [hB2]))
 have FR:=hid (show Fr B0 w w0 by rw [hw0,hB0];exact (((Fr.start w).alloc _).alloc _).alloc _)
 have FR0:=hid FR.out.le
 have l01:B0<B1:=by omega
 have l12:B1<B2:=by omega
 have hZB2:B0≤B2:=by omega
 unfold zero33 at hw0
 go_enter Tryz.func116,Tryz.ntmps116
 go_upto_region 1 with fail
 rw [←hw0,←hB2,←hB1,←hB0]
 have HB0:=hid hB0
 clear hw0 hB1 hB2 hB0
 refine wfn [⟨true,4,5,6,0,0,23,10,ma,0,ma,[]⟩,⟨true,5,6,7,0,0,23,12,mb,0,mb,[]⟩] [(9,.pointer (some ⟨B0,1,none⟩)),(10,.agg ma.toArray),(11,.pointer (some ⟨B1,1,none⟩)),(12,.agg mb.toArray)] _ (by simp only [zz4,zz5,zq];rfl) (by kernel_rfl) (by kernel_rfl) rfl ?_ ?_ ?_ ?_
 ·intro W' hW'
  have rd0:=AB0_1.out.below hW'
  have rd1:=AB1_1.out.below hW'
  refine fxo ?_ ?_;(go_big_quiet_step (fail);(try simp only [zq]);exact wqn rfl)
  refine fxo (wlg (by rfl) rfl rfl rd0 Tryz.underlying23 rfl (qaW V_ma.out) (wqn (by simp only [zq]))) ?_
  refine fxo ?_ ?_;(go_big_quiet_step (fail);(try simp only [zq]);exact wqn rfl)
  refine fxo (wlg (by rfl) rfl rfl rd1 Tryz.underlying23 rfl (qaW V_mb.out) (wqn (by simp only [zq]))) ?_
  iterate 4 (refine fxs (by rfl) ?_)
  exact fxn
 ·exact oP _ _ (Tryz.alM (qaW V_ma.out)) (oP _ _ (Tryz.alM (qaW V_mb.out)) (oN))
 ·exact oP _ _ (stw rfl (qaW V_ma.out) (qxK V_ma.out) (fun _=>rfl)) (oP _ _ (stw rfl (qaW V_mb.out) (qxK V_mb.out) (fun _=>rfl)) (oN))
 intro β wx1 E
 replace FR:=hid (FR.out.fnw E rfl)
 obtain ⟨b5,hb5⟩:∃ b,b=β 4:=⟨_,rfl⟩
 have eb5:=E.atNew mms rfl
 simp only at eb5
 rw [←hb5] at eb5
 have lB0_b5:B0<b5:=by have h1:=eb5.1;have h2:=AB0_1.out.lt;omega
 have lB1_b5:B1<b5:=by have h1:=eb5.1;have h2:=AB1_1.out.lt;omega
 have lB2_b5:B2<b5:=by have h1:=eb5.1;have h2:=AB2.out.lt;omega
 have hZb5:B0≤b5:=by have h1:=eb5.1;have h2:=FR0.out;omega
 obtain ⟨b6,hb6⟩:∃ b,b=β 5:=⟨_,rfl⟩
 have eb6:=E.atNew (List.mem_cons_of_mem _ mms) rfl
 simp only at eb6
 rw [←hb6] at eb6
 have lB0_b6:B0<b6:=by have h1:=eb6.1;have h2:=AB0_1.out.lt;omega
 have lB1_b6:B1<b6:=by have h1:=eb6.1;have h2:=AB1_1.out.lt;omega
 have lB2_b6:B2<b6:=by have h1:=eb6.1;have h2:=AB2.out.lt;omega
 have hZb6:B0≤b6:=by have h1:=eb6.1;have h2:=FR0.out;omega
 have nb5_b6:b5≠b6:=fun e=>absurd (E.apart _ mms _ (List.mem_cons_of_mem _ mms) rfl rfl (by rw [hb5,hb6] at e;exact e)) (show ¬(4:Nat)=5 by decide)
 clear AB0_1
 clear AB1_1
 replace AB2:=hid (AB2.out.fnw E rfl)
 have Ab5:=hid eb5.2
 have Ab6:=hid eb6.2
 simp only [nP,zr,zq]
 rw [←hb5]
 rw [←hb6]
 replace FR0:=hid FR.out.le
 clear E eb5 hb5 eb6 hb6
 clear l01
 go_wp2
 go_loopg [] b (fun m wr=>∃ vm vn,At wr b5 0 (lv 32 vm)∧At wr b6 0 (lv 32 vn)∧At wr B2 0 cz∧Fr B0 w wr∧vm<BB^32∧vn<BB^32∧G=Nat.gcd vm vn∧vn≤m)
 case atStart=>exact ⟨a,b,by have:=Ab5.out;rwa [V_ma.out] at this,by have:=Ab6.out;rwa [V_mb.out] at this,AB2.out,FR.out,HA.out.1,HA.out.2.1,HA.out.2.2,Nat.le_refl _⟩
 case round =>
  obtain ⟨vm,vn,h5,h6,h2,hf,hm,hn,hg,hle⟩:=hrel
  obtain ⟨cm,V_cm⟩:∃ c:List Value,Hid (c=lv 32 vm):=⟨_,hid rfl⟩
  obtain ⟨cn,V_cn⟩:∃ c:List Value,Hid (c=lv 32 vn):=⟨_,hid rfl⟩
  replace Ab5:=hid (show At wr b5 0 cm by rw [V_cm.out];exact h5)
  replace Ab6:=hid (show At wr b6 0 cn by rw [V_cn.out];exact h6)
  replace AB2:=hid h2
  replace FR:=hid hf
  replace FR0:=hid FR.out.le
  have HV:=hid (And.intro hm (And.intro hn hg))
  clear h5 h6 h2 hf hm hn hg
  by_cases h0:vn=0
  ·have HE:=hid (show cm=lv 32 G by rw [HV.out.2.2,h0,Nat.gcd_zero_right];exact V_cm.out)
   have HZ:=hid (qqT V_cn.out HV.out.2.1 (z:=true) (by simp [h0]))
   clear h0 hle
   go_upto_region 2 with fail
   refine wfn [] [(13,.agg cn.toArray),(14,.bool true),(15,.bool false)] _ (by simp only [zz4,zz5,zq];rfl) (by kernel_rfl) (by kernel_rfl) rfl ?_ ?_ ?_ ?_
   ·intro W' hW'
    have rd0:=Ab6.out.below hW'
    refine fxo (wlg (by rfl) rfl rfl rd0 Tryz.underlying23 rfl (qaW V_cn.out) (wqn (by simp only [zq]))) ?_
    refine fxo ?_ ?_;(go_big_quiet_step ((go_at_call 146;exact qaA (HZ.out _)));(try simp only [zq]);exact wqn rfl)
    refine fxo ?_ ?_;(go_big_quiet_step (fail);(try simp only [zq]);exact wqn rfl)
    exact fxn
   ·exact oN
   ·exact oN
   intro β wx2 E
   replace FR:=hid (FR.out.fnw E rfl)
   replace AB2:=hid (AB2.out.fnw E rfl)
   replace Ab5:=hid (Ab5.out.fnw E rfl)
   replace Ab6:=hid (Ab6.out.fnw E rfl)
   have hE:=E.below rfl
   simp only [nP,zr,zq]
   replace FR0:=hid FR.out.le
   clear E
   go_upto_region 5 with fail
   refine qwf [⟨false,0,4,2,B2,0,25,25,cg,0,cg,[]⟩] [(24,.agg cm.toArray),(25,.agg cg.toArray)] _ (by simp only [zz4,zz5,zq];rfl) (by kernel_rfl) (by kernel_rfl) ?_ ?_ ?_ ?_ ?_ ?_ ?_
   ·intro W' hW'
    have rd0:=Ab5.out.below hW'
    refine fxo (wlg (by rfl) rfl rfl rd0 Tryz.underlying23 rfl (qaW V_cm.out) (wqn (by simp only [zq]))) ?_
    refine fxo ?_ ?_;(go_big_quiet_step ((go_at_call 113;exact qaA (qeE HE.out V_cg.out rfl HGB.out _)));(try simp only [zq]);exact wqn rfl)
    refine fxs (by rfl) ?_
    exact fxn
   ·intro W' hK'
    have rd0:=At.keep hK' Ab5.out (oP _ _ (fun _=>(by show B2≠b5;omega)) (oN))
    refine fxo (wlg (by rfl) rfl rfl rd0 Tryz.underlying23 rfl (qaW V_cm.out) (wqn (by simp only [zq]))) ?_
    iterate 2 (refine fxs (by kernel_rfl) ?_)
    exact fxn
   ·exact oP _ _ (bnc) (oN)
   ·exact oP _ _ (fun _=>⟨AB2.out.lt,rfl,At.room AB2.out (qI V_cz.out) (qI V_cg.out)⟩) (oN)
   ·exact uno
   ·exact oP _ _ (stw rfl (qI V_cg.out) (qbL V_cg.out) (fun _=>rfl)) (oN)
   intro β wx3 E
   replace FR:=hid (FR.out.flow E (oP _ _ (fun _=>(by show B0≤B2;omega)) (oN)))
   replace AB2:=hid (show At wx3 B2 0 cg from E.atOld mms rfl AB2.out.lt)
   replace Ab5:=hid (At.flow E Ab5.out (oP _ _ (fun _=>(by show B2≠b5;omega)) (oN)))
   replace Ab6:=hid (At.flow E Ab6.out (oP _ _ (fun _=>(by show B2≠b6;omega)) (oN)))
   simp only [nP,zr,zq]
   replace FR0:=hid FR.out.le
   clear E
   go_wp2_with fail
   have hld:=AB2.out.read (P:=Tryz.prog) Tryz.underlying25 rfl (qI V_cg.out)
   refine bodyPost_ret (v:=.agg cg.toArray) (by simp [results,Tryz.results116,asAddr,hld]) rfl ?_
   exact ⟨rfl,fend HB0 FR⟩
  ·have HZ:=hid (qqT V_cn.out HV.out.2.1 (z:=false) (by simp [h0]))
   have H0:=hid h0
   clear h0
   obtain ⟨cq,V_cq⟩:∃ c:List Value,Hid (c=lv 32 (vm / vn)):=⟨_,hid rfl⟩
   obtain ⟨cr,V_cr⟩:∃ c:List Value,Hid (c=lv 32 (vm%vn)):=⟨_,hid rfl⟩
   go_upto_region 2 with fail
   refine wfn [] [(13,.agg cn.toArray),(14,.bool false),(15,.bool true)] _ (by simp only [zz4,zz5,zq];rfl) (by kernel_rfl) (by kernel_rfl) rfl ?_ ?_ ?_ ?_
   ·intro W' hW'
    have rd0:=Ab6.out.below hW'
    refine fxo (wlg (by rfl) rfl rfl rd0 Tryz.underlying23 rfl (qaW V_cn.out) (wqn (by simp only [zq]))) ?_
    refine fxo ?_ ?_;(go_big_quiet_step ((go_at_call 146;exact qaA (HZ.out _)));(try simp only [zq]);exact wqn rfl)
    refine fxo ?_ ?_;(go_big_quiet_step (fail);(try simp only [zq]);exact wqn rfl)
    exact fxn
   ·exact oN
   ·exact oN
   intro β wx2 E
   replace FR:=hid (FR.out.fnw E rfl)
   replace AB2:=hid (AB2.out.fnw E rfl)
   replace Ab5:=hid (Ab5.out.fnw E rfl)
   replace Ab6:=hid (Ab6.out.fnw E rfl)
   have hE:=E.below rfl
   simp only [nP,zr,zq]
   replace FR0:=hid FR.out.le
   clear E
   go_upto_region 3 with fail
   refine wfn [⟨true,6,7,8,0,0,23,20,cq,0,cq,[]⟩,⟨true,7,8,9,0,0,23,21,cr,0,cr,[]⟩] [(17,.agg cm.toArray),(18,.agg cn.toArray),(19,.tuple #[.agg cq.toArray,.agg cr.toArray]),(16,.tuple #[.agg cq.toArray,.agg cr.toArray]),(20,.agg cq.toArray),(21,.agg cr.toArray)] _ (by simp only [zz4,zz5,zq];rfl) (by kernel_rfl) (by kernel_rfl) rfl ?_ ?_ ?_ ?_
   ·intro W' hW'
    have rd0:=Ab5.out.below hW'
    have rd1:=Ab6.out.below hW'
    refine fxo (wlg (by rfl) rfl rfl rd0 Tryz.underlying23 rfl (qaW V_cm.out) (wqn (by simp only [zq]))) ?_
    refine fxo (wlg (by rfl) rfl rfl rd1 Tryz.underlying23 rfl (qaW V_cn.out) (wqn (by simp only [zq]))) ?_
    refine fxo ?_ ?_;(go_big_quiet_step ((go_at_call 147;exact qaA (qtL V_cm.out V_cn.out V_cq.out V_cr.out HV.out.1 HV.out.2.1 H0.out _)));(try simp only [zq]);exact wqn rfl)
    iterate 3 (refine fxo ?_ ?_;(go_big_quiet_step (fail);(try simp only [zq]);exact wqn rfl))
    iterate 4 (refine fxs (by rfl) ?_)
    exact fxn
   ·exact oP _ _ (Tryz.alM (qaW V_cq.out)) (oP _ _ (Tryz.alM (qaW V_cr.out)) (oN))
   ·exact oP _ _ (stw rfl (qaW V_cq.out) (qxK V_cq.out) (fun _=>rfl)) (oP _ _ (stw rfl (qaW V_cr.out) (qxK V_cr.out) (fun _=>rfl)) (oN))
   intro β wx3 E
   replace FR:=hid (FR.out.fnw E rfl)
   obtain ⟨b7,hb7⟩:∃ b,b=β 6:=⟨_,rfl⟩
   have eb7:=E.atNew mms rfl
   simp only at eb7
   rw [←hb7] at eb7
   have lB2_b7:B2<b7:=by have h1:=eb7.1;have h2:=AB2.out.lt;omega
   have lb5_b7:b5<b7:=by have h1:=eb7.1;have h2:=Ab5.out.lt;omega
   have lb6_b7:b6<b7:=by have h1:=eb7.1;have h2:=Ab6.out.lt;omega
   have hZb7:B0≤b7:=by have h1:=eb7.1;have h2:=FR0.out;omega
   obtain ⟨b8,hb8⟩:∃ b,b=β 7:=⟨_,rfl⟩
   have eb8:=E.atNew (List.mem_cons_of_mem _ mms) rfl
   simp only at eb8
   rw [←hb8] at eb8
   have lB2_b8:B2<b8:=by have h1:=eb8.1;have h2:=AB2.out.lt;omega
   have lb5_b8:b5<b8:=by have h1:=eb8.1;have h2:=Ab5.out.lt;omega
   have lb6_b8:b6<b8:=by have h1:=eb8.1;have h2:=Ab6.out.lt;omega
   have hZb8:B0≤b8:=by have h1:=eb8.1;have h2:=FR0.out;omega
   have nb7_b8:b7≠b8:=fun e=>absurd (E.apart _ mms _ (List.mem_cons_of_mem _ mms) rfl rfl (by rw [hb7,hb8] at e;exact e)) (show ¬(6:Nat)=7 by decide)
   replace AB2:=hid (AB2.out.fnw E rfl)
   replace Ab5:=hid (Ab5.out.fnw E rfl)
   replace Ab6:=hid (Ab6.out.fnw E rfl)
   have Ab7:=hid eb7.2
   have Ab8:=hid eb8.2
   simp only [nP,zr,zq]
   rw [←hb7]
   rw [←hb8]
   replace FR0:=hid FR.out.le
   clear E eb7 hb7 eb8 hb8
   go_upto_region 4 with fail
   refine qwf [⟨false,0,5,2,b5,0,23,22,cn,0,cn,[]⟩,⟨false,0,6,3,b6,0,23,23,cr,0,cr,[]⟩] [(22,.agg cn.toArray),(23,.agg cr.toArray)] _ (by simp only [zz4,zz5,zq];rfl) (by kernel_rfl) (by kernel_rfl) ?_ ?_ ?_ ?_ ?_ ?_ ?_
   ·intro W' hW'
    have rd0:=Ab6.out.below hW'
    have rd1:=Ab8.out.below hW'
    refine fxo (wlg (by rfl) rfl rfl rd0 Tryz.underlying23 rfl (qaW V_cn.out) (wqn (by simp only [zq]))) ?_
    refine fxo (wlg (by rfl) rfl rfl rd1 Tryz.underlying23 rfl (qaW V_cr.out) (wqn (by simp only [zq]))) ?_
    iterate 2 (refine fxs (by rfl) ?_)
    exact fxn
   ·intro W' hK'
    have rd1:=At.keep hK' Ab8.out (oP _ _ (fun _=>(by show b5≠b8;omega)) (oP _ _ (fun _=>(by show b6≠b8;omega)) (oN)))
    refine fxs (by kernel_rfl) ?_
    refine fxo (wlg (by rfl) rfl rfl rd1 Tryz.underlying23 rfl (qaW V_cr.out) (wqn (by simp only [zq]))) ?_
    iterate 2 (refine fxs (by kernel_rfl) ?_)
    exact fxn
   ·exact oP _ _ (bnc) (oP _ _ (bnc) (oN))
   ·exact oP _ _ (fun _=>⟨Ab5.out.lt,rfl,At.room Ab5.out (qaW V_cm.out) (qaW V_cn.out)⟩) (oP _ _ (fun _=>⟨Ab6.out.lt,rfl,At.room Ab6.out (qaW V_cn.out) (qaW V_cr.out)⟩) (oN))
   ·intro q hq r hr hqn hrn e
    simp only [List.mem_cons,List.not_mem_nil,or_false] at hq hr
    rcases hq with rfl|rfl<;>rcases hr with rfl|rfl<;>first|rfl|(exact Bool.noConfusion hqn)|(exact Bool.noConfusion hrn)|(exfalso;simp only at e;omega)
   ·exact oP _ _ (stw rfl (qaW V_cn.out) (qxK V_cn.out) (fun _=>rfl)) (oP _ _ (stw rfl (qaW V_cr.out) (qxK V_cr.out) (fun _=>rfl)) (oN))
   intro β wx4 E
   replace FR:=hid (FR.out.flow E (oP _ _ (fun _=>(by show B0≤b5;omega)) (oP _ _ (fun _=>(by show B0≤b6;omega)) (oN))))
   replace AB2:=hid (At.flow E AB2.out (oP _ _ (fun _=>(by show b5≠B2;omega)) (oP _ _ (fun _=>(by show b6≠B2;omega)) (oN))))
   replace Ab5:=hid (show At wx4 b5 0 cn from E.atOld mms rfl Ab5.out.lt)
   replace Ab6:=hid (show At wx4 b6 0 cr from E.atOld (List.mem_cons_of_mem _ mms) rfl Ab6.out.lt)
   replace Ab7:=hid (At.flow E Ab7.out (oP _ _ (fun _=>(by show b5≠b7;omega)) (oP _ _ (fun _=>(by show b6≠b7;omega)) (oN))))
   replace Ab8:=hid (At.flow E Ab8.out (oP _ _ (fun _=>(by show b5≠b8;omega)) (oP _ _ (fun _=>(by show b6≠b8;omega)) (oN))))
   simp only [nP,zr,zq]
   replace FR0:=hid FR.out.le
   clear E
   go_wp2_with fail
   go_roundg (gk - 1)
   case measure=>have:=H0.out;omega
   case rel =>
    have hlt:vm%vn<vn:=Nat.mod_lt _ (Nat.pos_of_ne_zero H0.out)
    exact ⟨vn,vm%vn,by have:=Ab5.out;rwa [V_cn.out] at this,by have:=Ab6.out;rwa [V_cr.out] at this,AB2.out,FR.out,HV.out.2.1,Nat.lt_trans hlt HV.out.2.1,by rw [HV.out.2.2,Nat.gcd_comm,Nat.gcd_rec vn vm,Nat.gcd_comm],by omega⟩
end Go.Proofs.YtooeabibhjbkoaaGreat
