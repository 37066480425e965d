import Derived.Test.YtemoddmadfoaiaaGreatBkK
import Derived.Deep.CutRange
import Derived.Deep.CutBlock
set_option linter.unusedVariables false
set_option linter.unusedSimpArgs false
set_option maxRecDepth 100000
set_option maxHeartbeats 16000000
namespace Go.Proofs.YtemoddmadfoaiaaGreat
open Go.RowKit Big
open Lib (hid)
theorem quJ:lv 33 0=[.int .u32 0,.int .u32 0,.int .u32 0,.int .u32 0,.int .u32 0,.int .u32 0,.int .u32 0,.int .u32 0,.int .u32 0,.int .u32 0,.int .u32 0,.int .u32 0,.int .u32 0,.int .u32 0,.int .u32 0,.int .u32 0,.int .u32 0,.int .u32 0,.int .u32 0,.int .u32 0,.int .u32 0,.int .u32 0,.int .u32 0,.int .u32 0,.int .u32 0,.int .u32 0,.int .u32 0,.int .u32 0,.int .u32 0,.int .u32 0,.int .u32 0,.int .u32 0,.int .u32 0]:=by
 unfold lv cells dg;simp [List.range,List.range.loop,qfV]
structure DM (ba oa bb ob B0 B1 B2 B3:Nat) (ca cb:List Value) (w W:World) (Q R X V:Nat):Prop where
 a:At W ba oa ca
 b:At W bb ob cb
 q:At W B0 0 (lv 32 Q)
 r:At W B1 0 (lv 32 R)
 u:At W B2 0 (lv 33 X)
 v:At W B3 0 (lv 32 V)
 f:Fr B0 w W
structure DN (ba bb B0 B1 B2 B3:Nat):Prop where
 a:ba<B0
 b:bb<B0
 h1:B0<B1
 h2:B1<B2
 h3:B2<B3
section
variable {ba oa bb ob B0 B1 B2 B3:Nat} {ca cb:List Value} {w W:World} {Q R X V:Nat}
theorem DM.drew (h:DM ba oa bb ob B0 B1 B2 B3 ca cb w W Q R X V) (d:Nat):DM ba oa bb ob B0 B1 B2 B3 ca cb w (W.drewN d) Q R X V :=
 ⟨h.a.drewN d,h.b.drewN d,h.q.drewN d,h.r.drewN d,h.u.drewN d,h.v.drewN d,h.f.same d rfl⟩
theorem DM.below (h:DM ba oa bb ob B0 B1 B2 B3 ca cb w W Q R X V) {W2:World} (hb:Below W.heap.size W W2):DM ba oa bb ob B0 B1 B2 B3 ca cb w W2 Q R X V :=
 ⟨h.a.below hb,h.b.below hb,h.q.below hb,h.r.below hb,h.u.below hb,h.v.below hb,h.f.step hb⟩
theorem DM.putU (h:DM ba oa bb ob B0 B1 B2 B3 ca cb w W Q R X V) (n:DN ba bb B0 B1 B2 B3) {i d:Nat} (hi:i<33) (hd:d<BB) {X2:Nat} (hX:X2=upd X i d):DM ba oa bb ob B0 B1 B2 B3 ca cb w (W.setCell ⟨B2,i,none⟩ (.int .u32 (d:Int))) Q R X2 V:=by
 obtain ⟨n1,n2,n3,n4,n5⟩:=n;exact ⟨h.a.putOther _ _ (by show B2≠ba;omega),h.b.putOther _ _ (by show B2≠bb;omega),h.q.putOther _ _ (by show B2≠B0;omega),h.r.putOther _ _ (by show B2≠B1;omega),h.u.put rfl hi hd (by rw [hX]),h.v.putOther _ _ (by show B2≠B3;omega),h.f.put _ _ (by show B0≤B2;omega)⟩
theorem DM.putV (h:DM ba oa bb ob B0 B1 B2 B3 ca cb w W Q R X V) (n:DN ba bb B0 B1 B2 B3) {i d:Nat} (hi:i<32) (hd:d<BB) {V2:Nat} (hX:V2=upd V i d):DM ba oa bb ob B0 B1 B2 B3 ca cb w (W.setCell ⟨B3,i,none⟩ (.int .u32 (d:Int))) Q R X V2:=by
 obtain ⟨n1,n2,n3,n4,n5⟩:=n;exact ⟨h.a.putOther _ _ (by show B3≠ba;omega),h.b.putOther _ _ (by show B3≠bb;omega),h.q.putOther _ _ (by show B3≠B0;omega),h.r.putOther _ _ (by show B3≠B1;omega),h.u.putOther _ _ (by show B3≠B2;omega),h.v.put rfl hi hd (by rw [hX]),h.f.put _ _ (by show B0≤B3;omega)⟩
theorem DM.putQ (h:DM ba oa bb ob B0 B1 B2 B3 ca cb w W Q R X V) (n:DN ba bb B0 B1 B2 B3) {i d:Nat} (hi:i<32) (hd:d<BB) {Q2:Nat} (hX:Q2=upd Q i d):DM ba oa bb ob B0 B1 B2 B3 ca cb w (W.setCell ⟨B0,i,none⟩ (.int .u32 (d:Int))) Q2 R X V:=by
 obtain ⟨n1,n2,n3,n4,n5⟩:=n;exact ⟨h.a.putOther _ _ (by show B0≠ba;omega),h.b.putOther _ _ (by show B0≠bb;omega),h.q.put rfl hi hd (by rw [hX]),h.r.putOther _ _ (by show B0≠B1;omega),h.u.putOther _ _ (by show B0≠B2;omega),h.v.putOther _ _ (by show B0≠B3;omega),h.f.put _ _ (by show B0≤B0;omega)⟩
theorem DM.putR (h:DM ba oa bb ob B0 B1 B2 B3 ca cb w W Q R X V) (n:DN ba bb B0 B1 B2 B3) {i d:Nat} (hi:i<32) (hd:d<BB) {R2:Nat} (hX:R2=upd R i d):DM ba oa bb ob B0 B1 B2 B3 ca cb w (W.setCell ⟨B1,i,none⟩ (.int .u32 (d:Int))) Q R2 X V:=by
 obtain ⟨n1,n2,n3,n4,n5⟩:=n;exact ⟨h.a.putOther _ _ (by show B1≠ba;omega),h.b.putOther _ _ (by show B1≠bb;omega),h.q.putOther _ _ (by show B1≠B0;omega),h.r.put rfl hi hd (by rw [hX]),h.u.putOther _ _ (by show B1≠B2;omega),h.v.putOther _ _ (by show B1≠B3;omega),h.f.put _ _ (by show B0≤B1;omega)⟩
end
theorem qhF {Y j:Nat}:lim (Y*BB^(j+1)) j=0:=by
 have e:Y*BB^(j+1)=Y*BB*BB^j:=by rw [qdM,Nat.mul_assoc]
 unfold lim;rw [e,Nat.mul_div_cancel _ (BP j),Nat.mul_mod_left]
theorem jhH {x y s h l d:Nat} (hs:s<32) (hx:x<BB) (hh:h=x / 2^s) (hl:l=y*2^(32 - s)%BB) (hd:d=x / 2^s+y%2^s*2^(32 - s)):bits BinOp.or IntKind.u32 (h:Int) (l:Int)=(d:Int):=by
 have e3:BB=2^s*2^(32 - s):=by rw [qdF,←Nat.pow_add];congr 1;omega
 have hlo:h<2^(32 - s):=by rw [hh,Nat.div_lt_iff_lt_mul (tp _),Nat.mul_comm,←e3];exact hx
 have hl2:l=y%2^s*2^(32 - s):=by
  rw [hl,←qmV (by omega),show 32 - (32 - s)=s by omega]
 have hm:l%2^(32 - s)=0:=by rw [hl2];exact Nat.mul_mod_left _ _
 have hlB:l<BB:=by rw [hl];exact Nat.mod_lt _ qbK
 have hhB:h<BB:=by rw [hh];exact Nat.lt_of_le_of_lt (Nat.div_le_self _ _) hx
 rw [u32_or_nat _ _ (by unfold BB at hhB;exact hhB) (by unfold BB at hlB;exact hlB),Nat.or_comm,qiG hlo hm,hd,hl2,hh,Nat.add_comm]
theorem qcD {n:Nat} {c c2:List Value} {P i d:Nat} (h:c=lv n P) (h2:c2=lv n (upd P i d)) (hi:i<n) (hd:d<BB):c2=c.set i (.int .u32 (d:Int)):=by
 subst h h2;exact (qxY P hi hd).symm
def tailC:Nat→Code→Code
 | n+1,.seq _ b=>tailC n b
 | _,c=>c
def headC:Code→Code
 | .seq a _=>a
 | c=>c
theorem qkS {ca cb cq cr:List Value} {a b ba oa bb ob:Nat} (w:World) (h1:At w ba oa ca) (h2:At w bb ob cb) (hca:ca=lv 32 a) (hcb:cb=lv 32 b) (hcq:cq=lv 32 (a / b)) (hcr:cr=lv 32 (a%b)) (ha:a<BB^32) (hb:b<BB^32) (hb0:0<b) (hsm:a<b∨b<BB) :
  CB 145 #[.pointer (some ⟨ba,oa,none⟩),.pointer (some ⟨bb,ob,none⟩)] (.tuple #[.agg cq.toArray,.agg cr.toArray]) w:=by
 have HSM:=hid hsm;clear hsm;obtain ⟨m,hm32,hm⟩:=qLE a 32 ha;obtain ⟨n,hn32,hn⟩:=qLE b 32 hb;have HUA:=hid (fun W (h:At W ba oa ca)=>qfC a m ba oa W (hca ▸ h) ha hm);have HUB:=hid (fun W (h:At W bb ob cb)=>qfC b n bb ob W (hcb ▸ h) hb hn);obtain ⟨zc,hzc⟩:=nqx (cmpI a b);have HCM:=hid (fun W (h:At W ba oa ca) (h':At W bb ob cb)=>show CB 165 #[.pointer (some ⟨ba,oa,none⟩),.pointer (some ⟨bb,ob,none⟩)] (.int .i64 zc) W by rw [hzc];exact qnK a b ba oa bb ob W (hca ▸ h) (hcb ▸ h') ha hb);have V_ca:=hid hca;have V_cb:=hid hcb;have V_cq:=hid hcq;have V_cr:=hid hcr;have HV:=hid (And.intro ha (And.intro hb hb0));have HNM:=hid (And.intro hm hn);have HZ:=hid hzc;have Aba:=hid h1;have Abb:=hid h2;have lba:=h1.lt;have lbb:=h2.lt
 have hn1:1≤n:=by
  rcases Nat.eq_zero_or_pos n with h|h
  ·exfalso;rw [h] at hn;have:=hn.eq_zero;omega
  ·exact h
 clear hca hcb hcq hcr ha hb hb0 h1 h2 hm hn hzc;obtain ⟨cz,V_cz⟩:=nvx (lv 32 0);obtain ⟨B0,B1,w0,hw0,hB0,hB1,AB0,AB1,FR,FR0,HB0,hZB0,l01,hZB1⟩:=en2 w 140 140 (zM V_cz) (zM V_cz);rw [qbW] at hw0;go_enter Tryz.func145,Tryz.ntmps145
 go_upto_region 1 with fail
 rw [←hw0,←hB1,←hB0];clear hw0 hB0 hB1;replace Aba:=hid (Aba.out.below (by have:=FR.out.below;rwa [HB0.out] at this));replace Abb:=hid (Abb.out.below (by have:=FR.out.below;rwa [HB0.out] at this));rw [←HB0.out] at lba lbb;refine wE [(26,pT bb ob),(27,iT n),(28,pT ba oa),(29,iT m),(6,iT n),(7,iT m)] (by simp only [zu];rfl) (by as_aux_lemma=>kernel_rfl) ?_ ?_
 ·intro W' hW';refine fo3 ?_ ?_ ?_<|fxo (by go_big_quiet_step (exact qaL (HUA.out _ ((Aba.out.below hW').below (qbG _ _ _))));exact wqn rfl)<|fo2 ?_ ?_<|fxn;all_goals (go_big_quiet_step (exact qaL (HUB.out _ ((Abb.out.below hW').below (qbG _ _ _))));exact wqn rfl)
 intro β wx1 E;replace FR:=fnf FR E rfl;replace AB0:=fnh AB0 E rfl;replace AB1:=fnh AB1 E rfl;replace Aba:=fnh Aba E rfl;replace Abb:=fnh Abb E rfl;simp only [nP,zu];replace FR0:=hid FR.out.le;go_upto_region 2 with fail
 by_cases hlt:a<b
 ·have hzl:zc<0:=by rw [HZ.out];unfold cmpI;rw [if_pos hlt];decide
  have HQ:=hid (show cz=cq∧ca=cr by
   rw [V_cz.out,V_cq.out,V_ca.out,V_cr.out,Nat.div_eq_of_lt hlt,Nat.mod_eq_of_lt hlt];exact ⟨rfl,rfl⟩)
  clear hlt;refine wE [(31,pT ba oa),(32,pT bb ob),(33,iT zc),(34,bT),(30,bT)] (by simp only [zu];rfl) (by as_aux_lemma=>kernel_rfl) ?_ ?_
  ·intro W' hW';refine fo4 ?_ ?_ ?_ ?_<|fxo ?_<|fxn;all_goals (go_big_quiet_step (exact qaA (HCM.out _ ((Aba.out.below hW').below (qbG _ _ _)) ((Abb.out.below hW').below (qbG _ _ _))));exact wqn rfl)
  intro β wx2 E;replace FR:=fnf FR E rfl;replace AB0:=fnh AB0 E rfl;replace AB1:=fnh AB1 E rfl;replace Aba:=fnh Aba E rfl;simp only [nP,zu];go_upto_region 3 with fail
  refine wF [⟨false,0,4,4,B0,0,140,35,cz,0,cz,[]⟩,⟨false,0,5,5,B1,0,140,38,ca,0,ca,[]⟩] [(35,aT cz),(36,pT ba oa),(37,pT ba oa),(38,aT ca)] (by simp only [zu];rfl) (by as_aux_lemma=>kernel_rfl) ?_ ?_ (oP _ _ bnC (fP1 bnC)) ?_ ?_ ?_ ?_
  ·intro W' hW';refine fxb (qcB V_cz.out) rfl<|fo2 ?_ ?_<|lhG Aba hW' V_ca rfl<|fxs rfl<|fxs rfl<|fxn;all_goals (go_big_quiet_step (fail);exact wqn rfl)
  ·intro W' hK';have rd0:=At.keep hK' Aba.out (oP _ _ (fun _=>(by show B0≠ba;omega)) (oP _ _ (fun _=>(by show B1≠ba;omega)) (oN)));refine fxb (qcB V_cz.out) rfl<|fxi ?_<|fxi ?_<|ldG rd0 V_ca rfl<|fxs (by as_aux_lemma=>kernel_rfl)<|fxs (by as_aux_lemma=>kernel_rfl)<|fxn;all_goals (first|(refine .inr ?_;go_big_quiet_step (fail);exact wqn rfl)|exact .inl (by as_aux_lemma=>kernel_rfl))
  ·exact oP _ _ (fun _=>rmh AB0 (qG V_cz.out) (qG V_cz.out) rfl) (oP _ _ (fun _=>rmh AB1 (qG V_cz.out) (qG V_ca.out) rfl) (oN))
  ·intro q hq r hr hqn hrn e;simp only [List.mem_cons,List.not_mem_nil,or_false] at hq hr;rcases hq with rfl|rfl<;>rcases hr with rfl|rfl<;>first|rfl|(exact Bool.noConfusion hqn)|(exact Bool.noConfusion hrn)|(exfalso;simp only at e;omega)
  ·exact oP _ _ (stw rfl (qG V_cz.out) (qqB V_cz.out) (fun _=>rfl)) (oP _ _ (stw rfl (qG V_ca.out) (qqB V_ca.out) (fun _=>rfl)) (oN))
  intro β wx3 E;replace FR:=hid (FR.out.flow E (oP _ _ (fun _=>(by show B0≤B0;omega)) (oP _ _ (fun _=>(by show B0≤B1;omega)) (oN))));replace AB0:=aoh E AB0 mms;replace AB1:=aoh E AB1 (List.mem_cons_of_mem _ mms);simp only [nP,zu];rw [HQ.out.1] at AB0;rw [HQ.out.2] at AB1;go_wp2_with fail
  have hld0:=rdG AB0 V_cq;have hld1:=rdG AB1 V_cr;refine bodyPost_ret (v:=.tuple #[.agg cq.toArray,.agg cr.toArray]) (by simp [results,Tryz.results145,asAddr,hld0,hld1]) rfl ?_;exact ⟨rfl,qaY HB0 FR⟩
 ·have hzl:¬zc<0:=by rw [HZ.out];unfold cmpI;rw [if_neg hlt];split<;>decide
  have HGE:=hid (show b≤a by omega);clear hlt;refine wE [(31,pT ba oa),(32,pT bb ob),(33,iT zc),(34,bF),(30,bF)] (by simp only [zu];rfl) (by as_aux_lemma=>kernel_rfl) ?_ ?_
  ·intro W' hW';refine fo4 ?_ ?_ ?_ ?_<|fxo ?_<|fxn;all_goals (go_big_quiet_step (exact qaA (HCM.out _ ((Aba.out.below hW').below (qbG _ _ _)) ((Abb.out.below hW').below (qbG _ _ _))));exact wqn rfl)
  intro β wx2 E;replace FR:=fnf FR E rfl;replace AB0:=fnh AB0 E rfl;replace AB1:=fnh AB1 E rfl;replace Aba:=fnh Aba E rfl;replace Abb:=fnh Abb E rfl;simp only [nP,zu];replace FR0:=hid FR.out.le;by_cases hn2:n=1
  ·subst hn2;have HBL:=hid (show b<BB by have:=HNM.out.2.1;simpa using this);go_upto_region 5 with fail
   refine wF [⟨false,0,4,3,B0,0,140,44,ca,0,ca,[]⟩] [(42,pT ba oa),(43,pT ba oa),(44,aT ca)] (by simp only [zu];rfl) (by as_aux_lemma=>kernel_rfl) ?_ ?_ (fP1 bnC) ?_ uno ?_ ?_
   ·intro W' hW';refine fo2 ?_ ?_<|lhG Aba hW' V_ca rfl<|fxs rfl<|fxn;all_goals (go_big_quiet_step (fail);exact wqn rfl)
   ·intro W' hK';have rd0:=akh Aba hK' (by omega);refine fxi ?_<|fxi ?_<|ldG rd0 V_ca rfl<|fxs (by as_aux_lemma=>kernel_rfl)<|fxn;all_goals (first|(refine .inr ?_;go_big_quiet_step (fail);exact wqn rfl)|exact .inl (by as_aux_lemma=>kernel_rfl))
   ·exact fP1 (fun _=>rmh AB0 (qG V_cz.out) (qG V_ca.out) rfl)
   ·exact fP1 (sG V_ca (fun _=>rfl) rfl)
   intro β wx3 E;replace FR:=ffh FR E (by omega);replace AB0:=aoh E AB0 mms;replace AB1:=afh AB1 E (by omega);replace Aba:=afh Aba E (by omega);replace Abb:=afh Abb E (by omega);simp only [nP,zu];replace FR0:=hid FR.out.le;have hc0:=Abb.out.limbO V_cb.out (show b=lim b 0 by simp only [lim,Nat.pow_zero,Nat.div_one];exact (Nat.mod_eq_of_lt HBL.out).symm) (show 0<32 by omega);rw [Nat.add_zero] at hc0;have hsh:=jbA wx3 AB0.out V_ca.out V_cq.out HV.out.1 HV.out.2.2 HBL.out;obtain ⟨rr,hrr⟩:=nqx (a%b);rw [←hrr] at hsh;have HSH:=hid hsh;have HRB:=hid (show rr<BB by rw [hrr];exact Nat.lt_trans (Nat.mod_lt _ HV.out.2.2) HBL.out);have HRR:=hid hrr;have n10:B1≠B0:=by omega
   clear hsh hrr;go_upto_region 6 with fail
   go_cut [] from 45 to 50 (fun wx=>At wx B0 0 cq∧At wx B1 0 cr∧Fr B0 w wx)
   case first =>
    go_wp2_with (go_at_call 166;refine HSH.out.mono ?_;rintro e wy ⟨rfl,hOnly,hAq⟩;have hc2:=((AB1.out.only hOnly (by omega)).cellV V_cz.out (qfV 0).symm (show 0<32 by omega)).1;have hc3:=((AB1.out.only hOnly (by omega)).cellV V_cz.out (qfV 0).symm (show 0<32 by omega)).2)
    go_meet
    exact ⟨hAq.putOther _ _ n10,(AB1.out.only hOnly (by omega)).put V_cz.out (by omega) HRB.out (by rw [V_cr.out,qeC (show 0<BB^0 by simp),←HRR.out];simp),(FR.out.only hOnly hZB0).put _ _ hZB1⟩
   case rest =>
    clear Aba Abb AB0 AB1 FR FR0 hc0 HSH;obtain ⟨hA0,hA1,hF⟩:=hcut;have AB0:=hid hA0;have AB1:=hid hA1;have FR:=hid hF;clear hA0 hA1 hF;go_upto_region 7 with fail
    have sq:=qG V_cq.out;have sr:=qG V_cr.out;have lcq:cq.length=32:=by rw [V_cq.out,qlL]
    have lcr:cr.length=32:=by rw [V_cr.out,qlL]
    refine qcP 140 _ _ _ _ _ _ _ B0 B1 B0 B1 cq cr (by as_aux_lemma=>kernel_rfl) (by as_aux_lemma=>kernel_rfl) (by as_aux_lemma=>kernel_rfl) (by as_aux_lemma=>kernel_rfl) (by as_aux_lemma=>kernel_rfl) (by as_aux_lemma=>kernel_rfl) (by as_aux_lemma=>kernel_rfl) (by as_aux_lemma=>kernel_rfl) (by as_aux_lemma=>kernel_rfl) rfl rfl rfl rfl rfl rfl rfl rfl Tryz.underlying140 rfl sq sr (qqB V_cq.out) (qqB V_cr.out) rfl rfl rfl rfl rfl rfl AB0.out.range AB1.out.range AB0.out.there AB1.out.there (by omega) rfl (.inl rfl) (by omega) ?_;simp only [zq];have HWE:=hid (qaC (show w.heap.size≤B1 by rw [←HB0.out];exact hZB1) cr 0 _ (qaC (show w.heap.size≤B0 by rw [←HB0.out];exact hZB0) cq 0 _ (qbQ (show Below w.heap.size w wc by rw [←HB0.out];exact FR.out.below))));have g1:=World.rangeAt_setCells_same wc.drew B0 0 cq AB0.out.there;have g2:=qaN g1 cr B1 0 (by omega);have g3:=World.rangeAt_setCells_same (wc.drew.setCells B0 0 cq) B1 0 cr (qbI (b2:=B0) (show wc.drew.there B1 0 cr.length from fun j hj=>AB1.out.there j hj) cq 0 (by omega));go_wp2_with fail
    have hld1:=run_loadVar_mid (P:=Tryz.prog) _ _ _ _ _ _ g2 Tryz.underlying140 rfl sq;have hld2:=run_loadVar_mid (P:=Tryz.prog) _ _ _ _ _ _ g3 Tryz.underlying140 rfl sr;refine bodyPost_ret (v:=.tuple #[.agg cq.toArray,.agg cr.toArray]) (by simp [results,Tryz.results145,asAddr,hld1,hld2]) rfl ?_;exact ⟨rfl,HWE.out⟩
  ·exfalso
   have h1:=HNM.out.2.2 (by omega);have h2:=Nat.pow_le_pow_right qbK (show 1≤n - 1 by omega);rw [Nat.pow_one] at h2;have h3:=HGE.out;have h4:=HSM.out;omega
theorem qwU {ca cb cq cr:List Value} {a b ba oa bb ob m n n1 n2 s V X0 B0 B1 B2 B3:Nat} {w wr:World} {c2 c3 c11 c12 c13 c14 c15 c16 c17 c18 c19 c20 c21 c22 c23 c24 c25 c26 c27 c28 c29 c30 c31 c32 c33 c34 c35 c36 c37 c38 c39 c40 c41 c42 c43 c44 c45 c46 c47 c48 c49 c50 c51 c52 c53 c54 c55 c56 c57 c58 c59 c60 c61 c62 c63 c64 c65 c66 c67 c68 c69 c70 c71 c72 c73 c74 c75 c76 c77 c78 c79 c80 c81 c82 c83 c84 c85 c86 c87 c88 c89 c90 c91 c92 c93 c94 c95 c96 c97 c98 c99 c100 c101 c102 c103 c104 c105 c106 c107 c108 c109 c110 c111 c112 c113 c114 c115 c116 c117 c118 c119 c120 c121 c122 c123 c124 c125 c126 c127 c128 c129 c130 c131 c132 c133 c134 c135 c136 c137 c138 c139 c140 c141 c142 c143 c144 c145 c146 c147 c148 c149 c150 c151 c152 c153 c154 c155 c156 c157 c158 c159 c160 c161 c162 c163 c164 c165 c166 c167 c168 c169 c170 c171 c172 c173 c174 c175 c176 c177 c178 c179 c180 c181 c182 c183 c184 c185 c186 c187 c188 c189 c190 c191 c192 c193 c194 c195 c196 c197 c198 c199 c200 c201 c202 c203 c204 c205 c206 c207 c208 c209 c210 c211 c212 c213 c214 c215 c216 c217 c218 c219 c220 c221 c222 c223 c224 c225 c226 c227 c228 c229 c230 c231 c232 c233 c234 c235 c236 c237 c238 c239 c240 c241 c242 c243 c244 c245 c246 c247 c248 c249 c250 c251 c252 c253 c254 c255 c256 c257 c258 c259 c260 c261 c262 c263 c264 c265 c266 c267 c268 c269 c270 c271 c272 c273 c274 c275 c276 c277 c278 c279 c280 c281 c282 c283 c284 c285 c286 c287 c288 c289 c290 c291 c292 c293 c294 c295 c296 c297 c298 c299 c300 c301 c302 c303 c304 c305 c306 c307:Value}
  (hn32:n≤32) (HNM:Hid (IsLimbs a m∧IsLimbs b n)) (HV:Hid (a<BB^32∧b<BB^32∧0<b)) (V_cq:Hid (cq=lv 32 (a / b))) (V_cr:Hid (cr=lv 32 (a%b))) (HB0:Hid (B0=w.heap.size))
  (l01:B0<B1) (hZB1:B0≤B1) (hZB0:B0≤B0) (lba:ba<B0) (lbb:bb<B0) (hs32:s<32) (HVB:Hid (V<BB^n∧BB / 2≤lim V n1∧0<V)) (HX0:Hid (X0<V*BB^(m - n+1))) (HXB:Hid (X0<BB^(m+1)))
  (HVX:Hid (V=b*2^s∧X0=a*2^s)) (HNB:Hid (2≤n∧n≤m∧n1=n - 1∧n2=n - 2)) (hn1l:n1<32) (h12:B1<B2) (h23:B2<B3) (HDN:Hid (DN ba bb B0 B1 B2 B3)) (HM:Hid (DM ba oa bb ob B0 B1 B2 B3 ca cb w wr 0 0 X0 V))
  (K:Act→World→Prop) (hK:∀ a w1,Code.wp Tryz.prog (tailC 9 (Tryz.f145.body.getD .skip)) (bodyPost Tryz.prog Tryz.f145 fun e w'=>e=.returned (.tuple #[.agg cq.toArray,.agg cr.toArray])∧Below w.heap.size w w') a w1→K a w1) :
  Code.wp Tryz.prog (headC (tailC 8 (Tryz.f145.body.getD .skip))) (Exit.then K (bodyPost Tryz.prog Tryz.f145 fun e w'=>e=.returned (.tuple #[.agg cq.toArray,.agg cr.toArray])∧Below w.heap.size w w')) ⟨(.pointer (some ⟨ba,oa,none⟩)::.pointer (some ⟨bb,ob,none⟩)::c2::c3::.pointer (some ⟨B0,0,none⟩)::.pointer (some ⟨B1,0,none⟩)::.int .i64 (n:Int)::.int .i64 (m:Int)::.int .i64 (s:Int)::.pointer (some ⟨B2,0,none⟩)::.pointer (some ⟨B3,0,none⟩)::c11::c12::c13::c14::c15::c16::c17::c18::c19::c20::c21::c22::c23::c24::c25::c26::c27::c28::c29::c30::c31::c32::c33::c34::c35::c36::c37::c38::c39::c40::c41::c42::c43::c44::c45::c46::c47::c48::c49::c50::c51::c52::c53::c54::c55::c56::c57::c58::c59::c60::c61::c62::c63::c64::c65::c66::c67::c68::c69::c70::c71::c72::c73::c74::c75::c76::c77::c78::c79::c80::c81::c82::c83::c84::c85::c86::c87::c88::c89::c90::c91::c92::c93::c94::c95::c96::c97::c98::c99::c100::c101::c102::c103::c104::c105::c106::c107::c108::c109::c110::c111::c112::c113::c114::c115::c116::c117::c118::c119::c120::c121::c122::c123::c124::c125::c126::c127::c128::c129::c130::c131::c132::c133::c134::c135::c136::c137::c138::c139::c140::c141::c142::c143::c144::c145::c146::c147::c148::c149::c150::c151::c152::c153::c154::c155::c156::c157::c158::c159::c160::c161::c162::c163::c164::c165::c166::c167::c168::c169::c170::c171::c172::c173::c174::c175::c176::c177::c178::c179::c180::c181::c182::c183::c184::c185::c186::c187::c188::c189::c190::c191::c192::c193::c194::c195::c196::c197::c198::c199::c200::c201::c202::c203::c204::c205::c206::c207::c208::c209::c210::c211::c212::c213::c214::c215::c216::c217::c218::c219::c220::c221::c222::c223::c224::c225::c226::c227::c228::c229::c230::c231::c232::c233::c234::c235::c236::c237::c238::c239::c240::c241::c242::c243::c244::c245::c246::c247::c248::c249::c250::c251::c252::c253::c254::c255::c256::c257::c258::c259::c260::c261::c262::c263::c264::c265::c266::c267::c268::c269::c270::c271::c272::c273::c274::c275::c276::c277::c278::c279::c280::c281::c282::c283::c284::c285::c286::c287::c288::c289::c290::c291::c292::c293::c294::c295::c296::c297::c298::c299::c300::c301::c302::c303::c304::c305::c306::c307::[]).toArray,[]⟩ wr:=by
 have hm32:m≤32:=by
  rcases Nat.lt_or_ge 32 m with h|h
  ·exfalso
   have h1:=HNM.out.1.2 (by omega);have h2:=Nat.pow_le_pow_right qbK (show 32≤m - 1 by omega);have h3:=HV.out.1;omega
  ·exact h
 have hs0i:(0:Int)≤(s:Int):=by omega
 have ew1:IntKind.i64.wrap ((n:Int) - 1)=(n1:Int):=by have:=HNB.out;rw [IntWalk.i64_in _ (by omega)];omega
 have ew1':(n:Int) - 1=(n1:Int):=by have:=HNB.out;omega
 have ew1'':IntKind.i64.wrap (n1:Int)=(n1:Int):=IntWalk.i64_in _ (by omega);have hn1i:(0:Int)≤(n1:Int):=by omega
 let Q':Exit→Act→World→Prop:=(bodyPost Tryz.prog Tryz.f145 fun e w'=>e=.returned (.tuple #[.agg cq.toArray,.agg cr.toArray])∧Below w.heap.size w w')
 replace hK:∀ a w1,Code.wp Tryz.prog (tailC 9 (Tryz.f145.body.getD .skip)) Q' a w1→K a w1:=hK;show Code.wp Tryz.prog (headC (tailC 8 (Tryz.f145.body.getD .skip))) (Exit.then K Q') _ _
 conv at hK=>enter [a,w1,1,2];whnf
 conv=>arg 2;whnf
 obtain ⟨mn,hmn'⟩:=nqx (m - n);obtain ⟨high,hhi⟩:=nqx (lim V n1);obtain ⟨next,hne⟩:=nqx (lim V n2);obtain ⟨hNa,hNb,hNc,hNd⟩:=HNB.out;have hn2l:n2<32:=by omega
 have ew2:IntKind.i64.wrap ((n:Int) - 2)=(n2:Int):=by rw [IntWalk.i64_in _ (by omega)];omega
 have ew2':(n:Int) - 2=(n2:Int):=by omega
 have hn2i:(0:Int)≤(n2:Int):=by omega
 have emn:IntKind.i64.wrap ((m:Int) - (n:Int))=(mn:Int):=by rw [IntWalk.i64_in _ (by omega)];omega
 have emn':(m:Int) - (n:Int)=(mn:Int):=by omega
 have hc1:=(HM.out.v.cellV rfl hhi hn1l).1;have hc2:=(HM.out.v.cellV rfl hne hn2l).1;have hhB:high<BB:=hhi ▸ qaI V n1;have hnB:next<BB:=hne ▸ qaI V n2
 have hwh:IntKind.u64.wrap (high:Int)=(high:Int):=by have:=hhB;unfold BB at this;rw [IntKind.wrap_u64];omega
 have hwn:IntKind.u64.wrap (next:Int)=(next:Int):=by have:=hnB;unfold BB at this;rw [IntKind.wrap_u64];omega
 have HHN:=hid (And.intro (show high=lim V (n - 1) by rw [hhi,hNc]) (show next=lim V (n - 2) by rw [hne,hNd]));have HHB:=hid (And.intro (show BB / 2≤high by rw [hhi];exact HVB.out.2.1) (And.intro hhB hnB));have HX1:=hid (show X0<V*BB^(mn+1) by rw [hmn'];exact HX0.out);have HMN:=hid (show mn+n=m by omega)
 have HVN:=hid (show BB^(n - 1)≤V by
  rw [HVX.out.1];exact Nat.le_trans (HNM.out.2.2 (by omega)) (Nat.le_mul_of_pos_right _ (tp s)))
 have hh0i:(0:Int)<(high:Int):=by have:=HHB.out.1;unfold BB at this;omega
 have hhz:((high:Int)==0)=false:=beq_eq_false_iff_ne.2 (by omega);have hhz1:(high:Int)≠0:=by omega
 clear hhi hne hNa hNb hNc hNd hmn' hhB hnB
 go_quiet (fail)
 go_wp2
 go_loopg [15] (mn+1) (fun g jv wr=>∃ (k:Nat) (z:Int) (Y X:Nat),k≤mn+1∧k≤g∧z=(k:Int) - 1∧jv=.int .i64 z∧X<V*BB^k∧Y*BB^k*V+X=X0∧DM ba oa bb ob B0 B1 B2 B3 ca cb w wr (Y*BB^k) 0 X V)
 case atStart=>exact ⟨mn+1,(mn:Int),0,X0,by omega,by omega,by omega,rfl,HX1.out,by simp,by rw [Nat.zero_mul];exact HM.out.drew _⟩
 case round =>
  clear HM hc1 hc2;obtain ⟨k,z,Y,X,hk,hg,hz,rfl,hX,hA,hM⟩:=hrel;have HM:=hid hM;have HXA:=hid (And.intro hX hA);clear hM hX hA;rcases Nat.eq_zero_or_pos k with hk0|hk0
  rotate_left
  ·obtain ⟨j,hj⟩:=nqx (k - 1);have hz1:z=(j:Int):=by omega
   subst hz1;have hkj:k=j+1:=by omega
   subst hkj;clear hz hj hk0;obtain ⟨G,hG⟩:=nqx gk;rw [←hG] at hg;have HGG:=hid hG;clear hG;obtain ⟨jn,hjn⟩:=nqx (j+n);obtain ⟨jn1,hjn1⟩:=nqx (j+n - 1);obtain ⟨jn2,hjn2⟩:=nqx (j+n - 2);obtain ⟨u2,hu2⟩:=nqx (lim X jn);obtain ⟨u1,hu1⟩:=nqx (lim X jn1);obtain ⟨u0,hu0⟩:=nqx (lim X jn2);obtain ⟨xx,hxx⟩:=nqx (u2*BB+u1);obtain ⟨q,hq⟩:=nqx (X / (V*BB^j));have hn2':=HNB.out.1;have hmn2:=HMN.out;obtain ⟨hT1,hT2,hT3,hT4,hT5⟩:=jhY (n:=n) (j:=j) hn2' HXA.out.1 HVB.out.1 HVB.out.2.2 HHN.out.1 HHN.out.2 (hjn ▸ hu2) (hjn1 ▸ hu1) (hjn2 ▸ hu0) hxx hq;have hu2B:u2<BB:=hu2 ▸ qaI _ _;have hu1B:u1<BB:=hu1 ▸ qaI _ _;have hu0B:u0<BB:=hu0 ▸ qaI _ _;have hjl:jn<33:=by omega
   have hj1l:jn1<33:=by omega
   have hj2l:jn2<33:=by omega
   have hj1i:(0:Int)≤(jn1:Int):=by omega
   have hj2i:(0:Int)≤(jn2:Int):=by omega
   have hj32:j<32:=by omega
   have ej:IntKind.i64.wrap ((j:Int)+(n:Int))=(jn:Int):=by rw [IntWalk.i64_in _ (by omega)];omega
   have ej':(j:Int)+(n:Int)=(jn:Int):=by omega
   have ej1:IntKind.i64.wrap ((jn:Int) - 1)=(jn1:Int):=by rw [IntWalk.i64_in _ (by omega)];omega
   have ej1':(jn:Int) - 1=(jn1:Int):=by omega
   have ej2:IntKind.i64.wrap ((jn:Int) - 2)=(jn2:Int):=by rw [IntWalk.i64_in _ (by omega)];omega
   have ej2':(jn:Int) - 2=(jn2:Int):=by omega
   have ejm:IntKind.i64.wrap ((j:Int) - 1)=(j:Int) - 1:=IntWalk.i64_in _ (by omega);have ejw:IntKind.i64.wrap (jn:Int)=(jn:Int):=IntWalk.i64_in _ (by omega);have hor:=qyY (show u2<4294967296 from hu2B) (show u1<4294967296 from hu1B) (show xx=u2*4294967296+u1 from hxx);have hwu2:IntKind.u64.wrap (u2:Int)=(u2:Int):=by have:=hu2B;unfold BB at this;rw [IntKind.wrap_u64];omega
   have hwu1:IntKind.u64.wrap (u1:Int)=(u1:Int):=by have:=hu1B;unfold BB at this;rw [IntKind.wrap_u64];omega
   have hwu0:IntKind.u64.wrap (u0:Int)=(u0:Int):=by have:=hu0B;unfold BB at this;rw [IntKind.wrap_u64];omega
   obtain ⟨g0,hg0⟩:=nqx (xx / high);obtain ⟨r0,hr0⟩:=nqx (xx%high);have hst:=jbZ (show 0<high by omega) hT5 hu0B hg0 hr0;have hgt:g0≤BB+1:=by rw [hg0];exact qyM HHB.out.1 hxx hu1B hT3
   have hr0B:r0<BB:=by rw [hr0];exact Nat.lt_trans (Nat.mod_lt _ (by omega)) HHB.out.2.1
   have e1:Int.tdiv (xx:Int) (high:Int)=(g0:Int):=by rw [hg0];exact (Int.ofNat_tdiv xx high).symm
   have e2:Int.tmod (xx:Int) (high:Int)=(r0:Int):=by rw [hr0];exact (Int.ofNat_tmod xx high).symm
   have e3:IntKind.u64.wrap (g0:Int)=(g0:Int):=by have:=hgt;unfold BB at this;rw [IntKind.wrap_u64];omega
   have e4:IntKind.u64.wrap (r0:Int)=(r0:Int):=by have:=hr0B;unfold BB at this;rw [IntKind.wrap_u64];omega
   have HST:=hid (And.intro hst (And.intro hgt hr0B));have HT:=hid (And.intro hT4 hT5);have HK:=hid (fun (g:Nat) (h1:g*(high*BB+next)≤xx*BB+u0) (h2:g<BB)=>jgH hn2' hT2 hT1 hq HVN.out h1 h2);have HBR:=hid (fun (g r:Nat) (h1:g*high+r=xx) (h2:BB≤r)=>jcC (u0:=u0) (show 0<high by omega) h1 hxx hu1B hT3 HHB.out.2.2 h2)
   have HXB2:=hid (show X<BB^(n+j+1) by
    have h1:V*BB^(j+1)<BB^n*BB^(j+1):=Nat.mul_lt_mul_of_pos_right HVB.out.1 (BP _);rw [←Nat.pow_add,show n+(j+1)=n+j+1 by omega] at h1
    have:=HXA.out.1
    omega)
   have HQ:=hid hq;have HQB:=hid hT4;have HU0:=hid (And.intro hu0 hu0B);have HJN:=hid hjn;have hcu2:=(HM.out.u.cellV rfl hu2 hjl).1;have hcu1:=(HM.out.u.cellV rfl hu1 hj1l).1;clear hn2' hmn2 hT1 hT2 hT3 hT4 hT5 hu2B hu1B hu0B hxx hq hg0 hr0 hst hgt hr0B hu2 hu1 hu0 hjn hjn1 hjn2;go_wp2
   go_quiet (fail)
   go_wp2
   go_quiet (fail)
   go_upto_block 7 with fail
   go_cut [17] from 145 to 279 (fun gv wx=>∃ g:Nat,gv=.int .u64 (g:Int)∧q≤g∧g≤q+1∧g<BB∧DM ba oa bb ob B0 B1 B2 B3 ca cb w wx (Y*BB^(j+1)) 0 X V)
   case first =>
    go_wp2_with fail
    go_loopg [17,18] (BB+2) (fun gg gv rv wr2=>∃ (g r:Nat),g≤BB+1∧g≤gg∧gv=.int .u64 (g:Int)∧rv=.int .u64 (r:Int)∧r<BB∧g*high+r=xx∧q≤g∧DM ba oa bb ob B0 B1 B2 B3 ca cb w wr2 (Y*BB^(j+1)) 0 X V)
    case atStart=>exact ⟨g0,r0,HST.out.2.1,by have:=HST.out.2.1;omega,rfl,rfl,HST.out.2.2,HST.out.1.1,HST.out.1.2,by first|exact HM.out.drew _|exact (HM.out.drew _).drew _⟩
    case round =>
     clear HM hcu2 hcu1;obtain ⟨g,r,hgB,hgg,rfl,rfl,hr,hgx,hqg,hM⟩:=hrel;have HM:=hid hM;have HG:=hid (And.intro hgx (And.intro hqg hr));have hcu0:=(HM.out.u.cellV rfl HU0.out.1 hj2l).1;clear hM hgx hqg;obtain ⟨g1,hg1⟩:=nqx (g - 1);obtain ⟨r1,hr1⟩:=nqx (r+high);have er1:IntKind.u64.wrap ((r:Int)+(high:Int))=(r1:Int):=by have:=hr;have:=HHB.out.2.1;unfold BB at *;rw [IntKind.wrap_u64];omega
     have HR1:=hid (And.intro hg1 hr1);clear hr hg1 hr1;by_cases hc:BB≤g
     ·have hci:(4294967295:Int)<(g:Int):=by unfold BB at hc;omega
      have HMORE:=hid (qyD HG.out.1 HG.out.2.1 HT.out.1 HT.out.2 (.inl hc));clear hc;have eg1:IntKind.u64.wrap ((g:Int) - 1)=(g1:Int):=by have h1:=HMORE.out;have h2:=HR1.out.1;have:=hgB;unfold BB at this;rw [IntKind.wrap_u64];omega
      have eg1':(g:Int) - 1=(g1:Int):=by have h1:=HMORE.out;have h2:=HR1.out.1;omega
      have eg2:IntKind.u64.wrap (g1:Int)=(g1:Int):=by have h1:=HMORE.out;have h2:=HR1.out.1;have:=hgB;unfold BB at this;rw [IntKind.wrap_u64];omega
      have HG1:=hid (show g1*high+r1=xx by
       have h1:=HMORE.out;obtain ⟨h2,h3⟩:=HR1.out;have h4:=HG.out.1;have h5:g*high=g1*high+high:=by rw [show g=g1+1 by omega,Nat.succ_mul]
       omega)
      by_cases hbr:BB≤r1
      ·have hbri:(4294967295:Int)<(r1:Int):=by unfold BB at hbr;omega
       have HB1:=hid (HBR.out g1 r1 HG1.out hbr);have HEND:=hid (HK.out g1 (qjT HG1.out HB1.out.2) HB1.out.1);clear hbr;go_wp2
       go_meet
       exact ⟨g1,rfl,by have h1:=HMORE.out;have h2:=HR1.out.1;omega,HEND.out,HB1.out.1,HM.out⟩
      ·have hbri:¬(4294967295:Int)<(r1:Int):=by unfold BB at hbr;omega
       have HB1:=hid (show r1<BB by omega);clear hbr;go_wp2
       go_roundg (gk - 1)
       case measure=>have h1:=HMORE.out;omega
       case rel=>exact ⟨g1,r1,by have h2:=HR1.out.1;omega,by have h1:=HMORE.out;have h2:=HR1.out.1;omega,rfl,rfl,HB1.out,HG1.out,by have h1:=HMORE.out;have h2:=HR1.out.1;omega,HM.out⟩
     ·have hci:¬(4294967295:Int)<(g:Int):=by unfold BB at hc;omega
      obtain ⟨pp,hpp⟩:=nqx (g*next);obtain ⟨yy,hyy⟩:=nqx (r*BB+u0)
      have hpw:IntKind.u64.wrap ((g:Int)*(next:Int))=(pp:Int):=by
       have h1:g*next≤(BB - 1)*(BB - 1):=Nat.mul_le_mul (by omega) (by have:=HHB.out.2.2;omega)
       have h2:(BB - 1)*(BB - 1)=18446744065119617025:=by unfold BB;decide
       rw [←hpp,h2] at h1;rw [←Int.natCast_mul,←hpp,IntKind.wrap_u64];omega
      have hyo:=qyY (show r<4294967296 from HG.out.2.2) (show u0<4294967296 from HU0.out.2) (show yy=r*4294967296+u0 from hyy);have HPY:=hid (And.intro hpp (And.intro hyy (show g<BB by omega)));clear hpp hyy hc;by_cases hyp:yy<pp
      ·have hypi:(yy:Int)<(pp:Int):=by omega
       have HMORE:=hid (qyD HG.out.1 HG.out.2.1 HT.out.1 HT.out.2 (.inr (by rw [←HPY.out.1,←HPY.out.2.1];exact hyp)));clear hyp;have eg1:IntKind.u64.wrap ((g:Int) - 1)=(g1:Int):=by have h1:=HMORE.out;have h2:=HR1.out.1;have:=hgB;unfold BB at this;rw [IntKind.wrap_u64];omega
       have eg1':(g:Int) - 1=(g1:Int):=by have h1:=HMORE.out;have h2:=HR1.out.1;omega
       have eg2:IntKind.u64.wrap (g1:Int)=(g1:Int):=by have h1:=HMORE.out;have h2:=HR1.out.1;have:=hgB;unfold BB at this;rw [IntKind.wrap_u64];omega
       have HG1:=hid (show g1*high+r1=xx by
        have h1:=HMORE.out;obtain ⟨h2,h3⟩:=HR1.out;have h4:=HG.out.1;have h5:g*high=g1*high+high:=by rw [show g=g1+1 by omega,Nat.succ_mul]
        omega)
       by_cases hbr:BB≤r1
       ·have hbri:(4294967295:Int)<(r1:Int):=by unfold BB at hbr;omega
        have HB1:=hid (HBR.out g1 r1 HG1.out hbr);have HEND:=hid (HK.out g1 (qjT HG1.out HB1.out.2) HB1.out.1);clear hbr;go_wp2
        go_meet
        exact ⟨g1,rfl,by have h1:=HMORE.out;have h2:=HR1.out.1;omega,HEND.out,HB1.out.1,HM.out⟩
       ·have hbri:¬(4294967295:Int)<(r1:Int):=by unfold BB at hbr;omega
        have HB1:=hid (show r1<BB by omega);clear hbr;go_wp2
        go_roundg (gk - 1)
        case measure=>have h1:=HMORE.out;omega
        case rel=>exact ⟨g1,r1,by have h2:=HR1.out.1;omega,by have h1:=HMORE.out;have h2:=HR1.out.1;omega,rfl,rfl,HB1.out,HG1.out,by have h1:=HMORE.out;have h2:=HR1.out.1;omega,HM.out⟩
      ·have hypi:¬(yy:Int)<(pp:Int):=by omega
       have HEND:=hid (HK.out g (qjT HG.out.1 (by rw [←HPY.out.1,←HPY.out.2.1];omega)) HPY.out.2.2);clear hyp;go_wp2
       go_meet
       exact ⟨g,rfl,HG.out.2.1,HEND.out,HPY.out.2.2,HM.out⟩
   case rest =>
    clear HM hcu2 hcu1 HST HT HK HBR e1 e2 e3 e4 hor hwu2 hwu1 hwu0 HU0 hhz hhz1 hh0i;obtain ⟨g,rfl,hqg,hgq,hgB,hM⟩:=hcut;have HM:=hid hM;have HG:=hid (And.intro hqg (And.intro hgq hgB));clear hM hqg hgq;go_wp2_with fail
    go_loopg [19,20,196] n (fun g2 bv cv iv wr2=>∃ (i P c b:Nat),i≤n∧n - i≤g2∧bv=.int .u32 (b:Int)∧cv=.int .u64 (c:Int)∧iv=.int .i64 (i:Int)∧c<BB∧b≤1∧P<BB^(n+j+1)∧P+g*(V%BB^i)*BB^j=X+(c+b)*BB^(i+j)∧DM ba oa bb ob B0 B1 B2 B3 ca cb w wr2 (Y*BB^(j+1)) 0 P V)
    case atStart=>exact ⟨0,X,0,0,by omega,by omega,rfl,rfl,rfl,qbK,by omega,HXB2.out,by simp [Nat.mod_one],HM.out⟩
    case round =>
     clear HM;obtain ⟨i,P,c,b1,hi,hg2,rfl,rfl,rfl,hcB,hb1,hPB,hE,hM⟩:=hrel;have HM:=hid hM;have HE:=hid (And.intro hE (And.intro hPB (And.intro hcB hb1)));clear hM hE hPB;by_cases hlt:i<n
     ·obtain ⟨t,ht⟩:=nqx (i+j);have hnn:=HNB.out;have hmn2:=HMN.out;have ht33:t<33:=by omega
      have hi32:i<32:=by omega
      have hij:IntKind.i64.wrap ((i:Int)+(j:Int))=(t:Int):=by rw [IntWalk.i64_in _ (by omega)];omega
      have hij':(i:Int)+(j:Int)=(t:Int):=by omega
      have htw:IntKind.i64.wrap (t:Int)=(t:Int):=IntWalk.i64_in _ (by omega);obtain ⟨v,hv⟩:=nqx (lim V i);obtain ⟨u,hu⟩:=nqx (lim P t);have hvl:v<BB:=hv ▸ qaI V i;have hul:u<BB:=hu ▸ qaI P t;obtain ⟨tl,th,htl,hth,htt⟩:=jbM HG.out.2.2 hvl HE.out.2.2.1;obtain ⟨d,b2,hd,hb2,hdd⟩:=qnJ hul htl HE.out.2.2.2;have cv1:=(HM.out.v.cellV rfl hv hi32).1;obtain ⟨cu1,fu1⟩:=HM.out.u.cellV rfl hu ht33;obtain ⟨p1,hp1⟩:=nqx (g*v);obtain ⟨p2,hp2⟩:=nqx (g*v+c)
      have hp1B:p1≤18446744065119617025:=by
       have h1:g*v≤(BB - 1)*(BB - 1):=Nat.mul_le_mul (by omega) (by omega);have h2:(BB - 1)*(BB - 1)=18446744065119617025:=by unfold BB;decide
       rw [h2] at h1;rw [hp1];exact h1
      have ep1:IntKind.u64.wrap ((g:Int)*(v:Int))=(p1:Int):=by rw [←Int.natCast_mul,←hp1,IntKind.wrap_u64];omega
      have ep2:IntKind.u64.wrap ((p1:Int)+(c:Int))=(p2:Int):=by have:=HE.out.2.2.1;unfold BB at this;rw [IntKind.wrap_u64];omega
      have hp2t:p2=tl+th*4294967296:=by rw [hp2,htt];rfl
      have hvw:IntKind.u64.wrap (v:Int)=(v:Int):=by unfold BB at hvl;rw [IntKind.wrap_u64];omega
      have ep3:(p2:Int) / 4294967296=(th:Int):=by unfold BB at htl;omega
      have ep4:IntKind.u32.wrap (p2:Int)=(tl:Int):=by unfold BB at htl;rw [IntKind.wrap_u32];omega
      have hthw:IntKind.u64.wrap (th:Int)=(th:Int):=by unfold BB at hth;rw [IntKind.wrap_u64];omega
      have HSB:=hid (fun W=>qmM u tl b1 d b2 W hul htl HE.out.2.2.2 hdd hd);have HSTEP:=hid (jaX HE.out.1 (by rw [←hv];exact htt) (by rw [←ht,←hu];exact hdd));have HUPB:=hid (show upd P t d<BB^(n+j+1) from qkP HE.out.2.1 (by omega) hd);have HD:=hid (And.intro hd (And.intro hth hb2));have HT:=hid ht;clear hnn hmn2 ht hv hu hvl hul htl hth htt hd hb2 hdd hp1 hp2 hp1B hp2t hcB hb1 hgB;go_wp2_with (go_at_call 168;refine (HSB.out _).mono ?_;rintro e w' ⟨rfl,rfl⟩)
      go_roundg (gk - 1)
      case measure=>omega
      case rel=>exact ⟨i+1,upd P t d,th,b2,by omega,by omega,rfl,rfl,by go_num,HD.out.2.1,HD.out.2.2,HUPB.out,by have:=HSTEP.out;rwa [←HT.out] at this,HM.out.putU HDN.out ht33 HD.out.1 rfl⟩
     ·have hin:i=n:=by omega
      replace HE:=hid (show P+g*(V%BB^n)*BB^j=X+(c+b1)*BB^(n+j)∧P<BB^(n+j+1) by have h:=HE.out;rw [hin] at h;exact ⟨h.1,h.2.1⟩);obtain ⟨u,hu⟩:=nqx (lim P jn);have hul:u<BB:=hu ▸ qaI P jn;obtain ⟨d,b2,hd,hb2,hdd⟩:=qnJ hul hcB hb1;obtain ⟨cu1,fu1⟩:=HM.out.u.cellV rfl hu hjl;have hcw:IntKind.u32.wrap (c:Int)=(c:Int):=by unfold BB at hcB;rw [IntKind.wrap_u32];omega
      have HSB:=hid (fun W=>qmM u c b1 d b2 W hul hcB hb1 hdd hd);have hPU:upd P jn d<BB^(n+j+1):=qkP HE.out.2 (by have:=HJN.out;omega) hd;have hjn':jn=n+j:=by have:=HJN.out;omega
      have HEND:=hid (jeR (n:=n) (w:=d) HE.out.1 HVB.out.1 (by rw [←hjn',←hu];exact hdd) HXA.out.1 HVB.out.2.2 HQ.out HG.out.1 HG.out.2.1 (by have h:=hPU;rw [hjn'] at h;exact h));rw [←hjn'] at HEND;have HD:=hid (And.intro hd hPU);clear hin hi hg2 HE hu hul hb1 hcB hd hdd hPU hjn' hgB;go_upto_region 44 with (go_at_call 168;refine (HSB.out _).mono ?_;rintro e w' ⟨rfl,rfl⟩)
      obtain ⟨wy,hwy⟩:=nqx (wr.setCell ⟨B2,jn,none⟩ (.int .u32 (d:Int)));obtain ⟨P1,hP1⟩:=nqx (upd P jn d);rw [←hwy];rw [←hP1] at HEND HD;replace HM:=hid (show DM ba oa bb ob B0 B1 B2 B3 ca cb w wy (Y*BB^(j+1)) 0 P1 V by rw [hwy];exact HM.out.putU HDN.out hjl HD.out.1 hP1);clear hwy cu1 fu1 HSB hP1;rcases Nat.eq_zero_or_pos b2 with hb0|hb0
      ·subst hb0;obtain ⟨hgq2,hPX⟩:=HEND.out.1 rfl;have HGQ:=hid (show g=X / (V*BB^j) by rw [hgq2];exact HQ.out);have HQB2:=hid (show g<BB by rw [hgq2];exact HQB.out);replace HM:=hid (show DM ba oa bb ob B0 B1 B2 B3 ca cb w wy (Y*BB^(j+1)) 0 (X%(V*BB^j)) V by rw [←hPX];exact HM.out);clear hgq2 hPX HEND HG;have egw:IntKind.u32.wrap (g:Int)=(g:Int):=by have:=HQB2.out;unfold BB at this;rw [IntKind.wrap_u32];omega
       have HQN:=hid (show (Y*BB+g)*BB^j=upd (Y*BB^(j+1)) j g by
        have h:=qgP (Y*BB^(j+1)) j g;rw [qhF,Nat.zero_mul,Nat.add_zero] at h;rw [h,qdM,Nat.add_mul,Nat.mul_assoc])
       have HXN:=hid (show X%(V*BB^j)<V*BB^j from Nat.mod_lt _ (Nat.mul_pos HVB.out.2.2 (BP j)));have HAN:=hid (show (Y*BB+g)*BB^j*V+X%(V*BB^j)=X0 by rw [HQN.out];exact qsV HXA.out.2 HGQ.out qhF);obtain ⟨cq1,fq1⟩:=HM.out.q.cellV rfl (show 0=lim (Y*BB^(j+1)) j from qhF.symm) hj32;go_wp2
       go_roundg (G - 1)
       case measure=>have:=HGG.out;omega
       case rel=>exact ⟨j,(j:Int) - 1,Y*BB+g,X%(V*BB^j),by omega,by have:=HGG.out;omega,rfl,by first|rfl|rw [ejm],HXN.out,HAN.out,HM.out.putQ HDN.out hj32 HQB2.out HQN.out⟩
      ·have hb2i:(0:Int)<(b2:Int):=by omega
       obtain ⟨hgq2,hPX⟩:=HEND.out.2 (by omega);have eg1:IntKind.u64.wrap ((g:Int) - 1)=(q:Int):=by have:=HQB.out;unfold BB at this;rw [IntKind.wrap_u64];omega
       have eg1':(g:Int) - 1=(q:Int):=by omega
       have eg2:IntKind.u64.wrap (q:Int)=(q:Int):=by have:=HQB.out;unfold BB at this;rw [IntKind.wrap_u64];omega
       have HPX:=hid (show P1+V*BB^j=X%(V*BB^j)+BB^(n+j+1) by have h:=hPX;rw [show jn=n+j by have:=HJN.out;omega] at h;exact h);have HGQ:=hid HQ.out;have HQB2:=hid HQB.out;clear hgq2 hPX HEND HG;go_wp2_with fail
       go_loopg [23,247] n (fun g2 cv iv wr2=>∃ (i P c:Nat),i≤n∧n - i≤g2∧cv=.int .u32 (c:Int)∧iv=.int .i64 (i:Int)∧c≤1∧P<BB^(n+j+1)∧P+c*BB^(i+j)=P1+V%BB^i*BB^j∧DM ba oa bb ob B0 B1 B2 B3 ca cb w wr2 (Y*BB^(j+1)) 0 P V)
       case atStart=>exact ⟨0,P1,0,by omega,by omega,rfl,rfl,by omega,HD.out.2,by simp [Nat.mod_one],HM.out⟩
       case round =>
        clear HM;obtain ⟨i,P,c,hi,hg2,rfl,rfl,hc1,hPB,hE,hM⟩:=hrel;have HM:=hid hM;have HE:=hid (And.intro hE (And.intro hPB hc1));clear hM hE hPB hc1;by_cases hlt:i<n
        ·obtain ⟨t,ht⟩:=nqx (i+j);have hnn:=HNB.out;have hmn2:=HMN.out;have ht33:t<33:=by omega
         have hi32:i<32:=by omega
         have hij:IntKind.i64.wrap ((i:Int)+(j:Int))=(t:Int):=by rw [IntWalk.i64_in _ (by omega)];omega
         have hij':(i:Int)+(j:Int)=(t:Int):=by omega
         have htw:IntKind.i64.wrap (t:Int)=(t:Int):=IntWalk.i64_in _ (by omega);obtain ⟨v,hv⟩:=nqx (lim V i);obtain ⟨u,hu⟩:=nqx (lim P t);have hvl:v<BB:=hv ▸ qaI V i;have hul:u<BB:=hu ▸ qaI P t;obtain ⟨d3,c3,hd,hc3,hdd⟩:=qvX hul hvl HE.out.2.2;have HAD:=hid (fun W=>qtH u v c d3 c3 W hul hvl HE.out.2.2 hdd hd);have HSTEP:=hid (qzZ (d:=d3) (c2:=c3) HE.out.1 (by rw [←ht,←hv,←hu];exact hdd.symm));have HUPB:=hid (show upd P t d3<BB^(n+j+1) from qkP HE.out.2.1 (by omega) hd);have HD3:=hid (And.intro hd hc3);have HT:=hid ht;have HUV:=hid (And.intro hu hv);have hi0:(0:Int)≤(i:Int):=by omega
         have ht0:(0:Int)≤(t:Int):=by omega
         clear hnn hmn2 ht hv hu hvl hul hd hc3 hdd;go_upto_region 50 with fail
         obtain ⟨kq,V_kq⟩:=nvx (lv 32 (Y*BB^(j+1)));obtain ⟨kr,V_kr⟩:=nvx (lv 32 (0));obtain ⟨ku,V_ku⟩:=nvx (lv 33 (P));obtain ⟨kv,V_kv⟩:=nvx (lv 32 (V));have Aba:=hid HM.out.a;have Abb:=hid HM.out.b;have AB0:=hid (show At wr B0 0 kq by rw [V_kq.out];exact HM.out.q);have AB1:=hid (show At wr B1 0 kr by rw [V_kr.out];exact HM.out.r);have AB2:=hid (show At wr B2 0 ku by rw [V_ku.out];exact HM.out.u);have AB3:=hid (show At wr B3 0 kv by rw [V_kv.out];exact HM.out.v);have FR:=hid HM.out.f;have FR0:=hid HM.out.f.le;obtain ⟨kn,V_kn⟩:=nvx (lv 33 (upd P t d3));refine qgN [⟨false,0,266,17,B2,0,22,264,kn,t,[.int .u32 (d3:Int)],ku⟩] [(251,.int .i64 (i:Int)),(252,.int .i64 (j:Int)),(253,.int .i64 (t:Int)),(254,.int .i64 (i:Int)),(255,.int .i64 (j:Int)),(256,.int .i64 (t:Int)),(257,.pointer (some ⟨B2,t,none⟩)),(258,.int .u32 (u:Int)),(259,.int .i64 (i:Int)),(260,.pointer (some ⟨B3,i,none⟩)),(261,.int .u32 (v:Int)),(262,.int .u32 (c:Int)),(263,.tuple #[.int .u32 (d3:Int),.int .u32 (c3:Int)]),(250,.tuple #[.int .u32 (d3:Int),.int .u32 (c3:Int)]),(264,.int .u32 (d3:Int)),(265,.int .u32 (c3:Int)),(266,.pointer (some ⟨B2,t,none⟩)),(23,.int .u32 (c3:Int))] [(23,.int .u32 (c:Int))] _ _ (by simp only [zz4,zz5,zq];rfl) (by simp only [zz4,zz5,zq];rfl) (jiO _ _ rfl (jcN)) (by as_aux_lemma=>kernel_rfl) (by as_aux_lemma=>kernel_rfl) ?_ ?_ ?_ ?_ ?_ ?_ ?_
         ·intro W' hW';have cl1:=fun p os=>qaB ((AB2.out.below hW').cellV V_ku.out HUV.out.1 ht33).1 p os
          have cl2:=fun p os=>qaB ((AB3.out.below hW').cellV V_kv.out HUV.out.2 hi32).1 p os
          iterate 11 (refine qgM (by as_aux_lemma=>kernel_rfl) ?_ ?_;(go_big_quiet_step (fail);(try simp only [zq]);exact wqn rfl))
          refine jeK (by as_aux_lemma=>kernel_rfl) ?_ ?_;(go_big_quiet_step (fail);(try simp only [zq]);exact wqn rfl);refine qgM (by as_aux_lemma=>kernel_rfl) ?_ ?_;(go_big_quiet_step ((go_at_call 169;exact qaL (HAD.out _)));(try simp only [zq]);exact wqn rfl);iterate 4 (refine qgM (by as_aux_lemma=>kernel_rfl) ?_ ?_;(go_big_quiet_step (fail);(try simp only [zq]);exact wqn rfl))
          refine qhD (by rfl) ?_;refine qgM (by as_aux_lemma=>kernel_rfl) ?_ ?_;(go_big_quiet_step (fail);(try simp only [zq]);exact wqn rfl);exact qcO
         ·intro W' hK';iterate 11 (first|(refine qgM (by as_aux_lemma=>kernel_rfl) ?_ ?_;(go_big_quiet_step (fail);(try simp only [zq]);exact wqn rfl))|(refine qhD (by as_aux_lemma=>kernel_rfl) ?_))
          first|(refine jeK (by as_aux_lemma=>kernel_rfl) ?_ ?_;(go_big_quiet_step (fail);(try simp only [zq]);exact wqn rfl))|(refine qhD (by as_aux_lemma=>kernel_rfl) ?_)
          refine qhD (by as_aux_lemma=>kernel_rfl) ?_;iterate 4 (first|(refine qgM (by as_aux_lemma=>kernel_rfl) ?_ ?_;(go_big_quiet_step (fail);(try simp only [zq]);exact wqn rfl))|(refine qhD (by as_aux_lemma=>kernel_rfl) ?_))
          refine qhD (by as_aux_lemma=>kernel_rfl) ?_
          first|(refine qgM (by as_aux_lemma=>kernel_rfl) ?_ ?_;(go_big_quiet_step (fail);(try simp only [zq]);exact wqn rfl))|(refine qhD (by as_aux_lemma=>kernel_rfl) ?_)
          exact qcO
         ·exact fP1 (bnc)
         ·exact fP1 (fun _=>⟨AB2.out.lt,rfl,At.roomC AB2.out ((qcD V_ku.out V_kn.out ht33 HD3.out.1))⟩)
         ·exact uno
         ·exact fP1 (qfF rfl rfl Tryz.infoU rfl (by rw [V_ku.out,qlL];omega) (qcD V_ku.out V_kn.out ht33 HD3.out.1))
         intro β wz E;replace FR:=ffh FR E (by omega);replace Aba:=afh Aba E (by omega);replace Abb:=afh Abb E (by omega);replace AB0:=afh AB0 E (by omega);replace AB1:=afh AB1 E (by omega);replace AB2:=aoh E AB2 mms;replace AB3:=afh AB3 E (by omega);simp only [nP,zu];replace FR0:=hid FR.out.le;replace HM:=hid (show DM ba oa bb ob B0 B1 B2 B3 ca cb w wz (Y*BB^(j+1)) (0) (upd P t d3) (V) from ⟨Aba.out,Abb.out,by have:=AB0.out;rwa [V_kq.out] at this,by have:=AB1.out;rwa [V_kr.out] at this,by have:=AB2.out;rwa [V_kn.out] at this,by have:=AB3.out;rwa [V_kv.out] at this,FR.out⟩);clear Aba Abb AB0 AB1 AB2 AB3 FR FR0;go_wp2
         go_roundg (gk - 1)
         case measure=>omega
         case rel=>exact ⟨i+1,upd P t d3,c3,by omega,by omega,rfl,by go_num,HD3.out.2,HUPB.out,by have:=HSTEP.out;rwa [←HT.out] at this,HM.out⟩
        ·have hin:i=n:=by omega
         replace HE:=hid (show P+c*BB^(n+j)=P1+V%BB^n*BB^j∧P<BB^(n+j+1)∧c≤1 by have h:=HE.out;rw [hin] at h;exact h);obtain ⟨u,hu⟩:=nqx (lim P jn);have hul:u<BB:=hu ▸ qaI P jn;obtain ⟨cu1,fu1⟩:=HM.out.u.cellV rfl hu hjl;obtain ⟨d3,hd3⟩:∃ d,d=(u+c)%BB:=⟨_,rfl⟩;obtain ⟨o3,ho3⟩:∃ d,d=(u+c) / BB:=⟨_,rfl⟩;have hd3B:d3<BB:=by rw [hd3];exact Nat.mod_lt _ qbK
         have hdw:IntKind.u32.wrap ((u:Int)+(c:Int))=(d3:Int):=by unfold BB at hd3;rw [IntKind.wrap_u32];omega
         have hdo:u+c=d3+o3*BB:=by rw [hd3,ho3];unfold BB;omega
         have hjn':jn=n+j:=by have:=HJN.out;omega
         have hVp:X%(V*BB^j)<V*BB^j:=Nat.mod_lt _ (Nat.mul_pos HVB.out.2.2 (BP j))
         have hVB2:V*BB^j<BB^(n+j+1):=by
          have h1:V*BB^j<BB^n*BB^j:=Nat.mul_lt_mul_of_pos_right HVB.out.1 (BP _);rw [←Nat.pow_add] at h1;exact Nat.lt_of_lt_of_le h1 (Nat.pow_le_pow_right qbK (by omega))
         have HXE:=hid (show X%(V*BB^j)=upd P jn d3 by
          rw [hjn'];refine (jdW (o:=o3) HE.out.1 HVB.out.1 ?_ HPX.out (Nat.lt_trans hVp hVB2) ?_).symm
          ·rw [←hjn',←hu];exact hdo
          ·exact qkP HE.out.2.1 (by omega) hd3B)
         have HD3:=hid hd3B;clear hin hi hg2 HE hu hul hd3 ho3 hd3B hdo hjn' hVp hVB2;go_upto_region 53 with fail
         obtain ⟨wz,hwz⟩:=nqx (wr.setCell ⟨B2,jn,none⟩ (.int .u32 (d3:Int)));rw [←hwz];replace HM:=hid (show DM ba oa bb ob B0 B1 B2 B3 ca cb w wz (Y*BB^(j+1)) 0 (X%(V*BB^j)) V by rw [hwz];exact HM.out.putU HDN.out hjl HD3.out HXE.out);clear hwz cu1 fu1;have egw:IntKind.u32.wrap (q:Int)=(q:Int):=by have:=HQB2.out;unfold BB at this;rw [IntKind.wrap_u32];omega
         have HQN:=hid (show (Y*BB+q)*BB^j=upd (Y*BB^(j+1)) j q by
          have h:=qgP (Y*BB^(j+1)) j q;rw [qhF,Nat.zero_mul,Nat.add_zero] at h;rw [h,qdM,Nat.add_mul,Nat.mul_assoc])
         have HXN:=hid (show X%(V*BB^j)<V*BB^j from Nat.mod_lt _ (Nat.mul_pos HVB.out.2.2 (BP j)));have HAN:=hid (show (Y*BB+q)*BB^j*V+X%(V*BB^j)=X0 by rw [HQN.out];exact qsV HXA.out.2 HGQ.out qhF);obtain ⟨cq1,fq1⟩:=HM.out.q.cellV rfl (show 0=lim (Y*BB^(j+1)) j from qhF.symm) hj32;go_wp2
         go_roundg (G - 1)
         case measure=>have:=HGG.out;omega
         case rel=>exact ⟨j,(j:Int) - 1,Y*BB+q,X%(V*BB^j),by omega,by have:=HGG.out;omega,rfl,by first|rfl|rw [ejm],HXN.out,HAN.out,HM.out.putQ HDN.out hj32 HQB2.out HQN.out⟩
  ·have hz1:z=-1:=by omega
   subst hz1;subst hk0;have HL:=hid (jgI (a:=a) (b:=b) (s:=s) (Q:=Y) (X:=X) HV.out.2.2 (by have h:=HXA.out.2;rw [Nat.pow_zero,Nat.mul_one,HVX.out.1,HVX.out.2] at h;exact h) (by have h:=HXA.out.1;rw [Nat.pow_zero,Nat.mul_one,HVX.out.1] at h;exact h));replace HM:=hid (show DM ba oa bb ob B0 B1 B2 B3 ca cb w wr (a / b) 0 X V by have h:=HM.out;rw [Nat.pow_zero,Nat.mul_one,HL.out.1] at h;exact h);obtain ⟨R,hR⟩:=nqx (a%b);have HRB:=hid (show R<BB^n by rw [hR];exact Nat.lt_trans (Nat.mod_lt _ HV.out.2.2) HNM.out.2.1)
   have HRL:=hid (fun i=>show lim R i=lim X i / 2^s+lim X (i+1)%2^s*2^(32 - s) by
    have h:=qgR X 0 s i hs32;rw [Nat.mul_zero,Nat.zero_add,HL.out.2,←hR] at h;exact h)
   have HR:=hid hR;clear hz hR HXA hk hg HL;go_wp2_with fail
   go_loopg [281] n (fun g iv wr2=>∃ (i:Nat),i≤n∧n - i≤g∧iv=.int .i64 (i:Int)∧DM ba oa bb ob B0 B1 B2 B3 ca cb w wr2 (a / b) (R%BB^i) X V)
   case atStart=>exact ⟨0,by omega,by omega,rfl,by simp [Nat.mod_one];exact HM.out⟩
   case round =>
    clear HM;obtain ⟨i,hi,hg,rfl,hM⟩:=hrel;have HM:=hid hM;clear hM;by_cases hlt:i<n
    ·obtain ⟨x,hx⟩:=nqx (lim X i);obtain ⟨h,hh⟩:=nqx (x / 2^s);have hi32:i<32:=by omega
     have hi33:i<33:=by omega
     have hi0:(0:Int)≤(i:Int):=by omega
     have hcast:(x:Int) / 2^s=(h:Int):=by rw [hh];simp
     have hhB:h<BB:=by rw [hh];exact Nat.lt_of_le_of_lt (Nat.div_le_self _ _) (hx ▸ qaI X i)
     have hcx:=(HM.out.u.cellV rfl hx hi33).1;obtain ⟨hcr,hfr⟩:=HM.out.r.cellV rfl (show 0=lim (R%BB^i) i by unfold lim;rw [Nat.div_eq_of_lt (Nat.mod_lt _ (BP i))];simp) hi32;have HHB:=hid hhB;have HH:=hid (And.intro hx hh);have HTOP:=hid (show upd (R%BB^i) i (lim R i)=R%BB^(i+1) by rw [qeC (Nat.mod_lt _ (BP i)),qbJ]);clear hx hh hhB;by_cases hs1:0<s
     ·have hs1i:(0:Int)<(s:Int):=by omega
      obtain ⟨i1,hi1'⟩:=nqx (i+1);obtain ⟨y,hy⟩:=nqx (lim X i1);obtain ⟨tt,htt⟩:∃ t,t=32 - s:=⟨_,rfl⟩;obtain ⟨yl,hyl,hyw,hylB⟩:=qqK (x:=y) (s:=tt) (by omega);obtain ⟨d,hd⟩:=nqx (lim R i);have hor:=jhH (x:=x) (y:=y) (s:=s) (h:=h) (l:=yl) (d:=d) (hs:=hs32) (hx:=HH.out.1 ▸ qaI X i) (hh:=HH.out.2) (hl:=by rw [hyl,htt]) (hd:=by rw [hd,HRL.out,←HH.out.1,←hi1',←hy]);have hdB:d<BB:=hd ▸ qaI R i;have htw:IntKind.i64.wrap (32 - (s:Int))=(tt:Int):=by rw [IntWalk.i64_in _ (by omega)];omega
      have htt32:tt<32:=by omega
      have hiw1:IntKind.i64.wrap ((i:Int)+1)=(i1:Int):=by rw [IntWalk.i64_in _ (by omega)];omega
      have hiw2:(i:Int)+1=(i1:Int):=by omega
      have hi1l:i1<33:=by omega
      have hi1z:(0:Int)≤(i1:Int):=by omega
      have HY:=hid hy;have HDB:=hid hdB;have HDL:=hid (show upd (upd (R%BB^i) i h) i d=R%BB^(i+1) by rw [qmI _ _ _ _ HHB.out,hd,HTOP.out]);clear hy htt hyl hd hdB hi1' hylB;go_upto_region 59 with fail
      obtain ⟨wy,hwy⟩:=nqx (wr.setCell ⟨B1,i,none⟩ (.int .u32 (h:Int)));rw [←hwy];replace HM:=hid (show DM ba oa bb ob B0 B1 B2 B3 ca cb w wy (a / b) (upd (R%BB^i) i h) X V by rw [hwy];exact HM.out.putR HDN.out hi32 HHB.out rfl);clear hwy hcx hcr hfr;obtain ⟨kq,V_kq⟩:=nvx (lv 32 (a / b));obtain ⟨kr,V_kr⟩:=nvx (lv 32 (upd (R%BB^i) i h));obtain ⟨ku,V_ku⟩:=nvx (lv 33 (X));obtain ⟨kv,V_kv⟩:=nvx (lv 32 (V));have Aba:=hid HM.out.a;have Abb:=hid HM.out.b;have AB0:=hid (show At wy B0 0 kq by rw [V_kq.out];exact HM.out.q);have AB1:=hid (show At wy B1 0 kr by rw [V_kr.out];exact HM.out.r);have AB2:=hid (show At wy B2 0 ku by rw [V_ku.out];exact HM.out.u);have AB3:=hid (show At wy B3 0 kv by rw [V_kv.out];exact HM.out.v);have FR:=hid HM.out.f;have FR0:=hid HM.out.f.le;obtain ⟨kn,V_kn⟩:=nvx (lv 32 (upd (upd (R%BB^i) i h) i d));refine wF [⟨false,0,304,12,B1,0,22,303,kn,i,[.int .u32 (d:Int)],kr⟩] [(293,iT i),(294,pT B1 i),(295,.int .u32 (h:Int)),(296,iT i),(297,iT i1),(298,pT B2 i1),(299,.int .u32 (y:Int)),(300,iT s),(301,iT tt),(302,.int .u32 (yl:Int)),(303,.int .u32 (d:Int)),(304,pT B1 i)] (by simp only [zu];rfl) (by as_aux_lemma=>kernel_rfl) ?_ ?_ (fP1 bnC) ?_ uno ?_ ?_
      ·intro W' hW';have cl1:=fun p os=>qaB ((AB1.out.below hW').cellV V_kr.out (show h=lim (upd (R%BB^i) i h) i by rw [qiY HHB.out,if_pos rfl]) hi32).1 p os
       have cl2:=fun p os=>qaB ((AB2.out.below hW').cellV V_ku.out HY.out hi1l).1 p os
       refine fo4 ?_ ?_ ?_ ?_<|fo4 ?_ ?_ ?_ ?_<|fo4 ?_ ?_ ?_ ?_<|fxs rfl<|fxn;all_goals (go_big_quiet_step (fail);exact wqn rfl)
      ·intro W' hK';iterate 12 (first|(refine fxo ?_ ?_;(go_big_quiet_step (fail);(try simp only [zq]);exact wqn rfl))|(refine fxs (by as_aux_lemma=>kernel_rfl) ?_))
       refine fxs (by as_aux_lemma=>kernel_rfl) ?_;exact fxn
      ·exact fP1 (fun _=>⟨AB1.out.lt,rfl,At.roomC AB1.out ((qcD V_kr.out V_kn.out hi32 HDB.out))⟩)
      ·exact fP1 (qfF rfl rfl Tryz.infoU rfl (by rw [V_kr.out,qlL];omega) (qcD V_kr.out V_kn.out hi32 HDB.out))
      intro β wz E;replace FR:=ffh FR E (by omega);replace Aba:=afh Aba E (by omega);replace Abb:=afh Abb E (by omega);replace AB0:=afh AB0 E (by omega);replace AB1:=aoh E AB1 mms;replace AB2:=afh AB2 E (by omega);replace AB3:=afh AB3 E (by omega);simp only [nP,zu];replace FR0:=hid FR.out.le;replace HM:=hid (show DM ba oa bb ob B0 B1 B2 B3 ca cb w wz (a / b) (R%BB^(i+1)) (X) (V) from ⟨Aba.out,Abb.out,by have:=AB0.out;rwa [V_kq.out] at this,by have:=AB1.out;rwa [V_kn.out,HDL.out] at this,by have:=AB2.out;rwa [V_ku.out] at this,by have:=AB3.out;rwa [V_kv.out] at this,FR.out⟩);clear Aba Abb AB0 AB1 AB2 AB3 FR FR0;go_wp2
      go_roundg (gk - 1)
      case measure=>omega
      case rel=>exact ⟨i+1,by omega,by omega,by go_num,HM.out⟩
     ·have hs1i:¬(0:Int)<(s:Int):=by omega
      have HDL:=hid (show R%BB^(i+1)=upd (R%BB^i) i h by
       rw [←HTOP.out];congr 1;rw [HRL.out,←HH.out.1,←HH.out.2,show s=0 by omega,Nat.pow_zero,Nat.mod_one,Nat.zero_mul,Nat.add_zero])
      clear hs1;go_wp2
      go_roundg (gk - 1)
      case measure=>omega
      case rel=>exact ⟨i+1,by omega,by omega,by go_num,HM.out.putR HDN.out hi32 HHB.out HDL.out⟩
    ·have hin:i=n:=by omega
     have AB0:=hid (show At wr B0 0 cq by rw [V_cq.out];exact HM.out.q);have AB1:=hid (show At wr B1 0 cr by rw [V_cr.out];have h:=HM.out.r;rw [hin,Nat.mod_eq_of_lt HRB.out,HR.out] at h;exact h);have FR:=hid HM.out.f;clear hin hi hg;go_upto_region 61 with fail
     have sq:=qG V_cq.out;have sr:=qG V_cr.out;have lcq:cq.length=32:=by rw [V_cq.out,qlL]
     have lcr:cr.length=32:=by rw [V_cr.out,qlL]
     refine qcP 140 _ _ _ _ _ _ _ B0 B1 B0 B1 cq cr (by as_aux_lemma=>kernel_rfl) (by as_aux_lemma=>kernel_rfl) (by as_aux_lemma=>kernel_rfl) (by as_aux_lemma=>kernel_rfl) (by as_aux_lemma=>kernel_rfl) (by as_aux_lemma=>kernel_rfl) (by as_aux_lemma=>kernel_rfl) (by as_aux_lemma=>kernel_rfl) (by as_aux_lemma=>kernel_rfl) rfl rfl rfl rfl rfl rfl rfl rfl Tryz.underlying140 rfl sq sr (qqB V_cq.out) (qqB V_cr.out) rfl rfl rfl rfl rfl rfl AB0.out.range AB1.out.range AB0.out.there AB1.out.there (by omega) rfl (.inl rfl) (by omega) ?_;simp only [zq];have HWE:=hid (qaC (show w.heap.size≤B1 by rw [←HB0.out];exact hZB1) cr 0 _ (qaC (show w.heap.size≤B0 by rw [←HB0.out];exact hZB0) cq 0 _ (qbQ (show Below w.heap.size w wr by rw [←HB0.out];exact FR.out.below))));have g1:=World.rangeAt_setCells_same wr.drew B0 0 cq AB0.out.there;have g2:=qaN g1 cr B1 0 (by omega);have g3:=World.rangeAt_setCells_same (wr.drew.setCells B0 0 cq) B1 0 cr (qbI (b2:=B0) (show wr.drew.there B1 0 cr.length from fun j hj=>AB1.out.there j hj) cq 0 (by omega));go_wp2_with fail
     have hld1:=run_loadVar_mid (P:=Tryz.prog) _ _ _ _ _ _ g2 Tryz.underlying140 rfl sq;have hld2:=run_loadVar_mid (P:=Tryz.prog) _ _ _ _ _ _ g3 Tryz.underlying140 rfl sr;refine bodyPost_ret (v:=.tuple #[.agg cq.toArray,.agg cr.toArray]) (by simp [results,Tryz.results145,asAddr,hld1,hld2]) rfl ?_;exact ⟨rfl,HWE.out⟩
theorem qwV {ca cb cq cr:List Value} {a b ba oa bb ob:Nat} (w:World) (h1:At w ba oa ca) (h2:At w bb ob cb) (hca:ca=lv 32 a) (hcb:cb=lv 32 b) (hcq:cq=lv 32 (a / b)) (hcr:cr=lv 32 (a%b)) (ha:a<BB^32) (hb:b<BB^32) (hb0:0<b) (hsm:b≤a∧BB≤b) :
  CB 145 #[.pointer (some ⟨ba,oa,none⟩),.pointer (some ⟨bb,ob,none⟩)] (.tuple #[.agg cq.toArray,.agg cr.toArray]) w:=by
 have HSM:=hid hsm;clear hsm;obtain ⟨m,hm32,hm⟩:=qLE a 32 ha;obtain ⟨n,hn32,hn⟩:=qLE b 32 hb;have HUA:=hid (fun W (h:At W ba oa ca)=>qfC a m ba oa W (hca ▸ h) ha hm);have HUB:=hid (fun W (h:At W bb ob cb)=>qfC b n bb ob W (hcb ▸ h) hb hn);obtain ⟨zc,hzc⟩:=nqx (cmpI a b);have HCM:=hid (fun W (h:At W ba oa ca) (h':At W bb ob cb)=>show CB 165 #[.pointer (some ⟨ba,oa,none⟩),.pointer (some ⟨bb,ob,none⟩)] (.int .i64 zc) W by rw [hzc];exact qnK a b ba oa bb ob W (hca ▸ h) (hcb ▸ h') ha hb);have V_ca:=hid hca;have V_cb:=hid hcb;have V_cq:=hid hcq;have V_cr:=hid hcr;have HV:=hid (And.intro ha (And.intro hb hb0));have HNM:=hid (And.intro hm hn);have HZ:=hid hzc;have Aba:=hid h1;have Abb:=hid h2;have lba:=h1.lt;have lbb:=h2.lt
 have hn1:1≤n:=by
  rcases Nat.eq_zero_or_pos n with h|h
  ·exfalso;rw [h] at hn;have:=hn.eq_zero;omega
  ·exact h
 clear hca hcb hcq hcr ha hb hb0 h1 h2 hm hn hzc;obtain ⟨cz,V_cz⟩:=nvx (lv 32 0);obtain ⟨B0,B1,w0,hw0,hB0,hB1,AB0,AB1,FR,FR0,HB0,hZB0,l01,hZB1⟩:=en2 w 140 140 (zM V_cz) (zM V_cz);rw [qbW] at hw0;go_enter Tryz.func145,Tryz.ntmps145
 go_upto_region 1 with fail
 rw [←hw0,←hB1,←hB0];clear hw0 hB0 hB1;replace Aba:=hid (Aba.out.below (by have:=FR.out.below;rwa [HB0.out] at this));replace Abb:=hid (Abb.out.below (by have:=FR.out.below;rwa [HB0.out] at this));rw [←HB0.out] at lba lbb;refine wE [(26,pT bb ob),(27,iT n),(28,pT ba oa),(29,iT m),(6,iT n),(7,iT m)] (by simp only [zu];rfl) (by as_aux_lemma=>kernel_rfl) ?_ ?_
 ·intro W' hW';refine fo3 ?_ ?_ ?_<|fxo (by go_big_quiet_step (exact qaL (HUA.out _ ((Aba.out.below hW').below (qbG _ _ _))));exact wqn rfl)<|fo2 ?_ ?_<|fxn;all_goals (go_big_quiet_step (exact qaL (HUB.out _ ((Abb.out.below hW').below (qbG _ _ _))));exact wqn rfl)
 intro β wx1 E;replace FR:=fnf FR E rfl;replace AB0:=fnh AB0 E rfl;replace AB1:=fnh AB1 E rfl;replace Aba:=fnh Aba E rfl;replace Abb:=fnh Abb E rfl;simp only [nP,zu];replace FR0:=hid FR.out.le;go_upto_region 2 with fail
 by_cases hlt:a<b
 ·have hzl:zc<0:=by rw [HZ.out];unfold cmpI;rw [if_pos hlt];decide
  exact absurd HSM.out.1 (by omega)
 ·have hzl:¬zc<0:=by rw [HZ.out];unfold cmpI;rw [if_neg hlt];split<;>decide
  have HGE:=hid (show b≤a by omega);clear hlt;refine wE [(31,pT ba oa),(32,pT bb ob),(33,iT zc),(34,bF),(30,bF)] (by simp only [zu];rfl) (by as_aux_lemma=>kernel_rfl) ?_ ?_
  ·intro W' hW';refine fo4 ?_ ?_ ?_ ?_<|fxo ?_<|fxn;all_goals (go_big_quiet_step (exact qaA (HCM.out _ ((Aba.out.below hW').below (qbG _ _ _)) ((Abb.out.below hW').below (qbG _ _ _))));exact wqn rfl)
  intro β wx2 E;replace FR:=fnf FR E rfl;replace AB0:=fnh AB0 E rfl;replace AB1:=fnh AB1 E rfl;replace Aba:=fnh Aba E rfl;replace Abb:=fnh Abb E rfl;simp only [nP,zu];replace FR0:=hid FR.out.le;by_cases hn2:n=1
  ·subst hn2;exfalso
   have h:=HNM.out.2.1;rw [Nat.pow_one] at h;have h2:=HSM.out.2;omega
  ·have hn2':2≤n:=by omega
   obtain ⟨n1,hn1'⟩:=nqx (n - 1);obtain ⟨n2,hn2''⟩:=nqx (n - 2);obtain ⟨x0,hx0⟩:=nqx (lim b n1);obtain ⟨e0,he⟩:=qaJ x0;obtain ⟨s,hs⟩:∃ s,s=32 - e0:=⟨_,rfl⟩;obtain ⟨hs32,he32,hVB,hVT⟩:=jcA HNM.out.2 hn1 (by rw [←hn1',←hx0];exact he) hs;have HLZ:=hid (fun W=>show Calls Tryz.prog 167 #[.int .u32 (x0:Int)] W (fun e w'=>e=.returned (.int .i64 (s:Int))∧W=w') by rw [hs];exact jgE x0 e0 W (hx0 ▸ qaI b n1) he he32);obtain ⟨V,hV⟩:=nqx (b*2^s);obtain ⟨X0,hX0⟩:=nqx (a*2^s)
   have hmn:n≤m:=by
    rcases Nat.lt_or_ge m n with h|h
    ·exfalso
     have h1:=HNM.out.1.1;have h2:=HNM.out.2.2 (by omega);have h3:=Nat.pow_le_pow_right qbK (show m≤n - 1 by omega);have h4:=HGE.out;omega
    ·exact h
   have HVB:=hid (show V<BB^n∧BB / 2≤lim V n1∧0<V by rw [hV,hn1'];exact ⟨hVB,hVT,Nat.mul_pos HV.out.2.2 (tp s)⟩);have HX0:=hid (show X0<V*BB^(m - n+1) by rw [hX0,hV];exact jcB (tp s) HNM.out.1.1 (HNM.out.2.2 (by omega)) hn1 hmn)
   have HXB:=hid (show X0<BB^(m+1) by
    have h1:=HX0.out;have h2:V*BB^(m - n+1)≤BB^n*BB^(m - n+1):=Nat.mul_le_mul_right _ (Nat.le_of_lt HVB.out.1);rw [←Nat.pow_add,show n+(m - n+1)=m+1 by omega] at h2
    omega)
   have HLV:=hid (fun i=>show lim V i=lim b i*2^s%BB+(if i=0 then 0 else lim b (i - 1) / 2^(32 - s)) by rw [hV];exact qyB b s i hs32);have HLX:=hid (fun i=>show lim X0 i=lim a i*2^s%BB+(if i=0 then 0 else lim a (i - 1) / 2^(32 - s)) by rw [hX0];exact qyB a s i hs32);have HVX:=hid (And.intro hV hX0);have e0':((n:Int)==1)=false:=beq_eq_false_iff_ne.2 (by omega);have ew1:IntKind.i64.wrap ((n:Int) - 1)=(n1:Int):=by rw [IntWalk.i64_in _ (by omega)];omega
   have ew1':(n:Int) - 1=(n1:Int):=by omega
   have ew1'':IntKind.i64.wrap (n1:Int)=(n1:Int):=IntWalk.i64_in _ (by omega);have hn1i:(0:Int)≤(n1:Int):=by omega
   have hc:=Abb.out.limbO V_cb.out hx0 (show n1<32 by omega);have hs0i:(0:Int)≤(s:Int):=by omega
   have HNB:=hid (And.intro hn2' (And.intro hmn (And.intro hn1' hn2'')));have hn1l:n1<32:=by omega
   clear hx0 he hs hVB hVT hV hX0 hn1 hn2 hn2' hmn hn1' hn2'';go_upto_region 9 with (go_at_call 167;refine (HLZ.out _).mono ?_;rintro e w' ⟨rfl,rfl⟩)
   obtain ⟨B2,hB2⟩:=nqx (wx2.heap.size);obtain ⟨B3,hB3⟩:=nqx (wx2.heap.size+1);obtain ⟨w9,hw9⟩:∃ w9,w9=((wx2.alloc (.cells (lv 33 0).toArray 184)).alloc (.cells (lv 32 0).toArray 140)):=⟨_,rfl⟩;have h12:B1<B2:=by rw [hB2];exact AB1.out.lt
   have h23:B2<B3:=by omega
   have HDN:=hid (show DN ba bb B0 B1 B2 B3 from ⟨lba,lbb,l01,h12,h23⟩)
   have HM:=hid (show DM ba oa bb ob B0 B1 B2 B3 ca cb w w9 0 0 0 0 by
    rw [hw9]
    exact ⟨(Aba.out.alloc _).alloc _,(Abb.out.alloc _).alloc _,by have:=AB0.out;rw [V_cz.out] at this;exact (this.alloc _).alloc _,by have:=AB1.out;rw [V_cz.out] at this;exact (this.alloc _).alloc _,
     (At.fresh _ _ _ hB2).alloc _,At.fresh _ _ _ (by rw [hB3];simp),(FR.out.alloc _).alloc _⟩)
   clear Aba Abb AB0 AB1 FR FR0 hc;rw [quJ,qbW] at hw9;go_upto_region 11 with fail
   rw [←hw9,←hB3,←hB2];clear hw9 hB2 hB3;go_wp2
   go_loopg [11] n (fun g iv wr=>∃ (k:Nat) (z:Int),k≤n∧k≤g∧z=(k:Int) - 1∧iv=.int .i64 z∧DM ba oa bb ob B0 B1 B2 B3 ca cb w wr 0 0 0 (V / BB^k*BB^k))
   case atStart=>exact ⟨n,_,by omega,by omega,ew1'.symm,rfl,by rw [Nat.div_eq_of_lt HVB.out.1,Nat.zero_mul];exact HM.out⟩
   case round =>
    clear HM;obtain ⟨k,z,hk,hg,hz,rfl,hM⟩:=hrel;have HM:=hid hM;clear hM;rcases Nat.eq_zero_or_pos k with hk0|hk0
    rotate_left
    ·obtain ⟨i,hi⟩:=nqx (k - 1);have hz1:z=(i:Int):=by omega
     subst hz1;have hki:k=i+1:=by omega
     subst hki;obtain ⟨M,hMM⟩:=nqx (V / BB^(i+1)*BB^(i+1));rw [←hMM] at HM;have hlt:i<32:=by omega
     have hi0:(0:Int)≤(i:Int):=by omega
     have hiw:IntKind.i64.wrap ((i:Int) - 1)=(i:Int) - 1:=IntWalk.i64_in _ (by omega);obtain ⟨x,hx⟩:=nqx (lim b i);obtain ⟨h,hh,hhw,hhB⟩:=qqK (x:=x) hs32;have hcb:=HM.out.b.limbO V_cb.out hx hlt;obtain ⟨hcv,hfv⟩:=HM.out.v.cellV rfl (show 0=lim M i by rw [hMM,qnH]) hlt;have HTD:=hid (show upd M i (lim V i)=V / BB^i*BB^i by rw [hMM];exact qrN V i);have HHB:=hid hhB;have HH:=hid (And.intro hx hh);clear hz hi hMM hx hh hhB;by_cases hi1:0<i
     ·have hi1i:(0:Int)<(i:Int):=by omega
      by_cases hs1:0<s
      ·have hs1i:(0:Int)<(s:Int):=by omega
       obtain ⟨i1,hi1'⟩:=nqx (i - 1);obtain ⟨y,hy⟩:=nqx (lim b i1);obtain ⟨tt,htt⟩:∃ t,t=32 - s:=⟨_,rfl⟩;obtain ⟨yl,hyl⟩:=nqx (y / 2^tt);obtain ⟨d,hd⟩:=nqx (h+yl);have hor:=qwD (x:=x) (y:=y) (s:=s) (h:=h) (d:=d) (hy ▸ qaI b i1) hs32 hs1 HH.out.2 (by rw [hd,hyl,htt]);rw [←htt,←hyl] at hor;obtain ⟨hor1,hdB⟩:=hor;have hcast:(y:Int) / 2^tt=(yl:Int):=by rw [hyl];simp
       have htw:IntKind.i64.wrap (32 - (s:Int))=(tt:Int):=by rw [IntWalk.i64_in _ (by omega)];omega
       have htt32:tt<32:=by omega
       have hiw1:IntKind.i64.wrap ((i:Int) - 1)=(i1:Int):=by rw [hiw];omega
       have hiw2:(i:Int) - 1=(i1:Int):=by omega
       have HY:=hid hy
       have HDL:=hid (show upd (upd M i h) i d=V / BB^i*BB^i by
        rw [qmI _ _ _ _ HHB.out,←HTD.out];congr 1
        rw [HLV.out,if_neg (by omega),←HH.out.1,←HH.out.2,←hi1',←hy,←htt,←hyl,hd])
       have HDB:=hid hdB;have hi1l:i1<32:=by omega
       have hi1z:(0:Int)≤(i1:Int):=by omega
       clear hy htt hyl hd hdB hi1' hi1;go_upto_region 16 with fail
       obtain ⟨wy,hwy⟩:=nqx (wr.setCell ⟨B3,i,none⟩ (.int .u32 (h:Int)));rw [←hwy];replace HM:=hid (show DM ba oa bb ob B0 B1 B2 B3 ca cb w wy 0 0 0 (upd M i h) by rw [hwy];exact HM.out.putV HDN.out hlt HHB.out rfl);clear hwy hcb hcv hfv;obtain ⟨kq,V_kq⟩:=nvx (lv 32 (0));obtain ⟨kr,V_kr⟩:=nvx (lv 32 (0));obtain ⟨ku,V_ku⟩:=nvx (lv 33 (0));obtain ⟨kv,V_kv⟩:=nvx (lv 32 (upd M i h));have Aba:=hid HM.out.a;have Abb:=hid HM.out.b;have AB0:=hid (show At wy B0 0 kq by rw [V_kq.out];exact HM.out.q);have AB1:=hid (show At wy B1 0 kr by rw [V_kr.out];exact HM.out.r);have AB2:=hid (show At wy B2 0 ku by rw [V_ku.out];exact HM.out.u);have AB3:=hid (show At wy B3 0 kv by rw [V_kv.out];exact HM.out.v);have FR:=hid HM.out.f;have FR0:=hid HM.out.f.le;obtain ⟨kn,V_kn⟩:=nvx (lv 32 (upd (upd M i h) i d));refine wF [⟨false,0,94,14,B3,0,22,93,kn,i,[.int .u32 (d:Int)],kv⟩] [(81,iT i),(82,pT B3 i),(83,.int .u32 (h:Int)),(84,pT bb ob),(85,iT i),(86,iT i1),(87,pT bb ob),(88,pT bb ((ob+i1))),(89,.int .u32 (y:Int)),(90,iT s),(91,iT tt),(92,.int .u32 (yl:Int)),(93,.int .u32 (d:Int)),(94,pT B3 i)] (by simp only [zu];rfl) (by as_aux_lemma=>kernel_rfl) ?_ ?_ (fP1 bnC) ?_ uno ?_ ?_
       ·intro W' hW';have cl1:=fun p os=>qaB ((AB3.out.below hW').cellV V_kv.out (show h=lim (upd M i h) i by rw [qiY HHB.out,if_pos rfl]) hlt).1 p os
        have cl2:=fun p os=>qaB ((Abb.out.below hW').limbO V_cb.out HY.out hi1l) p os
        iterate 14 (refine fxo ?_ ?_;(go_big_quiet_step (fail);(try simp only [zq]);exact wqn rfl))
        refine fxs (by rfl) ?_;exact fxn
       ·intro W' hK';iterate 14 (first|(refine fxo ?_ ?_;(go_big_quiet_step (fail);(try simp only [zq]);exact wqn rfl))|(refine fxs (by as_aux_lemma=>kernel_rfl) ?_))
        refine fxs (by as_aux_lemma=>kernel_rfl) ?_;exact fxn
       ·exact fP1 (fun _=>⟨AB3.out.lt,rfl,At.roomC AB3.out ((qcD V_kv.out V_kn.out hlt HDB.out))⟩)
       ·exact fP1 (qfF rfl rfl Tryz.infoU rfl (by rw [V_kv.out,qlL];omega) (qcD V_kv.out V_kn.out hlt HDB.out))
       intro β wz E;replace FR:=ffh FR E (by omega);replace Aba:=afh Aba E (by omega);replace Abb:=afh Abb E (by omega);replace AB0:=afh AB0 E (by omega);replace AB1:=afh AB1 E (by omega);replace AB2:=afh AB2 E (by omega);replace AB3:=aoh E AB3 mms;simp only [nP,zu];replace FR0:=hid FR.out.le;replace HM:=hid (show DM ba oa bb ob B0 B1 B2 B3 ca cb w wz (0) (0) (0) (V / BB^i*BB^i) from ⟨Aba.out,Abb.out,by have:=AB0.out;rwa [V_kq.out] at this,by have:=AB1.out;rwa [V_kr.out] at this,by have:=AB2.out;rwa [V_ku.out] at this,by have:=AB3.out;rwa [V_kn.out,HDL.out] at this,FR.out⟩);clear Aba Abb AB0 AB1 AB2 AB3 FR FR0;go_wp2
       go_roundg (gk - 1)
       case measure=>omega
       case rel=>exact ⟨i,_,by omega,by omega,rfl,by first|rfl|rw [hiw]|rw [hiw2],HM.out⟩
      ·have hs1i:¬(0:Int)<(s:Int):=by omega
       have HDL:=hid (show V / BB^i*BB^i=upd M i h by
        rw [←HTD.out];congr 1
        rw [HLV.out,←HH.out.1,←HH.out.2];rw [if_neg (by omega),show s=0 by omega,Nat.sub_zero,←qdF,Nat.div_eq_of_lt (qaI _ _),Nat.add_zero])
       clear hi1;go_wp2
       go_roundg (gk - 1)
       case measure=>omega
       case rel=>exact ⟨i,_,by omega,by omega,rfl,by first|rfl|rw [hiw]|rw [hiw2],HM.out.putV HDN.out hlt HHB.out HDL.out⟩
     ·have hi1i:¬(0:Int)<(i:Int):=by omega
      have HDL:=hid (show V / BB^i*BB^i=upd M i h by
       rw [←HTD.out];congr 1
       rw [HLV.out,←HH.out.1,←HH.out.2];rw [if_pos (by omega),Nat.add_zero])
      go_wp2
      go_roundg (gk - 1)
      case measure=>omega
      case rel=>exact ⟨i,_,by omega,by omega,rfl,by first|rfl|rw [hiw]|rw [hiw2],HM.out.putV HDN.out hlt HHB.out HDL.out⟩
    ·have hz1:z=-1:=by omega
     subst hz1;subst hk0;replace HM:=hid (show DM ba oa bb ob B0 B1 B2 B3 ca cb w wr 0 0 0 V by have:=HM.out;simpa using this);clear hz;go_wp2
     go_loopg [12] (m+1) (fun g iv wr=>∃ (k:Nat) (z:Int),k≤m+1∧k≤g∧z=(k:Int) - 1∧iv=.int .i64 z∧DM ba oa bb ob B0 B1 B2 B3 ca cb w wr 0 0 (X0 / BB^k*BB^k) V)
     case atStart=>exact ⟨m+1,(m:Int),by omega,by omega,by omega,rfl,by rw [Nat.div_eq_of_lt HXB.out,Nat.zero_mul];exact HM.out⟩
     case round =>
      clear HM hk hg;obtain ⟨k,z,hk,hg,hz,rfl,hM⟩:=hrel;have HM:=hid hM;clear hM;rcases Nat.eq_zero_or_pos k with hk0|hk0
      rotate_left
      ·obtain ⟨i,hi⟩:=nqx (k - 1);have hz1:z=(i:Int):=by omega
       subst hz1;have hki:k=i+1:=by omega
       subst hki;obtain ⟨M,hMM⟩:=nqx (X0 / BB^(i+1)*BB^(i+1));rw [←hMM] at HM;have hlt:i<33:=by omega
       have hi0:(0:Int)≤(i:Int):=by omega
       have hiw:IntKind.i64.wrap ((i:Int) - 1)=(i:Int) - 1:=IntWalk.i64_in _ (by omega);have HTD:=hid (show upd M i (lim X0 i)=X0 / BB^i*BB^i by rw [hMM];exact qrN X0 i);obtain ⟨hcv,hfv⟩:=HM.out.u.cellV rfl (show 0=lim M i by rw [hMM,qnH]) hlt;have HDL0:=hid (show lim M i=0 by rw [hMM,qnH]);clear hz hi hMM;by_cases him:i<m
       ·have himi:(i:Int)<(m:Int):=by omega
        obtain ⟨x,hx⟩:=nqx (lim a i);obtain ⟨h,hh,hhw,hhB⟩:=qqK (x:=x) hs32;have hca:=HM.out.a.limbO V_ca.out hx (show i<32 by omega);have HHB:=hid hhB;have HH:=hid (And.intro hx hh);have hi32:i<32:=by omega
        clear hx hh hhB him;by_cases hi1:0<i
        ·have hi1i:(0:Int)<(i:Int):=by omega
         by_cases hs1:0<s
         ·have hs1i:(0:Int)<(s:Int):=by omega
          obtain ⟨i1,hi1'⟩:=nqx (i - 1);obtain ⟨y,hy⟩:=nqx (lim a i1);obtain ⟨tt,htt⟩:∃ t,t=32 - s:=⟨_,rfl⟩;obtain ⟨yl,hyl⟩:=nqx (y / 2^tt);obtain ⟨d,hd⟩:=nqx (h+yl);have hor:=qwD (x:=x) (y:=y) (s:=s) (h:=h) (d:=d) (hy ▸ qaI a i1) hs32 hs1 HH.out.2 (by rw [hd,hyl,htt]);rw [←htt,←hyl] at hor;obtain ⟨hor1,hdB⟩:=hor;have hcast:(y:Int) / 2^tt=(yl:Int):=by rw [hyl];simp
          have htw:IntKind.i64.wrap (32 - (s:Int))=(tt:Int):=by rw [IntWalk.i64_in _ (by omega)];omega
          have htt32:tt<32:=by omega
          have hiw1:IntKind.i64.wrap ((i:Int) - 1)=(i1:Int):=by rw [hiw];omega
          have hiw2:(i:Int) - 1=(i1:Int):=by omega
          have HY:=hid hy
          have HDL:=hid (show upd (upd M i h) i d=X0 / BB^i*BB^i by
           rw [qmI _ _ _ _ HHB.out,←HTD.out];congr 1
           rw [HLX.out,if_neg (by omega),←HH.out.1,←HH.out.2,←hi1',←hy,←htt,←hyl,hd])
          have HDB:=hid hdB;have hi1l:i1<32:=by omega
          have hi1z:(0:Int)≤(i1:Int):=by omega
          clear hy htt hyl hd hdB hi1' hi1;go_upto_region 23 with fail
          obtain ⟨wy,hwy⟩:=nqx (wr.setCell ⟨B2,i,none⟩ (.int .u32 (h:Int)));rw [←hwy];replace HM:=hid (show DM ba oa bb ob B0 B1 B2 B3 ca cb w wy 0 0 (upd M i h) V by rw [hwy];exact HM.out.putU HDN.out hlt HHB.out rfl);clear hwy hca hcv hfv;obtain ⟨kq,V_kq⟩:=nvx (lv 32 (0));obtain ⟨kr,V_kr⟩:=nvx (lv 32 (0));obtain ⟨ku,V_ku⟩:=nvx (lv 33 (upd M i h));obtain ⟨kv,V_kv⟩:=nvx (lv 32 (V));have Aba:=hid HM.out.a;have Abb:=hid HM.out.b;have AB0:=hid (show At wy B0 0 kq by rw [V_kq.out];exact HM.out.q);have AB1:=hid (show At wy B1 0 kr by rw [V_kr.out];exact HM.out.r);have AB2:=hid (show At wy B2 0 ku by rw [V_ku.out];exact HM.out.u);have AB3:=hid (show At wy B3 0 kv by rw [V_kv.out];exact HM.out.v);have FR:=hid HM.out.f;have FR0:=hid HM.out.f.le;obtain ⟨kn,V_kn⟩:=nvx (lv 33 (upd (upd M i h) i d));refine wF [⟨false,0,131,14,B2,0,22,130,kn,i,[.int .u32 (d:Int)],ku⟩] [(118,iT i),(119,pT B2 i),(120,.int .u32 (h:Int)),(121,pT ba oa),(122,iT i),(123,iT i1),(124,pT ba oa),(125,pT ba ((oa+i1))),(126,.int .u32 (y:Int)),(127,iT s),(128,iT tt),(129,.int .u32 (yl:Int)),(130,.int .u32 (d:Int)),(131,pT B2 i)] (by simp only [zu];rfl) (by as_aux_lemma=>kernel_rfl) ?_ ?_ (fP1 bnC) ?_ uno ?_ ?_
          ·intro W' hW';have cl1:=fun p os=>qaB ((AB2.out.below hW').cellV V_ku.out (show h=lim (upd M i h) i by rw [qiY HHB.out,if_pos rfl]) hlt).1 p os
           have cl2:=fun p os=>qaB ((Aba.out.below hW').limbO V_ca.out HY.out hi1l) p os
           refine fo4 ?_ ?_ ?_ ?_<|fo4 ?_ ?_ ?_ ?_<|fo4 ?_ ?_ ?_ ?_<|fo2 ?_ ?_<|fxs rfl<|fxn;all_goals (go_big_quiet_step (fail);exact wqn rfl)
          ·intro W' hK';iterate 14 (first|(refine fxo ?_ ?_;(go_big_quiet_step (fail);(try simp only [zq]);exact wqn rfl))|(refine fxs (by as_aux_lemma=>kernel_rfl) ?_))
           refine fxs (by as_aux_lemma=>kernel_rfl) ?_;exact fxn
          ·exact fP1 (fun _=>⟨AB2.out.lt,rfl,At.roomC AB2.out ((qcD V_ku.out V_kn.out hlt HDB.out))⟩)
          ·exact fP1 (qfF rfl rfl Tryz.infoU rfl (by rw [V_ku.out,qlL];omega) (qcD V_ku.out V_kn.out hlt HDB.out))
          intro β wz E;replace FR:=ffh FR E (by omega);replace Aba:=afh Aba E (by omega);replace Abb:=afh Abb E (by omega);replace AB0:=afh AB0 E (by omega);replace AB1:=afh AB1 E (by omega);replace AB2:=aoh E AB2 mms;replace AB3:=afh AB3 E (by omega);simp only [nP,zu];replace FR0:=hid FR.out.le;replace HM:=hid (show DM ba oa bb ob B0 B1 B2 B3 ca cb w wz (0) (0) (X0 / BB^i*BB^i) (V) from ⟨Aba.out,Abb.out,by have:=AB0.out;rwa [V_kq.out] at this,by have:=AB1.out;rwa [V_kr.out] at this,by have:=AB2.out;rwa [V_kn.out,HDL.out] at this,by have:=AB3.out;rwa [V_kv.out] at this,FR.out⟩);clear Aba Abb AB0 AB1 AB2 AB3 FR FR0;go_wp2
          go_roundg (gk - 1)
          case measure=>omega
          case rel=>exact ⟨i,_,by omega,by omega,rfl,by first|rfl|rw [hiw]|rw [hiw2],HM.out⟩
         ·have hs1i:¬(0:Int)<(s:Int):=by omega
          have HDL:=hid (show X0 / BB^i*BB^i=upd M i h by
           rw [←HTD.out];congr 1
           rw [HLX.out,←HH.out.1,←HH.out.2];rw [if_neg (by omega),show s=0 by omega,Nat.sub_zero,←qdF,Nat.div_eq_of_lt (qaI _ _),Nat.add_zero])
          clear hi1;go_wp2
          go_roundg (gk - 1)
          case measure=>omega
          case rel=>exact ⟨i,_,by omega,by omega,rfl,by first|rfl|rw [hiw]|rw [hiw2],HM.out.putU HDN.out hlt HHB.out HDL.out⟩
        ·have hi1i:¬(0:Int)<(i:Int):=by omega
         have HDL:=hid (show X0 / BB^i*BB^i=upd M i h by
          rw [←HTD.out];congr 1
          rw [HLX.out,←HH.out.1,←HH.out.2];rw [if_pos (by omega),Nat.add_zero])
         go_wp2
         go_roundg (gk - 1)
         case measure=>omega
         case rel=>exact ⟨i,_,by omega,by omega,rfl,by first|rfl|rw [hiw]|rw [hiw2],HM.out.putU HDN.out hlt HHB.out HDL.out⟩
       ·have himi:¬(i:Int)<(m:Int):=by omega
        have him2:i=m:=by omega
        obtain ⟨x,hx⟩:=nqx (lim a i);have hx0:x=0:=by rw [hx,him2];exact qjS HNM.out.1.1 (Nat.le_refl _)
        obtain ⟨h,hh⟩:=nqx (x*2^s%BB);have hh0:h=0:=by rw [hh,hx0];simp
        have HHB:=hid (show h<BB by rw [hh0];exact qbK);have HH:=hid (And.intro hx hh)
        have HSELF:=hid (show upd M i h=M by
         have:=qgP M i h
         rw [HDL0.out,hh0] at this;rw [hh0];omega)
        have hi1:0<i:=by have:=HNB.out;omega
        clear hx hx0 hh hh0 him him2;have hi1i:(0:Int)<(i:Int):=by omega
        by_cases hs1:0<s
        ·have hs1i:(0:Int)<(s:Int):=by omega
         obtain ⟨i1,hi1'⟩:=nqx (i - 1);obtain ⟨y,hy⟩:=nqx (lim a i1);obtain ⟨tt,htt⟩:∃ t,t=32 - s:=⟨_,rfl⟩;obtain ⟨yl,hyl⟩:=nqx (y / 2^tt);obtain ⟨d,hd⟩:=nqx (h+yl);have hor:=qwD (x:=x) (y:=y) (s:=s) (h:=h) (d:=d) (hy ▸ qaI a i1) hs32 hs1 HH.out.2 (by rw [hd,hyl,htt]);rw [←htt,←hyl] at hor;obtain ⟨hor1,hdB⟩:=hor;have hcast:(y:Int) / 2^tt=(yl:Int):=by rw [hyl];simp
         have htw:IntKind.i64.wrap (32 - (s:Int))=(tt:Int):=by rw [IntWalk.i64_in _ (by omega)];omega
         have htt32:tt<32:=by omega
         have hiw1:IntKind.i64.wrap ((i:Int) - 1)=(i1:Int):=by rw [hiw];omega
         have hiw2:(i:Int) - 1=(i1:Int):=by omega
         have HY:=hid hy
         have HDL:=hid (show upd (upd M i h) i d=X0 / BB^i*BB^i by
          rw [qmI _ _ _ _ HHB.out,←HTD.out];congr 1
          rw [HLX.out,if_neg (by omega),←HH.out.1,←HH.out.2,←hi1',←hy,←htt,←hyl,hd])
         have HDB:=hid hdB;have hi1l:i1<32:=by omega
         have hi1z:(0:Int)≤(i1:Int):=by omega
         clear hy htt hyl hd hdB hi1' hi1;go_upto_region 23 with fail
         obtain ⟨wy,hwy⟩:=nqx wr;rw [←hwy];replace HM:=hid (show DM ba oa bb ob B0 B1 B2 B3 ca cb w wy 0 0 (upd M i h) V by rw [hwy,HSELF.out];exact HM.out);clear hwy hcv hfv;obtain ⟨kq,V_kq⟩:=nvx (lv 32 (0));obtain ⟨kr,V_kr⟩:=nvx (lv 32 (0));obtain ⟨ku,V_ku⟩:=nvx (lv 33 (upd M i h));obtain ⟨kv,V_kv⟩:=nvx (lv 32 (V));have Aba:=hid HM.out.a;have Abb:=hid HM.out.b;have AB0:=hid (show At wy B0 0 kq by rw [V_kq.out];exact HM.out.q);have AB1:=hid (show At wy B1 0 kr by rw [V_kr.out];exact HM.out.r);have AB2:=hid (show At wy B2 0 ku by rw [V_ku.out];exact HM.out.u);have AB3:=hid (show At wy B3 0 kv by rw [V_kv.out];exact HM.out.v);have FR:=hid HM.out.f;have FR0:=hid HM.out.f.le;obtain ⟨kn,V_kn⟩:=nvx (lv 33 (upd (upd M i h) i d));refine wF [⟨false,0,131,14,B2,0,22,130,kn,i,[.int .u32 (d:Int)],ku⟩] [(118,iT i),(119,pT B2 i),(120,.int .u32 (h:Int)),(121,pT ba oa),(122,iT i),(123,iT i1),(124,pT ba oa),(125,pT ba ((oa+i1))),(126,.int .u32 (y:Int)),(127,iT s),(128,iT tt),(129,.int .u32 (yl:Int)),(130,.int .u32 (d:Int)),(131,pT B2 i)] (by simp only [zu];rfl) (by as_aux_lemma=>kernel_rfl) ?_ ?_ (fP1 bnC) ?_ uno ?_ ?_
         ·intro W' hW';have cl1:=fun p os=>qaB ((AB2.out.below hW').cellV V_ku.out (show h=lim (upd M i h) i by rw [qiY HHB.out,if_pos rfl]) hlt).1 p os
          have cl2:=fun p os=>qaB ((Aba.out.below hW').limbO V_ca.out HY.out hi1l) p os
          refine fo4 ?_ ?_ ?_ ?_<|fo4 ?_ ?_ ?_ ?_<|fo4 ?_ ?_ ?_ ?_<|fo2 ?_ ?_<|fxs rfl<|fxn;all_goals (go_big_quiet_step (fail);exact wqn rfl)
         ·intro W' hK';iterate 14 (first|(refine fxo ?_ ?_;(go_big_quiet_step (fail);(try simp only [zq]);exact wqn rfl))|(refine fxs (by as_aux_lemma=>kernel_rfl) ?_))
          refine fxs (by as_aux_lemma=>kernel_rfl) ?_;exact fxn
         ·exact fP1 (fun _=>⟨AB2.out.lt,rfl,At.roomC AB2.out ((qcD V_ku.out V_kn.out hlt HDB.out))⟩)
         ·exact fP1 (qfF rfl rfl Tryz.infoU rfl (by rw [V_ku.out,qlL];omega) (qcD V_ku.out V_kn.out hlt HDB.out))
         intro β wz E;replace FR:=ffh FR E (by omega);replace Aba:=afh Aba E (by omega);replace Abb:=afh Abb E (by omega);replace AB0:=afh AB0 E (by omega);replace AB1:=afh AB1 E (by omega);replace AB2:=aoh E AB2 mms;replace AB3:=afh AB3 E (by omega);simp only [nP,zu];replace FR0:=hid FR.out.le;replace HM:=hid (show DM ba oa bb ob B0 B1 B2 B3 ca cb w wz (0) (0) (X0 / BB^i*BB^i) (V) from ⟨Aba.out,Abb.out,by have:=AB0.out;rwa [V_kq.out] at this,by have:=AB1.out;rwa [V_kr.out] at this,by have:=AB2.out;rwa [V_kn.out,HDL.out] at this,by have:=AB3.out;rwa [V_kv.out] at this,FR.out⟩);clear Aba Abb AB0 AB1 AB2 AB3 FR FR0;go_wp2
         go_roundg (gk - 1)
         case measure=>omega
         case rel=>exact ⟨i,_,by omega,by omega,rfl,by first|rfl|rw [hiw]|rw [hiw2],HM.out⟩
        ·have hs1i:¬(0:Int)<(s:Int):=by omega
         have HDL:=hid (show X0 / BB^i*BB^i=upd M i h by
          rw [←HTD.out];congr 1
          rw [HLX.out,←HH.out.1,←HH.out.2];rw [if_neg (by omega),show s=0 by omega,Nat.sub_zero,←qdF,Nat.div_eq_of_lt (qaI _ _),Nat.add_zero])
         clear hi1;go_wp2
         go_roundg (gk - 1)
         case measure=>omega
         case rel=>exact ⟨i,_,by omega,by omega,rfl,by first|rfl|rw [hiw]|rw [hiw2],by rw [HDL.out,HSELF.out];exact HM.out⟩
      ·have hz1:z=-1:=by omega
       subst hz1;subst hk0;replace HM:=hid (show DM ba oa bb ob B0 B1 B2 B3 ca cb w wr 0 0 X0 V by have:=HM.out;simpa using this);clear hz hk hg;go_wp2
       exact qwU hn32 HNM HV V_cq V_cr HB0 l01 hZB1 hZB0 lba lbb hs32 HVB HX0 HXB HVX HNB hn1l h12 h23 HDN HM _ (by assumption)
theorem qqO {ca cb cq cr:List Value} {a b ba oa bb ob:Nat} (w:World) (h1:At w ba oa ca) (h2:At w bb ob cb) (hca:ca=lv 32 a) (hcb:cb=lv 32 b) (hcq:cq=lv 32 (a / b)) (hcr:cr=lv 32 (a%b)) (ha:a<BB^32) (hb:b<BB^32) (hb0:0<b) :
  CB 145 #[.pointer (some ⟨ba,oa,none⟩),.pointer (some ⟨bb,ob,none⟩)] (.tuple #[.agg cq.toArray,.agg cr.toArray]) w:=by
 rcases Nat.lt_or_ge a b with h|h
 ·exact qkS w h1 h2 hca hcb hcq hcr ha hb hb0 (.inl h)
 ·rcases Nat.lt_or_ge b BB with h'|h'
  ·exact qkS w h1 h2 hca hcb hcq hcr ha hb hb0 (.inr h')
  ·exact qwV w h1 h2 hca hcb hcq hcr ha hb hb0 ⟨h,h'⟩
set_option maxHeartbeats 8000000
theorem qxF {ca cb cg:List Value} {na nb:Bool} {a b G:Nat} (h1:ca=.bool na::lv 32 a) (h2:cb=.bool nb::lv 32 b) (hg:cg=.bool false::lv 32 G) (hG:G=Nat.gcd a b) (ha:a<BB^32) (hb:b<BB^32) (w:World) :
  CB 108 #[.agg ca.toArray,.agg cb.toArray] (.agg cg.toArray) w:=by
 have V_ca:=hid h1;have V_cb:=hid h2;have V_cg:=hid hg;obtain ⟨sa,hsa⟩:=nqx (cs1 na a);obtain ⟨sb,hsb⟩:=nqx (cs1 nb b);obtain ⟨ma,V_ma⟩:=nvx (lv 32 a);obtain ⟨mb,V_mb⟩:=nvx (lv 32 b);obtain ⟨cz,V_cz⟩:=nvx (lv 32 0);obtain ⟨cy,V_cy⟩:=nvx (.bool false::lv 32 0);have HSA:=hid (qbT V_ca.out V_ma.out hsa ha);have HSB:=hid (qbT V_cb.out V_mb.out hsb hb);have HA:=hid (And.intro ha (And.intro hb hG));have HGB:=hid (show G<BB^32 by rw [hG];exact qkY ha hb);clear h1 h2 hg hG ha hb hsa hsb;obtain ⟨B0,B1,B2,w0,hw0,hB0,hB1,hB2,AB0,AB1,AB2,FR,FR0,HB0,hZB0,l01,hZB1,l12,hZB2⟩:=en3 w 25 25 25 (bxq ca) (bxq cb) (zQI V_cy);unfold zero33 at hw0;go_enter Tryz.func108,Tryz.ntmps108
 go_upto_region 1 with fail
 rw [←hw0,←hB2,←hB1,←hB0];clear hw0 hB0 hB1 hB2;refine wT [⟨true,5,6,7,0,0,140,15,ma,0,ma,[]⟩] [(12,aT ca),(13,.tuple #[.bool sa,aT ma]),(11,.tuple #[.bool sa,aT ma]),(14,.bool sa),(15,aT ma),(5,.bool sa)] (by simp only [zu];rfl) (by kernel_rfl) rfl ?_ ?_ ?_ ?_
 ·intro W' hW';refine lhI AB0 hW' V_ca rfl<|fo4 ?_ ?_ ?_ ?_<|fxs rfl<|fxo ?_<|fxs rfl<|fxn;all_goals (go_big_quiet_step (exact qaA (HSA.out _));exact wqn rfl)
 ·exact fP1 (Tryz.alG (qG V_ma.out))
 ·exact fP1 (sG V_ma (fun _=>rfl) rfl)
 intro β wx1 E;replace FR:=fnf FR E rfl;obtain ⟨b6,hb6,eb6⟩:=nwb E mms;have lB0_b6:B0<b6:=ltb AB0 eb6.1;have lB1_b6:B1<b6:=ltb AB1 eb6.1;have lB2_b6:B2<b6:=ltb AB2 eb6.1;have hZb6:B0≤b6:=Nat.le_trans FR0.out eb6.1;replace AB0:=fnh AB0 E rfl;replace AB1:=fnh AB1 E rfl;replace AB2:=fnh AB2 E rfl;have Ab6:=hid eb6.2;simp only [nP,zu];rw [←hb6];replace FR0:=hid FR.out.le;clear E eb6 hb6;go_upto_region 2 with fail
 refine wT [⟨true,5,8,7,0,0,140,20,mb,0,mb,[]⟩] [(17,aT cb),(18,.tuple #[.bool sb,aT mb]),(16,.tuple #[.bool sb,aT mb]),(19,.bool sb),(20,aT mb),(7,.bool sb)] (by simp only [zu];rfl) (by kernel_rfl) rfl ?_ ?_ ?_ ?_
 ·intro W' hW';refine lhI AB1 hW' V_cb rfl<|fo4 ?_ ?_ ?_ ?_<|fxs rfl<|fxo ?_<|fxs rfl<|fxn;all_goals (go_big_quiet_step (exact qaA (HSB.out _));exact wqn rfl)
 ·exact fP1 (Tryz.alG (qG V_mb.out))
 ·exact fP1 (sG V_mb (fun _=>rfl) rfl)
 intro β wx2 E;replace FR:=fnf FR E rfl;obtain ⟨b8,hb8,eb8⟩:=nwb E mms;have lB0_b8:B0<b8:=ltb AB0 eb8.1;have lB1_b8:B1<b8:=ltb AB1 eb8.1;have lB2_b8:B2<b8:=ltb AB2 eb8.1;have lb6_b8:b6<b8:=ltb Ab6 eb8.1;have hZb8:B0≤b8:=Nat.le_trans FR0.out eb8.1;clear AB0;clear AB1;replace AB2:=fnh AB2 E rfl;replace Ab6:=fnh Ab6 E rfl;have Ab8:=hid eb8.2;simp only [nP,zu];rw [←hb8];replace FR0:=hid FR.out.le;clear E eb8 hb8;go_wp2
 go_loopg [] b (fun m wr=>∃ vm vn,At wr b6 0 (lv 32 vm)∧At wr b8 0 (lv 32 vn)∧At wr B2 0 cy∧Fr B0 w wr∧vm<BB^32∧vn<BB^32∧G=Nat.gcd vm vn∧vn≤m)
 case atStart=>exact ⟨a,b,by have:=Ab6.out;rwa [V_ma.out] at this,by have:=Ab8.out;rwa [V_mb.out] at this,AB2.out,FR.out,HA.out.1,HA.out.2.1,HA.out.2.2,Nat.le_refl _⟩
 case round =>
  obtain ⟨vm,vn,h5,h6,h2,hf,hm,hn,hg,hle⟩:=hrel;obtain ⟨cm,V_cm⟩:=nvx (lv 32 vm);obtain ⟨cn,V_cn⟩:=nvx (lv 32 vn);replace Ab6:=hid (show At wr b6 0 cm by rw [V_cm.out];exact h5);replace Ab8:=hid (show At wr b8 0 cn by rw [V_cn.out];exact h6);replace AB2:=hid h2;replace FR:=hid hf;replace FR0:=hid FR.out.le;have HV:=hid (And.intro hm (And.intro hn hg));clear h5 h6 h2 hf hm hn hg;by_cases h0:vn=0
  ·have HE:=hid (show cm=lv 32 G by rw [HV.out.2.2,h0,Nat.gcd_zero_right];exact V_cm.out);have HZ:=hid (show false=!decide (vn=0) by simp [h0]);clear h0 hle;go_upto_region 3 with fail
   refine wE [(21,aT cn),(22,aT cz),(23,bF)] (by simp only [zu];rfl) (by kernel_rfl) ?_ ?_
   ·intro W' hW';exact lhG Ab8 hW' V_cn rfl<|fxb (qcB V_cz.out) rfl<|fxo (qcH (r:=false) (by rfl) rfl rfl rfl V_cn.out V_cz.out HV.out.2.1 qcK HZ.out (wqn (by simp only [zq])))<|fxn
   intro β wx3 E;replace FR:=fnf FR E rfl;replace AB2:=fnh AB2 E rfl;replace Ab6:=fnh Ab6 E rfl;simp only [nP,zu];go_upto_region 6 with fail
   refine wF [⟨false,0,4,2,B2,0,25,31,cg,0,cg,[]⟩] [(30,aT cm),(31,aT cg)] (by simp only [zu];rfl) (by kernel_rfl) ?_ ?_ (fP1 bnC) ?_ uno ?_ ?_
   ·intro W' hW';refine lhG Ab6 hW' V_cm rfl<|fxo ?_<|fxs rfl<|fxn
    go_big_quiet_step (exact qaA (qeT (neg:=false) HE.out V_cg.out rfl HGB.out _));exact wqn rfl
   ·intro W' hK';have rd0:=akh Ab6 hK' (by omega);exact ldG rd0 V_cm rfl<|fxs (by kernel_rfl)<|fxs (by kernel_rfl)<|fxn
   ·exact fP1 (fun _=>rmh AB2 (qI V_cy.out) (qI V_cg.out) rfl)
   ·exact fP1 (sI V_cg (fun _=>rfl) rfl)
   intro β wx4 E;replace FR:=ffh FR E (by omega);replace AB2:=aoh E AB2 mms;simp only [nP,zu];go_wp2_with fail
   have hld:=rdI AB2 V_cg;refine bodyPost_ret (v:=.agg cg.toArray) (by simp [results,Tryz.results108,asAddr,hld]) rfl ?_;exact ⟨rfl,qaY HB0 FR⟩
  ·have HZ:=hid (show true=!decide (vn=0) by simp [h0]);have H0:=hid h0;clear h0;obtain ⟨cq,V_cq⟩:=nvx (lv 32 (vm / vn));obtain ⟨cr,V_cr⟩:=nvx (lv 32 (vm%vn));have HQ:=hid (fun (W:World) (p q:Nat) (hp:At W p 0 cm) (hq:At W q 0 cn)=>qqO W hp hq V_cm.out V_cn.out V_cq.out V_cr.out HV.out.1 HV.out.2.1 (Nat.pos_of_ne_zero H0.out));go_upto_region 3 with fail
   refine wE [(21,aT cn),(22,aT cz),(23,bT)] (by simp only [zu];rfl) (by kernel_rfl) ?_ ?_
   ·intro W' hW';exact lhG Ab8 hW' V_cn rfl<|fxb (qcB V_cz.out) rfl<|fxo (qcH (r:=true) (by rfl) rfl rfl rfl V_cn.out V_cz.out HV.out.2.1 qcK HZ.out (wqn (by simp only [zq])))<|fxn
   intro β wx3 E;replace FR:=fnf FR E rfl;replace AB2:=fnh AB2 E rfl;replace Ab6:=fnh Ab6 E rfl;replace Ab8:=fnh Ab8 E rfl;simp only [nP,zu];replace FR0:=hid FR.out.le;go_upto_region 4 with fail
   refine wT [⟨true,4,9,6,0,0,140,26,cq,0,cq,[]⟩,⟨true,5,10,7,0,0,140,27,cr,0,cr,[]⟩] [(25,.tuple #[aT cq,aT cr]),(24,.tuple #[aT cq,aT cr]),(26,aT cq),(27,aT cr)] (by simp only [zu];rfl) (by kernel_rfl) rfl ?_ ?_ ?_ ?_
   ·intro W' hW';refine fo4 ?_ ?_ ?_ ?_<|fxs rfl<|fxs rfl<|fxs rfl<|fxs rfl<|fxn;all_goals (go_big_quiet_step (exact qaA (HQ.out _ _ _ ((Ab6.out.below hW').below (qbG _ _ _)) ((Ab8.out.below hW').below (qbG _ _ _))));exact wqn rfl)
   ·exact oP _ _ (Tryz.alG (qG V_cq.out)) (oP _ _ (Tryz.alG (qG V_cr.out)) (oN))
   ·exact oP _ _ (stw rfl (qG V_cq.out) (qqB V_cq.out) (fun _=>rfl)) (oP _ _ (stw rfl (qG V_cr.out) (qqB V_cr.out) (fun _=>rfl)) (oN))
   intro β wx4 E;replace FR:=fnf FR E rfl;obtain ⟨b9,hb9,eb9⟩:=nwb E mms;have lB2_b9:B2<b9:=ltb AB2 eb9.1;have lb6_b9:b6<b9:=ltb Ab6 eb9.1;have lb8_b9:b8<b9:=ltb Ab8 eb9.1;have hZb9:B0≤b9:=Nat.le_trans FR0.out eb9.1;obtain ⟨b10,hb10,eb10⟩:=nwb E (List.mem_cons_of_mem _ mms);have lB2_b10:B2<b10:=ltb AB2 eb10.1;have lb6_b10:b6<b10:=ltb Ab6 eb10.1;have lb8_b10:b8<b10:=ltb Ab8 eb10.1;have hZb10:B0≤b10:=Nat.le_trans FR0.out eb10.1;have nb9_b10:b9≠b10:=fun e=>absurd (E.apart _ mms _ (List.mem_cons_of_mem _ mms) rfl rfl (by rw [hb9,hb10] at e;exact e)) (show ¬(4:Nat)=5 by decide)
   replace AB2:=fnh AB2 E rfl;replace Ab6:=fnh Ab6 E rfl;replace Ab8:=fnh Ab8 E rfl;have Ab10:=hid eb10.2;simp only [nP,zu];rw [←hb9];rw [←hb10];clear E eb9 hb9 eb10 hb10;go_upto_region 5 with fail
   refine wF [⟨false,0,6,2,b6,0,140,28,cn,0,cn,[]⟩,⟨false,0,8,3,b8,0,140,29,cr,0,cr,[]⟩] [(28,aT cn),(29,aT cr)] (by simp only [zu];rfl) (by kernel_rfl) ?_ ?_ (oP _ _ bnC (fP1 bnC)) ?_ ?_ ?_ ?_
   ·intro W' hW';exact lhG Ab8 hW' V_cn rfl<|lhG Ab10 hW' V_cr rfl<|fxs rfl<|fxs rfl<|fxn
   ·intro W' hK';have rd1:=At.keep hK' Ab10.out (oP _ _ (fun _=>(by show b6≠b10;omega)) (oP _ _ (fun _=>(by show b8≠b10;omega)) (oN)));exact fxs (by kernel_rfl)<|ldG rd1 V_cr rfl<|fxs (by kernel_rfl)<|fxs (by kernel_rfl)<|fxn
   ·exact oP _ _ (fun _=>rmh Ab6 (qG V_cm.out) (qG V_cn.out) rfl) (oP _ _ (fun _=>rmh Ab8 (qG V_cn.out) (qG V_cr.out) rfl) (oN))
   ·intro q hq r hr hqn hrn e;simp only [List.mem_cons,List.not_mem_nil,or_false] at hq hr;rcases hq with rfl|rfl<;>rcases hr with rfl|rfl<;>first|rfl|(exact Bool.noConfusion hqn)|(exact Bool.noConfusion hrn)|(exfalso;simp only at e;omega)
   ·exact oP _ _ (stw rfl (qG V_cn.out) (qqB V_cn.out) (fun _=>rfl)) (oP _ _ (stw rfl (qG V_cr.out) (qqB V_cr.out) (fun _=>rfl)) (oN))
   intro β wx5 E;replace FR:=hid (FR.out.flow E (oP _ _ (fun _=>(by show B0≤b6;omega)) (oP _ _ (fun _=>(by show B0≤b8;omega)) (oN))));replace AB2:=hid (At.flow E AB2.out (oP _ _ (fun _=>(by show b6≠B2;omega)) (oP _ _ (fun _=>(by show b8≠B2;omega)) (oN))));replace Ab6:=aoh E Ab6 mms;replace Ab8:=aoh E Ab8 (List.mem_cons_of_mem _ mms);simp only [nP,zu];go_wp2_with fail
   go_roundg (gk - 1)
   case measure=>have:=H0.out;omega
   case rel =>
    have hlt:vm%vn<vn:=Nat.mod_lt _ (Nat.pos_of_ne_zero H0.out);exact ⟨vn,vm%vn,by have:=Ab6.out;rwa [V_cn.out] at this,by have:=Ab8.out;rwa [V_cr.out] at this,AB2.out,FR.out,HV.out.2.1,Nat.lt_trans hlt HV.out.2.1,by rw [HV.out.2.2,Nat.gcd_comm,Nat.gcd_rec vn vm,Nat.gcd_comm],by omega⟩
theorem qhO {ca cb cq cr:List Value} {na nb s:Bool} {a b:Nat} (h1:ca=.bool na::lv 32 a) (h2:cb=.bool nb::lv 32 b) (hq:cq=.bool s::lv 32 (a / b)) (hr:cr=.bool false::lv 32 (a%b)) (hs:s=cs1 (na != nb) (a / b)) (hx:na=false∨a%b=0) (ha:a<BB^32) (hb:b<BB^32) (h0:b≠0) (w:World) :
  CB 146 #[.agg ca.toArray,.agg cb.toArray] (.tuple #[.agg cq.toArray,.agg cr.toArray,.int .i64 0]) w:=by
 have V_ca:=hid h1;have V_cb:=hid h2;have V_cq:=hid hq;have V_cr:=hid hr;obtain ⟨sa,hsa⟩:=nqx (cs1 na a);obtain ⟨sb,hsb⟩:=nqx (cs1 nb b);have hqB:a / b<BB^32:=Nat.lt_of_le_of_lt (Nat.div_le_self _ _) ha;have hrB:a%b<BB^32:=Nat.lt_of_le_of_lt (Nat.mod_le _ _) ha;obtain ⟨ma,V_ma⟩:=nvx (lv 32 a);obtain ⟨mb,V_mb⟩:=nvx (lv 32 b);obtain ⟨mq,V_mq⟩:=nvx (lv 32 (a / b));obtain ⟨mr,V_mr⟩:=nvx (lv 32 (a%b));obtain ⟨cz,V_cz⟩:=nvx (lv 32 0);obtain ⟨cy,V_cy⟩:=nvx (.bool false::lv 32 0);have HSA:=hid (qbT V_ca.out V_ma.out hsa ha);have HSB:=hid (qbT V_cb.out V_mb.out hsb hb)
 have HM1:=hid (fun (t:Bool) (ht:t=(sa != sb))=>qeT (neg:=t) V_mq.out V_cq.out (show s=cs1 t (a / b) by
  rw [ht,hs,hsa,hsb];unfold cs1;by_cases hz:a=0
  ·subst hz;simp
  ·simp [hz,h0]) hqB)
 have HM2:=hid (qeT (neg:=false) V_mr.out V_cr.out rfl hrB);have HQ:=hid (fun (W:World) (p q:Nat) (hp:At W p 0 ma) (hq:At W q 0 mb)=>qqO W hp hq V_ma.out V_mb.out V_mq.out V_mr.out ha hb (Nat.pos_of_ne_zero h0))
 have HN:=hid (show sa=true→false=!decide (a%b=0) by
  intro h;rcases hx with hx|hx
  ·rw [hsa,hx] at h;simp [cs1] at h
  ·simp [hx])
 have HB:=hid (And.intro hb hrB);have HZ:=hid (show false=decide (b=0) by simp [h0]);clear h1 h2 hq hr hs hx ha hb h0 hsa hsb hqB hrB;obtain ⟨B0,B1,B2,B3,w0,hw0,hB0,hB1,hB2,hB3,AB0,AB1,AB2,AB3,FR,FR0,HB0,hZB0,l01,hZB1,l12,hZB2,l23,hZB3⟩:=en4 w 25 25 25 25 (bxq ca) (bxq cb) (zQI V_cy) (zQI V_cy);unfold zero33 at hw0;go_enter Tryz.func146,Tryz.ntmps146
 go_upto_region 1 with fail
 rw [←hw0,←hB3,←hB2,←hB1,←hB0];clear hw0 hB0 hB1 hB2 hB3;refine wT [⟨true,5,8,7,0,0,140,17,ma,0,ma,[]⟩] [(14,aT ca),(15,.tuple #[.bool sa,aT ma]),(13,.tuple #[.bool sa,aT ma]),(16,.bool sa),(17,aT ma),(7,.bool sa)] (by simp only [zu];rfl) (by kernel_rfl) rfl ?_ ?_ ?_ ?_
 ·intro W' hW';refine lhI AB0 hW' V_ca rfl<|fo4 ?_ ?_ ?_ ?_<|fxs rfl<|fxo ?_<|fxs rfl<|fxn;all_goals (go_big_quiet_step (exact qaA (HSA.out _));exact wqn rfl)
 ·exact fP1 (Tryz.alG (qG V_ma.out))
 ·exact fP1 (sG V_ma (fun _=>rfl) rfl)
 intro β wx1 E;replace FR:=fnf FR E rfl;obtain ⟨b8,hb8,eb8⟩:=nwb E mms;have lB0_b8:B0<b8:=ltb AB0 eb8.1;have lB1_b8:B1<b8:=ltb AB1 eb8.1;have lB2_b8:B2<b8:=ltb AB2 eb8.1;have lB3_b8:B3<b8:=ltb AB3 eb8.1;have hZb8:B0≤b8:=Nat.le_trans FR0.out eb8.1;clear AB0;replace AB1:=fnh AB1 E rfl;replace AB2:=fnh AB2 E rfl;replace AB3:=fnh AB3 E rfl;have Ab8:=hid eb8.2;simp only [nP,zu];rw [←hb8];replace FR0:=hid FR.out.le;clear E eb8 hb8;go_upto_region 2 with fail
 refine wT [⟨true,5,10,7,0,0,140,22,mb,0,mb,[]⟩] [(19,aT cb),(20,.tuple #[.bool sb,aT mb]),(18,.tuple #[.bool sb,aT mb]),(21,.bool sb),(22,aT mb),(9,.bool sb)] (by simp only [zu];rfl) (by kernel_rfl) rfl ?_ ?_ ?_ ?_
 ·intro W' hW';refine lhI AB1 hW' V_cb rfl<|fo4 ?_ ?_ ?_ ?_<|fxs rfl<|fxo ?_<|fxs rfl<|fxn;all_goals (go_big_quiet_step (exact qaA (HSB.out _));exact wqn rfl)
 ·exact fP1 (Tryz.alG (qG V_mb.out))
 ·exact fP1 (sG V_mb (fun _=>rfl) rfl)
 intro β wx2 E;replace FR:=fnf FR E rfl;obtain ⟨b10,hb10,eb10⟩:=nwb E mms;have lB1_b10:B1<b10:=ltb AB1 eb10.1;have lB2_b10:B2<b10:=ltb AB2 eb10.1;have lB3_b10:B3<b10:=ltb AB3 eb10.1;have lb8_b10:b8<b10:=ltb Ab8 eb10.1;have hZb10:B0≤b10:=Nat.le_trans FR0.out eb10.1;clear AB1;replace AB2:=fnh AB2 E rfl;replace AB3:=fnh AB3 E rfl;replace Ab8:=fnh Ab8 E rfl;have Ab10:=hid eb10.2;simp only [nP,zu];rw [←hb10];replace FR0:=hid FR.out.le;clear E eb10 hb10;go_upto_region 3 with fail
 refine wE [(23,aT mb),(24,aT cz),(25,bF)] (by simp only [zu];rfl) (by kernel_rfl) ?_ ?_
 ·intro W' hW';exact lhG Ab10 hW' V_mb rfl<|fxb (qcB V_cz.out) rfl<|fxo (qdW (r:=false) (by rfl) rfl rfl rfl V_mb.out V_cz.out HB.out.1 qcK HZ.out (wqn (by simp only [zq])))<|fxn
 intro β wx3 E;replace FR:=fnf FR E rfl;replace AB2:=fnh AB2 E rfl;replace AB3:=fnh AB3 E rfl;replace Ab8:=fnh Ab8 E rfl;replace Ab10:=fnh Ab10 E rfl;simp only [nP,zu];replace FR0:=hid FR.out.le;go_upto_region 5 with fail
 refine wT [⟨true,4,11,6,0,0,140,30,mq,0,mq,[]⟩,⟨true,5,12,7,0,0,140,31,mr,0,mr,[]⟩] [(29,.tuple #[aT mq,aT mr]),(28,.tuple #[aT mq,aT mr]),(30,aT mq),(31,aT mr)] (by simp only [zu];rfl) (by kernel_rfl) rfl ?_ ?_ ?_ ?_
 ·intro W' hW';refine fo4 ?_ ?_ ?_ ?_<|fxs rfl<|fxs rfl<|fxs rfl<|fxs rfl<|fxn;all_goals (go_big_quiet_step (exact qaA (HQ.out _ _ _ ((Ab8.out.below hW').below (qbG _ _ _)) ((Ab10.out.below hW').below (qbG _ _ _))));exact wqn rfl)
 ·exact oP _ _ (Tryz.alG (qG V_mq.out)) (oP _ _ (Tryz.alG (qG V_mr.out)) (oN))
 ·exact oP _ _ (stw rfl (qG V_mq.out) (qqB V_mq.out) (fun _=>rfl)) (oP _ _ (stw rfl (qG V_mr.out) (qqB V_mr.out) (fun _=>rfl)) (oN))
 intro β wx4 E;replace FR:=fnf FR E rfl;obtain ⟨b11,hb11,eb11⟩:=nwb E mms;have lB2_b11:B2<b11:=ltb AB2 eb11.1;have lB3_b11:B3<b11:=ltb AB3 eb11.1;have lb8_b11:b8<b11:=ltb Ab8 eb11.1;have lb10_b11:b10<b11:=ltb Ab10 eb11.1;have hZb11:B0≤b11:=Nat.le_trans FR0.out eb11.1;obtain ⟨b12,hb12,eb12⟩:=nwb E (List.mem_cons_of_mem _ mms);have lB2_b12:B2<b12:=ltb AB2 eb12.1;have lB3_b12:B3<b12:=ltb AB3 eb12.1;have lb8_b12:b8<b12:=ltb Ab8 eb12.1;have lb10_b12:b10<b12:=ltb Ab10 eb12.1;have hZb12:B0≤b12:=Nat.le_trans FR0.out eb12.1;have nb11_b12:b11≠b12:=fun e=>absurd (E.apart _ mms _ (List.mem_cons_of_mem _ mms) rfl rfl (by rw [hb11,hb12] at e;exact e)) (show ¬(4:Nat)=5 by decide)
 replace AB2:=fnh AB2 E rfl;replace AB3:=fnh AB3 E rfl;have Ab11:=hid eb11.2;have Ab12:=hid eb12.2;simp only [nP,zu];rw [←hb11];rw [←hb12];clear E eb11 hb11 eb12 hb12;go_upto_region 6 with fail
 cases sa with
 | true =>
  have HNZ:=hid (HN.out rfl);refine wE [(32,bT),(33,bT),(34,aT mr),(35,aT cz),(36,bF),(37,bF)] (by simp only [zu];rfl) (by kernel_rfl) ?_ ?_
  ·intro W' hW';refine fo2 ?_ ?_<|lhG Ab12 hW' V_mr rfl<|fxo (qbR (by rfl) _ _ rfl _ rfl _ (qcB V_cz.out) (wqn (by simp only [zq])))<|fxo (qcH (r:=false) (by rfl) rfl rfl rfl V_mr.out V_cz.out HB.out.2 qcK HNZ.out (wqn (by simp only [zq])))<|fxo ?_<|fxn;all_goals (go_big_quiet_step (fail);exact wqn rfl)
  intro β wx5 E;replace FR:=fnf FR E rfl;replace AB2:=fnh AB2 E rfl;replace AB3:=fnh AB3 E rfl;replace Ab11:=fnh Ab11 E rfl;replace Ab12:=fnh Ab12 E rfl;simp only [nP,zu];go_upto_region 9 with fail
  refine wF [⟨false,0,4,7,B2,0,25,49,cq,0,cq,[]⟩,⟨false,0,5,8,B3,0,25,51,cr,0,cr,[]⟩] [(45,bT),(46,.bool sb),(47,.bool (!sb)),(48,aT mq),(49,aT cq),(50,aT mr),(51,aT cr),(6,iT 0)] (by simp only [zu];rfl) (by kernel_rfl) ?_ ?_ (oP _ _ bnC (fP1 bnC)) ?_ ?_ ?_ ?_
  ·intro W' hW';refine fo3 ?_ ?_ ?_<|lhG Ab11 hW' V_mq rfl<|fxo ?_<|lhG Ab12 hW' V_mr rfl<|fxo (by go_big_quiet_step (exact qaA (HM2.out _));exact wqn rfl)<|fxs rfl<|fxs rfl<|fxo ?_<|fxn;all_goals (go_big_quiet_step (exact qaA (HM1.out (!sb) (by cases sb<;>rfl) _));exact wqn rfl)
  ·intro W' hK';have rd0:=At.keep hK' Ab11.out (oP _ _ (fun _=>(by show B2≠b11;omega)) (oP _ _ (fun _=>(by show B3≠b11;omega)) (oN)));have rd1:=At.keep hK' Ab12.out (oP _ _ (fun _=>(by show B2≠b12;omega)) (oP _ _ (fun _=>(by show B3≠b12;omega)) (oN)));refine fxi ?_<|fxi ?_<|fxi ?_<|ldG rd0 V_mq rfl<|fxs (by kernel_rfl)<|ldG rd1 V_mr rfl<|fxs (by kernel_rfl)<|fxs (by kernel_rfl)<|fxs (by kernel_rfl)<|fxi ?_<|fxn;all_goals (first|(refine .inr ?_;go_big_quiet_step (fail);exact wqn rfl)|exact .inl (by kernel_rfl))
  ·exact oP _ _ (fun _=>rmh AB2 (qI V_cy.out) (qI V_cq.out) rfl) (oP _ _ (fun _=>rmh AB3 (qI V_cy.out) (qI V_cr.out) rfl) (oN))
  ·intro q hq r hr hqn hrn e;simp only [List.mem_cons,List.not_mem_nil,or_false] at hq hr;rcases hq with rfl|rfl<;>rcases hr with rfl|rfl<;>first|rfl|(exact Bool.noConfusion hqn)|(exact Bool.noConfusion hrn)|(exfalso;simp only at e;omega)
  ·exact oP _ _ (stw rfl (qI V_cq.out) (qfH V_cq.out) (fun _=>rfl)) (oP _ _ (stw rfl (qI V_cr.out) (qfH V_cr.out) (fun _=>rfl)) (oN))
  intro β wx6 E;replace FR:=hid (FR.out.flow E (oP _ _ (fun _=>(by show B0≤B2;omega)) (oP _ _ (fun _=>(by show B0≤B3;omega)) (oN))));replace AB2:=aoh E AB2 mms;replace AB3:=aoh E AB3 (List.mem_cons_of_mem _ mms);simp only [nP,zu];go_wp2_with fail
  have hld0:=rdI AB2 V_cq;have hld1:=rdI AB3 V_cr;refine bodyPost_ret (v:=.tuple #[.agg cq.toArray,.agg cr.toArray,.int .i64 0]) (by simp [results,Tryz.results146,asAddr,hld0,hld1]) rfl ?_;exact ⟨rfl,qaY HB0 FR⟩
 | false =>
  refine wE [(32,bF),(33,bF),(34,undef),(35,undef),(36,undef),(37,bF)] (by simp only [zu];rfl) (by kernel_rfl) ?_ ?_
  ·intro W' hW';refine fo4 ?_ ?_ ?_ ?_<|fo2 ?_ ?_<|fxn;all_goals (go_big_quiet_step (fail);exact wqn rfl)
  intro β wx5 E;replace FR:=fnf FR E rfl;replace AB2:=fnh AB2 E rfl;replace AB3:=fnh AB3 E rfl;replace Ab11:=fnh Ab11 E rfl;replace Ab12:=fnh Ab12 E rfl;simp only [nP,zu];go_upto_region 9 with fail
  refine wF [⟨false,0,4,7,B2,0,25,49,cq,0,cq,[]⟩,⟨false,0,5,8,B3,0,25,51,cr,0,cr,[]⟩] [(45,bF),(46,.bool sb),(47,.bool sb),(48,aT mq),(49,aT cq),(50,aT mr),(51,aT cr),(6,iT 0)] (by simp only [zu];rfl) (by kernel_rfl) ?_ ?_ (oP _ _ bnC (fP1 bnC)) ?_ ?_ ?_ ?_
  ·intro W' hW';refine fo3 ?_ ?_ ?_<|lhG Ab11 hW' V_mq rfl<|fxo ?_<|lhG Ab12 hW' V_mr rfl<|fxo (by go_big_quiet_step (exact qaA (HM2.out _));exact wqn rfl)<|fxs rfl<|fxs rfl<|fxo ?_<|fxn;all_goals (go_big_quiet_step (exact qaA (HM1.out sb (by cases sb<;>rfl) _));exact wqn rfl)
  ·intro W' hK';have rd0:=At.keep hK' Ab11.out (oP _ _ (fun _=>(by show B2≠b11;omega)) (oP _ _ (fun _=>(by show B3≠b11;omega)) (oN)));have rd1:=At.keep hK' Ab12.out (oP _ _ (fun _=>(by show B2≠b12;omega)) (oP _ _ (fun _=>(by show B3≠b12;omega)) (oN)));refine fxi ?_<|fxi ?_<|fxi ?_<|ldG rd0 V_mq rfl<|fxs (by kernel_rfl)<|ldG rd1 V_mr rfl<|fxs (by kernel_rfl)<|fxs (by kernel_rfl)<|fxs (by kernel_rfl)<|fxi ?_<|fxn;all_goals (first|(refine .inr ?_;go_big_quiet_step (fail);exact wqn rfl)|exact .inl (by kernel_rfl))
  ·exact oP _ _ (fun _=>rmh AB2 (qI V_cy.out) (qI V_cq.out) rfl) (oP _ _ (fun _=>rmh AB3 (qI V_cy.out) (qI V_cr.out) rfl) (oN))
  ·intro q hq r hr hqn hrn e;simp only [List.mem_cons,List.not_mem_nil,or_false] at hq hr;rcases hq with rfl|rfl<;>rcases hr with rfl|rfl<;>first|rfl|(exact Bool.noConfusion hqn)|(exact Bool.noConfusion hrn)|(exfalso;simp only at e;omega)
  ·exact oP _ _ (stw rfl (qI V_cq.out) (qfH V_cq.out) (fun _=>rfl)) (oP _ _ (stw rfl (qI V_cr.out) (qfH V_cr.out) (fun _=>rfl)) (oN))
  intro β wx6 E;replace FR:=hid (FR.out.flow E (oP _ _ (fun _=>(by show B0≤B2;omega)) (oP _ _ (fun _=>(by show B0≤B3;omega)) (oN))));replace AB2:=aoh E AB2 mms;replace AB3:=aoh E AB3 (List.mem_cons_of_mem _ mms);simp only [nP,zu];go_wp2_with fail
  have hld0:=rdI AB2 V_cq;have hld1:=rdI AB3 V_cr;refine bodyPost_ret (v:=.tuple #[.agg cq.toArray,.agg cr.toArray,.int .i64 0]) (by simp [results,Tryz.results146,asAddr,hld0,hld1]) rfl ?_;exact ⟨rfl,qaY HB0 FR⟩
theorem qrM {ca cb cq:List Value} {na nb s:Bool} {a b:Nat} (h1:ca=.bool na::lv 32 a) (h2:cb=.bool nb::lv 32 b) (hq:cq=.bool s::lv 32 (a / b)) (hs:s=cs1 (na != nb) (a / b)) (hx:na=false∨a%b=0) (ha:a<BB^32) (hb:b<BB^32) (h0:b≠0) (w:World) :
  CB 110 #[.agg ca.toArray,.agg cb.toArray] (.agg cq.toArray) w:=by
 have V_ca:=hid h1;have V_cb:=hid h2;have V_cq:=hid hq;obtain ⟨cr,V_cr⟩:=nvx (.bool false::lv 32 (a%b));obtain ⟨cy,V_cy⟩:=nvx (.bool false::lv 32 0);have HD:=hid (qhO V_ca.out V_cb.out V_cq.out V_cr.out hs hx ha hb h0);clear h1 h2 hq hs hx ha hb h0;obtain ⟨B0,B1,B2,w0,hw0,hB0,hB1,hB2,AB0,AB1,AB2,FR,FR0,HB0,hZB0,l01,hZB1,l12,hZB2⟩:=en3 w 25 25 25 (bxq ca) (bxq cb) (zQI V_cy);unfold zero33 at hw0;go_enter Tryz.func110,Tryz.ntmps110
 go_upto_region 1 with fail
 rw [←hw0,←hB2,←hB1,←hB0];clear hw0 hB0 hB1 hB2;refine wT [⟨true,7,5,9,0,0,25,12,cq,0,cq,[]⟩,⟨true,8,6,10,0,0,25,13,cr,0,cr,[]⟩] [(9,aT ca),(10,aT cb),(11,.tuple #[aT cq,aT cr,iT 0]),(8,.tuple #[aT cq,aT cr,iT 0]),(12,aT cq),(13,aT cr),(14,iT 0),(7,iT 0)] (by simp only [zu];rfl) (by kernel_rfl) rfl ?_ ?_ ?_ ?_
 ·intro W' hW';refine lhI AB0 hW' V_ca rfl<|lhI AB1 hW' V_cb rfl<|fo4 ?_ ?_ ?_ ?_<|fxo ?_<|fxs rfl<|fxs rfl<|fxs rfl<|fxs rfl<|fxo ?_<|fxn;all_goals (go_big_quiet_step (exact qaA (HD.out _));exact wqn rfl)
 ·exact oP _ _ (Tryz.alI (qI V_cq.out)) (oP _ _ (Tryz.alI (qI V_cr.out)) (oN))
 ·exact oP _ _ (stw rfl (qI V_cq.out) (qfH V_cq.out) (fun _=>rfl)) (oP _ _ (stw rfl (qI V_cr.out) (qfH V_cr.out) (fun _=>rfl)) (oN))
 intro β wx1 E;replace FR:=fnf FR E rfl;obtain ⟨b5,hb5,eb5⟩:=nwb E mms;have lB0_b5:B0<b5:=ltb AB0 eb5.1;have lB1_b5:B1<b5:=ltb AB1 eb5.1;have lB2_b5:B2<b5:=ltb AB2 eb5.1;have hZb5:B0≤b5:=Nat.le_trans FR0.out eb5.1;obtain ⟨b6,hb6,eb6⟩:=nwb E (List.mem_cons_of_mem _ mms);have lB0_b6:B0<b6:=ltb AB0 eb6.1;have lB1_b6:B1<b6:=ltb AB1 eb6.1;have lB2_b6:B2<b6:=ltb AB2 eb6.1;have hZb6:B0≤b6:=Nat.le_trans FR0.out eb6.1;have nb5_b6:b5≠b6:=fun e=>absurd (E.apart _ mms _ (List.mem_cons_of_mem _ mms) rfl rfl (by rw [hb5,hb6] at e;exact e)) (show ¬(7:Nat)=8 by decide)
 replace AB2:=fnh AB2 E rfl;have Ab5:=hid eb5.2;simp only [nP,zu];rw [←hb5];rw [←hb6];clear E eb5 hb5 eb6 hb6;go_upto_region 2 with fail
 refine wF [⟨false,0,4,1,B2,0,25,15,cq,0,cq,[]⟩] [(15,aT cq)] (by simp only [zu];rfl) (by kernel_rfl) ?_ ?_ (fP1 bnC) ?_ uno ?_ ?_
 ·intro W' hW';exact lhI Ab5 hW' V_cq rfl<|fxs rfl<|fxn
 ·intro W' hK';have rd0:=akh Ab5 hK' (by omega);exact ldI rd0 V_cq rfl<|fxs (by kernel_rfl)<|fxn
 ·exact fP1 (fun _=>rmh AB2 (qI V_cy.out) (qI V_cq.out) rfl)
 ·exact fP1 (sI V_cq (fun _=>rfl) rfl)
 intro β wx2 E;replace FR:=ffh FR E (by omega);replace AB2:=aoh E AB2 mms;simp only [nP,zu];go_wp2_with fail
 have hld:=rdI AB2 V_cq;refine bodyPost_ret (v:=.agg cq.toArray) (by simp [results,Tryz.results110,asAddr,hld]) rfl ?_;exact ⟨rfl,qaY HB0 FR⟩
theorem qhL {ca cb cr:List Value} {na nb n:Bool} {a b v:Nat} (h1:ca=.bool na::lv 32 a) (h2:cb=.bool nb::lv 32 b) (hr:cr=.bool n::lv 32 v) (hv:v=a*b) (hn:n=cs1 (na != nb) v) (ha:a<BB^32) (hb:b<BB^32) (hvb:v<BB^32) (w:World) :
  CB 79 #[.agg ca.toArray,.agg cb.toArray] (.agg cr.toArray) w:=by
 have V_ca:=hid h1;have V_cb:=hid h2;have V_cr:=hid hr;obtain ⟨cy,V_cy⟩:=nvx (.bool false::lv 32 0);have HD:=hid (qxB V_ca.out V_cb.out V_cr.out hv hn ha hb hvb);clear h1 h2 hr hv hn ha hb hvb;obtain ⟨B0,B1,B2,w0,hw0,hB0,hB1,hB2,AB0,AB1,AB2,FR,FR0,HB0,hZB0,l01,hZB1,l12,hZB2⟩:=en3 w 25 25 25 (bxq ca) (bxq cb) (zQI V_cy);unfold zero33 at hw0;go_enter Tryz.func79,Tryz.ntmps79
 go_upto_region 1 with fail
 rw [←hw0,←hB2,←hB1,←hB0];clear hw0 hB0 hB1 hB2;refine wT [⟨true,6,5,7,0,0,25,11,cr,0,cr,[]⟩] [(8,aT ca),(9,aT cb),(10,.tuple #[aT cr,iT 0]),(7,.tuple #[aT cr,iT 0]),(11,aT cr),(12,iT 0),(6,iT 0)] (by simp only [zu];rfl) (by kernel_rfl) rfl ?_ ?_ ?_ ?_
 ·intro W' hW';refine lhI AB0 hW' V_ca rfl<|lhI AB1 hW' V_cb rfl<|fo4 ?_ ?_ ?_ ?_<|fxs rfl<|fxs rfl<|fxo ?_<|fxn;all_goals (go_big_quiet_step (exact qaA (HD.out _));exact wqn rfl)
 ·exact fP1 (Tryz.alI (qI V_cr.out))
 ·exact fP1 (sI V_cr (fun _=>rfl) rfl)
 intro β wx1 E;replace FR:=fnf FR E rfl;obtain ⟨b5,hb5,eb5⟩:=nwb E mms;have lB0_b5:B0<b5:=ltb AB0 eb5.1;have lB1_b5:B1<b5:=ltb AB1 eb5.1;have lB2_b5:B2<b5:=ltb AB2 eb5.1;have hZb5:B0≤b5:=Nat.le_trans FR0.out eb5.1;replace AB2:=fnh AB2 E rfl;have Ab5:=hid eb5.2;simp only [nP,zu];rw [←hb5];clear E eb5 hb5;go_upto_region 2 with fail
 refine wF [⟨false,0,4,1,B2,0,25,13,cr,0,cr,[]⟩] [(13,aT cr)] (by simp only [zu];rfl) (by kernel_rfl) ?_ ?_ (fP1 bnC) ?_ uno ?_ ?_
 ·intro W' hW';exact lhI Ab5 hW' V_cr rfl<|fxs rfl<|fxn
 ·intro W' hK';have rd0:=akh Ab5 hK' (by omega);exact ldI rd0 V_cr rfl<|fxs (by kernel_rfl)<|fxn
 ·exact fP1 (fun _=>rmh AB2 (qI V_cy.out) (qI V_cr.out) rfl)
 ·exact fP1 (sI V_cr (fun _=>rfl) rfl)
 intro β wx2 E;replace FR:=ffh FR E (by omega);replace AB2:=aoh E AB2 mms;simp only [nP,zu];go_wp2_with fail
 have hld:=rdI AB2 V_cr;refine bodyPost_ret (v:=.agg cr.toArray) (by simp [results,Tryz.results79,asAddr,hld]) rfl ?_;exact ⟨rfl,qaY HB0 FR⟩
theorem qiI {cx:List Value} {s r:Bool} {v:Nat} (h:cx=.bool s::lv 32 v) (hr:r=decide (s=cs1 s v)) (hv:v<BB^32) (w:World) :
  CB 143 #[.agg cx.toArray] (.bool r) w:=by
 have V_cx:=hid h;obtain ⟨x,hx⟩:=nqx (sgnI s v);have HS:=hid (qeP V_cx.out hx hv);have hr1:s=false→r=true:=fun h=>by rw [hr,h];rfl
 have hr2:s=true→decide (x<0)=r:=fun h=>by
  rw [hr,hx,h];unfold sgnI cs1;by_cases hz:v=0<;>simp [hz]
 clear h hr hx hv;obtain ⟨B0,w0,hw0,hB0,AB0,FR,FR0,HB0,hZB0⟩:=en1 w 25 (bxq cx);go_enter Tryz.func143,Tryz.ntmps143
 go_upto_region 1 with fail
 rw [←hw0,←hB0];clear hw0 hB0
 cases s with
 | true =>
  have hr3:=hr2 rfl;clear hr1 hr2;refine wE [(3,pT B0 0),(4,bT),(5,bF),(6,bF),(7,aT cx),(8,iT x),(9,.bool r),(10,.bool r),(2,.bool r)] (by simp only [zu];rfl) (by kernel_rfl) ?_ ?_
  ·intro W' hW';have cl0:=fun p os=>qaB ((AB0.out.below hW').neg V_cx.out) p os
   refine fo4 ?_ ?_ ?_ ?_<|lhI AB0 hW' V_cx rfl<|fo4 ?_ ?_ ?_ ?_<|fxn;all_goals (go_big_quiet_step (exact qaA (HS.out _));exact wqn rfl)
  intro β wx1 E;replace FR:=fnf FR E rfl;simp only [nP,zu];go_wp2
  go_ret
  exact ⟨rfl,qaY HB0 FR⟩
 | false =>
  have hr3:=hr1 rfl;subst hr3;clear hr1 hr2;refine wE [(3,pT B0 0),(4,bF),(5,bT),(6,bT),(7,undef),(8,undef),(9,undef),(10,bT),(2,bT)] (by simp only [zu];rfl) (by kernel_rfl) ?_ ?_
  ·intro W' hW';have cl0:=fun p os=>qaB ((AB0.out.below hW').neg V_cx.out) p os
   iterate 9 (refine fxo ?_ ?_;(go_big_quiet_step (fail);(try simp only [zq]);exact wqn rfl))
   exact fxn
  intro β wx1 E;replace FR:=fnf FR E rfl;simp only [nP,zu];go_wp2
  go_ret
  exact ⟨rfl,qaY HB0 FR⟩
theorem qeK {v k:Nat} (h:IsBits v k):(k:Int)≤480↔v<B480:=by
 constructor
 ·intro hk;unfold B480;have h2:=Nat.pow_le_pow_right (show 0<2 by omega) (show k≤32*15 by omega);have h3:=h.1;rw [qgF];exact Nat.lt_of_lt_of_le h3 h2
 ·intro hv
  have:=qfM hv h
  omega
theorem qyR {cr:List Value} {n m r:Bool} {p q:Nat} (h:cr=rat n p m q) (hr:r=decide (p<B480∧q<B480)) (hp:p<BB^32) (hq:q<BB^32) (w:World) :
  CB 111 #[.agg cr.toArray] (.bool r) w:=by
 have V_cr:=hid h;obtain ⟨cp,V_cp⟩:=nvx (.bool n::lv 32 p);obtain ⟨cq,V_cq⟩:=nvx (.bool m::lv 32 q);obtain ⟨k1,hk1⟩:=qaJ p;obtain ⟨k2,hk2⟩:=qaJ q;have HB1:=hid (qsA V_cp.out hk1 hp);have HB2:=hid (qsA V_cq.out hk2 hq);have hf1:=qeK hk1;have hf2:=qeK hk2;have hr2:r=(decide ((k1:Int)≤480)&&decide ((k2:Int)≤480)):=by rw [hr,←Bool.decide_and];simp only [hf1,hf2]
 clear h hr hp hq hk1 hk2 hf1 hf2;obtain ⟨B0,w0,hw0,hB0,AB0,FR,FR0,HB0,hZB0⟩:=en1 w 27 (bxq cr);go_enter Tryz.func111,Tryz.ntmps111
 go_upto_region 1 with fail
 rw [←hw0,←hB0];clear hw0 hB0;have AB0n:=hid (AB0.out.num V_cr.out V_cp.out);have AB0d:=hid (AB0.out.den V_cr.out V_cq.out);by_cases h1:(k1:Int)≤480
 ·have hr3:decide ((k2:Int)≤480)=r:=by rw [hr2];simp [h1]
  clear hr2;refine wE [(3,pT B0 0),(4,aT cp),(5,iT k1),(6,bT),(7,bT),(8,pT B0 33),(9,aT cq),(10,iT k2),(11,.bool r),(12,.bool r),(2,.bool r)] (by simp only [zu];rfl) (by kernel_rfl) ?_ ?_
  ·intro W' hW';refine fxo ?_<|lhI AB0n hW' V_cp rfl<|fo4 ?_ ?_ ?_ ?_<|lhI AB0d hW' V_cq rfl<|fxo (by go_big_quiet_step (exact qaA (HB2.out _));exact wqn rfl)<|fo3 ?_ ?_ ?_<|fxn;all_goals (go_big_quiet_step (exact qaA (HB1.out _));exact wqn rfl)
  intro β wx1 E;replace FR:=fnf FR E rfl;simp only [nP,zu];go_wp2
  go_ret
  exact ⟨rfl,qaY HB0 FR⟩
 ·have hr3:r=false:=by rw [hr2];simp [h1]
  subst hr3;clear hr2;refine wE [(3,pT B0 0),(4,aT cp),(5,iT k1),(6,bF),(7,bF),(8,undef),(9,undef),(10,undef),(11,undef),(12,bF),(2,bF)] (by simp only [zu];rfl) (by kernel_rfl) ?_ ?_
  ·intro W' hW';refine fxo ?_<|lhI AB0n hW' V_cp rfl<|fo4 ?_ ?_ ?_ ?_<|fo4 ?_ ?_ ?_ ?_<|fxo ?_<|fxn;all_goals (go_big_quiet_step (exact qaA (HB1.out _));exact wqn rfl)
  intro β wx1 E;replace FR:=fnf FR E rfl;simp only [nP,zu];go_wp2
  go_ret
  exact ⟨rfl,qaY HB0 FR⟩
set_option maxHeartbeats 8000000
theorem qwW {cr:List Value} {z:Int} {n:Bool} {v:Nat} (h:cr=rat n v false 1) (hn:n=decide (z<0)) (hv:v=z.natAbs) (h1:-9223372036854775808≤z) (h2:z≤9223372036854775807) (w:World) :
  CB 123 #[.int .i64 z] (.agg cr.toArray) w:=by
 have V_cr:=hid h;obtain ⟨cn,V_cn⟩:=nvx (.bool n::lv 32 v);obtain ⟨co,V_co⟩:=nvx (.bool false::lv 32 1);obtain ⟨cz,V_cz⟩:=nvx (rat false 0 false 0);have HZ:=hid (qiP V_cn.out hn hv h1 h2);have HO:=hid (qiP (z:=1) V_co.out rfl rfl (by decide) (by decide));clear h hn hv h1 h2;obtain ⟨B0,w0,hw0,hB0,AB0,FR,FR0,HB0,hZB0⟩:=en1 w 27 (zQR V_cz);go_enter Tryz.func123,Tryz.ntmps123
 go_upto_region 1 with fail
 rw [←hw0,←hB0];clear hw0 hB0;refine wF [⟨false,0,2,4,B0,0,27,6,cr,0,cr,[]⟩] [(3,iT z),(4,aT cn),(5,aT co),(6,aT cr)] (by simp only [zu];rfl) (by kernel_rfl) ?_ ?_ (fP1 bnC) ?_ uno ?_ ?_
 ·intro W' hW';refine fo2 ?_ ?_<|fxo (by go_big_quiet_step (exact qaA (HO.out _));exact wqn rfl)<|fxb (qdG V_cn.out V_co.out V_cr.out) rfl<|fxs rfl<|fxn;all_goals (go_big_quiet_step (exact qaA (HZ.out _));exact wqn rfl)
 ·intro W' hK';refine fxi ?_<|fxs (by kernel_rfl)<|fxs (by kernel_rfl)<|fxb (qdG V_cn.out V_co.out V_cr.out) rfl<|fxs (by kernel_rfl)<|fxn
  first|(refine .inr ?_;go_big_quiet_step (fail);exact wqn rfl)|exact .inl (by kernel_rfl)
 ·exact fP1 (fun _=>rmh AB0 (qR V_cz.out) (qR V_cr.out) rfl)
 ·exact fP1 (sR V_cr (fun _=>rfl) rfl)
 intro β wx1 E;replace FR:=ffh FR E (by omega);replace AB0:=aoh E AB0 mms;simp only [nP,zu];go_wp2_with fail
 have hld:=rdR AB0 V_cr;refine bodyPost_ret (v:=.agg cr.toArray) (by simp [results,Tryz.results123,asAddr,hld]) rfl ?_;exact ⟨rfl,qaY HB0 FR⟩
theorem jeU {m:Bool} {q:Nat}:decide (0<sgnI m q)=decide (m=false∧q≠0):=by
 unfold sgnI;by_cases h:q=0<;>cases m<;>simp [h]
theorem qoR {cr:List Value} {n m r:Bool} {p q:Nat} (h:cr=rat n p m q) (hr:r=decide (p<B480∧q<B480∧n=cs1 n p∧m=false∧q≠0∧Nat.gcd p q=1)) (hp:p<BB^32) (hq:q<BB^32) (w:World) :
  CB 106 #[.agg cr.toArray] (.bool r) w:=by
 have V_cr:=hid h;obtain ⟨c1,hc1⟩:=nqx (decide (p<B480∧q<B480));obtain ⟨c2,hc2⟩:=nqx (decide (n=cs1 n p));obtain ⟨c3,hc3⟩:=nqx (decide (m=cs1 m q));obtain ⟨s,hs⟩:=nqx (sgnI m q);obtain ⟨c4,hc4⟩:=nqx (decide (0<s));obtain ⟨g,hg⟩:=nqx (Nat.gcd p q);obtain ⟨c5,hc5⟩:=nqx (decide (false=false∧g=1));have hgB:g<BB^32:=by rw [hg];exact qkY hp hq
 have hrr:r=(c1&&(c2&&(c3&&(c4&&c5)))):=by
  rw [hr,hc1,hc2,hc3,hc4,hc5,hs,jeU,hg];simp only [true_and];rw [←Bool.decide_and,←Bool.decide_and,←Bool.decide_and,←Bool.decide_and];congr 1
  apply propext
  constructor
  ·rintro ⟨h1,h2,h3,h4,h5,h6⟩;exact ⟨⟨h1,h2⟩,h3,by subst h4;rfl,⟨h4,h5⟩,h6⟩
  ·rintro ⟨⟨h1,h2⟩,h3,_,⟨h4,h5⟩,h6⟩;exact ⟨h1,h2,h3,h4,h5,h6⟩
 obtain ⟨cn,V_cn⟩:=nvx (.bool n::lv 32 p);obtain ⟨cd,V_cd⟩:=nvx (.bool m::lv 32 q);obtain ⟨cg,V_cg⟩:=nvx (.bool false::lv 32 g);obtain ⟨co,V_co⟩:=nvx (.bool false::lv 32 1);have HF:=hid (qyR V_cr.out hc1 hp hq);have HC2:=hid (qiI V_cn.out hc2 hp);have HC3:=hid (qiI V_cd.out hc3 hq);have HS:=hid (qeP V_cd.out hs hq);have HG:=hid (qxF V_cn.out V_cd.out V_cg.out hg hp hq);have HO:=hid (qiP (z:=1) V_co.out rfl rfl (by decide) (by decide));have HE:=hid hc5;have H1:=hid (And.intro hgB (show 1<BB^32 from Nat.one_lt_pow (by omega) (by unfold BB;omega)));have hc4':=hc4.symm;clear h hr hp hq hc1 hc2 hc3 hs hg hc5 hgB hc4;obtain ⟨B0,w0,hw0,hB0,AB0,FR,FR0,HB0,hZB0⟩:=en1 w 27 (bxq cr);go_enter Tryz.func106,Tryz.ntmps106
 go_upto_region 1 with fail
 rw [←hw0,←hB0];clear hw0 hB0;have AB0_n:=hid (AB0.out.num V_cr.out V_cn.out);have AB0_d:=hid (AB0.out.den V_cr.out V_cd.out)
 cases c1 with
 | false =>
  have hr3:r=false:=by rw [hrr];simp
  subst hr3;clear hrr;refine wE [(3,aT cr),(4,bF),(5,bF),(6,undef),(7,undef),(8,undef),(9,bF),(10,bF),(11,undef),(12,undef),(13,undef),(14,bF),(15,bF),(16,undef),(17,undef),(18,undef),(19,undef),(20,bF),(21,bF),(22,undef),(23,undef),(24,undef),(25,undef),(26,undef),(27,undef),(28,undef),(29,bF),(2,bF)] (by simp only [zu];rfl) (by kernel_rfl) ?_ ?_
  ·intro W' hW';refine lhR AB0 hW' V_cr rfl<|fo4 ?_ ?_ ?_ ?_<|fo4 ?_ ?_ ?_ ?_<|fo4 ?_ ?_ ?_ ?_<|fo4 ?_ ?_ ?_ ?_<|fo4 ?_ ?_ ?_ ?_<|fo4 ?_ ?_ ?_ ?_<|fo3 ?_ ?_ ?_<|fxn;all_goals (go_big_quiet_step (exact qaA (HF.out _));exact wqn rfl)
  intro β wx1 E;replace FR:=fnf FR E rfl;simp only [nP,zu];go_wp2
  go_ret
  exact ⟨rfl,qaY HB0 FR⟩
 | true =>
  cases c2 with
  | false =>
   have hr3:r=false:=by rw [hrr];simp
   subst hr3;clear hrr;refine wE [(3,aT cr),(4,bT),(5,bT),(6,pT B0 0),(7,aT cn),(8,bF),(9,bF),(10,bF),(11,undef),(12,undef),(13,undef),(14,bF),(15,bF),(16,undef),(17,undef),(18,undef),(19,undef),(20,bF),(21,bF),(22,undef),(23,undef),(24,undef),(25,undef),(26,undef),(27,undef),(28,undef),(29,bF),(2,bF)] (by simp only [zu];rfl) (by kernel_rfl) ?_ ?_
   ·intro W' hW';refine lhR AB0 hW' V_cr rfl<|fo3 ?_ ?_ ?_<|lhI AB0_n hW' V_cn rfl<|fxo (by go_big_quiet_step (exact qaA (HC2.out _));exact wqn rfl)<|fo4 ?_ ?_ ?_ ?_<|fo4 ?_ ?_ ?_ ?_<|fo4 ?_ ?_ ?_ ?_<|fo4 ?_ ?_ ?_ ?_<|fo4 ?_ ?_ ?_ ?_<|fo2 ?_ ?_<|fxn;all_goals (go_big_quiet_step (exact qaA (HF.out _));exact wqn rfl)
   intro β wx1 E;replace FR:=fnf FR E rfl;simp only [nP,zu];go_wp2
   go_ret
   exact ⟨rfl,qaY HB0 FR⟩
  | true =>
   cases c3 with
   | false =>
    have hr3:r=false:=by rw [hrr];simp
    subst hr3;clear hrr;refine wE [(3,aT cr),(4,bT),(5,bT),(6,pT B0 0),(7,aT cn),(8,bT),(9,bT),(10,bT),(11,pT B0 33),(12,aT cd),(13,bF),(14,bF),(15,bF),(16,undef),(17,undef),(18,undef),(19,undef),(20,bF),(21,bF),(22,undef),(23,undef),(24,undef),(25,undef),(26,undef),(27,undef),(28,undef),(29,bF),(2,bF)] (by simp only [zu];rfl) (by kernel_rfl) ?_ ?_
    ·intro W' hW';refine lhR AB0 hW' V_cr rfl<|fo3 ?_ ?_ ?_<|lhI AB0_n hW' V_cn rfl<|fxo (by go_big_quiet_step (exact qaA (HC2.out _));exact wqn rfl)<|fo3 ?_ ?_ ?_<|lhI AB0_d hW' V_cd rfl<|fxo (by go_big_quiet_step (exact qaA (HC3.out _));exact wqn rfl)<|fo4 ?_ ?_ ?_ ?_<|fo4 ?_ ?_ ?_ ?_<|fo4 ?_ ?_ ?_ ?_<|fo4 ?_ ?_ ?_ ?_<|fxo ?_<|fxn;all_goals (go_big_quiet_step (exact qaA (HF.out _));exact wqn rfl)
    intro β wx1 E;replace FR:=fnf FR E rfl;simp only [nP,zu];go_wp2
    go_ret
    exact ⟨rfl,qaY HB0 FR⟩
   | true =>
    cases c4 with
    | false =>
     have hr3:r=false:=by rw [hrr];simp
     subst hr3;clear hrr;refine wE [(3,aT cr),(4,bT),(5,bT),(6,pT B0 0),(7,aT cn),(8,bT),(9,bT),(10,bT),(11,pT B0 33),(12,aT cd),(13,bT),(14,bT),(15,bT),(16,pT B0 33),(17,aT cd),(18,iT s),(19,bF),(20,bF),(21,bF),(22,undef),(23,undef),(24,undef),(25,undef),(26,undef),(27,undef),(28,undef),(29,bF),(2,bF)] (by simp only [zu];rfl) (by kernel_rfl) ?_ ?_
     ·intro W' hW';have rd2:=AB0_d.out.below hW';refine lhR AB0 hW' V_cr rfl<|fo3 ?_ ?_ ?_<|lhI AB0_n hW' V_cn rfl<|fxo (by go_big_quiet_step (exact qaA (HC2.out _));exact wqn rfl)<|fo3 ?_ ?_ ?_<|ldI rd2 V_cd rfl<|fxo (by go_big_quiet_step (exact qaA (HC3.out _));exact wqn rfl)<|fo3 ?_ ?_ ?_<|ldI rd2 V_cd rfl<|fxo (by go_big_quiet_step (exact qaA (HS.out _));exact wqn rfl)<|fo4 ?_ ?_ ?_ ?_<|fo4 ?_ ?_ ?_ ?_<|fo4 ?_ ?_ ?_ ?_<|fxn;all_goals (go_big_quiet_step (exact qaA (HF.out _));exact wqn rfl)
     intro β wx1 E;replace FR:=fnf FR E rfl;simp only [nP,zu];go_wp2
     go_ret
     exact ⟨rfl,qaY HB0 FR⟩
    | true =>
     have hr3:r=c5:=by rw [hrr];simp
     subst hr3;clear hrr;refine wE [(3,aT cr),(4,bT),(5,bT),(6,pT B0 0),(7,aT cn),(8,bT),(9,bT),(10,bT),(11,pT B0 33),(12,aT cd),(13,bT),(14,bT),(15,bT),(16,pT B0 33),(17,aT cd),(18,iT s),(19,bT),(20,bT),(21,bT),(22,pT B0 0),(23,aT cn),(24,pT B0 33),(25,aT cd),(26,aT cg),(27,aT co),(28,.bool r),(29,.bool r),(2,.bool r)] (by simp only [zu];rfl) (by kernel_rfl) ?_ ?_
     ·intro W' hW';have rd1:=AB0_n.out.below hW';have rd2:=AB0_d.out.below hW';refine lhR AB0 hW' V_cr rfl<|fo3 ?_ ?_ ?_<|ldI rd1 V_cn rfl<|fxo (by go_big_quiet_step (exact qaA (HC2.out _));exact wqn rfl)<|fo3 ?_ ?_ ?_<|ldI rd2 V_cd rfl<|fxo (by go_big_quiet_step (exact qaA (HC3.out _));exact wqn rfl)<|fo3 ?_ ?_ ?_<|ldI rd2 V_cd rfl<|fxo (by go_big_quiet_step (exact qaA (HS.out _));exact wqn rfl)<|fo4 ?_ ?_ ?_ ?_<|ldI rd1 V_cn rfl<|fxo ?_<|ldI rd2 V_cd rfl<|fxo (by go_big_quiet_step (exact qaA (HG.out _));exact wqn rfl)<|fxo (by go_big_quiet_step (exact qaA (HO.out _));exact wqn rfl)<|fxo (qeM (r:=r) (by rfl) rfl rfl rfl V_cg.out V_co.out H1.out.1 H1.out.2 HE.out (wqn (by simp only [zq])))<|fo2 ?_ ?_<|fxn;all_goals (go_big_quiet_step (exact qaA (HF.out _));exact wqn rfl)
     intro β wx1 E;replace FR:=fnf FR E rfl;simp only [nP,zu];go_wp2
     go_ret
     exact ⟨rfl,qaY HB0 FR⟩
theorem jbN {ca cb cR:List Value} {na nb n ok:Bool} {a b g p q:Nat} {code:Int} (h1:ca=.bool na::lv 32 a) (h2:cb=.bool nb::lv 32 b) (hn:n=cs1 (na != nb) p) (hg:g=Nat.gcd a b) (hp:p=a / g) (hq:q=b / g) (hok:ok=decide (p<B480∧q<B480))
  (hR:cR=if ok=true then rat n p false q else rat false 0 false 0) (hcode:code=if ok=true then 0 else 10) (ha:a<BB^32) (hb:b<BB^32) (h0:b≠0) (w:World) :
  CB 75 #[.agg ca.toArray,.agg cb.toArray] (.tuple #[.agg cR.toArray,.int .i64 code]) w:=by
 have V_ca:=hid h1;have V_cb:=hid h2;have hg0:g≠0:=by rw [hg];intro h;exact h0 (Nat.eq_zero_of_gcd_eq_zero_right h)
 have hga:g∣a:=by rw [hg];exact Nat.gcd_dvd_left a b
 have hgb:g∣b:=by rw [hg];exact Nat.gcd_dvd_right a b
 have hq0:q≠0:=by rw [hq];intro h;have:=Nat.div_mul_cancel hgb;rw [h] at this;omega
 have hgB:g<BB^32:=by rw [hg];exact qkY ha hb
 have hpB:p<BB^32:=by rw [hp];exact Nat.lt_of_le_of_lt (Nat.div_le_self _ _) ha
 have hqB:q<BB^32:=by rw [hq];exact Nat.lt_of_le_of_lt (Nat.div_le_self _ _) hb
 obtain ⟨s,hs⟩:=nqx (sgnI nb b)
 have hse:(s==0)=false:=by
  rw [hs];unfold sgnI;rw [if_neg h0];cases nb<;>rfl
 have hsl:decide (s<0)=nb:=by
  rw [hs];unfold sgnI;rw [if_neg h0];cases nb<;>rfl
 obtain ⟨cg,V_cg⟩:=nvx (.bool false::lv 32 g);obtain ⟨ch,V_ch⟩:=nvx (.bool nb::lv 32 g);obtain ⟨cN,V_cN⟩:=nvx (.bool n::lv 32 p);obtain ⟨cD,V_cD⟩:=nvx (.bool false::lv 32 q);obtain ⟨cz,V_cz⟩:=nvx (rat false 0 false 0);obtain ⟨cM,V_cM⟩:=nvx (rat n p false q);have HS:=hid (qeP V_cb.out hs hb);have HG:=hid (qxF V_ca.out V_cb.out V_cg.out hg ha hb);have HNG:=hid (fun (h:nb=true)=>jfL (n:=nb) V_cg.out V_ch.out (by rw [h];simp [cs1,hg0]) hgB);have HW1:=hid (qrM (s:=n) (cq:=cN) V_ca.out V_ch.out (by rw [←hp];exact V_cN.out) (by rw [hn,hp]) (.inr (Nat.mod_eq_zero_of_dvd hga)) ha hgB hg0);have HW2:=hid (qrM (s:=false) (cq:=cD) V_cb.out V_ch.out (by rw [←hq];exact V_cD.out) (by cases nb<;>rfl) (.inr (Nat.mod_eq_zero_of_dvd hgb)) hb hgB hg0);have HF:=hid (qyR V_cM.out hok hpB hqB);have HCG:=hid (show nb=false→cg=ch by intro h;rw [V_cg.out,V_ch.out,h]);have HRR:=hid (And.intro hR hcode);clear h1 h2 hn hg hp hq ha hb h0 hg0 hga hgb hq0 hgB hpB hqB hs hR hcode hok;obtain ⟨B0,B1,B2,w0,hw0,hB0,hB1,hB2,AB0,AB1,AB2,FR,FR0,HB0,hZB0,l01,hZB1,l12,hZB2⟩:=en3 w 25 25 27 (bxq ca) (bxq cb) (zQR V_cz);go_enter Tryz.func75,Tryz.ntmps75
 go_upto_region 1 with fail
 rw [←hw0,←hB2,←hB1,←hB0];clear hw0 hB0 hB1 hB2;refine wE [(8,aT cb),(9,iT s),(10,bF)] (by simp only [zu];rfl) (by kernel_rfl) ?_ ?_
 ·intro W' hW';refine lhI AB1 hW' V_cb rfl<|fo2 ?_ ?_<|fxn;all_goals (go_big_quiet_step (exact qaA (HS.out _));exact wqn rfl)
 intro β wx1 E;replace FR:=fnf FR E rfl;replace AB0:=fnh AB0 E rfl;replace AB1:=fnh AB1 E rfl;replace AB2:=fnh AB2 E rfl;simp only [nP,zu];replace FR0:=hid FR.out.le;clear hse;go_upto_region 3 with fail
 refine wT [⟨true,3,6,4,0,0,25,14,cg,0,cg,[]⟩] [(12,aT ca),(13,aT cb),(14,aT cg)] (by simp only [zu];rfl) (by kernel_rfl) rfl ?_ ?_ ?_ ?_
 ·intro W' hW';refine lhI AB0 hW' V_ca rfl<|lhI AB1 hW' V_cb rfl<|fxo ?_<|fxs rfl<|fxs rfl<|fxn
  go_big_quiet_step (exact qaA (HG.out _));exact wqn rfl
 ·exact fP1 (Tryz.alI (qI V_cg.out))
 ·exact fP1 (sI V_cg (fun _=>rfl) rfl)
 intro β wx2 E;replace FR:=fnf FR E rfl;obtain ⟨b6,hb6,eb6⟩:=nwb E mms;have lB0_b6:B0<b6:=ltb AB0 eb6.1;have lB1_b6:B1<b6:=ltb AB1 eb6.1;have lB2_b6:B2<b6:=ltb AB2 eb6.1;have hZb6:B0≤b6:=Nat.le_trans FR0.out eb6.1;replace AB0:=fnh AB0 E rfl;replace AB1:=fnh AB1 E rfl;replace AB2:=fnh AB2 E rfl;have Ab6:=hid eb6.2;simp only [nP,zu];rw [←hb6];replace FR0:=hid FR.out.le;clear E eb6 hb6;go_upto_region 4 with fail
 cases nb with
 | true =>
  refine wE [(15,aT cb),(16,iT s),(17,bT)] (by simp only [zu];rfl) (by kernel_rfl) ?_ ?_
  ·intro W' hW';refine lhI AB1 hW' V_cb rfl<|fo2 ?_ ?_<|fxn;all_goals (go_big_quiet_step (exact qaA (HS.out _));exact wqn rfl)
  intro β wx3 E;replace FR:=fnf FR E rfl;replace AB0:=fnh AB0 E rfl;replace AB1:=fnh AB1 E rfl;replace AB2:=fnh AB2 E rfl;replace Ab6:=fnh Ab6 E rfl;simp only [nP,zu];replace FR0:=hid FR.out.le;clear hsl;go_upto_region 5 with fail
  refine wF [⟨false,0,6,2,b6,0,25,19,ch,0,ch,[]⟩] [(18,aT cg),(19,aT ch)] (by simp only [zu];rfl) (by kernel_rfl) ?_ ?_ (fP1 bnC) ?_ uno ?_ ?_
  ·intro W' hW';refine lhI Ab6 hW' V_cg rfl<|fxo ?_<|fxs rfl<|fxn
   go_big_quiet_step (exact qaA (HNG.out rfl _));exact wqn rfl
  ·intro W' hK';iterate 3 (refine fxs (by kernel_rfl) ?_)
   exact fxn
  ·exact fP1 (fun _=>rmh Ab6 (qI V_cg.out) (qI V_ch.out) rfl)
  ·exact fP1 (sI V_ch (fun _=>rfl) rfl)
  intro β wx4 E;replace FR:=ffh FR E (by omega);replace AB0:=afh AB0 E (by omega);replace AB1:=afh AB1 E (by omega);replace AB2:=afh AB2 E (by omega);replace Ab6:=aoh E Ab6 mms;simp only [nP,zu];replace FR0:=hid FR.out.le;go_upto_region 6 with fail
  refine wT [⟨true,7,7,8,0,0,27,26,cM,0,cM,[]⟩] [(20,aT ca),(21,aT ch),(22,aT cN),(23,aT cb),(24,aT ch),(25,aT cD),(26,aT cM)] (by simp only [zu];rfl) (by kernel_rfl) rfl ?_ ?_ ?_ ?_
  ·intro W' hW';have rd1:=Ab6.out.below hW';refine lhI AB0 hW' V_ca rfl<|ldI rd1 V_ch rfl<|fxo ?_<|lhI AB1 hW' V_cb rfl<|ldI rd1 V_ch rfl<|fxo (by go_big_quiet_step (exact qaA (HW2.out _));exact wqn rfl)<|fxb (qdG V_cN.out V_cD.out V_cM.out) rfl<|fxs rfl<|fxs rfl<|fxn
   go_big_quiet_step (exact qaA (HW1.out _));exact wqn rfl
  ·exact fP1 (Tryz.alR (qR V_cM.out))
  ·exact fP1 (sR V_cM (fun _=>rfl) rfl)
  intro β wx5 E;replace FR:=fnf FR E rfl;obtain ⟨b7,hb7,eb7⟩:=nwb E mms;have lB0_b7:B0<b7:=ltb AB0 eb7.1;have lB1_b7:B1<b7:=ltb AB1 eb7.1;have lB2_b7:B2<b7:=ltb AB2 eb7.1;have lb6_b7:b6<b7:=ltb Ab6 eb7.1;have hZb7:B0≤b7:=Nat.le_trans FR0.out eb7.1;replace AB2:=fnh AB2 E rfl;have Ab7:=hid eb7.2;simp only [nP,zu];rw [←hb7];clear E eb7 hb7;go_upto_region 7 with fail
  cases ok with
  | true =>
   refine wE [(27,aT cM),(28,bT),(29,bF)] (by simp only [zu];rfl) (by kernel_rfl) ?_ ?_
   ·intro W' hW';refine lhR Ab7 hW' V_cM rfl<|fo2 ?_ ?_<|fxn;all_goals (go_big_quiet_step (exact qaA (HF.out _));exact wqn rfl)
   intro β wx6 E;replace FR:=fnf FR E rfl;replace AB2:=fnh AB2 E rfl;replace Ab7:=fnh Ab7 E rfl;simp only [nP,zu];go_upto_region 9 with fail
   refine wF [⟨false,0,4,1,B2,0,27,31,cM,0,cM,[]⟩] [(31,aT cM),(5,iT 0)] (by simp only [zu];rfl) (by kernel_rfl) ?_ ?_ (fP1 bnC) ?_ uno ?_ ?_
   ·intro W' hW';refine lhR Ab7 hW' V_cM rfl<|fxs rfl<|fxo ?_<|fxn
    go_big_quiet_step (fail);exact wqn rfl
   ·intro W' hK';have rd0:=akh Ab7 hK' (by omega);refine ldR rd0 V_cM rfl<|fxs (by kernel_rfl)<|fxi ?_<|fxn
    first|(refine .inr ?_;go_big_quiet_step (fail);exact wqn rfl)|exact .inl (by kernel_rfl)
   ·exact fP1 (fun _=>rmh AB2 (qR V_cz.out) (qR V_cM.out) rfl)
   ·exact fP1 (sR V_cM (fun _=>rfl) rfl)
   intro β wx7 E;replace FR:=ffh FR E (by omega);replace AB2:=aoh E AB2 mms;simp only [nP,zu]
   have hres:cM=cR∧code=0:=by
    obtain ⟨h1,h2⟩:=HRR.out;simp only [if_true] at h1 h2;exact ⟨by rw [V_cM.out,h1],h2⟩
   obtain ⟨rfl,rfl⟩:=hres;go_wp2_with fail
   have hld:=rdR AB2 V_cM;refine bodyPost_ret (v:=.tuple #[.agg cM.toArray,.int .i64 0]) (by simp [results,Tryz.results75,asAddr,hld]) rfl ?_;exact ⟨rfl,qaY HB0 FR⟩
  | false =>
   refine wE [(27,aT cM),(28,bF),(29,bT)] (by simp only [zu];rfl) (by kernel_rfl) ?_ ?_
   ·intro W' hW';refine lhR Ab7 hW' V_cM rfl<|fo2 ?_ ?_<|fxn;all_goals (go_big_quiet_step (exact qaA (HF.out _));exact wqn rfl)
   intro β wx6 E;replace FR:=fnf FR E rfl;replace AB2:=fnh AB2 E rfl;simp only [nP,zu];go_upto_region 8 with fail
   refine wF [⟨false,0,4,1,B2,0,27,30,cz,0,cz,[]⟩] [(30,aT cz),(5,iT 10)] (by simp only [zu];rfl) (by kernel_rfl) ?_ ?_ (fP1 bnC) ?_ uno ?_ ?_
   ·intro W' hW';refine fxb (qaV V_cz.out) rfl<|fxs rfl<|fxo ?_<|fxn
    go_big_quiet_step (fail);exact wqn rfl
   ·intro W' hK';refine fxb (qaV V_cz.out) rfl<|fxs (by kernel_rfl)<|fxi ?_<|fxn
    first|(refine .inr ?_;go_big_quiet_step (fail);exact wqn rfl)|exact .inl (by kernel_rfl)
   ·exact fP1 (fun _=>rmh AB2 (qR V_cz.out) (qR V_cz.out) rfl)
   ·exact fP1 (sR V_cz (fun _=>rfl) rfl)
   intro β wx7 E;replace FR:=ffh FR E (by omega);replace AB2:=aoh E AB2 mms;simp only [nP,zu]
   have hres:cz=cR∧code=10:=by
    obtain ⟨h1,h2⟩:=HRR.out;simp only [Bool.false_eq_true,if_false] at h1 h2;exact ⟨by rw [V_cz.out,h1],h2⟩
   obtain ⟨rfl,rfl⟩:=hres;go_wp2_with fail
   have hld:=rdR AB2 V_cz;refine bodyPost_ret (v:=.tuple #[.agg cz.toArray,.int .i64 10]) (by simp [results,Tryz.results75,asAddr,hld]) rfl ?_;exact ⟨rfl,qaY HB0 FR⟩
 | false =>
  refine wE [(15,aT cb),(16,iT s),(17,bF)] (by simp only [zu];rfl) (by kernel_rfl) ?_ ?_
  ·intro W' hW';refine lhI AB1 hW' V_cb rfl<|fo2 ?_ ?_<|fxn;all_goals (go_big_quiet_step (exact qaA (HS.out _));exact wqn rfl)
  intro β wx3 E;replace FR:=fnf FR E rfl;replace AB0:=fnh AB0 E rfl;replace AB1:=fnh AB1 E rfl;replace AB2:=fnh AB2 E rfl;replace Ab6:=fnh Ab6 E rfl;simp only [nP,zu];replace FR0:=hid FR.out.le;clear hsl;rw [HCG.out rfl] at Ab6;go_upto_region 6 with fail
  refine wT [⟨true,7,7,8,0,0,27,26,cM,0,cM,[]⟩] [(20,aT ca),(21,aT ch),(22,aT cN),(23,aT cb),(24,aT ch),(25,aT cD),(26,aT cM)] (by simp only [zu];rfl) (by kernel_rfl) rfl ?_ ?_ ?_ ?_
  ·intro W' hW';have rd1:=Ab6.out.below hW';refine lhI AB0 hW' V_ca rfl<|ldI rd1 V_ch rfl<|fxo ?_<|lhI AB1 hW' V_cb rfl<|ldI rd1 V_ch rfl<|fxo (by go_big_quiet_step (exact qaA (HW2.out _));exact wqn rfl)<|fxb (qdG V_cN.out V_cD.out V_cM.out) rfl<|fxs rfl<|fxs rfl<|fxn
   go_big_quiet_step (exact qaA (HW1.out _));exact wqn rfl
  ·exact fP1 (Tryz.alR (qR V_cM.out))
  ·exact fP1 (sR V_cM (fun _=>rfl) rfl)
  intro β wx4 E;replace FR:=fnf FR E rfl;obtain ⟨b7,hb7,eb7⟩:=nwb E mms;have lB0_b7:B0<b7:=ltb AB0 eb7.1;have lB1_b7:B1<b7:=ltb AB1 eb7.1;have lB2_b7:B2<b7:=ltb AB2 eb7.1;have lb6_b7:b6<b7:=ltb Ab6 eb7.1;have hZb7:B0≤b7:=Nat.le_trans FR0.out eb7.1;replace AB2:=fnh AB2 E rfl;have Ab7:=hid eb7.2;simp only [nP,zu];rw [←hb7];clear E eb7 hb7;go_upto_region 7 with fail
  cases ok with
  | true =>
   refine wE [(27,aT cM),(28,bT),(29,bF)] (by simp only [zu];rfl) (by kernel_rfl) ?_ ?_
   ·intro W' hW';refine lhR Ab7 hW' V_cM rfl<|fo2 ?_ ?_<|fxn;all_goals (go_big_quiet_step (exact qaA (HF.out _));exact wqn rfl)
   intro β wx5 E;replace FR:=fnf FR E rfl;replace AB2:=fnh AB2 E rfl;replace Ab7:=fnh Ab7 E rfl;simp only [nP,zu];go_upto_region 9 with fail
   refine wF [⟨false,0,4,1,B2,0,27,31,cM,0,cM,[]⟩] [(31,aT cM),(5,iT 0)] (by simp only [zu];rfl) (by kernel_rfl) ?_ ?_ (fP1 bnC) ?_ uno ?_ ?_
   ·intro W' hW';refine lhR Ab7 hW' V_cM rfl<|fxs rfl<|fxo ?_<|fxn
    go_big_quiet_step (fail);exact wqn rfl
   ·intro W' hK';have rd0:=akh Ab7 hK' (by omega);refine ldR rd0 V_cM rfl<|fxs (by kernel_rfl)<|fxi ?_<|fxn
    first|(refine .inr ?_;go_big_quiet_step (fail);exact wqn rfl)|exact .inl (by kernel_rfl)
   ·exact fP1 (fun _=>rmh AB2 (qR V_cz.out) (qR V_cM.out) rfl)
   ·exact fP1 (sR V_cM (fun _=>rfl) rfl)
   intro β wx6 E;replace FR:=ffh FR E (by omega);replace AB2:=aoh E AB2 mms;simp only [nP,zu]
   have hres:cM=cR∧code=0:=by
    obtain ⟨h1,h2⟩:=HRR.out;simp only [if_true] at h1 h2;exact ⟨by rw [V_cM.out,h1],h2⟩
   obtain ⟨rfl,rfl⟩:=hres;go_wp2_with fail
   have hld:=rdR AB2 V_cM;refine bodyPost_ret (v:=.tuple #[.agg cM.toArray,.int .i64 0]) (by simp [results,Tryz.results75,asAddr,hld]) rfl ?_;exact ⟨rfl,qaY HB0 FR⟩
  | false =>
   refine wE [(27,aT cM),(28,bF),(29,bT)] (by simp only [zu];rfl) (by kernel_rfl) ?_ ?_
   ·intro W' hW';refine lhR Ab7 hW' V_cM rfl<|fo2 ?_ ?_<|fxn;all_goals (go_big_quiet_step (exact qaA (HF.out _));exact wqn rfl)
   intro β wx5 E;replace FR:=fnf FR E rfl;replace AB2:=fnh AB2 E rfl;simp only [nP,zu];go_upto_region 8 with fail
   refine wF [⟨false,0,4,1,B2,0,27,30,cz,0,cz,[]⟩] [(30,aT cz),(5,iT 10)] (by simp only [zu];rfl) (by kernel_rfl) ?_ ?_ (fP1 bnC) ?_ uno ?_ ?_
   ·intro W' hW';refine fxb (qaV V_cz.out) rfl<|fxs rfl<|fxo ?_<|fxn
    go_big_quiet_step (fail);exact wqn rfl
   ·intro W' hK';refine fxb (qaV V_cz.out) rfl<|fxs (by kernel_rfl)<|fxi ?_<|fxn
    first|(refine .inr ?_;go_big_quiet_step (fail);exact wqn rfl)|exact .inl (by kernel_rfl)
   ·exact fP1 (fun _=>rmh AB2 (qR V_cz.out) (qR V_cz.out) rfl)
   ·exact fP1 (sR V_cz (fun _=>rfl) rfl)
   intro β wx6 E;replace FR:=ffh FR E (by omega);replace AB2:=aoh E AB2 mms;simp only [nP,zu]
   have hres:cz=cR∧code=10:=by
    obtain ⟨h1,h2⟩:=HRR.out;simp only [Bool.false_eq_true,if_false] at h1 h2;exact ⟨by rw [V_cz.out,h1],h2⟩
   obtain ⟨rfl,rfl⟩:=hres;go_wp2_with fail
   have hld:=rdR AB2 V_cz;refine bodyPost_ret (v:=.tuple #[.agg cz.toArray,.int .i64 10]) (by simp [results,Tryz.results75,asAddr,hld]) rfl ?_;exact ⟨rfl,qaY HB0 FR⟩
end Go.Proofs.YtemoddmadfoaiaaGreat
namespace Go.Proofs.YtemoddmadfoaiaaGreat
open Go.RowKit Big
def iZ (z:Int):List Value:=.bool (decide (z<0))::lv 32 z.natAbs
def ratZ (z:Int) (q:Nat):List Value:=rat (decide (z<0)) z.natAbs false q
theorem qhJ (z:Int):zI (decide (z<0)) z.natAbs=z:=by
 unfold zI;by_cases h:z<0
 ·simp [h];omega
 ·simp [h];omega
theorem jaG (n:Bool) (v:Nat):zI (cs1 n v) v=zI n v:=by
 unfold zI cs1
 cases n
 ·simp
 ·by_cases h:v=0<;>simp [h]
theorem jdF (z:Int):cs1 (decide (z<0)) z.natAbs=decide (z<0):=by
 unfold cs1;by_cases h:z<0
 ·have:z.natAbs≠0:=by omega
  simp [h,this]
 ·simp [h]
theorem qnU (a b:Int):(a*b).natAbs=a.natAbs*b.natAbs:=Int.natAbs_mul a b
theorem qiN (a b:Int):decide (a*b<0)=cs1 (decide (a<0) != decide (b<0)) (a.natAbs*b.natAbs):=by
 unfold cs1;rcases Int.lt_trichotomy a 0 with ha|ha|ha<;>rcases Int.lt_trichotomy b 0 with hb|hb|hb
 ·have:=Int.mul_pos_of_neg_of_neg ha hb
  have h1:¬a*b<0:=by omega
  simp [ha,hb,h1]
 ·subst hb;simp
 ·have:=Int.mul_neg_of_neg_of_pos ha hb
  have h2:¬b<0:=by omega
  have h3:a.natAbs*b.natAbs≠0:=Nat.mul_ne_zero (by omega) (by omega);simp only [this,ha,h2,decide_true,decide_false];simp [h3]
 ·subst ha;simp
 ·subst ha;simp
 ·subst ha;simp
 ·have:=Int.mul_neg_of_pos_of_neg ha hb
  have h2:¬a<0:=by omega
  have h3:a.natAbs*b.natAbs≠0:=Nat.mul_ne_zero (by omega) (by omega);simp only [this,hb,h2,decide_true,decide_false];simp [h3]
 ·subst hb;simp
 ·have:=Int.mul_pos ha hb
  have h1:¬a*b<0:=by omega
  have h2:¬a<0:=by omega
  have h3:¬b<0:=by omega
  simp [h1,h2,h3]
theorem pmulZ {ca cb cr:List Value} {a b:Int} (h1:ca=iZ a) (h2:cb=iZ b) (hr:cr=iZ (a*b)) (ha:a.natAbs<BB^32) (hb:b.natAbs<BB^32) (hv:(a*b).natAbs<BB^32) (w:World) :
  CB 113 #[.agg ca.toArray,.agg cb.toArray] (.tuple #[.agg cr.toArray,.int .i64 0]) w :=
 qxB h1 h2 hr (qnU a b) (by rw [qiN,qnU]) ha hb hv w
theorem jfN {ca cb cr:List Value} {a b:Int} (h1:ca=iZ a) (h2:cb=iZ b) (hr:cr=iZ (a+b)) (ha:a.natAbs<BB^32) (hb:b.natAbs<BB^32) (hv:(a+b).natAbs<BB^32) (w:World) :
  CB 177 #[.agg ca.toArray,.agg cb.toArray] (.tuple #[.agg cr.toArray,.int .i64 0]) w :=
 jfM h1 h2 hr (by rw [qhJ,qhJ]) (by rw [qhJ,qhJ]) ha hb hv w
theorem qrZ {cr:List Value} {z:Int} (h:cr=iZ z) (h1:-9223372036854775808≤z) (h2:z≤9223372036854775807) (w:World) :
  CB 76 #[.int .i64 z] (.agg cr.toArray) w :=
 qiP h rfl rfl h1 h2 w
theorem jeB (z:Int):sgnI (decide (z<0)) z.natAbs=z.sign:=by
 unfold sgnI;rcases Int.lt_trichotomy z 0 with h|h|h
 ·have:z.natAbs≠0:=by omega
  simp [h,this,Int.sign_eq_neg_one_of_neg h]
 ·subst h;rfl
 ·have h1:z.natAbs≠0:=by omega
  have h2:¬z<0:=by omega
  simp [h1,h2,Int.sign_eq_one_of_pos h]
theorem qrY {cx:List Value} {z:Int} (h:cx=iZ z) (hz:z.natAbs<BB^32) (w:World) :
  CB 107 #[.agg cx.toArray] (.int .i64 z.sign) w :=
 qeP h (jeB z).symm hz w
theorem qqP {cr:List Value} {z:Int} (h:cr=ratZ z 1) (h1:-9223372036854775808≤z) (h2:z≤9223372036854775807) (w:World) :
  CB 123 #[.int .i64 z] (.agg cr.toArray) w :=
 qwW h rfl rfl h1 h2 w
abbrev Qn:=Int × Nat
structure VQ (r:Qn):Prop where
 num:r.1.natAbs<B480
 den:r.2<B480
 pos:r.2≠0
 low:Nat.gcd r.1.natAbs r.2=1
def mkQ (N:Int) (D:Nat):Option Qn :=
 if N.natAbs / Nat.gcd N.natAbs D<B480∧D / Nat.gcd N.natAbs D<B480 then some (N.sign*(N.natAbs / Nat.gcd N.natAbs D:Nat),D / Nat.gcd N.natAbs D) else none
def resR (o:Option Qn):List Value:=match o with|some r=>ratZ r.1 r.2|none=>rat false 0 false 0
def resE (o:Option Qn):Int:=if o.isSome=true then 0 else 10
theorem qgQ (N:Int) (k:Nat) (hk:N=0→k=0):(N.sign*(k:Int)).natAbs=k∧decide (N.sign*(k:Int)<0)=cs1 (decide (N<0)) k:=by
 rcases Int.lt_trichotomy N 0 with h|h|h
 ·rw [Int.sign_eq_neg_one_of_neg h];refine ⟨by omega,?_⟩;unfold cs1;by_cases hk0:k=0
  ·subst hk0;simp
  ·have:-1*(k:Int)<0:=by omega
   simp [h,this,hk0];omega
 ·have:=hk h;subst this;simp [cs1]
 ·rw [Int.sign_eq_one_of_pos h];have h2:¬N<0:=by omega
  have h3:¬(1*(k:Int)<0):=by omega
  exact ⟨by omega,by unfold cs1;simp [h2,h3]⟩
theorem qhV {N:Int} {D:Nat} (h:D≠0):0<Nat.gcd N.natAbs D:=Nat.gcd_pos_of_pos_right _ (by omega)
theorem qcI {N:Int} {D:Nat} (h:D≠0) {r:Qn} (hr:mkQ N D=some r):VQ r:=by
 unfold mkQ at hr;split at hr
 ·rename_i hb
  injection hr with hr
  subst hr;have hg:=qhV (N:=N) h;have hs:=(qgQ N (N.natAbs / Nat.gcd N.natAbs D) (fun h0=>by subst h0;simp)).1;refine ⟨by simp only;rw [hs];exact hb.1,hb.2,?_,?_⟩
  ·have:=Nat.div_pos (Nat.le_of_dvd (by omega) (Nat.gcd_dvd_right N.natAbs D)) hg
   simp only;omega
  ·simp only
   rw [hs];rw [Nat.gcd_div (Nat.gcd_dvd_left _ _) (Nat.gcd_dvd_right _ _),Nat.div_self hg]
 ·cases hr
theorem qxC {ca cb:List Value} {N:Int} {D:Nat} (h1:ca=iZ N) (h2:cb=iZ (D:Int)) {cR:List Value} {code:Int} (hR:cR=resR (mkQ N D)) (hc:code=resE (mkQ N D)) (ha:N.natAbs<BB^32) (hb:D<BB^32) (h0:D≠0) (w:World) :
  CB 75 #[.agg ca.toArray,.agg cb.toArray] (.tuple #[.agg cR.toArray,.int .i64 code]) w:=by
 have hg:=qhV (N:=N) h0;have hs:=qgQ N (N.natAbs / Nat.gcd N.natAbs D) (fun h0=>by subst h0;simp);refine jbN (na:=decide (N<0)) (nb:=false) (n:=cs1 (decide (N<0)) (N.natAbs / Nat.gcd N.natAbs D)) (a:=N.natAbs) (b:=D) (g:=Nat.gcd N.natAbs D) h1 (by rw [h2];unfold iZ;simp) (by simp) rfl rfl rfl rfl ?_ ?_ ha hb h0 w
 ·rw [hR];unfold mkQ;by_cases hb:N.natAbs / Nat.gcd N.natAbs D<B480∧D / Nat.gcd N.natAbs D<B480
  ·rw [if_pos hb,decide_eq_true hb,if_pos rfl];simp only [resR,ratZ];rw [hs.1,hs.2]
  ·rw [if_neg hb,decide_eq_false hb];rfl
 ·rw [hc];unfold mkQ;by_cases hb:N.natAbs / Nat.gcd N.natAbs D<B480∧D / Nat.gcd N.natAbs D<B480
  ·rw [if_pos hb,decide_eq_true hb];rfl
  ·rw [if_neg hb,decide_eq_false hb];rfl
theorem qgL {c:List Value} {r:Qn} (h:c=ratZ r.1 r.2) (hv:VQ r) (w:World) :
  CB 106 #[.agg c.toArray] (.bool true) w:=by
 refine qoR (r:=true) h ?_ (qaG hv.num) (qaG hv.den) w;have h1:=hv.num;have h2:=hv.den;have h3:=hv.pos;have h4:=hv.low;rw [jdF];simp [h1,h2,h3,h4]
def jaF (a b:Qn):Int:=a.1*b.2+b.1*a.2
def subN (a b:Qn):Int:=a.1*b.2 - b.1*a.2
def addQ (a b:Qn):Option Qn:=mkQ (jaF a b) (a.2*b.2)
def subQ (a b:Qn):Option Qn:=mkQ (subN a b) (a.2*b.2)
theorem qvN:2*BB^30≤BB^32:=by
 have h1:BB^32=BB^30*BB^2:=by rw [←Nat.pow_add]
 have h2:2≤BB^2:=by unfold BB;decide
 rw [h1,Nat.mul_comm 2];exact Nat.mul_le_mul_left _ h2
theorem qhQ {a b:Nat} (ha:a<B480) (hb:b<B480):a*b<BB^30:=qeZ ha hb
theorem b30 {a:Nat} (h:a<BB^30):a<BB^32:=by have:=qvN;omega
theorem N_bd {a b:Qn} (ha:VQ a) (hb:VQ b):(jaF a b).natAbs<BB^32∧(subN a b).natAbs<BB^32∧a.2*b.2<BB^32∧a.2*b.2≠0:=by
 have h1:(a.1*(b.2:Int)).natAbs<BB^30:=by rw [Int.natAbs_mul];exact qhQ ha.num (by simpa using hb.den)
 have h2:(b.1*(a.2:Int)).natAbs<BB^30:=by rw [Int.natAbs_mul];exact qhQ hb.num (by simpa using ha.den)
 have h3:=qvN;unfold jaF subN;exact ⟨by omega,by omega,b30 (qhQ ha.den hb.den),Nat.mul_ne_zero ha.pos hb.pos⟩
theorem qmA {a b:Qn} (mn:Bool):zI (cs1 (decide (a.1<0)) (a.1.natAbs*b.2)) (a.1.natAbs*b.2)=a.1*b.2 ∧
  zI (if mn=true then cs1 (!cs1 (decide (b.1<0)) (b.1.natAbs*a.2)) (b.1.natAbs*a.2) else cs1 (decide (b.1<0)) (b.1.natAbs*a.2)) (b.1.natAbs*a.2)=if mn=true then -(b.1*a.2) else b.1*a.2:=by
 have key:∀ (z:Int) (q:Nat),zI (decide (z<0)) (z.natAbs*q)=z*q:=by
  intro z q;unfold zI;by_cases h:z<0
  ·simp only [h,decide_true,if_true];rw [Int.natCast_mul,Int.ofNat_natAbs_of_nonpos (by omega)];rw [Int.neg_mul,Int.neg_neg]
  ·simp only [h,decide_false,if_false,Bool.false_eq_true];rw [Int.natCast_mul,Int.natAbs_of_nonneg (by omega)]
 refine ⟨by rw [jaG,key],?_⟩
 cases mn
 ·simp only [Bool.false_eq_true,if_false];rw [jaG,key]
 ·simp only [if_true];rw [jaG];have h:=key b.1 a.2;rw [←jaG] at h;rw [←h];unfold zI
  cases cs1 (decide (b.1<0)) (b.1.natAbs*a.2)<;>simp
end Go.Proofs.YtemoddmadfoaiaaGreat
