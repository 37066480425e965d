import Derived.Test.YtemoddmadfoaiaaGreatBkK
import Derived.Deep.CutRange
import Derived.Deep.CutBlock
set_option linter.unusedVariables false
set_option linter.unusedSimpArgs false
set_option maxRecDepth 100000
set_option maxHeartbeats 16000000
namespace Go.Proofs.YtemoddmadfoaiaaGreat
open Go.RowKit Big
open Lib (hid)
theorem qtO:lv 33 0=[.int .u32 0,.int .u32 0,.int .u32 0,.int .u32 0,.int .u32 0,.int .u32 0,.int .u32 0,.int .u32 0,.int .u32 0,.int .u32 0,.int .u32 0,.int .u32 0,.int .u32 0,.int .u32 0,.int .u32 0,.int .u32 0,.int .u32 0,.int .u32 0,.int .u32 0,.int .u32 0,.int .u32 0,.int .u32 0,.int .u32 0,.int .u32 0,.int .u32 0,.int .u32 0,.int .u32 0,.int .u32 0,.int .u32 0,.int .u32 0,.int .u32 0,.int .u32 0,.int .u32 0]:=by
 unfold lv cells dg;simp [List.range,List.range.loop,qfN]
structure DM (ba oa bb ob B0 B1 B2 B3:Nat) (ca cb:List Value) (w W:World) (Q R X V:Nat):Prop where
 a:At W ba oa ca
 b:At W bb ob cb
 q:At W B0 0 (lv 32 Q)
 r:At W B1 0 (lv 32 R)
 u:At W B2 0 (lv 33 X)
 v:At W B3 0 (lv 32 V)
 f:Fr B0 w W
structure DN (ba bb B0 B1 B2 B3:Nat):Prop where
 a:ba<B0
 b:bb<B0
 h1:B0<B1
 h2:B1<B2
 h3:B2<B3
section
variable {ba oa bb ob B0 B1 B2 B3:Nat} {ca cb:List Value} {w W:World} {Q R X V:Nat}
theorem DM.drew (h:DM ba oa bb ob B0 B1 B2 B3 ca cb w W Q R X V) (d:Nat):DM ba oa bb ob B0 B1 B2 B3 ca cb w (W.drewN d) Q R X V :=
 ⟨h.a.drewN d,h.b.drewN d,h.q.drewN d,h.r.drewN d,h.u.drewN d,h.v.drewN d,h.f.same d rfl⟩
theorem DM.below (h:DM ba oa bb ob B0 B1 B2 B3 ca cb w W Q R X V) {W2:World} (hb:Below W.heap.size W W2):DM ba oa bb ob B0 B1 B2 B3 ca cb w W2 Q R X V :=
 ⟨h.a.below hb,h.b.below hb,h.q.below hb,h.r.below hb,h.u.below hb,h.v.below hb,h.f.step hb⟩
theorem DM.putU (h:DM ba oa bb ob B0 B1 B2 B3 ca cb w W Q R X V) (n:DN ba bb B0 B1 B2 B3) {i d:Nat} (hi:i<33) (hd:d<BB) {X2:Nat} (hX:X2=upd X i d):DM ba oa bb ob B0 B1 B2 B3 ca cb w (W.setCell ⟨B2,i,none⟩ (.int .u32 (d:Int))) Q R X2 V:=by
 obtain ⟨n1,n2,n3,n4,n5⟩:=n;exact ⟨h.a.putOther _ _ (by show B2≠ba;omega),h.b.putOther _ _ (by show B2≠bb;omega),h.q.putOther _ _ (by show B2≠B0;omega),h.r.putOther _ _ (by show B2≠B1;omega),h.u.put rfl hi hd (by rw [hX]),h.v.putOther _ _ (by show B2≠B3;omega),h.f.put _ _ (by show B0≤B2;omega)⟩
theorem DM.putV (h:DM ba oa bb ob B0 B1 B2 B3 ca cb w W Q R X V) (n:DN ba bb B0 B1 B2 B3) {i d:Nat} (hi:i<32) (hd:d<BB) {V2:Nat} (hX:V2=upd V i d):DM ba oa bb ob B0 B1 B2 B3 ca cb w (W.setCell ⟨B3,i,none⟩ (.int .u32 (d:Int))) Q R X V2:=by
 obtain ⟨n1,n2,n3,n4,n5⟩:=n;exact ⟨h.a.putOther _ _ (by show B3≠ba;omega),h.b.putOther _ _ (by show B3≠bb;omega),h.q.putOther _ _ (by show B3≠B0;omega),h.r.putOther _ _ (by show B3≠B1;omega),h.u.putOther _ _ (by show B3≠B2;omega),h.v.put rfl hi hd (by rw [hX]),h.f.put _ _ (by show B0≤B3;omega)⟩
theorem DM.putQ (h:DM ba oa bb ob B0 B1 B2 B3 ca cb w W Q R X V) (n:DN ba bb B0 B1 B2 B3) {i d:Nat} (hi:i<32) (hd:d<BB) {Q2:Nat} (hX:Q2=upd Q i d):DM ba oa bb ob B0 B1 B2 B3 ca cb w (W.setCell ⟨B0,i,none⟩ (.int .u32 (d:Int))) Q2 R X V:=by
 obtain ⟨n1,n2,n3,n4,n5⟩:=n;exact ⟨h.a.putOther _ _ (by show B0≠ba;omega),h.b.putOther _ _ (by show B0≠bb;omega),h.q.put rfl hi hd (by rw [hX]),h.r.putOther _ _ (by show B0≠B1;omega),h.u.putOther _ _ (by show B0≠B2;omega),h.v.putOther _ _ (by show B0≠B3;omega),h.f.put _ _ (by show B0≤B0;omega)⟩
theorem DM.putR (h:DM ba oa bb ob B0 B1 B2 B3 ca cb w W Q R X V) (n:DN ba bb B0 B1 B2 B3) {i d:Nat} (hi:i<32) (hd:d<BB) {R2:Nat} (hX:R2=upd R i d):DM ba oa bb ob B0 B1 B2 B3 ca cb w (W.setCell ⟨B1,i,none⟩ (.int .u32 (d:Int))) Q R2 X V:=by
 obtain ⟨n1,n2,n3,n4,n5⟩:=n;exact ⟨h.a.putOther _ _ (by show B1≠ba;omega),h.b.putOther _ _ (by show B1≠bb;omega),h.q.putOther _ _ (by show B1≠B0;omega),h.r.put rfl hi hd (by rw [hX]),h.u.putOther _ _ (by show B1≠B2;omega),h.v.putOther _ _ (by show B1≠B3;omega),h.f.put _ _ (by show B0≤B1;omega)⟩
end
theorem qhC {Y j:Nat}:lim (Y*BB^(j+1)) j=0:=by
 have e:Y*BB^(j+1)=Y*BB*BB^j:=by rw [qdI,Nat.mul_assoc]
 unfold lim;rw [e,Nat.mul_div_cancel _ (BP j),Nat.mul_mod_left]
theorem jgM {x y s h l d:Nat} (hs:s<32) (hx:x<BB) (hh:h=x / 2^s) (hl:l=y*2^(32 - s)%BB) (hd:d=x / 2^s+y%2^s*2^(32 - s)):bits BinOp.or IntKind.u32 (h:Int) (l:Int)=(d:Int):=by
 have e3:BB=2^s*2^(32 - s):=by rw [qdB,←Nat.pow_add];congr 1;omega
 have hlo:h<2^(32 - s):=by rw [hh,Nat.div_lt_iff_lt_mul (tp _),Nat.mul_comm,←e3];exact hx
 have hl2:l=y%2^s*2^(32 - s):=by
  rw [hl,←qmK (by omega),show 32 - (32 - s)=s by omega]
 have hm:l%2^(32 - s)=0:=by rw [hl2];exact Nat.mul_mod_left _ _
 have hlB:l<BB:=by rw [hl];exact Nat.mod_lt _ qbH
 have hhB:h<BB:=by rw [hh];exact Nat.lt_of_le_of_lt (Nat.div_le_self _ _) hx
 rw [u32_or_nat _ _ (by unfold BB at hhB;exact hhB) (by unfold BB at hlB;exact hlB),Nat.or_comm,qiB hlo hm,hd,hl2,hh,Nat.add_comm]
theorem qcD {n:Nat} {c c2:List Value} {P i d:Nat} (h:c=lv n P) (h2:c2=lv n (upd P i d)) (hi:i<n) (hd:d<BB):c2=c.set i (.int .u32 (d:Int)):=by
 subst h h2;exact (qxB P hi hd).symm
def tailC:Nat→Code→Code
 | n+1,.seq _ b=>tailC n b
 | _,c=>c
def headC:Code→Code
 | .seq a _=>a
 | c=>c
theorem qkF {ca cb cq cr:List Value} {a b ba oa bb ob:Nat} (w:World) (h1:At w ba oa ca) (h2:At w bb ob cb) (hca:ca=lv 32 a) (hcb:cb=lv 32 b) (hcq:cq=lv 32 (a / b)) (hcr:cr=lv 32 (a%b)) (ha:a<BB^32) (hb:b<BB^32) (hb0:0<b) (hsm:a<b∨b<BB) :
  CB 145 #[.pointer (some ⟨ba,oa,none⟩),.pointer (some ⟨bb,ob,none⟩)] (.tuple #[.agg cq.toArray,.agg cr.toArray]) w:=by
 have HSM:=hid hsm;clear hsm;obtain ⟨m,hm32,hm⟩:=qLE a 32 ha;obtain ⟨n,hn32,hn⟩:=qLE b 32 hb;have HUA:=hid (fun W (h:At W ba oa ca)=>qeU a m ba oa W (hca ▸ h) ha hm);have HUB:=hid (fun W (h:At W bb ob cb)=>qeU b n bb ob W (hcb ▸ h) hb hn);obtain ⟨zc,hzc⟩:=nqx (cmpI a b);have HCM:=hid (fun W (h:At W ba oa ca) (h':At W bb ob cb)=>show CB 165 #[.pointer (some ⟨ba,oa,none⟩),.pointer (some ⟨bb,ob,none⟩)] (.int .i64 zc) W by rw [hzc];exact qnB a b ba oa bb ob W (hca ▸ h) (hcb ▸ h') ha hb);have V_ca:=hid hca;have V_cb:=hid hcb;have V_cq:=hid hcq;have V_cr:=hid hcr;have HV:=hid (And.intro ha (And.intro hb hb0));have HNM:=hid (And.intro hm hn);have HZ:=hid hzc;have Aba:=hid h1;have Abb:=hid h2;have lba:=h1.lt;have lbb:=h2.lt
 have hn1:1≤n:=by
  rcases Nat.eq_zero_or_pos n with h|h
  ·exfalso;rw [h] at hn;have:=hn.eq_zero;omega
  ·exact h
 clear hca hcb hcq hcr ha hb hb0 h1 h2 hm hn hzc;obtain ⟨cz,V_cz⟩:=nvx (lv 32 0);obtain ⟨B0,B1,w0,hw0,hB0,hB1,AB0,AB1,FR,FR0,HB0,hZB0,l01,hZB1⟩:=en2 w 140 140 (zM V_cz) (zM V_cz);rw [qbV] at hw0;go_enter Tryz.func145,Tryz.ntmps145
 go_upto_region 1 with fail
 rw [←hw0,←hB1,←hB0];clear hw0 hB0 hB1;replace Aba:=hid (Aba.out.below (by have:=FR.out.below;rwa [HB0.out] at this));replace Abb:=hid (Abb.out.below (by have:=FR.out.below;rwa [HB0.out] at this));rw [←HB0.out] at lba lbb;refine wE [(26,pT bb ob),(27,iT n),(28,pT ba oa),(29,iT m),(6,iT n),(7,iT m)] (by simp only [zu];rfl) (by as_aux_lemma=>kernel_rfl) ?_ ?_
 ·intro W' hW';refine fo3 ?_ ?_ ?_<|fxo (by go_big_quiet_step (exact qaJ (HUA.out _ ((Aba.out.below hW').below (qbG _ _ _))));exact wqn rfl)<|fo2 ?_ ?_<|fxn;all_goals (go_big_quiet_step (exact qaJ (HUB.out _ ((Abb.out.below hW').below (qbG _ _ _))));exact wqn rfl)
 intro β wx1 E;replace FR:=fnf FR E rfl;replace AB0:=fnh AB0 E rfl;replace AB1:=fnh AB1 E rfl;replace Aba:=fnh Aba E rfl;replace Abb:=fnh Abb E rfl;simp only [nP,zu];replace FR0:=hid FR.out.le;go_upto_region 2 with fail
 by_cases hlt:a<b
 ·have hzl:zc<0:=by rw [HZ.out];unfold cmpI;rw [if_pos hlt];decide
  have HQ:=hid (show cz=cq∧ca=cr by
   rw [V_cz.out,V_cq.out,V_ca.out,V_cr.out,Nat.div_eq_of_lt hlt,Nat.mod_eq_of_lt hlt];exact ⟨rfl,rfl⟩)
  clear hlt;refine wE [(31,pT ba oa),(32,pT bb ob),(33,iT zc),(34,bT),(30,bT)] (by simp only [zu];rfl) (by as_aux_lemma=>kernel_rfl) ?_ ?_
  ·intro W' hW';refine fo4 ?_ ?_ ?_ ?_<|fxo ?_<|fxn;all_goals (go_big_quiet_step (exact qaA (HCM.out _ ((Aba.out.below hW').below (qbG _ _ _)) ((Abb.out.below hW').below (qbG _ _ _))));exact wqn rfl)
  intro β wx2 E;replace FR:=fnf FR E rfl;replace AB0:=fnh AB0 E rfl;replace AB1:=fnh AB1 E rfl;replace Aba:=fnh Aba E rfl;simp only [nP,zu];go_upto_region 3 with fail
  refine wF [⟨false,0,4,4,B0,0,140,35,cz,0,cz,[]⟩,⟨false,0,5,5,B1,0,140,38,ca,0,ca,[]⟩] [(35,aT cz),(36,pT ba oa),(37,pT ba oa),(38,aT ca)] (by simp only [zu];rfl) (by as_aux_lemma=>kernel_rfl) ?_ ?_ (oP _ _ bnC (fP1 bnC)) ?_ ?_ ?_ ?_
  ·intro W' hW';refine fxb (qcA V_cz.out) rfl<|fo2 ?_ ?_<|lhG Aba hW' V_ca rfl<|fxs rfl<|fxs rfl<|fxn;all_goals (go_big_quiet_step (fail);exact wqn rfl)
  ·intro W' hK';have rd0:=At.keep hK' Aba.out (oP _ _ (fun _=>(by show B0≠ba;omega)) (oP _ _ (fun _=>(by show B1≠ba;omega)) (oN)));refine fxb (qcA V_cz.out) rfl<|fxi ?_<|fxi ?_<|ldG rd0 V_ca rfl<|fxs (by as_aux_lemma=>kernel_rfl)<|fxs (by as_aux_lemma=>kernel_rfl)<|fxn;all_goals (first|(refine .inr ?_;go_big_quiet_step (fail);exact wqn rfl)|exact .inl (by as_aux_lemma=>kernel_rfl))
  ·exact oP _ _ (fun _=>rmh AB0 (qG V_cz.out) (qG V_cz.out) rfl) (oP _ _ (fun _=>rmh AB1 (qG V_cz.out) (qG V_ca.out) rfl) (oN))
  ·intro q hq r hr hqn hrn e;simp only [List.mem_cons,List.not_mem_nil,or_false] at hq hr;rcases hq with rfl|rfl<;>rcases hr with rfl|rfl<;>first|rfl|(exact Bool.noConfusion hqn)|(exact Bool.noConfusion hrn)|(exfalso;simp only at e;omega)
  ·exact oP _ _ (stw rfl (qG V_cz.out) (qpO V_cz.out) (fun _=>rfl)) (oP _ _ (stw rfl (qG V_ca.out) (qpO V_ca.out) (fun _=>rfl)) (oN))
  intro β wx3 E;replace FR:=hid (FR.out.flow E (oP _ _ (fun _=>(by show B0≤B0;omega)) (oP _ _ (fun _=>(by show B0≤B1;omega)) (oN))));replace AB0:=aoh E AB0 mms;replace AB1:=aoh E AB1 (List.mem_cons_of_mem _ mms);simp only [nP,zu];rw [HQ.out.1] at AB0;rw [HQ.out.2] at AB1;go_wp2_with fail
  have hld0:=rdG AB0 V_cq;have hld1:=rdG AB1 V_cr;refine bodyPost_ret (v:=.tuple #[.agg cq.toArray,.agg cr.toArray]) (by simp [results,Tryz.results145,asAddr,hld0,hld1]) rfl ?_;exact ⟨rfl,qbL HB0 FR⟩
 ·have hzl:¬zc<0:=by rw [HZ.out];unfold cmpI;rw [if_neg hlt];split<;>decide
  have HGE:=hid (show b≤a by omega);clear hlt;refine wE [(31,pT ba oa),(32,pT bb ob),(33,iT zc),(34,bF),(30,bF)] (by simp only [zu];rfl) (by as_aux_lemma=>kernel_rfl) ?_ ?_
  ·intro W' hW';refine fo4 ?_ ?_ ?_ ?_<|fxo ?_<|fxn;all_goals (go_big_quiet_step (exact qaA (HCM.out _ ((Aba.out.below hW').below (qbG _ _ _)) ((Abb.out.below hW').below (qbG _ _ _))));exact wqn rfl)
  intro β wx2 E;replace FR:=fnf FR E rfl;replace AB0:=fnh AB0 E rfl;replace AB1:=fnh AB1 E rfl;replace Aba:=fnh Aba E rfl;replace Abb:=fnh Abb E rfl;simp only [nP,zu];replace FR0:=hid FR.out.le;by_cases hn2:n=1
  ·subst hn2;have HBL:=hid (show b<BB by have:=HNM.out.2.1;simpa using this);go_upto_region 5 with fail
   refine wF [⟨false,0,4,3,B0,0,140,44,ca,0,ca,[]⟩] [(42,pT ba oa),(43,pT ba oa),(44,aT ca)] (by simp only [zu];rfl) (by as_aux_lemma=>kernel_rfl) ?_ ?_ (fP1 bnC) ?_ uno ?_ ?_
   ·intro W' hW';refine fo2 ?_ ?_<|lhG Aba hW' V_ca rfl<|fxs rfl<|fxn;all_goals (go_big_quiet_step (fail);exact wqn rfl)
   ·intro W' hK';have rd0:=akh Aba hK' (by omega);refine fxi ?_<|fxi ?_<|ldG rd0 V_ca rfl<|fxs (by as_aux_lemma=>kernel_rfl)<|fxn;all_goals (first|(refine .inr ?_;go_big_quiet_step (fail);exact wqn rfl)|exact .inl (by as_aux_lemma=>kernel_rfl))
   ·exact fP1 (fun _=>rmh AB0 (qG V_cz.out) (qG V_ca.out) rfl)
   ·exact fP1 (sG V_ca (fun _=>rfl) rfl)
   intro β wx3 E;replace FR:=ffh FR E (by omega);replace AB0:=aoh E AB0 mms;replace AB1:=afh AB1 E (by omega);replace Aba:=afh Aba E (by omega);replace Abb:=afh Abb E (by omega);simp only [nP,zu];replace FR0:=hid FR.out.le;have hc0:=Abb.out.limbO V_cb.out (show b=lim b 0 by simp only [lim,Nat.pow_zero,Nat.div_one];exact (Nat.mod_eq_of_lt HBL.out).symm) (show 0<32 by omega);rw [Nat.add_zero] at hc0;have hsh:=jaH wx3 AB0.out V_ca.out V_cq.out HV.out.1 HV.out.2.2 HBL.out;obtain ⟨rr,hrr⟩:=nqx (a%b);rw [←hrr] at hsh;have HSH:=hid hsh;have HRB:=hid (show rr<BB by rw [hrr];exact Nat.lt_trans (Nat.mod_lt _ HV.out.2.2) HBL.out);have HRR:=hid hrr;have n10:B1≠B0:=by omega
   clear hsh hrr;go_upto_region 6 with fail
   go_cut [] from 45 to 50 (fun wx=>At wx B0 0 cq∧At wx B1 0 cr∧Fr B0 w wx)
   case first =>
    go_wp2_with (go_at_call 166;refine HSH.out.mono ?_;rintro e wy ⟨rfl,hOnly,hAq⟩;have hc2:=((AB1.out.only hOnly (by omega)).cellV V_cz.out (qfN 0).symm (show 0<32 by omega)).1;have hc3:=((AB1.out.only hOnly (by omega)).cellV V_cz.out (qfN 0).symm (show 0<32 by omega)).2)
    go_meet
    exact ⟨hAq.putOther _ _ n10,(AB1.out.only hOnly (by omega)).put V_cz.out (by omega) HRB.out (by rw [V_cr.out,qeB (show 0<BB^0 by simp),←HRR.out];simp),(FR.out.only hOnly hZB0).put _ _ hZB1⟩
   case rest =>
    clear Aba Abb AB0 AB1 FR FR0 hc0 HSH;obtain ⟨hA0,hA1,hF⟩:=hcut;have AB0:=hid hA0;have AB1:=hid hA1;have FR:=hid hF;clear hA0 hA1 hF;go_upto_region 7 with fail
    have sq:=qG V_cq.out;have sr:=qG V_cr.out;have lcq:cq.length=32:=by rw [V_cq.out,qlL]
    have lcr:cr.length=32:=by rw [V_cr.out,qlL]
    refine qcO 140 _ _ _ _ _ _ _ B0 B1 B0 B1 cq cr (by as_aux_lemma=>kernel_rfl) (by as_aux_lemma=>kernel_rfl) (by as_aux_lemma=>kernel_rfl) (by as_aux_lemma=>kernel_rfl) (by as_aux_lemma=>kernel_rfl) (by as_aux_lemma=>kernel_rfl) (by as_aux_lemma=>kernel_rfl) (by as_aux_lemma=>kernel_rfl) (by as_aux_lemma=>kernel_rfl) rfl rfl rfl rfl rfl rfl rfl rfl Tryz.underlying140 rfl sq sr (qpO V_cq.out) (qpO V_cr.out) rfl rfl rfl rfl rfl rfl AB0.out.range AB1.out.range AB0.out.there AB1.out.there (by omega) rfl (.inl rfl) (by omega) ?_;simp only [zq];have HWE:=hid (qaC (show w.heap.size≤B1 by rw [←HB0.out];exact hZB1) cr 0 _ (qaC (show w.heap.size≤B0 by rw [←HB0.out];exact hZB0) cq 0 _ (qbN (show Below w.heap.size w wc by rw [←HB0.out];exact FR.out.below))));have g1:=World.rangeAt_setCells_same wc.drew B0 0 cq AB0.out.there;have g2:=qaL g1 cr B1 0 (by omega);have g3:=World.rangeAt_setCells_same (wc.drew.setCells B0 0 cq) B1 0 cr (qbD (b2:=B0) (show wc.drew.there B1 0 cr.length from fun j hj=>AB1.out.there j hj) cq 0 (by omega));go_wp2_with fail
    have hld1:=run_loadVar_mid (P:=Tryz.prog) _ _ _ _ _ _ g2 Tryz.underlying140 rfl sq;have hld2:=run_loadVar_mid (P:=Tryz.prog) _ _ _ _ _ _ g3 Tryz.underlying140 rfl sr;refine bodyPost_ret (v:=.tuple #[.agg cq.toArray,.agg cr.toArray]) (by simp [results,Tryz.results145,asAddr,hld1,hld2]) rfl ?_;exact ⟨rfl,HWE.out⟩
  ·exfalso
   have h1:=HNM.out.2.2 (by omega);have h2:=Nat.pow_le_pow_right qbH (show 1≤n - 1 by omega);rw [Nat.pow_one] at h2;have h3:=HGE.out;have h4:=HSM.out;omega
theorem qvX {ca cb cq cr:List Value} {a b ba oa bb ob m n n1 n2 s V X0 B0 B1 B2 B3:Nat} {w wr:World} {c2 c3 c11 c12 c13 c14 c15 c16 c17 c18 c19 c20 c21 c22 c23 c24 c25 c26 c27 c28 c29 c30 c31 c32 c33 c34 c35 c36 c37 c38 c39 c40 c41 c42 c43 c44 c45 c46 c47 c48 c49 c50 c51 c52 c53 c54 c55 c56 c57 c58 c59 c60 c61 c62 c63 c64 c65 c66 c67 c68 c69 c70 c71 c72 c73 c74 c75 c76 c77 c78 c79 c80 c81 c82 c83 c84 c85 c86 c87 c88 c89 c90 c91 c92 c93 c94 c95 c96 c97 c98 c99 c100 c101 c102 c103 c104 c105 c106 c107 c108 c109 c110 c111 c112 c113 c114 c115 c116 c117 c118 c119 c120 c121 c122 c123 c124 c125 c126 c127 c128 c129 c130 c131 c132 c133 c134 c135 c136 c137 c138 c139 c140 c141 c142 c143 c144 c145 c146 c147 c148 c149 c150 c151 c152 c153 c154 c155 c156 c157 c158 c159 c160 c161 c162 c163 c164 c165 c166 c167 c168 c169 c170 c171 c172 c173 c174 c175 c176 c177 c178 c179 c180 c181 c182 c183 c184 c185 c186 c187 c188 c189 c190 c191 c192 c193 c194 c195 c196 c197 c198 c199 c200 c201 c202 c203 c204 c205 c206 c207 c208 c209 c210 c211 c212 c213 c214 c215 c216 c217 c218 c219 c220 c221 c222 c223 c224 c225 c226 c227 c228 c229 c230 c231 c232 c233 c234 c235 c236 c237 c238 c239 c240 c241 c242 c243 c244 c245 c246 c247 c248 c249 c250 c251 c252 c253 c254 c255 c256 c257 c258 c259 c260 c261 c262 c263 c264 c265 c266 c267 c268 c269 c270 c271 c272 c273 c274 c275 c276 c277 c278 c279 c280 c281 c282 c283 c284 c285 c286 c287 c288 c289 c290 c291 c292 c293 c294 c295 c296 c297 c298 c299 c300 c301 c302 c303 c304 c305 c306 c307:Value}
  (hn32:n≤32) (HNM:Hid (IsLimbs a m∧IsLimbs b n)) (HV:Hid (a<BB^32∧b<BB^32∧0<b)) (V_cq:Hid (cq=lv 32 (a / b))) (V_cr:Hid (cr=lv 32 (a%b))) (HB0:Hid (B0=w.heap.size))
  (l01:B0<B1) (hZB1:B0≤B1) (hZB0:B0≤B0) (lba:ba<B0) (lbb:bb<B0) (hs32:s<32) (HVB:Hid (V<BB^n∧BB / 2≤lim V n1∧0<V)) (HX0:Hid (X0<V*BB^(m - n+1))) (HXB:Hid (X0<BB^(m+1)))
  (HVX:Hid (V=b*2^s∧X0=a*2^s)) (HNB:Hid (2≤n∧n≤m∧n1=n - 1∧n2=n - 2)) (hn1l:n1<32) (h12:B1<B2) (h23:B2<B3) (HDN:Hid (DN ba bb B0 B1 B2 B3)) (HM:Hid (DM ba oa bb ob B0 B1 B2 B3 ca cb w wr 0 0 X0 V))
  (K:Act→World→Prop) (hK:∀ a w1,Code.wp Tryz.prog (tailC 9 (Tryz.f145.body.getD .skip)) (bodyPost Tryz.prog Tryz.f145 fun e w'=>e=.returned (.tuple #[.agg cq.toArray,.agg cr.toArray])∧Below w.heap.size w w') a w1→K a w1) :
  Code.wp Tryz.prog (headC (tailC 8 (Tryz.f145.body.getD .skip))) (Exit.then K (bodyPost Tryz.prog Tryz.f145 fun e w'=>e=.returned (.tuple #[.agg cq.toArray,.agg cr.toArray])∧Below w.heap.size w w')) ⟨(.pointer (some ⟨ba,oa,none⟩)::.pointer (some ⟨bb,ob,none⟩)::c2::c3::.pointer (some ⟨B0,0,none⟩)::.pointer (some ⟨B1,0,none⟩)::.int .i64 (n:Int)::.int .i64 (m:Int)::.int .i64 (s:Int)::.pointer (some ⟨B2,0,none⟩)::.pointer (some ⟨B3,0,none⟩)::c11::c12::c13::c14::c15::c16::c17::c18::c19::c20::c21::c22::c23::c24::c25::c26::c27::c28::c29::c30::c31::c32::c33::c34::c35::c36::c37::c38::c39::c40::c41::c42::c43::c44::c45::c46::c47::c48::c49::c50::c51::c52::c53::c54::c55::c56::c57::c58::c59::c60::c61::c62::c63::c64::c65::c66::c67::c68::c69::c70::c71::c72::c73::c74::c75::c76::c77::c78::c79::c80::c81::c82::c83::c84::c85::c86::c87::c88::c89::c90::c91::c92::c93::c94::c95::c96::c97::c98::c99::c100::c101::c102::c103::c104::c105::c106::c107::c108::c109::c110::c111::c112::c113::c114::c115::c116::c117::c118::c119::c120::c121::c122::c123::c124::c125::c126::c127::c128::c129::c130::c131::c132::c133::c134::c135::c136::c137::c138::c139::c140::c141::c142::c143::c144::c145::c146::c147::c148::c149::c150::c151::c152::c153::c154::c155::c156::c157::c158::c159::c160::c161::c162::c163::c164::c165::c166::c167::c168::c169::c170::c171::c172::c173::c174::c175::c176::c177::c178::c179::c180::c181::c182::c183::c184::c185::c186::c187::c188::c189::c190::c191::c192::c193::c194::c195::c196::c197::c198::c199::c200::c201::c202::c203::c204::c205::c206::c207::c208::c209::c210::c211::c212::c213::c214::c215::c216::c217::c218::c219::c220::c221::c222::c223::c224::c225::c226::c227::c228::c229::c230::c231::c232::c233::c234::c235::c236::c237::c238::c239::c240::c241::c242::c243::c244::c245::c246::c247::c248::c249::c250::c251::c252::c253::c254::c255::c256::c257::c258::c259::c260::c261::c262::c263::c264::c265::c266::c267::c268::c269::c270::c271::c272::c273::c274::c275::c276::c277::c278::c279::c280::c281::c282::c283::c284::c285::c286::c287::c288::c289::c290::c291::c292::c293::c294::c295::c296::c297::c298::c299::c300::c301::c302::c303::c304::c305::c306::c307::[]).toArray,[]⟩ wr:=by
 have hm32:m≤32:=by
  rcases Nat.lt_or_ge 32 m with h|h
  ·exfalso
   have h1:=HNM.out.1.2 (by omega);have h2:=Nat.pow_le_pow_right qbH (show 32≤m - 1 by omega);have h3:=HV.out.1;omega
  ·exact h
 have hs0i:(0:Int)≤(s:Int):=by omega
 have ew1:IntKind.i64.wrap ((n:Int) - 1)=(n1:Int):=by have:=HNB.out;rw [IntWalk.i64_in _ (by omega)];omega
 have ew1':(n:Int) - 1=(n1:Int):=by have:=HNB.out;omega
 have ew1'':IntKind.i64.wrap (n1:Int)=(n1:Int):=IntWalk.i64_in _ (by omega);have hn1i:(0:Int)≤(n1:Int):=by omega
 let Q':Exit→Act→World→Prop:=(bodyPost Tryz.prog Tryz.f145 fun e w'=>e=.returned (.tuple #[.agg cq.toArray,.agg cr.toArray])∧Below w.heap.size w w')
 replace hK:∀ a w1,Code.wp Tryz.prog (tailC 9 (Tryz.f145.body.getD .skip)) Q' a w1→K a w1:=hK;show Code.wp Tryz.prog (headC (tailC 8 (Tryz.f145.body.getD .skip))) (Exit.then K Q') _ _
 conv at hK=>enter [a,w1,1,2];whnf
 conv=>arg 2;whnf
 obtain ⟨mn,hmn'⟩:=nqx (m - n);obtain ⟨high,hhi⟩:=nqx (lim V n1);obtain ⟨next,hne⟩:=nqx (lim V n2);obtain ⟨hNa,hNb,hNc,hNd⟩:=HNB.out;have hn2l:n2<32:=by omega
 have ew2:IntKind.i64.wrap ((n:Int) - 2)=(n2:Int):=by rw [IntWalk.i64_in _ (by omega)];omega
 have ew2':(n:Int) - 2=(n2:Int):=by omega
 have hn2i:(0:Int)≤(n2:Int):=by omega
 have emn:IntKind.i64.wrap ((m:Int) - (n:Int))=(mn:Int):=by rw [IntWalk.i64_in _ (by omega)];omega
 have emn':(m:Int) - (n:Int)=(mn:Int):=by omega
 have hc1:=(HM.out.v.cellV rfl hhi hn1l).1;have hc2:=(HM.out.v.cellV rfl hne hn2l).1;have hhB:high<BB:=hhi ▸ qaG V n1;have hnB:next<BB:=hne ▸ qaG V n2
 have hwh:IntKind.u64.wrap (high:Int)=(high:Int):=by have:=hhB;unfold BB at this;rw [IntKind.wrap_u64];omega
 have hwn:IntKind.u64.wrap (next:Int)=(next:Int):=by have:=hnB;unfold BB at this;rw [IntKind.wrap_u64];omega
 have HHN:=hid (And.intro (show high=lim V (n - 1) by rw [hhi,hNc]) (show next=lim V (n - 2) by rw [hne,hNd]));have HHB:=hid (And.intro (show BB / 2≤high by rw [hhi];exact HVB.out.2.1) (And.intro hhB hnB));have HX1:=hid (show X0<V*BB^(mn+1) by rw [hmn'];exact HX0.out);have HMN:=hid (show mn+n=m by omega)
 have HVN:=hid (show BB^(n - 1)≤V by
  rw [HVX.out.1];exact Nat.le_trans (HNM.out.2.2 (by omega)) (Nat.le_mul_of_pos_right _ (tp s)))
 have hh0i:(0:Int)<(high:Int):=by have:=HHB.out.1;unfold BB at this;omega
 have hhz:((high:Int)==0)=false:=beq_eq_false_iff_ne.2 (by omega);have hhz1:(high:Int)≠0:=by omega
 clear hhi hne hNa hNb hNc hNd hmn' hhB hnB
 go_quiet (fail)
 go_wp2
 go_loopg [15] (mn+1) (fun g jv wr=>∃ (k:Nat) (z:Int) (Y X:Nat),k≤mn+1∧k≤g∧z=(k:Int) - 1∧jv=.int .i64 z∧X<V*BB^k∧Y*BB^k*V+X=X0∧DM ba oa bb ob B0 B1 B2 B3 ca cb w wr (Y*BB^k) 0 X V)
 case atStart=>exact ⟨mn+1,(mn:Int),0,X0,by omega,by omega,by omega,rfl,HX1.out,by simp,by rw [Nat.zero_mul];exact HM.out.drew _⟩
 case round =>
  clear HM hc1 hc2;obtain ⟨k,z,Y,X,hk,hg,hz,rfl,hX,hA,hM⟩:=hrel;have HM:=hid hM;have HXA:=hid (And.intro hX hA);clear hM hX hA;rcases Nat.eq_zero_or_pos k with hk0|hk0
  rotate_left
  ·obtain ⟨j,hj⟩:=nqx (k - 1);have hz1:z=(j:Int):=by omega
   subst hz1;have hkj:k=j+1:=by omega
   subst hkj;clear hz hj hk0;obtain ⟨G,hG⟩:=nqx gk;rw [←hG] at hg;have HGG:=hid hG;clear hG;obtain ⟨jn,hjn⟩:=nqx (j+n);obtain ⟨jn1,hjn1⟩:=nqx (j+n - 1);obtain ⟨jn2,hjn2⟩:=nqx (j+n - 2);obtain ⟨u2,hu2⟩:=nqx (lim X jn);obtain ⟨u1,hu1⟩:=nqx (lim X jn1);obtain ⟨u0,hu0⟩:=nqx (lim X jn2);obtain ⟨xx,hxx⟩:=nqx (u2*BB+u1);obtain ⟨q,hq⟩:=nqx (X / (V*BB^j));have hn2':=HNB.out.1;have hmn2:=HMN.out;obtain ⟨hT1,hT2,hT3,hT4,hT5⟩:=jhD (n:=n) (j:=j) hn2' HXA.out.1 HVB.out.1 HVB.out.2.2 HHN.out.1 HHN.out.2 (hjn ▸ hu2) (hjn1 ▸ hu1) (hjn2 ▸ hu0) hxx hq;have hu2B:u2<BB:=hu2 ▸ qaG _ _;have hu1B:u1<BB:=hu1 ▸ qaG _ _;have hu0B:u0<BB:=hu0 ▸ qaG _ _;have hjl:jn<33:=by omega
   have hj1l:jn1<33:=by omega
   have hj2l:jn2<33:=by omega
   have hj1i:(0:Int)≤(jn1:Int):=by omega
   have hj2i:(0:Int)≤(jn2:Int):=by omega
   have hj32:j<32:=by omega
   have ej:IntKind.i64.wrap ((j:Int)+(n:Int))=(jn:Int):=by rw [IntWalk.i64_in _ (by omega)];omega
   have ej':(j:Int)+(n:Int)=(jn:Int):=by omega
   have ej1:IntKind.i64.wrap ((jn:Int) - 1)=(jn1:Int):=by rw [IntWalk.i64_in _ (by omega)];omega
   have ej1':(jn:Int) - 1=(jn1:Int):=by omega
   have ej2:IntKind.i64.wrap ((jn:Int) - 2)=(jn2:Int):=by rw [IntWalk.i64_in _ (by omega)];omega
   have ej2':(jn:Int) - 2=(jn2:Int):=by omega
   have ejm:IntKind.i64.wrap ((j:Int) - 1)=(j:Int) - 1:=IntWalk.i64_in _ (by omega);have ejw:IntKind.i64.wrap (jn:Int)=(jn:Int):=IntWalk.i64_in _ (by omega);have hor:=qyH (show u2<4294967296 from hu2B) (show u1<4294967296 from hu1B) (show xx=u2*4294967296+u1 from hxx);have hwu2:IntKind.u64.wrap (u2:Int)=(u2:Int):=by have:=hu2B;unfold BB at this;rw [IntKind.wrap_u64];omega
   have hwu1:IntKind.u64.wrap (u1:Int)=(u1:Int):=by have:=hu1B;unfold BB at this;rw [IntKind.wrap_u64];omega
   have hwu0:IntKind.u64.wrap (u0:Int)=(u0:Int):=by have:=hu0B;unfold BB at this;rw [IntKind.wrap_u64];omega
   obtain ⟨g0,hg0⟩:=nqx (xx / high);obtain ⟨r0,hr0⟩:=nqx (xx%high);have hst:=jbE (show 0<high by omega) hT5 hu0B hg0 hr0;have hgt:g0≤BB+1:=by rw [hg0];exact qxR HHB.out.1 hxx hu1B hT3
   have hr0B:r0<BB:=by rw [hr0];exact Nat.lt_trans (Nat.mod_lt _ (by omega)) HHB.out.2.1
   have e1:Int.tdiv (xx:Int) (high:Int)=(g0:Int):=by rw [hg0];exact (Int.ofNat_tdiv xx high).symm
   have e2:Int.tmod (xx:Int) (high:Int)=(r0:Int):=by rw [hr0];exact (Int.ofNat_tmod xx high).symm
   have e3:IntKind.u64.wrap (g0:Int)=(g0:Int):=by have:=hgt;unfold BB at this;rw [IntKind.wrap_u64];omega
   have e4:IntKind.u64.wrap (r0:Int)=(r0:Int):=by have:=hr0B;unfold BB at this;rw [IntKind.wrap_u64];omega
   have HST:=hid (And.intro hst (And.intro hgt hr0B));have HT:=hid (And.intro hT4 hT5);have HK:=hid (fun (g:Nat) (h1:g*(high*BB+next)≤xx*BB+u0) (h2:g<BB)=>jfK hn2' hT2 hT1 hq HVN.out h1 h2);have HBR:=hid (fun (g r:Nat) (h1:g*high+r=xx) (h2:BB≤r)=>jbH (u0:=u0) (show 0<high by omega) h1 hxx hu1B hT3 HHB.out.2.2 h2)
   have HXB2:=hid (show X<BB^(n+j+1) by
    have h1:V*BB^(j+1)<BB^n*BB^(j+1):=Nat.mul_lt_mul_of_pos_right HVB.out.1 (BP _);rw [←Nat.pow_add,show n+(j+1)=n+j+1 by omega] at h1
    have:=HXA.out.1
    omega)
   have HQ:=hid hq;have HQB:=hid hT4;have HU0:=hid (And.intro hu0 hu0B);have HJN:=hid hjn;have hcu2:=(HM.out.u.cellV rfl hu2 hjl).1;have hcu1:=(HM.out.u.cellV rfl hu1 hj1l).1;clear hn2' hmn2 hT1 hT2 hT3 hT4 hT5 hu2B hu1B hu0B hxx hq hg0 hr0 hst hgt hr0B hu2 hu1 hu0 hjn hjn1 hjn2;go_wp2
   go_quiet (fail)
   go_wp2
   go_quiet (fail)
   go_upto_block 7 with fail
   go_cut [17] from 145 to 279 (fun gv wx=>∃ g:Nat,gv=.int .u64 (g:Int)∧q≤g∧g≤q+1∧g<BB∧DM ba oa bb ob B0 B1 B2 B3 ca cb w wx (Y*BB^(j+1)) 0 X V)
   case first =>
    go_wp2_with fail
    go_loopg [17,18] (BB+2) (fun gg gv rv wr2=>∃ (g r:Nat),g≤BB+1∧g≤gg∧gv=.int .u64 (g:Int)∧rv=.int .u64 (r:Int)∧r<BB∧g*high+r=xx∧q≤g∧DM ba oa bb ob B0 B1 B2 B3 ca cb w wr2 (Y*BB^(j+1)) 0 X V)
    case atStart=>exact ⟨g0,r0,HST.out.2.1,by have:=HST.out.2.1;omega,rfl,rfl,HST.out.2.2,HST.out.1.1,HST.out.1.2,by first|exact HM.out.drew _|exact (HM.out.drew _).drew _⟩
    case round =>
     clear HM hcu2 hcu1;obtain ⟨g,r,hgB,hgg,rfl,rfl,hr,hgx,hqg,hM⟩:=hrel;have HM:=hid hM;have HG:=hid (And.intro hgx (And.intro hqg hr));have hcu0:=(HM.out.u.cellV rfl HU0.out.1 hj2l).1;clear hM hgx hqg;obtain ⟨g1,hg1⟩:=nqx (g - 1);obtain ⟨r1,hr1⟩:=nqx (r+high);have er1:IntKind.u64.wrap ((r:Int)+(high:Int))=(r1:Int):=by have:=hr;have:=HHB.out.2.1;unfold BB at *;rw [IntKind.wrap_u64];omega
     have HR1:=hid (And.intro hg1 hr1);clear hr hg1 hr1;by_cases hc:BB≤g
     ·have hci:(4294967295:Int)<(g:Int):=by unfold BB at hc;omega
      have HMORE:=hid (qxH HG.out.1 HG.out.2.1 HT.out.1 HT.out.2 (.inl hc));clear hc;have eg1:IntKind.u64.wrap ((g:Int) - 1)=(g1:Int):=by have h1:=HMORE.out;have h2:=HR1.out.1;have:=hgB;unfold BB at this;rw [IntKind.wrap_u64];omega
      have eg1':(g:Int) - 1=(g1:Int):=by have h1:=HMORE.out;have h2:=HR1.out.1;omega
      have eg2:IntKind.u64.wrap (g1:Int)=(g1:Int):=by have h1:=HMORE.out;have h2:=HR1.out.1;have:=hgB;unfold BB at this;rw [IntKind.wrap_u64];omega
      have HG1:=hid (show g1*high+r1=xx by
       have h1:=HMORE.out;obtain ⟨h2,h3⟩:=HR1.out;have h4:=HG.out.1;have h5:g*high=g1*high+high:=by rw [show g=g1+1 by omega,Nat.succ_mul]
       omega)
      by_cases hbr:BB≤r1
      ·have hbri:(4294967295:Int)<(r1:Int):=by unfold BB at hbr;omega
       have HB1:=hid (HBR.out g1 r1 HG1.out hbr);have HEND:=hid (HK.out g1 (qjL HG1.out HB1.out.2) HB1.out.1);clear hbr;go_wp2
       go_meet
       exact ⟨g1,rfl,by have h1:=HMORE.out;have h2:=HR1.out.1;omega,HEND.out,HB1.out.1,HM.out⟩
      ·have hbri:¬(4294967295:Int)<(r1:Int):=by unfold BB at hbr;omega
       have HB1:=hid (show r1<BB by omega);clear hbr;go_wp2
       go_roundg (gk - 1)
       case measure=>have h1:=HMORE.out;omega
       case rel=>exact ⟨g1,r1,by have h2:=HR1.out.1;omega,by have h1:=HMORE.out;have h2:=HR1.out.1;omega,rfl,rfl,HB1.out,HG1.out,by have h1:=HMORE.out;have h2:=HR1.out.1;omega,HM.out⟩
     ·have hci:¬(4294967295:Int)<(g:Int):=by unfold BB at hc;omega
      obtain ⟨pp,hpp⟩:=nqx (g*next);obtain ⟨yy,hyy⟩:=nqx (r*BB+u0)
      have hpw:IntKind.u64.wrap ((g:Int)*(next:Int))=(pp:Int):=by
       have h1:g*next≤(BB - 1)*(BB - 1):=Nat.mul_le_mul (by omega) (by have:=HHB.out.2.2;omega)
       have h2:(BB - 1)*(BB - 1)=18446744065119617025:=by unfold BB;decide
       rw [←hpp,h2] at h1;rw [←Int.natCast_mul,←hpp,IntKind.wrap_u64];omega
      have hyo:=qyH (show r<4294967296 from HG.out.2.2) (show u0<4294967296 from HU0.out.2) (show yy=r*4294967296+u0 from hyy);have HPY:=hid (And.intro hpp (And.intro hyy (show g<BB by omega)));clear hpp hyy hc;by_cases hyp:yy<pp
      ·have hypi:(yy:Int)<(pp:Int):=by omega
       have HMORE:=hid (qxH HG.out.1 HG.out.2.1 HT.out.1 HT.out.2 (.inr (by rw [←HPY.out.1,←HPY.out.2.1];exact hyp)));clear hyp;have eg1:IntKind.u64.wrap ((g:Int) - 1)=(g1:Int):=by have h1:=HMORE.out;have h2:=HR1.out.1;have:=hgB;unfold BB at this;rw [IntKind.wrap_u64];omega
       have eg1':(g:Int) - 1=(g1:Int):=by have h1:=HMORE.out;have h2:=HR1.out.1;omega
       have eg2:IntKind.u64.wrap (g1:Int)=(g1:Int):=by have h1:=HMORE.out;have h2:=HR1.out.1;have:=hgB;unfold BB at this;rw [IntKind.wrap_u64];omega
       have HG1:=hid (show g1*high+r1=xx by
        have h1:=HMORE.out;obtain ⟨h2,h3⟩:=HR1.out;have h4:=HG.out.1;have h5:g*high=g1*high+high:=by rw [show g=g1+1 by omega,Nat.succ_mul]
        omega)
       by_cases hbr:BB≤r1
       ·have hbri:(4294967295:Int)<(r1:Int):=by unfold BB at hbr;omega
        have HB1:=hid (HBR.out g1 r1 HG1.out hbr);have HEND:=hid (HK.out g1 (qjL HG1.out HB1.out.2) HB1.out.1);clear hbr;go_wp2
        go_meet
        exact ⟨g1,rfl,by have h1:=HMORE.out;have h2:=HR1.out.1;omega,HEND.out,HB1.out.1,HM.out⟩
       ·have hbri:¬(4294967295:Int)<(r1:Int):=by unfold BB at hbr;omega
        have HB1:=hid (show r1<BB by omega);clear hbr;go_wp2
        go_roundg (gk - 1)
        case measure=>have h1:=HMORE.out;omega
        case rel=>exact ⟨g1,r1,by have h2:=HR1.out.1;omega,by have h1:=HMORE.out;have h2:=HR1.out.1;omega,rfl,rfl,HB1.out,HG1.out,by have h1:=HMORE.out;have h2:=HR1.out.1;omega,HM.out⟩
      ·have hypi:¬(yy:Int)<(pp:Int):=by omega
       have HEND:=hid (HK.out g (qjL HG.out.1 (by rw [←HPY.out.1,←HPY.out.2.1];omega)) HPY.out.2.2);clear hyp;go_wp2
       go_meet
       exact ⟨g,rfl,HG.out.2.1,HEND.out,HPY.out.2.2,HM.out⟩
   case rest =>
    clear HM hcu2 hcu1 HST HT HK HBR e1 e2 e3 e4 hor hwu2 hwu1 hwu0 HU0 hhz hhz1 hh0i;obtain ⟨g,rfl,hqg,hgq,hgB,hM⟩:=hcut;have HM:=hid hM;have HG:=hid (And.intro hqg (And.intro hgq hgB));clear hM hqg hgq;go_wp2_with fail
    go_loopg [19,20,196] n (fun g2 bv cv iv wr2=>∃ (i P c b:Nat),i≤n∧n - i≤g2∧bv=.int .u32 (b:Int)∧cv=.int .u64 (c:Int)∧iv=.int .i64 (i:Int)∧c<BB∧b≤1∧P<BB^(n+j+1)∧P+g*(V%BB^i)*BB^j=X+(c+b)*BB^(i+j)∧DM ba oa bb ob B0 B1 B2 B3 ca cb w wr2 (Y*BB^(j+1)) 0 P V)
    case atStart=>exact ⟨0,X,0,0,by omega,by omega,rfl,rfl,rfl,qbH,by omega,HXB2.out,by simp [Nat.mod_one],HM.out⟩
    case round =>
     clear HM;obtain ⟨i,P,c,b1,hi,hg2,rfl,rfl,rfl,hcB,hb1,hPB,hE,hM⟩:=hrel;have HM:=hid hM;have HE:=hid (And.intro hE (And.intro hPB (And.intro hcB hb1)));clear hM hE hPB;by_cases hlt:i<n
     ·obtain ⟨t,ht⟩:=nqx (i+j);have hnn:=HNB.out;have hmn2:=HMN.out;have ht33:t<33:=by omega
      have hi32:i<32:=by omega
      have hij:IntKind.i64.wrap ((i:Int)+(j:Int))=(t:Int):=by rw [IntWalk.i64_in _ (by omega)];omega
      have hij':(i:Int)+(j:Int)=(t:Int):=by omega
      have htw:IntKind.i64.wrap (t:Int)=(t:Int):=IntWalk.i64_in _ (by omega);obtain ⟨v,hv⟩:=nqx (lim V i);obtain ⟨u,hu⟩:=nqx (lim P t);have hvl:v<BB:=hv ▸ qaG V i;have hul:u<BB:=hu ▸ qaG P t;obtain ⟨tl,th,htl,hth,htt⟩:=jaT HG.out.2.2 hvl HE.out.2.2.1;obtain ⟨d,b2,hd,hb2,hdd⟩:=qmZ hul htl HE.out.2.2.2;have cv1:=(HM.out.v.cellV rfl hv hi32).1;obtain ⟨cu1,fu1⟩:=HM.out.u.cellV rfl hu ht33;obtain ⟨p1,hp1⟩:=nqx (g*v);obtain ⟨p2,hp2⟩:=nqx (g*v+c)
      have hp1B:p1≤18446744065119617025:=by
       have h1:g*v≤(BB - 1)*(BB - 1):=Nat.mul_le_mul (by omega) (by omega);have h2:(BB - 1)*(BB - 1)=18446744065119617025:=by unfold BB;decide
       rw [h2] at h1;rw [hp1];exact h1
      have ep1:IntKind.u64.wrap ((g:Int)*(v:Int))=(p1:Int):=by rw [←Int.natCast_mul,←hp1,IntKind.wrap_u64];omega
      have ep2:IntKind.u64.wrap ((p1:Int)+(c:Int))=(p2:Int):=by have:=HE.out.2.2.1;unfold BB at this;rw [IntKind.wrap_u64];omega
      have hp2t:p2=tl+th*4294967296:=by rw [hp2,htt];rfl
      have hvw:IntKind.u64.wrap (v:Int)=(v:Int):=by unfold BB at hvl;rw [IntKind.wrap_u64];omega
      have ep3:(p2:Int) / 4294967296=(th:Int):=by unfold BB at htl;omega
      have ep4:IntKind.u32.wrap (p2:Int)=(tl:Int):=by unfold BB at htl;rw [IntKind.wrap_u32];omega
      have hthw:IntKind.u64.wrap (th:Int)=(th:Int):=by unfold BB at hth;rw [IntKind.wrap_u64];omega
      have HSB:=hid (fun W=>qmA u tl b1 d b2 W hul htl HE.out.2.2.2 hdd hd);have HSTEP:=hid (jaF HE.out.1 (by rw [←hv];exact htt) (by rw [←ht,←hu];exact hdd));have HUPB:=hid (show upd P t d<BB^(n+j+1) from qkA HE.out.2.1 (by omega) hd);have HD:=hid (And.intro hd (And.intro hth hb2));have HT:=hid ht;clear hnn hmn2 ht hv hu hvl hul htl hth htt hd hb2 hdd hp1 hp2 hp1B hp2t hcB hb1 hgB;go_wp2_with (go_at_call 168;refine (HSB.out _).mono ?_;rintro e w' ⟨rfl,rfl⟩)
      go_roundg (gk - 1)
      case measure=>omega
      case rel=>exact ⟨i+1,upd P t d,th,b2,by omega,by omega,rfl,rfl,by go_num,HD.out.2.1,HD.out.2.2,HUPB.out,by have:=HSTEP.out;rwa [←HT.out] at this,HM.out.putU HDN.out ht33 HD.out.1 rfl⟩
     ·have hin:i=n:=by omega
      replace HE:=hid (show P+g*(V%BB^n)*BB^j=X+(c+b1)*BB^(n+j)∧P<BB^(n+j+1) by have h:=HE.out;rw [hin] at h;exact ⟨h.1,h.2.1⟩);obtain ⟨u,hu⟩:=nqx (lim P jn);have hul:u<BB:=hu ▸ qaG P jn;obtain ⟨d,b2,hd,hb2,hdd⟩:=qmZ hul hcB hb1;obtain ⟨cu1,fu1⟩:=HM.out.u.cellV rfl hu hjl;have hcw:IntKind.u32.wrap (c:Int)=(c:Int):=by unfold BB at hcB;rw [IntKind.wrap_u32];omega
      have HSB:=hid (fun W=>qmA u c b1 d b2 W hul hcB hb1 hdd hd);have hPU:upd P jn d<BB^(n+j+1):=qkA HE.out.2 (by have:=HJN.out;omega) hd;have hjn':jn=n+j:=by have:=HJN.out;omega
      have HEND:=hid (jdU (n:=n) (w:=d) HE.out.1 HVB.out.1 (by rw [←hjn',←hu];exact hdd) HXA.out.1 HVB.out.2.2 HQ.out HG.out.1 HG.out.2.1 (by have h:=hPU;rw [hjn'] at h;exact h));rw [←hjn'] at HEND;have HD:=hid (And.intro hd hPU);clear hin hi hg2 HE hu hul hb1 hcB hd hdd hPU hjn' hgB;go_upto_region 44 with (go_at_call 168;refine (HSB.out _).mono ?_;rintro e w' ⟨rfl,rfl⟩)
      obtain ⟨wy,hwy⟩:=nqx (wr.setCell ⟨B2,jn,none⟩ (.int .u32 (d:Int)));obtain ⟨P1,hP1⟩:=nqx (upd P jn d);rw [←hwy];rw [←hP1] at HEND HD;replace HM:=hid (show DM ba oa bb ob B0 B1 B2 B3 ca cb w wy (Y*BB^(j+1)) 0 P1 V by rw [hwy];exact HM.out.putU HDN.out hjl HD.out.1 hP1);clear hwy cu1 fu1 HSB hP1;rcases Nat.eq_zero_or_pos b2 with hb0|hb0
      ·subst hb0;obtain ⟨hgq2,hPX⟩:=HEND.out.1 rfl;have HGQ:=hid (show g=X / (V*BB^j) by rw [hgq2];exact HQ.out);have HQB2:=hid (show g<BB by rw [hgq2];exact HQB.out);replace HM:=hid (show DM ba oa bb ob B0 B1 B2 B3 ca cb w wy (Y*BB^(j+1)) 0 (X%(V*BB^j)) V by rw [←hPX];exact HM.out);clear hgq2 hPX HEND HG;have egw:IntKind.u32.wrap (g:Int)=(g:Int):=by have:=HQB2.out;unfold BB at this;rw [IntKind.wrap_u32];omega
       have HQN:=hid (show (Y*BB+g)*BB^j=upd (Y*BB^(j+1)) j g by
        have h:=qgK (Y*BB^(j+1)) j g;rw [qhC,Nat.zero_mul,Nat.add_zero] at h;rw [h,qdI,Nat.add_mul,Nat.mul_assoc])
       have HXN:=hid (show X%(V*BB^j)<V*BB^j from Nat.mod_lt _ (Nat.mul_pos HVB.out.2.2 (BP j)));have HAN:=hid (show (Y*BB+g)*BB^j*V+X%(V*BB^j)=X0 by rw [HQN.out];exact qsF HXA.out.2 HGQ.out qhC);obtain ⟨cq1,fq1⟩:=HM.out.q.cellV rfl (show 0=lim (Y*BB^(j+1)) j from qhC.symm) hj32;go_wp2
       go_roundg (G - 1)
       case measure=>have:=HGG.out;omega
       case rel=>exact ⟨j,(j:Int) - 1,Y*BB+g,X%(V*BB^j),by omega,by have:=HGG.out;omega,rfl,by first|rfl|rw [ejm],HXN.out,HAN.out,HM.out.putQ HDN.out hj32 HQB2.out HQN.out⟩
      ·have hb2i:(0:Int)<(b2:Int):=by omega
       obtain ⟨hgq2,hPX⟩:=HEND.out.2 (by omega);have eg1:IntKind.u64.wrap ((g:Int) - 1)=(q:Int):=by have:=HQB.out;unfold BB at this;rw [IntKind.wrap_u64];omega
       have eg1':(g:Int) - 1=(q:Int):=by omega
       have eg2:IntKind.u64.wrap (q:Int)=(q:Int):=by have:=HQB.out;unfold BB at this;rw [IntKind.wrap_u64];omega
       have HPX:=hid (show P1+V*BB^j=X%(V*BB^j)+BB^(n+j+1) by have h:=hPX;rw [show jn=n+j by have:=HJN.out;omega] at h;exact h);have HGQ:=hid HQ.out;have HQB2:=hid HQB.out;clear hgq2 hPX HEND HG;go_wp2_with fail
       go_loopg [23,247] n (fun g2 cv iv wr2=>∃ (i P c:Nat),i≤n∧n - i≤g2∧cv=.int .u32 (c:Int)∧iv=.int .i64 (i:Int)∧c≤1∧P<BB^(n+j+1)∧P+c*BB^(i+j)=P1+V%BB^i*BB^j∧DM ba oa bb ob B0 B1 B2 B3 ca cb w wr2 (Y*BB^(j+1)) 0 P V)
       case atStart=>exact ⟨0,P1,0,by omega,by omega,rfl,rfl,by omega,HD.out.2,by simp [Nat.mod_one],HM.out⟩
       case round =>
        clear HM;obtain ⟨i,P,c,hi,hg2,rfl,rfl,hc1,hPB,hE,hM⟩:=hrel;have HM:=hid hM;have HE:=hid (And.intro hE (And.intro hPB hc1));clear hM hE hPB hc1;by_cases hlt:i<n
        ·obtain ⟨t,ht⟩:=nqx (i+j);have hnn:=HNB.out;have hmn2:=HMN.out;have ht33:t<33:=by omega
         have hi32:i<32:=by omega
         have hij:IntKind.i64.wrap ((i:Int)+(j:Int))=(t:Int):=by rw [IntWalk.i64_in _ (by omega)];omega
         have hij':(i:Int)+(j:Int)=(t:Int):=by omega
         have htw:IntKind.i64.wrap (t:Int)=(t:Int):=IntWalk.i64_in _ (by omega);obtain ⟨v,hv⟩:=nqx (lim V i);obtain ⟨u,hu⟩:=nqx (lim P t);have hvl:v<BB:=hv ▸ qaG V i;have hul:u<BB:=hu ▸ qaG P t;obtain ⟨d3,c3,hd,hc3,hdd⟩:=quY hul hvl HE.out.2.2;have HAD:=hid (fun W=>qsQ u v c d3 c3 W hul hvl HE.out.2.2 hdd hd);have HSTEP:=hid (qzJ (d:=d3) (c2:=c3) HE.out.1 (by rw [←ht,←hv,←hu];exact hdd.symm));have HUPB:=hid (show upd P t d3<BB^(n+j+1) from qkA HE.out.2.1 (by omega) hd);have HD3:=hid (And.intro hd hc3);have HT:=hid ht;have HUV:=hid (And.intro hu hv);have hi0:(0:Int)≤(i:Int):=by omega
         have ht0:(0:Int)≤(t:Int):=by omega
         clear hnn hmn2 ht hv hu hvl hul hd hc3 hdd;go_upto_region 50 with fail
         obtain ⟨kq,V_kq⟩:=nvx (lv 32 (Y*BB^(j+1)));obtain ⟨kr,V_kr⟩:=nvx (lv 32 (0));obtain ⟨ku,V_ku⟩:=nvx (lv 33 (P));obtain ⟨kv,V_kv⟩:=nvx (lv 32 (V));have Aba:=hid HM.out.a;have Abb:=hid HM.out.b;have AB0:=hid (show At wr B0 0 kq by rw [V_kq.out];exact HM.out.q);have AB1:=hid (show At wr B1 0 kr by rw [V_kr.out];exact HM.out.r);have AB2:=hid (show At wr B2 0 ku by rw [V_ku.out];exact HM.out.u);have AB3:=hid (show At wr B3 0 kv by rw [V_kv.out];exact HM.out.v);have FR:=hid HM.out.f;have FR0:=hid HM.out.f.le;obtain ⟨kn,V_kn⟩:=nvx (lv 33 (upd P t d3));refine qgH [⟨false,0,266,17,B2,0,22,264,kn,t,[.int .u32 (d3:Int)],ku⟩] [(251,.int .i64 (i:Int)),(252,.int .i64 (j:Int)),(253,.int .i64 (t:Int)),(254,.int .i64 (i:Int)),(255,.int .i64 (j:Int)),(256,.int .i64 (t:Int)),(257,.pointer (some ⟨B2,t,none⟩)),(258,.int .u32 (u:Int)),(259,.int .i64 (i:Int)),(260,.pointer (some ⟨B3,i,none⟩)),(261,.int .u32 (v:Int)),(262,.int .u32 (c:Int)),(263,.tuple #[.int .u32 (d3:Int),.int .u32 (c3:Int)]),(250,.tuple #[.int .u32 (d3:Int),.int .u32 (c3:Int)]),(264,.int .u32 (d3:Int)),(265,.int .u32 (c3:Int)),(266,.pointer (some ⟨B2,t,none⟩)),(23,.int .u32 (c3:Int))] [(23,.int .u32 (c:Int))] _ _ (by simp only [zz4,zz5,zq];rfl) (by simp only [zz4,zz5,zq];rfl) (jhP _ _ rfl (jbS)) (by as_aux_lemma=>kernel_rfl) (by as_aux_lemma=>kernel_rfl) ?_ ?_ ?_ ?_ ?_ ?_ ?_
         ·intro W' hW';have cl1:=fun p os=>qaB ((AB2.out.below hW').cellV V_ku.out HUV.out.1 ht33).1 p os
          have cl2:=fun p os=>qaB ((AB3.out.below hW').cellV V_kv.out HUV.out.2 hi32).1 p os
          iterate 11 (refine qgG (by as_aux_lemma=>kernel_rfl) ?_ ?_;(go_big_quiet_step (fail);(try simp only [zq]);exact wqn rfl))
          refine jdO (by as_aux_lemma=>kernel_rfl) ?_ ?_;(go_big_quiet_step (fail);(try simp only [zq]);exact wqn rfl);refine qgG (by as_aux_lemma=>kernel_rfl) ?_ ?_;(go_big_quiet_step ((go_at_call 169;exact qaJ (HAD.out _)));(try simp only [zq]);exact wqn rfl);iterate 4 (refine qgG (by as_aux_lemma=>kernel_rfl) ?_ ?_;(go_big_quiet_step (fail);(try simp only [zq]);exact wqn rfl))
          refine qhA (by rfl) ?_;refine qgG (by as_aux_lemma=>kernel_rfl) ?_ ?_;(go_big_quiet_step (fail);(try simp only [zq]);exact wqn rfl);exact qcN
         ·intro W' hK';iterate 11 (first|(refine qgG (by as_aux_lemma=>kernel_rfl) ?_ ?_;(go_big_quiet_step (fail);(try simp only [zq]);exact wqn rfl))|(refine qhA (by as_aux_lemma=>kernel_rfl) ?_))
          first|(refine jdO (by as_aux_lemma=>kernel_rfl) ?_ ?_;(go_big_quiet_step (fail);(try simp only [zq]);exact wqn rfl))|(refine qhA (by as_aux_lemma=>kernel_rfl) ?_)
          refine qhA (by as_aux_lemma=>kernel_rfl) ?_;iterate 4 (first|(refine qgG (by as_aux_lemma=>kernel_rfl) ?_ ?_;(go_big_quiet_step (fail);(try simp only [zq]);exact wqn rfl))|(refine qhA (by as_aux_lemma=>kernel_rfl) ?_))
          refine qhA (by as_aux_lemma=>kernel_rfl) ?_
          first|(refine qgG (by as_aux_lemma=>kernel_rfl) ?_ ?_;(go_big_quiet_step (fail);(try simp only [zq]);exact wqn rfl))|(refine qhA (by as_aux_lemma=>kernel_rfl) ?_)
          exact qcN
         ·exact fP1 (bnc)
         ·exact fP1 (fun _=>⟨AB2.out.lt,rfl,At.roomC AB2.out ((qcD V_ku.out V_kn.out ht33 HD3.out.1))⟩)
         ·exact uno
         ·exact fP1 (qeK rfl rfl Tryz.infoU rfl (by rw [V_ku.out,qlL];omega) (qcD V_ku.out V_kn.out ht33 HD3.out.1))
         intro β wz E;replace FR:=ffh FR E (by omega);replace Aba:=afh Aba E (by omega);replace Abb:=afh Abb E (by omega);replace AB0:=afh AB0 E (by omega);replace AB1:=afh AB1 E (by omega);replace AB2:=aoh E AB2 mms;replace AB3:=afh AB3 E (by omega);simp only [nP,zu];replace FR0:=hid FR.out.le;replace HM:=hid (show DM ba oa bb ob B0 B1 B2 B3 ca cb w wz (Y*BB^(j+1)) (0) (upd P t d3) (V) from ⟨Aba.out,Abb.out,by have:=AB0.out;rwa [V_kq.out] at this,by have:=AB1.out;rwa [V_kr.out] at this,by have:=AB2.out;rwa [V_kn.out] at this,by have:=AB3.out;rwa [V_kv.out] at this,FR.out⟩);clear Aba Abb AB0 AB1 AB2 AB3 FR FR0;go_wp2
         go_roundg (gk - 1)
         case measure=>omega
         case rel=>exact ⟨i+1,upd P t d3,c3,by omega,by omega,rfl,by go_num,HD3.out.2,HUPB.out,by have:=HSTEP.out;rwa [←HT.out] at this,HM.out⟩
        ·have hin:i=n:=by omega
         replace HE:=hid (show P+c*BB^(n+j)=P1+V%BB^n*BB^j∧P<BB^(n+j+1)∧c≤1 by have h:=HE.out;rw [hin] at h;exact h);obtain ⟨u,hu⟩:=nqx (lim P jn);have hul:u<BB:=hu ▸ qaG P jn;obtain ⟨cu1,fu1⟩:=HM.out.u.cellV rfl hu hjl;obtain ⟨d3,hd3⟩:∃ d,d=(u+c)%BB:=⟨_,rfl⟩;obtain ⟨o3,ho3⟩:∃ d,d=(u+c) / BB:=⟨_,rfl⟩;have hd3B:d3<BB:=by rw [hd3];exact Nat.mod_lt _ qbH
         have hdw:IntKind.u32.wrap ((u:Int)+(c:Int))=(d3:Int):=by unfold BB at hd3;rw [IntKind.wrap_u32];omega
         have hdo:u+c=d3+o3*BB:=by rw [hd3,ho3];unfold BB;omega
         have hjn':jn=n+j:=by have:=HJN.out;omega
         have hVp:X%(V*BB^j)<V*BB^j:=Nat.mod_lt _ (Nat.mul_pos HVB.out.2.2 (BP j))
         have hVB2:V*BB^j<BB^(n+j+1):=by
          have h1:V*BB^j<BB^n*BB^j:=Nat.mul_lt_mul_of_pos_right HVB.out.1 (BP _);rw [←Nat.pow_add] at h1;exact Nat.lt_of_lt_of_le h1 (Nat.pow_le_pow_right qbH (by omega))
         have HXE:=hid (show X%(V*BB^j)=upd P jn d3 by
          rw [hjn'];refine (jcY (o:=o3) HE.out.1 HVB.out.1 ?_ HPX.out (Nat.lt_trans hVp hVB2) ?_).symm
          ·rw [←hjn',←hu];exact hdo
          ·exact qkA HE.out.2.1 (by omega) hd3B)
         have HD3:=hid hd3B;clear hin hi hg2 HE hu hul hd3 ho3 hd3B hdo hjn' hVp hVB2;go_upto_region 53 with fail
         obtain ⟨wz,hwz⟩:=nqx (wr.setCell ⟨B2,jn,none⟩ (.int .u32 (d3:Int)));rw [←hwz];replace HM:=hid (show DM ba oa bb ob B0 B1 B2 B3 ca cb w wz (Y*BB^(j+1)) 0 (X%(V*BB^j)) V by rw [hwz];exact HM.out.putU HDN.out hjl HD3.out HXE.out);clear hwz cu1 fu1;have egw:IntKind.u32.wrap (q:Int)=(q:Int):=by have:=HQB2.out;unfold BB at this;rw [IntKind.wrap_u32];omega
         have HQN:=hid (show (Y*BB+q)*BB^j=upd (Y*BB^(j+1)) j q by
          have h:=qgK (Y*BB^(j+1)) j q;rw [qhC,Nat.zero_mul,Nat.add_zero] at h;rw [h,qdI,Nat.add_mul,Nat.mul_assoc])
         have HXN:=hid (show X%(V*BB^j)<V*BB^j from Nat.mod_lt _ (Nat.mul_pos HVB.out.2.2 (BP j)));have HAN:=hid (show (Y*BB+q)*BB^j*V+X%(V*BB^j)=X0 by rw [HQN.out];exact qsF HXA.out.2 HGQ.out qhC);obtain ⟨cq1,fq1⟩:=HM.out.q.cellV rfl (show 0=lim (Y*BB^(j+1)) j from qhC.symm) hj32;go_wp2
         go_roundg (G - 1)
         case measure=>have:=HGG.out;omega
         case rel=>exact ⟨j,(j:Int) - 1,Y*BB+q,X%(V*BB^j),by omega,by have:=HGG.out;omega,rfl,by first|rfl|rw [ejm],HXN.out,HAN.out,HM.out.putQ HDN.out hj32 HQB2.out HQN.out⟩
  ·have hz1:z=-1:=by omega
   subst hz1;subst hk0;have HL:=hid (jfL (a:=a) (b:=b) (s:=s) (Q:=Y) (X:=X) HV.out.2.2 (by have h:=HXA.out.2;rw [Nat.pow_zero,Nat.mul_one,HVX.out.1,HVX.out.2] at h;exact h) (by have h:=HXA.out.1;rw [Nat.pow_zero,Nat.mul_one,HVX.out.1] at h;exact h));replace HM:=hid (show DM ba oa bb ob B0 B1 B2 B3 ca cb w wr (a / b) 0 X V by have h:=HM.out;rw [Nat.pow_zero,Nat.mul_one,HL.out.1] at h;exact h);obtain ⟨R,hR⟩:=nqx (a%b);have HRB:=hid (show R<BB^n by rw [hR];exact Nat.lt_trans (Nat.mod_lt _ HV.out.2.2) HNM.out.2.1)
   have HRL:=hid (fun i=>show lim R i=lim X i / 2^s+lim X (i+1)%2^s*2^(32 - s) by
    have h:=qgM X 0 s i hs32;rw [Nat.mul_zero,Nat.zero_add,HL.out.2,←hR] at h;exact h)
   have HR:=hid hR;clear hz hR HXA hk hg HL;go_wp2_with fail
   go_loopg [281] n (fun g iv wr2=>∃ (i:Nat),i≤n∧n - i≤g∧iv=.int .i64 (i:Int)∧DM ba oa bb ob B0 B1 B2 B3 ca cb w wr2 (a / b) (R%BB^i) X V)
   case atStart=>exact ⟨0,by omega,by omega,rfl,by simp [Nat.mod_one];exact HM.out⟩
   case round =>
    clear HM;obtain ⟨i,hi,hg,rfl,hM⟩:=hrel;have HM:=hid hM;clear hM;by_cases hlt:i<n
    ·obtain ⟨x,hx⟩:=nqx (lim X i);obtain ⟨h,hh⟩:=nqx (x / 2^s);have hi32:i<32:=by omega
     have hi33:i<33:=by omega
     have hi0:(0:Int)≤(i:Int):=by omega
     have hcast:(x:Int) / 2^s=(h:Int):=by rw [hh];simp
     have hhB:h<BB:=by rw [hh];exact Nat.lt_of_le_of_lt (Nat.div_le_self _ _) (hx ▸ qaG X i)
     have hcx:=(HM.out.u.cellV rfl hx hi33).1;obtain ⟨hcr,hfr⟩:=HM.out.r.cellV rfl (show 0=lim (R%BB^i) i by unfold lim;rw [Nat.div_eq_of_lt (Nat.mod_lt _ (BP i))];simp) hi32;have HHB:=hid hhB;have HH:=hid (And.intro hx hh);have HTOP:=hid (show upd (R%BB^i) i (lim R i)=R%BB^(i+1) by rw [qeB (Nat.mod_lt _ (BP i)),qbF]);clear hx hh hhB;by_cases hs1:0<s
     ·have hs1i:(0:Int)<(s:Int):=by omega
      obtain ⟨i1,hi1'⟩:=nqx (i+1);obtain ⟨y,hy⟩:=nqx (lim X i1);obtain ⟨tt,htt⟩:∃ t,t=32 - s:=⟨_,rfl⟩;obtain ⟨yl,hyl,hyw,hylB⟩:=qpY (x:=y) (s:=tt) (by omega);obtain ⟨d,hd⟩:=nqx (lim R i);have hor:=jgM (x:=x) (y:=y) (s:=s) (h:=h) (l:=yl) (d:=d) (hs:=hs32) (hx:=HH.out.1 ▸ qaG X i) (hh:=HH.out.2) (hl:=by rw [hyl,htt]) (hd:=by rw [hd,HRL.out,←HH.out.1,←hi1',←hy]);have hdB:d<BB:=hd ▸ qaG R i;have htw:IntKind.i64.wrap (32 - (s:Int))=(tt:Int):=by rw [IntWalk.i64_in _ (by omega)];omega
      have htt32:tt<32:=by omega
      have hiw1:IntKind.i64.wrap ((i:Int)+1)=(i1:Int):=by rw [IntWalk.i64_in _ (by omega)];omega
      have hiw2:(i:Int)+1=(i1:Int):=by omega
      have hi1l:i1<33:=by omega
      have hi1z:(0:Int)≤(i1:Int):=by omega
      have HY:=hid hy;have HDB:=hid hdB;have HDL:=hid (show upd (upd (R%BB^i) i h) i d=R%BB^(i+1) by rw [qkX _ _ _ _ HHB.out,hd,HTOP.out]);clear hy htt hyl hd hdB hi1' hylB;go_upto_region 59 with fail
      obtain ⟨wy,hwy⟩:=nqx (wr.setCell ⟨B1,i,none⟩ (.int .u32 (h:Int)));rw [←hwy];replace HM:=hid (show DM ba oa bb ob B0 B1 B2 B3 ca cb w wy (a / b) (upd (R%BB^i) i h) X V by rw [hwy];exact HM.out.putR HDN.out hi32 HHB.out rfl);clear hwy hcx hcr hfr;obtain ⟨kq,V_kq⟩:=nvx (lv 32 (a / b));obtain ⟨kr,V_kr⟩:=nvx (lv 32 (upd (R%BB^i) i h));obtain ⟨ku,V_ku⟩:=nvx (lv 33 (X));obtain ⟨kv,V_kv⟩:=nvx (lv 32 (V));have Aba:=hid HM.out.a;have Abb:=hid HM.out.b;have AB0:=hid (show At wy B0 0 kq by rw [V_kq.out];exact HM.out.q);have AB1:=hid (show At wy B1 0 kr by rw [V_kr.out];exact HM.out.r);have AB2:=hid (show At wy B2 0 ku by rw [V_ku.out];exact HM.out.u);have AB3:=hid (show At wy B3 0 kv by rw [V_kv.out];exact HM.out.v);have FR:=hid HM.out.f;have FR0:=hid HM.out.f.le;obtain ⟨kn,V_kn⟩:=nvx (lv 32 (upd (upd (R%BB^i) i h) i d));refine wF [⟨false,0,304,12,B1,0,22,303,kn,i,[.int .u32 (d:Int)],kr⟩] [(293,iT i),(294,pT B1 i),(295,.int .u32 (h:Int)),(296,iT i),(297,iT i1),(298,pT B2 i1),(299,.int .u32 (y:Int)),(300,iT s),(301,iT tt),(302,.int .u32 (yl:Int)),(303,.int .u32 (d:Int)),(304,pT B1 i)] (by simp only [zu];rfl) (by as_aux_lemma=>kernel_rfl) ?_ ?_ (fP1 bnC) ?_ uno ?_ ?_
      ·intro W' hW';have cl1:=fun p os=>qaB ((AB1.out.below hW').cellV V_kr.out (show h=lim (upd (R%BB^i) i h) i by rw [qiS HHB.out,if_pos rfl]) hi32).1 p os
       have cl2:=fun p os=>qaB ((AB2.out.below hW').cellV V_ku.out HY.out hi1l).1 p os
       refine fo4 ?_ ?_ ?_ ?_<|fo4 ?_ ?_ ?_ ?_<|fo4 ?_ ?_ ?_ ?_<|fxs rfl<|fxn;all_goals (go_big_quiet_step (fail);exact wqn rfl)
      ·intro W' hK';iterate 12 (first|(refine fxo ?_ ?_;(go_big_quiet_step (fail);(try simp only [zq]);exact wqn rfl))|(refine fxs (by as_aux_lemma=>kernel_rfl) ?_))
       refine fxs (by as_aux_lemma=>kernel_rfl) ?_;exact fxn
      ·exact fP1 (fun _=>⟨AB1.out.lt,rfl,At.roomC AB1.out ((qcD V_kr.out V_kn.out hi32 HDB.out))⟩)
      ·exact fP1 (qeK rfl rfl Tryz.infoU rfl (by rw [V_kr.out,qlL];omega) (qcD V_kr.out V_kn.out hi32 HDB.out))
      intro β wz E;replace FR:=ffh FR E (by omega);replace Aba:=afh Aba E (by omega);replace Abb:=afh Abb E (by omega);replace AB0:=afh AB0 E (by omega);replace AB1:=aoh E AB1 mms;replace AB2:=afh AB2 E (by omega);replace AB3:=afh AB3 E (by omega);simp only [nP,zu];replace FR0:=hid FR.out.le;replace HM:=hid (show DM ba oa bb ob B0 B1 B2 B3 ca cb w wz (a / b) (R%BB^(i+1)) (X) (V) from ⟨Aba.out,Abb.out,by have:=AB0.out;rwa [V_kq.out] at this,by have:=AB1.out;rwa [V_kn.out,HDL.out] at this,by have:=AB2.out;rwa [V_ku.out] at this,by have:=AB3.out;rwa [V_kv.out] at this,FR.out⟩);clear Aba Abb AB0 AB1 AB2 AB3 FR FR0;go_wp2
      go_roundg (gk - 1)
      case measure=>omega
      case rel=>exact ⟨i+1,by omega,by omega,by go_num,HM.out⟩
     ·have hs1i:¬(0:Int)<(s:Int):=by omega
      have HDL:=hid (show R%BB^(i+1)=upd (R%BB^i) i h by
       rw [←HTOP.out];congr 1;rw [HRL.out,←HH.out.1,←HH.out.2,show s=0 by omega,Nat.pow_zero,Nat.mod_one,Nat.zero_mul,Nat.add_zero])
      clear hs1;go_wp2
      go_roundg (gk - 1)
      case measure=>omega
      case rel=>exact ⟨i+1,by omega,by omega,by go_num,HM.out.putR HDN.out hi32 HHB.out HDL.out⟩
    ·have hin:i=n:=by omega
     have AB0:=hid (show At wr B0 0 cq by rw [V_cq.out];exact HM.out.q);have AB1:=hid (show At wr B1 0 cr by rw [V_cr.out];have h:=HM.out.r;rw [hin,Nat.mod_eq_of_lt HRB.out,HR.out] at h;exact h);have FR:=hid HM.out.f;clear hin hi hg;go_upto_region 61 with fail
     have sq:=qG V_cq.out;have sr:=qG V_cr.out;have lcq:cq.length=32:=by rw [V_cq.out,qlL]
     have lcr:cr.length=32:=by rw [V_cr.out,qlL]
     refine qcO 140 _ _ _ _ _ _ _ B0 B1 B0 B1 cq cr (by as_aux_lemma=>kernel_rfl) (by as_aux_lemma=>kernel_rfl) (by as_aux_lemma=>kernel_rfl) (by as_aux_lemma=>kernel_rfl) (by as_aux_lemma=>kernel_rfl) (by as_aux_lemma=>kernel_rfl) (by as_aux_lemma=>kernel_rfl) (by as_aux_lemma=>kernel_rfl) (by as_aux_lemma=>kernel_rfl) rfl rfl rfl rfl rfl rfl rfl rfl Tryz.underlying140 rfl sq sr (qpO V_cq.out) (qpO V_cr.out) rfl rfl rfl rfl rfl rfl AB0.out.range AB1.out.range AB0.out.there AB1.out.there (by omega) rfl (.inl rfl) (by omega) ?_;simp only [zq];have HWE:=hid (qaC (show w.heap.size≤B1 by rw [←HB0.out];exact hZB1) cr 0 _ (qaC (show w.heap.size≤B0 by rw [←HB0.out];exact hZB0) cq 0 _ (qbN (show Below w.heap.size w wr by rw [←HB0.out];exact FR.out.below))));have g1:=World.rangeAt_setCells_same wr.drew B0 0 cq AB0.out.there;have g2:=qaL g1 cr B1 0 (by omega);have g3:=World.rangeAt_setCells_same (wr.drew.setCells B0 0 cq) B1 0 cr (qbD (b2:=B0) (show wr.drew.there B1 0 cr.length from fun j hj=>AB1.out.there j hj) cq 0 (by omega));go_wp2_with fail
     have hld1:=run_loadVar_mid (P:=Tryz.prog) _ _ _ _ _ _ g2 Tryz.underlying140 rfl sq;have hld2:=run_loadVar_mid (P:=Tryz.prog) _ _ _ _ _ _ g3 Tryz.underlying140 rfl sr;refine bodyPost_ret (v:=.tuple #[.agg cq.toArray,.agg cr.toArray]) (by simp [results,Tryz.results145,asAddr,hld1,hld2]) rfl ?_;exact ⟨rfl,HWE.out⟩
theorem qvY {ca cb cq cr:List Value} {a b ba oa bb ob:Nat} (w:World) (h1:At w ba oa ca) (h2:At w bb ob cb) (hca:ca=lv 32 a) (hcb:cb=lv 32 b) (hcq:cq=lv 32 (a / b)) (hcr:cr=lv 32 (a%b)) (ha:a<BB^32) (hb:b<BB^32) (hb0:0<b) (hsm:b≤a∧BB≤b) :
  CB 145 #[.pointer (some ⟨ba,oa,none⟩),.pointer (some ⟨bb,ob,none⟩)] (.tuple #[.agg cq.toArray,.agg cr.toArray]) w:=by
 have HSM:=hid hsm;clear hsm;obtain ⟨m,hm32,hm⟩:=qLE a 32 ha;obtain ⟨n,hn32,hn⟩:=qLE b 32 hb;have HUA:=hid (fun W (h:At W ba oa ca)=>qeU a m ba oa W (hca ▸ h) ha hm);have HUB:=hid (fun W (h:At W bb ob cb)=>qeU b n bb ob W (hcb ▸ h) hb hn);obtain ⟨zc,hzc⟩:=nqx (cmpI a b);have HCM:=hid (fun W (h:At W ba oa ca) (h':At W bb ob cb)=>show CB 165 #[.pointer (some ⟨ba,oa,none⟩),.pointer (some ⟨bb,ob,none⟩)] (.int .i64 zc) W by rw [hzc];exact qnB a b ba oa bb ob W (hca ▸ h) (hcb ▸ h') ha hb);have V_ca:=hid hca;have V_cb:=hid hcb;have V_cq:=hid hcq;have V_cr:=hid hcr;have HV:=hid (And.intro ha (And.intro hb hb0));have HNM:=hid (And.intro hm hn);have HZ:=hid hzc;have Aba:=hid h1;have Abb:=hid h2;have lba:=h1.lt;have lbb:=h2.lt
 have hn1:1≤n:=by
  rcases Nat.eq_zero_or_pos n with h|h
  ·exfalso;rw [h] at hn;have:=hn.eq_zero;omega
  ·exact h
 clear hca hcb hcq hcr ha hb hb0 h1 h2 hm hn hzc;obtain ⟨cz,V_cz⟩:=nvx (lv 32 0);obtain ⟨B0,B1,w0,hw0,hB0,hB1,AB0,AB1,FR,FR0,HB0,hZB0,l01,hZB1⟩:=en2 w 140 140 (zM V_cz) (zM V_cz);rw [qbV] at hw0;go_enter Tryz.func145,Tryz.ntmps145
 go_upto_region 1 with fail
 rw [←hw0,←hB1,←hB0];clear hw0 hB0 hB1;replace Aba:=hid (Aba.out.below (by have:=FR.out.below;rwa [HB0.out] at this));replace Abb:=hid (Abb.out.below (by have:=FR.out.below;rwa [HB0.out] at this));rw [←HB0.out] at lba lbb;refine wE [(26,pT bb ob),(27,iT n),(28,pT ba oa),(29,iT m),(6,iT n),(7,iT m)] (by simp only [zu];rfl) (by as_aux_lemma=>kernel_rfl) ?_ ?_
 ·intro W' hW';refine fo3 ?_ ?_ ?_<|fxo (by go_big_quiet_step (exact qaJ (HUA.out _ ((Aba.out.below hW').below (qbG _ _ _))));exact wqn rfl)<|fo2 ?_ ?_<|fxn;all_goals (go_big_quiet_step (exact qaJ (HUB.out _ ((Abb.out.below hW').below (qbG _ _ _))));exact wqn rfl)
 intro β wx1 E;replace FR:=fnf FR E rfl;replace AB0:=fnh AB0 E rfl;replace AB1:=fnh AB1 E rfl;replace Aba:=fnh Aba E rfl;replace Abb:=fnh Abb E rfl;simp only [nP,zu];replace FR0:=hid FR.out.le;go_upto_region 2 with fail
 by_cases hlt:a<b
 ·have hzl:zc<0:=by rw [HZ.out];unfold cmpI;rw [if_pos hlt];decide
  exact absurd HSM.out.1 (by omega)
 ·have hzl:¬zc<0:=by rw [HZ.out];unfold cmpI;rw [if_neg hlt];split<;>decide
  have HGE:=hid (show b≤a by omega);clear hlt;refine wE [(31,pT ba oa),(32,pT bb ob),(33,iT zc),(34,bF),(30,bF)] (by simp only [zu];rfl) (by as_aux_lemma=>kernel_rfl) ?_ ?_
  ·intro W' hW';refine fo4 ?_ ?_ ?_ ?_<|fxo ?_<|fxn;all_goals (go_big_quiet_step (exact qaA (HCM.out _ ((Aba.out.below hW').below (qbG _ _ _)) ((Abb.out.below hW').below (qbG _ _ _))));exact wqn rfl)
  intro β wx2 E;replace FR:=fnf FR E rfl;replace AB0:=fnh AB0 E rfl;replace AB1:=fnh AB1 E rfl;replace Aba:=fnh Aba E rfl;replace Abb:=fnh Abb E rfl;simp only [nP,zu];replace FR0:=hid FR.out.le;by_cases hn2:n=1
  ·subst hn2;exfalso
   have h:=HNM.out.2.1;rw [Nat.pow_one] at h;have h2:=HSM.out.2;omega
  ·have hn2':2≤n:=by omega
   obtain ⟨n1,hn1'⟩:=nqx (n - 1);obtain ⟨n2,hn2''⟩:=nqx (n - 2);obtain ⟨x0,hx0⟩:=nqx (lim b n1);obtain ⟨e0,he⟩:=qaO x0;obtain ⟨s,hs⟩:∃ s,s=32 - e0:=⟨_,rfl⟩;obtain ⟨hs32,he32,hVB,hVT⟩:=jbF HNM.out.2 hn1 (by rw [←hn1',←hx0];exact he) hs;have HLZ:=hid (fun W=>show Calls Tryz.prog 167 #[.int .u32 (x0:Int)] W (fun e w'=>e=.returned (.int .i64 (s:Int))∧W=w') by rw [hs];exact jfH x0 e0 W (hx0 ▸ qaG b n1) he he32);obtain ⟨V,hV⟩:=nqx (b*2^s);obtain ⟨X0,hX0⟩:=nqx (a*2^s)
   have hmn:n≤m:=by
    rcases Nat.lt_or_ge m n with h|h
    ·exfalso
     have h1:=HNM.out.1.1;have h2:=HNM.out.2.2 (by omega);have h3:=Nat.pow_le_pow_right qbH (show m≤n - 1 by omega);have h4:=HGE.out;omega
    ·exact h
   have HVB:=hid (show V<BB^n∧BB / 2≤lim V n1∧0<V by rw [hV,hn1'];exact ⟨hVB,hVT,Nat.mul_pos HV.out.2.2 (tp s)⟩);have HX0:=hid (show X0<V*BB^(m - n+1) by rw [hX0,hV];exact jbG (tp s) HNM.out.1.1 (HNM.out.2.2 (by omega)) hn1 hmn)
   have HXB:=hid (show X0<BB^(m+1) by
    have h1:=HX0.out;have h2:V*BB^(m - n+1)≤BB^n*BB^(m - n+1):=Nat.mul_le_mul_right _ (Nat.le_of_lt HVB.out.1);rw [←Nat.pow_add,show n+(m - n+1)=m+1 by omega] at h2
    omega)
   have HLV:=hid (fun i=>show lim V i=lim b i*2^s%BB+(if i=0 then 0 else lim b (i - 1) / 2^(32 - s)) by rw [hV];exact qxE b s i hs32);have HLX:=hid (fun i=>show lim X0 i=lim a i*2^s%BB+(if i=0 then 0 else lim a (i - 1) / 2^(32 - s)) by rw [hX0];exact qxE a s i hs32);have HVX:=hid (And.intro hV hX0);have e0':((n:Int)==1)=false:=beq_eq_false_iff_ne.2 (by omega);have ew1:IntKind.i64.wrap ((n:Int) - 1)=(n1:Int):=by rw [IntWalk.i64_in _ (by omega)];omega
   have ew1':(n:Int) - 1=(n1:Int):=by omega
   have ew1'':IntKind.i64.wrap (n1:Int)=(n1:Int):=IntWalk.i64_in _ (by omega);have hn1i:(0:Int)≤(n1:Int):=by omega
   have hc:=Abb.out.limbO V_cb.out hx0 (show n1<32 by omega);have hs0i:(0:Int)≤(s:Int):=by omega
   have HNB:=hid (And.intro hn2' (And.intro hmn (And.intro hn1' hn2'')));have hn1l:n1<32:=by omega
   clear hx0 he hs hVB hVT hV hX0 hn1 hn2 hn2' hmn hn1' hn2'';go_upto_region 9 with (go_at_call 167;refine (HLZ.out _).mono ?_;rintro e w' ⟨rfl,rfl⟩)
   obtain ⟨B2,hB2⟩:=nqx (wx2.heap.size);obtain ⟨B3,hB3⟩:=nqx (wx2.heap.size+1);obtain ⟨w9,hw9⟩:∃ w9,w9=((wx2.alloc (.cells (lv 33 0).toArray 184)).alloc (.cells (lv 32 0).toArray 140)):=⟨_,rfl⟩;have h12:B1<B2:=by rw [hB2];exact AB1.out.lt
   have h23:B2<B3:=by omega
   have HDN:=hid (show DN ba bb B0 B1 B2 B3 from ⟨lba,lbb,l01,h12,h23⟩)
   have HM:=hid (show DM ba oa bb ob B0 B1 B2 B3 ca cb w w9 0 0 0 0 by
    rw [hw9]
    exact ⟨(Aba.out.alloc _).alloc _,(Abb.out.alloc _).alloc _,by have:=AB0.out;rw [V_cz.out] at this;exact (this.alloc _).alloc _,by have:=AB1.out;rw [V_cz.out] at this;exact (this.alloc _).alloc _,
     (At.fresh _ _ _ hB2).alloc _,At.fresh _ _ _ (by rw [hB3];simp),(FR.out.alloc _).alloc _⟩)
   clear Aba Abb AB0 AB1 FR FR0 hc;rw [qtO,qbV] at hw9;go_upto_region 11 with fail
   rw [←hw9,←hB3,←hB2];clear hw9 hB2 hB3;go_wp2
   go_loopg [11] n (fun g iv wr=>∃ (k:Nat) (z:Int),k≤n∧k≤g∧z=(k:Int) - 1∧iv=.int .i64 z∧DM ba oa bb ob B0 B1 B2 B3 ca cb w wr 0 0 0 (V / BB^k*BB^k))
   case atStart=>exact ⟨n,_,by omega,by omega,ew1'.symm,rfl,by rw [Nat.div_eq_of_lt HVB.out.1,Nat.zero_mul];exact HM.out⟩
   case round =>
    clear HM;obtain ⟨k,z,hk,hg,hz,rfl,hM⟩:=hrel;have HM:=hid hM;clear hM;rcases Nat.eq_zero_or_pos k with hk0|hk0
    rotate_left
    ·obtain ⟨i,hi⟩:=nqx (k - 1);have hz1:z=(i:Int):=by omega
     subst hz1;have hki:k=i+1:=by omega
     subst hki;obtain ⟨M,hMM⟩:=nqx (V / BB^(i+1)*BB^(i+1));rw [←hMM] at HM;have hlt:i<32:=by omega
     have hi0:(0:Int)≤(i:Int):=by omega
     have hiw:IntKind.i64.wrap ((i:Int) - 1)=(i:Int) - 1:=IntWalk.i64_in _ (by omega);obtain ⟨x,hx⟩:=nqx (lim b i);obtain ⟨h,hh,hhw,hhB⟩:=qpY (x:=x) hs32;have hcb:=HM.out.b.limbO V_cb.out hx hlt;obtain ⟨hcv,hfv⟩:=HM.out.v.cellV rfl (show 0=lim M i by rw [hMM,qmX]) hlt;have HTD:=hid (show upd M i (lim V i)=V / BB^i*BB^i by rw [hMM];exact qrA V i);have HHB:=hid hhB;have HH:=hid (And.intro hx hh);clear hz hi hMM hx hh hhB;by_cases hi1:0<i
     ·have hi1i:(0:Int)<(i:Int):=by omega
      by_cases hs1:0<s
      ·have hs1i:(0:Int)<(s:Int):=by omega
       obtain ⟨i1,hi1'⟩:=nqx (i - 1);obtain ⟨y,hy⟩:=nqx (lim b i1);obtain ⟨tt,htt⟩:∃ t,t=32 - s:=⟨_,rfl⟩;obtain ⟨yl,hyl⟩:=nqx (y / 2^tt);obtain ⟨d,hd⟩:=nqx (h+yl);have hor:=qvJ (x:=x) (y:=y) (s:=s) (h:=h) (d:=d) (hy ▸ qaG b i1) hs32 hs1 HH.out.2 (by rw [hd,hyl,htt]);rw [←htt,←hyl] at hor;obtain ⟨hor1,hdB⟩:=hor;have hcast:(y:Int) / 2^tt=(yl:Int):=by rw [hyl];simp
       have htw:IntKind.i64.wrap (32 - (s:Int))=(tt:Int):=by rw [IntWalk.i64_in _ (by omega)];omega
       have htt32:tt<32:=by omega
       have hiw1:IntKind.i64.wrap ((i:Int) - 1)=(i1:Int):=by rw [hiw];omega
       have hiw2:(i:Int) - 1=(i1:Int):=by omega
       have HY:=hid hy
       have HDL:=hid (show upd (upd M i h) i d=V / BB^i*BB^i by
        rw [qkX _ _ _ _ HHB.out,←HTD.out];congr 1
        rw [HLV.out,if_neg (by omega),←HH.out.1,←HH.out.2,←hi1',←hy,←htt,←hyl,hd])
       have HDB:=hid hdB;have hi1l:i1<32:=by omega
       have hi1z:(0:Int)≤(i1:Int):=by omega
       clear hy htt hyl hd hdB hi1' hi1;go_upto_region 16 with fail
       obtain ⟨wy,hwy⟩:=nqx (wr.setCell ⟨B3,i,none⟩ (.int .u32 (h:Int)));rw [←hwy];replace HM:=hid (show DM ba oa bb ob B0 B1 B2 B3 ca cb w wy 0 0 0 (upd M i h) by rw [hwy];exact HM.out.putV HDN.out hlt HHB.out rfl);clear hwy hcb hcv hfv;obtain ⟨kq,V_kq⟩:=nvx (lv 32 (0));obtain ⟨kr,V_kr⟩:=nvx (lv 32 (0));obtain ⟨ku,V_ku⟩:=nvx (lv 33 (0));obtain ⟨kv,V_kv⟩:=nvx (lv 32 (upd M i h));have Aba:=hid HM.out.a;have Abb:=hid HM.out.b;have AB0:=hid (show At wy B0 0 kq by rw [V_kq.out];exact HM.out.q);have AB1:=hid (show At wy B1 0 kr by rw [V_kr.out];exact HM.out.r);have AB2:=hid (show At wy B2 0 ku by rw [V_ku.out];exact HM.out.u);have AB3:=hid (show At wy B3 0 kv by rw [V_kv.out];exact HM.out.v);have FR:=hid HM.out.f;have FR0:=hid HM.out.f.le;obtain ⟨kn,V_kn⟩:=nvx (lv 32 (upd (upd M i h) i d));refine wF [⟨false,0,94,14,B3,0,22,93,kn,i,[.int .u32 (d:Int)],kv⟩] [(81,iT i),(82,pT B3 i),(83,.int .u32 (h:Int)),(84,pT bb ob),(85,iT i),(86,iT i1),(87,pT bb ob),(88,pT bb ((ob+i1))),(89,.int .u32 (y:Int)),(90,iT s),(91,iT tt),(92,.int .u32 (yl:Int)),(93,.int .u32 (d:Int)),(94,pT B3 i)] (by simp only [zu];rfl) (by as_aux_lemma=>kernel_rfl) ?_ ?_ (fP1 bnC) ?_ uno ?_ ?_
       ·intro W' hW';have cl1:=fun p os=>qaB ((AB3.out.below hW').cellV V_kv.out (show h=lim (upd M i h) i by rw [qiS HHB.out,if_pos rfl]) hlt).1 p os
        have cl2:=fun p os=>qaB ((Abb.out.below hW').limbO V_cb.out HY.out hi1l) p os
        iterate 14 (refine fxo ?_ ?_;(go_big_quiet_step (fail);(try simp only [zq]);exact wqn rfl))
        refine fxs (by rfl) ?_;exact fxn
       ·intro W' hK';iterate 14 (first|(refine fxo ?_ ?_;(go_big_quiet_step (fail);(try simp only [zq]);exact wqn rfl))|(refine fxs (by as_aux_lemma=>kernel_rfl) ?_))
        refine fxs (by as_aux_lemma=>kernel_rfl) ?_;exact fxn
       ·exact fP1 (fun _=>⟨AB3.out.lt,rfl,At.roomC AB3.out ((qcD V_kv.out V_kn.out hlt HDB.out))⟩)
       ·exact fP1 (qeK rfl rfl Tryz.infoU rfl (by rw [V_kv.out,qlL];omega) (qcD V_kv.out V_kn.out hlt HDB.out))
       intro β wz E;replace FR:=ffh FR E (by omega);replace Aba:=afh Aba E (by omega);replace Abb:=afh Abb E (by omega);replace AB0:=afh AB0 E (by omega);replace AB1:=afh AB1 E (by omega);replace AB2:=afh AB2 E (by omega);replace AB3:=aoh E AB3 mms;simp only [nP,zu];replace FR0:=hid FR.out.le;replace HM:=hid (show DM ba oa bb ob B0 B1 B2 B3 ca cb w wz (0) (0) (0) (V / BB^i*BB^i) from ⟨Aba.out,Abb.out,by have:=AB0.out;rwa [V_kq.out] at this,by have:=AB1.out;rwa [V_kr.out] at this,by have:=AB2.out;rwa [V_ku.out] at this,by have:=AB3.out;rwa [V_kn.out,HDL.out] at this,FR.out⟩);clear Aba Abb AB0 AB1 AB2 AB3 FR FR0;go_wp2
       go_roundg (gk - 1)
       case measure=>omega
       case rel=>exact ⟨i,_,by omega,by omega,rfl,by first|rfl|rw [hiw]|rw [hiw2],HM.out⟩
      ·have hs1i:¬(0:Int)<(s:Int):=by omega
       have HDL:=hid (show V / BB^i*BB^i=upd M i h by
        rw [←HTD.out];congr 1
        rw [HLV.out,←HH.out.1,←HH.out.2];rw [if_neg (by omega),show s=0 by omega,Nat.sub_zero,←qdB,Nat.div_eq_of_lt (qaG _ _),Nat.add_zero])
       clear hi1;go_wp2
       go_roundg (gk - 1)
       case measure=>omega
       case rel=>exact ⟨i,_,by omega,by omega,rfl,by first|rfl|rw [hiw]|rw [hiw2],HM.out.putV HDN.out hlt HHB.out HDL.out⟩
     ·have hi1i:¬(0:Int)<(i:Int):=by omega
      have HDL:=hid (show V / BB^i*BB^i=upd M i h by
       rw [←HTD.out];congr 1
       rw [HLV.out,←HH.out.1,←HH.out.2];rw [if_pos (by omega),Nat.add_zero])
      go_wp2
      go_roundg (gk - 1)
      case measure=>omega
      case rel=>exact ⟨i,_,by omega,by omega,rfl,by first|rfl|rw [hiw]|rw [hiw2],HM.out.putV HDN.out hlt HHB.out HDL.out⟩
    ·have hz1:z=-1:=by omega
     subst hz1;subst hk0;replace HM:=hid (show DM ba oa bb ob B0 B1 B2 B3 ca cb w wr 0 0 0 V by have:=HM.out;simpa using this);clear hz;go_wp2
     go_loopg [12] (m+1) (fun g iv wr=>∃ (k:Nat) (z:Int),k≤m+1∧k≤g∧z=(k:Int) - 1∧iv=.int .i64 z∧DM ba oa bb ob B0 B1 B2 B3 ca cb w wr 0 0 (X0 / BB^k*BB^k) V)
     case atStart=>exact ⟨m+1,(m:Int),by omega,by omega,by omega,rfl,by rw [Nat.div_eq_of_lt HXB.out,Nat.zero_mul];exact HM.out⟩
     case round =>
      clear HM hk hg;obtain ⟨k,z,hk,hg,hz,rfl,hM⟩:=hrel;have HM:=hid hM;clear hM;rcases Nat.eq_zero_or_pos k with hk0|hk0
      rotate_left
      ·obtain ⟨i,hi⟩:=nqx (k - 1);have hz1:z=(i:Int):=by omega
       subst hz1;have hki:k=i+1:=by omega
       subst hki;obtain ⟨M,hMM⟩:=nqx (X0 / BB^(i+1)*BB^(i+1));rw [←hMM] at HM;have hlt:i<33:=by omega
       have hi0:(0:Int)≤(i:Int):=by omega
       have hiw:IntKind.i64.wrap ((i:Int) - 1)=(i:Int) - 1:=IntWalk.i64_in _ (by omega);have HTD:=hid (show upd M i (lim X0 i)=X0 / BB^i*BB^i by rw [hMM];exact qrA X0 i);obtain ⟨hcv,hfv⟩:=HM.out.u.cellV rfl (show 0=lim M i by rw [hMM,qmX]) hlt;have HDL0:=hid (show lim M i=0 by rw [hMM,qmX]);clear hz hi hMM;by_cases him:i<m
       ·have himi:(i:Int)<(m:Int):=by omega
        obtain ⟨x,hx⟩:=nqx (lim a i);obtain ⟨h,hh,hhw,hhB⟩:=qpY (x:=x) hs32;have hca:=HM.out.a.limbO V_ca.out hx (show i<32 by omega);have HHB:=hid hhB;have HH:=hid (And.intro hx hh);have hi32:i<32:=by omega
        clear hx hh hhB him;by_cases hi1:0<i
        ·have hi1i:(0:Int)<(i:Int):=by omega
         by_cases hs1:0<s
         ·have hs1i:(0:Int)<(s:Int):=by omega
          obtain ⟨i1,hi1'⟩:=nqx (i - 1);obtain ⟨y,hy⟩:=nqx (lim a i1);obtain ⟨tt,htt⟩:∃ t,t=32 - s:=⟨_,rfl⟩;obtain ⟨yl,hyl⟩:=nqx (y / 2^tt);obtain ⟨d,hd⟩:=nqx (h+yl);have hor:=qvJ (x:=x) (y:=y) (s:=s) (h:=h) (d:=d) (hy ▸ qaG a i1) hs32 hs1 HH.out.2 (by rw [hd,hyl,htt]);rw [←htt,←hyl] at hor;obtain ⟨hor1,hdB⟩:=hor;have hcast:(y:Int) / 2^tt=(yl:Int):=by rw [hyl];simp
          have htw:IntKind.i64.wrap (32 - (s:Int))=(tt:Int):=by rw [IntWalk.i64_in _ (by omega)];omega
          have htt32:tt<32:=by omega
          have hiw1:IntKind.i64.wrap ((i:Int) - 1)=(i1:Int):=by rw [hiw];omega
          have hiw2:(i:Int) - 1=(i1:Int):=by omega
          have HY:=hid hy
          have HDL:=hid (show upd (upd M i h) i d=X0 / BB^i*BB^i by
           rw [qkX _ _ _ _ HHB.out,←HTD.out];congr 1
           rw [HLX.out,if_neg (by omega),←HH.out.1,←HH.out.2,←hi1',←hy,←htt,←hyl,hd])
          have HDB:=hid hdB;have hi1l:i1<32:=by omega
          have hi1z:(0:Int)≤(i1:Int):=by omega
          clear hy htt hyl hd hdB hi1' hi1;go_upto_region 23 with fail
          obtain ⟨wy,hwy⟩:=nqx (wr.setCell ⟨B2,i,none⟩ (.int .u32 (h:Int)));rw [←hwy];replace HM:=hid (show DM ba oa bb ob B0 B1 B2 B3 ca cb w wy 0 0 (upd M i h) V by rw [hwy];exact HM.out.putU HDN.out hlt HHB.out rfl);clear hwy hca hcv hfv;obtain ⟨kq,V_kq⟩:=nvx (lv 32 (0));obtain ⟨kr,V_kr⟩:=nvx (lv 32 (0));obtain ⟨ku,V_ku⟩:=nvx (lv 33 (upd M i h));obtain ⟨kv,V_kv⟩:=nvx (lv 32 (V));have Aba:=hid HM.out.a;have Abb:=hid HM.out.b;have AB0:=hid (show At wy B0 0 kq by rw [V_kq.out];exact HM.out.q);have AB1:=hid (show At wy B1 0 kr by rw [V_kr.out];exact HM.out.r);have AB2:=hid (show At wy B2 0 ku by rw [V_ku.out];exact HM.out.u);have AB3:=hid (show At wy B3 0 kv by rw [V_kv.out];exact HM.out.v);have FR:=hid HM.out.f;have FR0:=hid HM.out.f.le;obtain ⟨kn,V_kn⟩:=nvx (lv 33 (upd (upd M i h) i d));refine wF [⟨false,0,131,14,B2,0,22,130,kn,i,[.int .u32 (d:Int)],ku⟩] [(118,iT i),(119,pT B2 i),(120,.int .u32 (h:Int)),(121,pT ba oa),(122,iT i),(123,iT i1),(124,pT ba oa),(125,pT ba ((oa+i1))),(126,.int .u32 (y:Int)),(127,iT s),(128,iT tt),(129,.int .u32 (yl:Int)),(130,.int .u32 (d:Int)),(131,pT B2 i)] (by simp only [zu];rfl) (by as_aux_lemma=>kernel_rfl) ?_ ?_ (fP1 bnC) ?_ uno ?_ ?_
          ·intro W' hW';have cl1:=fun p os=>qaB ((AB2.out.below hW').cellV V_ku.out (show h=lim (upd M i h) i by rw [qiS HHB.out,if_pos rfl]) hlt).1 p os
           have cl2:=fun p os=>qaB ((Aba.out.below hW').limbO V_ca.out HY.out hi1l) p os
           refine fo4 ?_ ?_ ?_ ?_<|fo4 ?_ ?_ ?_ ?_<|fo4 ?_ ?_ ?_ ?_<|fo2 ?_ ?_<|fxs rfl<|fxn;all_goals (go_big_quiet_step (fail);exact wqn rfl)
          ·intro W' hK';iterate 14 (first|(refine fxo ?_ ?_;(go_big_quiet_step (fail);(try simp only [zq]);exact wqn rfl))|(refine fxs (by as_aux_lemma=>kernel_rfl) ?_))
           refine fxs (by as_aux_lemma=>kernel_rfl) ?_;exact fxn
          ·exact fP1 (fun _=>⟨AB2.out.lt,rfl,At.roomC AB2.out ((qcD V_ku.out V_kn.out hlt HDB.out))⟩)
          ·exact fP1 (qeK rfl rfl Tryz.infoU rfl (by rw [V_ku.out,qlL];omega) (qcD V_ku.out V_kn.out hlt HDB.out))
          intro β wz E;replace FR:=ffh FR E (by omega);replace Aba:=afh Aba E (by omega);replace Abb:=afh Abb E (by omega);replace AB0:=afh AB0 E (by omega);replace AB1:=afh AB1 E (by omega);replace AB2:=aoh E AB2 mms;replace AB3:=afh AB3 E (by omega);simp only [nP,zu];replace FR0:=hid FR.out.le;replace HM:=hid (show DM ba oa bb ob B0 B1 B2 B3 ca cb w wz (0) (0) (X0 / BB^i*BB^i) (V) from ⟨Aba.out,Abb.out,by have:=AB0.out;rwa [V_kq.out] at this,by have:=AB1.out;rwa [V_kr.out] at this,by have:=AB2.out;rwa [V_kn.out,HDL.out] at this,by have:=AB3.out;rwa [V_kv.out] at this,FR.out⟩);clear Aba Abb AB0 AB1 AB2 AB3 FR FR0;go_wp2
          go_roundg (gk - 1)
          case measure=>omega
          case rel=>exact ⟨i,_,by omega,by omega,rfl,by first|rfl|rw [hiw]|rw [hiw2],HM.out⟩
         ·have hs1i:¬(0:Int)<(s:Int):=by omega
          have HDL:=hid (show X0 / BB^i*BB^i=upd M i h by
           rw [←HTD.out];congr 1
           rw [HLX.out,←HH.out.1,←HH.out.2];rw [if_neg (by omega),show s=0 by omega,Nat.sub_zero,←qdB,Nat.div_eq_of_lt (qaG _ _),Nat.add_zero])
          clear hi1;go_wp2
          go_roundg (gk - 1)
          case measure=>omega
          case rel=>exact ⟨i,_,by omega,by omega,rfl,by first|rfl|rw [hiw]|rw [hiw2],HM.out.putU HDN.out hlt HHB.out HDL.out⟩
        ·have hi1i:¬(0:Int)<(i:Int):=by omega
         have HDL:=hid (show X0 / BB^i*BB^i=upd M i h by
          rw [←HTD.out];congr 1
          rw [HLX.out,←HH.out.1,←HH.out.2];rw [if_pos (by omega),Nat.add_zero])
         go_wp2
         go_roundg (gk - 1)
         case measure=>omega
         case rel=>exact ⟨i,_,by omega,by omega,rfl,by first|rfl|rw [hiw]|rw [hiw2],HM.out.putU HDN.out hlt HHB.out HDL.out⟩
       ·have himi:¬(i:Int)<(m:Int):=by omega
        have him2:i=m:=by omega
        obtain ⟨x,hx⟩:=nqx (lim a i);have hx0:x=0:=by rw [hx,him2];exact qjK HNM.out.1.1 (Nat.le_refl _)
        obtain ⟨h,hh⟩:=nqx (x*2^s%BB);have hh0:h=0:=by rw [hh,hx0];simp
        have HHB:=hid (show h<BB by rw [hh0];exact qbH);have HH:=hid (And.intro hx hh)
        have HSELF:=hid (show upd M i h=M by
         have:=qgK M i h
         rw [HDL0.out,hh0] at this;rw [hh0];omega)
        have hi1:0<i:=by have:=HNB.out;omega
        clear hx hx0 hh hh0 him him2;have hi1i:(0:Int)<(i:Int):=by omega
        by_cases hs1:0<s
        ·have hs1i:(0:Int)<(s:Int):=by omega
         obtain ⟨i1,hi1'⟩:=nqx (i - 1);obtain ⟨y,hy⟩:=nqx (lim a i1);obtain ⟨tt,htt⟩:∃ t,t=32 - s:=⟨_,rfl⟩;obtain ⟨yl,hyl⟩:=nqx (y / 2^tt);obtain ⟨d,hd⟩:=nqx (h+yl);have hor:=qvJ (x:=x) (y:=y) (s:=s) (h:=h) (d:=d) (hy ▸ qaG a i1) hs32 hs1 HH.out.2 (by rw [hd,hyl,htt]);rw [←htt,←hyl] at hor;obtain ⟨hor1,hdB⟩:=hor;have hcast:(y:Int) / 2^tt=(yl:Int):=by rw [hyl];simp
         have htw:IntKind.i64.wrap (32 - (s:Int))=(tt:Int):=by rw [IntWalk.i64_in _ (by omega)];omega
         have htt32:tt<32:=by omega
         have hiw1:IntKind.i64.wrap ((i:Int) - 1)=(i1:Int):=by rw [hiw];omega
         have hiw2:(i:Int) - 1=(i1:Int):=by omega
         have HY:=hid hy
         have HDL:=hid (show upd (upd M i h) i d=X0 / BB^i*BB^i by
          rw [qkX _ _ _ _ HHB.out,←HTD.out];congr 1
          rw [HLX.out,if_neg (by omega),←HH.out.1,←HH.out.2,←hi1',←hy,←htt,←hyl,hd])
         have HDB:=hid hdB;have hi1l:i1<32:=by omega
         have hi1z:(0:Int)≤(i1:Int):=by omega
         clear hy htt hyl hd hdB hi1' hi1;go_upto_region 23 with fail
         obtain ⟨wy,hwy⟩:=nqx wr;rw [←hwy];replace HM:=hid (show DM ba oa bb ob B0 B1 B2 B3 ca cb w wy 0 0 (upd M i h) V by rw [hwy,HSELF.out];exact HM.out);clear hwy hcv hfv;obtain ⟨kq,V_kq⟩:=nvx (lv 32 (0));obtain ⟨kr,V_kr⟩:=nvx (lv 32 (0));obtain ⟨ku,V_ku⟩:=nvx (lv 33 (upd M i h));obtain ⟨kv,V_kv⟩:=nvx (lv 32 (V));have Aba:=hid HM.out.a;have Abb:=hid HM.out.b;have AB0:=hid (show At wy B0 0 kq by rw [V_kq.out];exact HM.out.q);have AB1:=hid (show At wy B1 0 kr by rw [V_kr.out];exact HM.out.r);have AB2:=hid (show At wy B2 0 ku by rw [V_ku.out];exact HM.out.u);have AB3:=hid (show At wy B3 0 kv by rw [V_kv.out];exact HM.out.v);have FR:=hid HM.out.f;have FR0:=hid HM.out.f.le;obtain ⟨kn,V_kn⟩:=nvx (lv 33 (upd (upd M i h) i d));refine wF [⟨false,0,131,14,B2,0,22,130,kn,i,[.int .u32 (d:Int)],ku⟩] [(118,iT i),(119,pT B2 i),(120,.int .u32 (h:Int)),(121,pT ba oa),(122,iT i),(123,iT i1),(124,pT ba oa),(125,pT ba ((oa+i1))),(126,.int .u32 (y:Int)),(127,iT s),(128,iT tt),(129,.int .u32 (yl:Int)),(130,.int .u32 (d:Int)),(131,pT B2 i)] (by simp only [zu];rfl) (by as_aux_lemma=>kernel_rfl) ?_ ?_ (fP1 bnC) ?_ uno ?_ ?_
         ·intro W' hW';have cl1:=fun p os=>qaB ((AB2.out.below hW').cellV V_ku.out (show h=lim (upd M i h) i by rw [qiS HHB.out,if_pos rfl]) hlt).1 p os
          have cl2:=fun p os=>qaB ((Aba.out.below hW').limbO V_ca.out HY.out hi1l) p os
          refine fo4 ?_ ?_ ?_ ?_<|fo4 ?_ ?_ ?_ ?_<|fo4 ?_ ?_ ?_ ?_<|fo2 ?_ ?_<|fxs rfl<|fxn;all_goals (go_big_quiet_step (fail);exact wqn rfl)
         ·intro W' hK';iterate 14 (first|(refine fxo ?_ ?_;(go_big_quiet_step (fail);(try simp only [zq]);exact wqn rfl))|(refine fxs (by as_aux_lemma=>kernel_rfl) ?_))
          refine fxs (by as_aux_lemma=>kernel_rfl) ?_;exact fxn
         ·exact fP1 (fun _=>⟨AB2.out.lt,rfl,At.roomC AB2.out ((qcD V_ku.out V_kn.out hlt HDB.out))⟩)
         ·exact fP1 (qeK rfl rfl Tryz.infoU rfl (by rw [V_ku.out,qlL];omega) (qcD V_ku.out V_kn.out hlt HDB.out))
         intro β wz E;replace FR:=ffh FR E (by omega);replace Aba:=afh Aba E (by omega);replace Abb:=afh Abb E (by omega);replace AB0:=afh AB0 E (by omega);replace AB1:=afh AB1 E (by omega);replace AB2:=aoh E AB2 mms;replace AB3:=afh AB3 E (by omega);simp only [nP,zu];replace FR0:=hid FR.out.le;replace HM:=hid (show DM ba oa bb ob B0 B1 B2 B3 ca cb w wz (0) (0) (X0 / BB^i*BB^i) (V) from ⟨Aba.out,Abb.out,by have:=AB0.out;rwa [V_kq.out] at this,by have:=AB1.out;rwa [V_kr.out] at this,by have:=AB2.out;rwa [V_kn.out,HDL.out] at this,by have:=AB3.out;rwa [V_kv.out] at this,FR.out⟩);clear Aba Abb AB0 AB1 AB2 AB3 FR FR0;go_wp2
         go_roundg (gk - 1)
         case measure=>omega
         case rel=>exact ⟨i,_,by omega,by omega,rfl,by first|rfl|rw [hiw]|rw [hiw2],HM.out⟩
        ·have hs1i:¬(0:Int)<(s:Int):=by omega
         have HDL:=hid (show X0 / BB^i*BB^i=upd M i h by
          rw [←HTD.out];congr 1
          rw [HLX.out,←HH.out.1,←HH.out.2];rw [if_neg (by omega),show s=0 by omega,Nat.sub_zero,←qdB,Nat.div_eq_of_lt (qaG _ _),Nat.add_zero])
         clear hi1;go_wp2
         go_roundg (gk - 1)
         case measure=>omega
         case rel=>exact ⟨i,_,by omega,by omega,rfl,by first|rfl|rw [hiw]|rw [hiw2],by rw [HDL.out,HSELF.out];exact HM.out⟩
      ·have hz1:z=-1:=by omega
       subst hz1;subst hk0;replace HM:=hid (show DM ba oa bb ob B0 B1 B2 B3 ca cb w wr 0 0 X0 V by have:=HM.out;simpa using this);clear hz hk hg;go_wp2
       exact qvX hn32 HNM HV V_cq V_cr HB0 l01 hZB1 hZB0 lba lbb hs32 HVB HX0 HXB HVX HNB hn1l h12 h23 HDN HM _ (by assumption)
theorem qqD {ca cb cq cr:List Value} {a b ba oa bb ob:Nat} (w:World) (h1:At w ba oa ca) (h2:At w bb ob cb) (hca:ca=lv 32 a) (hcb:cb=lv 32 b) (hcq:cq=lv 32 (a / b)) (hcr:cr=lv 32 (a%b)) (ha:a<BB^32) (hb:b<BB^32) (hb0:0<b) :
  CB 145 #[.pointer (some ⟨ba,oa,none⟩),.pointer (some ⟨bb,ob,none⟩)] (.tuple #[.agg cq.toArray,.agg cr.toArray]) w:=by
 rcases Nat.lt_or_ge a b with h|h
 ·exact qkF w h1 h2 hca hcb hcq hcr ha hb hb0 (.inl h)
 ·rcases Nat.lt_or_ge b BB with h'|h'
  ·exact qkF w h1 h2 hca hcb hcq hcr ha hb hb0 (.inr h')
  ·exact qvY w h1 h2 hca hcb hcq hcr ha hb hb0 ⟨h,h'⟩
end Go.Proofs.YtemoddmadfoaiaaGreat
