import Derived.Test.YtemoddmadfoaiaaGreatDyR
import Derived.Test.YtemoddmadfoaiaaGreatScD
set_option linter.unusedVariables false
set_option linter.unusedSimpArgs false
set_option maxRecDepth 100000
set_option maxHeartbeats 16000000
namespace Go.Proofs.YtemoddmadfoaiaaGreat
open Go.RowKit Big Reg Ga Dl
open Lib (hid)
def slcAt (v:Value) (i:Nat):Value:=match v with|.slice (some a) _ _=>.pointer (some ⟨a.block,i,none⟩)|_=>undef
set_option maxRecDepth 1000000 in
theorem Tryz.layN2:LaysAs Tryz.prog 70 (nm false 0 false 0 0).toArray:=by
 unfold nm rat;rw [qbS];intro o ho b w;unfold execOp;simp only [ho];rfl
namespace Dl
theorem qdY:(100000000000000000000000000:Nat)<B480:=by unfold B480 BB;decide
theorem vqz (z:Int) (h:z.natAbs≤10000000000000000000):VQ (z,1):=⟨by have:=qdY;simp only;omega,by have:=qdY;simp only;omega,Nat.one_ne_zero,by simp⟩
theorem qxP {a b:Int} (h:(a*b).natAbs≤10000000000000000000):mulQ (a,1) (b,1)=some (a*b,1):=by
 have:=jiE (vqz (a*b) h)
 simpa [mulQ] using this
structure HuP (net before:Int) (pl:Nat) (one:Qn):Prop where
 eq:quo2 (net*((10^pl:Nat):Int),1) (before*100,1)=some one
 vq:VQ one
 pos:0<one.1
 num:one.1.natAbs≤1000000000000
 den:one.2≤100000000000
 vl:Val one (net*((10^pl:Nat):Int)) (before*100)
theorem jiI {net before:Int} {pl:Nat} (h1:1≤net) (h2:net≤1000000000) (h3:1≤before) (h4:before≤1000000000) (h5:pl≤3):∃ one,HuP net before pl one:=by
 have h10:10^pl≤10^3:=Nat.pow_le_pow_right (by omega) h5;have h1p:0<10^pl:=Nat.pow_pos (by decide);obtain ⟨T,hT⟩:∃ T,T=10^pl:=⟨_,rfl⟩;rw [←hT] at h10 h1p;have hN:(net*(T:Int)).natAbs≤1000000000000:=by rw [Int.natAbs_mul];exact Nat.le_trans (Nat.mul_le_mul (show net.natAbs≤1000000000 by omega) (show (T:Int).natAbs≤1000 by omega)) (by decide)
 have hpos:0<net*(T:Int):=Int.mul_pos (by omega) (by omega);have hD:(before*100).natAbs≤100000000000:=by omega
 have hD0:(before*100).natAbs≠0:=by omega
 obtain ⟨one,ho⟩:=qhB (N:=net*(T:Int)) (D:=(before*100).natAbs) (by have:=qdY;omega) (by have:=qdY;omega);obtain ⟨e,b1,b2⟩:=qfD hD0 ho;have v:=qcR hD0 ho;have hd:((before*100).natAbs:Int)=before*100:=by omega
 rw [hd] at e;refine ⟨one,by rw [←hT];simpa [quo2] using ho,v,?_,by omega,by omega,?_⟩
 ·have h:0<net*(T:Int)*(one.2:Int):=Int.mul_pos hpos (by have:=v.pos;omega);rw [←e] at h;rcases Int.lt_or_le 0 one.1 with h0|h0
  ·exact h0
  ·have:=Int.mul_nonpos_of_nonpos_of_nonneg h0 (show 0≤before*100 by omega)
   omega
 ·rw [←hT];exact ⟨v.pos,e⟩
theorem qiW {net before:Int} {pl:Nat} {one:Qn} (h:HuP net before pl one) {s:Int} (h1:90≤s) (h2:s≤110):∃ r q,mkQ s 100=some r∧VQ r∧mulQ one r=some q∧Pc q∧Val r s 100:=by
 obtain ⟨r,hr,hm⟩:=jiF (n:=s) (d:=100) (by omega) (by omega) (by omega) (by omega);obtain ⟨c,a,b⟩:=qnI (by omega) (by omega) hr;have hN:(one.1*r.1).natAbs≤1000000000000*110:=by rw [Int.natAbs_mul];exact Nat.mul_le_mul h.num (by omega)
 have hD:one.2*r.2≤100000000000*100:=Nat.mul_le_mul h.den b;have hD0:one.2*r.2≠0:=Nat.mul_ne_zero h.vq.pos c.vq.pos;obtain ⟨q,hq⟩:=qhB (N:=one.1*r.1) (D:=one.2*r.2) (by have:=qdY;omega) (by have:=qdY;omega);have hpos:1≤one.1*r.1:=by have:=Int.mul_pos h.pos c.pos;omega
 exact ⟨r,q,hr,c.vq,hq,(qnI hpos hD0 hq).1,jhJ (by decide) hr⟩
theorem jeM {x y:Int} (hx:x.natAbs≤10000000000000000000) (hy:0<y) (hy2:y≤1000000000000000):∃ r,quo2 (x,1) (y,1)=some r∧VQ r:=by
 have hD0:1*y.natAbs≠0:=by omega
 obtain ⟨r,hr⟩:=qhB (N:=x*((1:Nat):Int)) (D:=1*y.natAbs) (by have:=qdY;omega) (by have:=qdY;omega);exact ⟨r,hr,qcR hD0 hr⟩
theorem jcK {net before u:Int} {pl:Nat} {one r q:Qn} (h:HuP net before pl one) (hn:1≤net) (hu:0≤u∧u<3) (hr:mkQ (100+u) 100=some r) (hq:mulQ one r=some q):Pc q∧net*(wB q pl:Int)≤before*wA q:=by
 obtain ⟨r2,q2,a1,a2,a3,a4,a5⟩:=qiW h (s:=100+u) (by omega) (by omega);rw [hr] at a1;injection a1 with a1
 subst a1;rw [hq] at a3;injection a3 with a3
 subst a3;exact ⟨a4,quI h.vl a5 hq (by omega) (by omega)⟩
theorem jiJ {net before u:Int} {pl:Nat} {one r q:Qn} (h:HuP net before pl one) (hn:1≤net) (hu:0≤u∧u<3) (hr:mkQ (100 - u) 100=some r) (hq:mulQ one r=some q):Pc q∧before*wA q≤net*(wB q pl:Int):=by
 obtain ⟨r2,q2,a1,a2,a3,a4,a5⟩:=qiW h (s:=100 - u) (by omega) (by omega);rw [hr] at a1;injection a1 with a1
 subst a1;rw [hq] at a3;injection a3 with a3
 subst a3;exact ⟨a4,jbU h.vl a5 hq (by omega) (by omega)⟩
end Dl
theorem jcL {l:List Lot} (h:ScGood l) (hl:l.length≤6):0≤sumU l∧sumU l≤6000000:=by
 have g:∀ l:List Lot,(∀ x∈l,gdLot x)→0≤sumU l∧sumU l≤1000000*(l.length:Int):=by
  intro l
  induction l with
  | nil=>intro _;simp [sumU]
  | cons x l ih =>
   intro hg;have a:=ih fun y hy=>hg y (List.mem_cons_of_mem _ hy)
   have b:=hg x mms;have b1:=b.2.2.2.1;have b2:=b.2.2.2.2;simp only [sumU,List.length_cons];rw [Int.natCast_add,Int.mul_add];omega
 have:=g l h.2
 omega
theorem hurts_any (a:Option Addr) (len cap:Nat) (z:List Int) (pz nz:Int) (w:World) (hr:IsRow .i64 w a len cap z) :
  CB 9 #[.slice a len cap,.int .i64 pz,.int .i64 nz] (.bool true) w:=by
 have hln:=jfF hr;have hl9:len≤9223372036854775807:=by unfold maxLen at hln;omega
 obtain ⟨bt,hbt⟩:=nqx (w.heap.size);have hN:=jgA a len cap z w hr hl9;rw [←hbt] at hN;have HBT:=hid hbt;have HN:=hid hN;have HRG:=hid (fun W (h:IsTp W bt)=>show Calls Tryz.prog 16 #[.pointer (some ⟨bt,0,none⟩),.int .i64 6] W (ScRegP 6 bt W) from qpA bt 6 W h (by decide));have HDL:=hid (fun W (h:IsTp W bt)=>show Calls Tryz.prog 17 #[.pointer (some ⟨bt,0,none⟩),.int .i64 8] W (fun e w'=>∃ (v:Value) (l:List Tk),e=.returned v∧MadeTs 8 l∧w'.ownsRow W.heap.size 60 13 v l.length (cellsT l)∧Drew W bt w') from qyZ bt 8 W h (by decide));clear hN hbt hr hl9 hln;go_enter Tryz.func9,Tryz.ntmps9
 go_wp2_with fail
 refine HN.out.mono ?_;rintro e w1 ⟨rfl,ht1,hb1⟩;have HT1:=hid ht1;have HB1:=hid hb1;have hbt1:=ht1.lt;clear ht1 hb1 HN;have D3:=hid (Drew.refl HT1.out);go_upto_region 3 with (first|(go_at_call 16;refine (HRG.out _ D3.out.1).mono ?_;rintro e w4 ⟨va,l,rfl,hg,hl6,ho,hd⟩;have D4:=hid (D3.out.trans hd);obtain ⟨A,q0,rfl⟩:=Rd.form ho.lots;have HG:=hid hg;have HO:=hid ho;have HNIL:=hid (quF ho);have HL6:=hid hl6;clear hg hl6 ho hd)|(go_at_call 17;refine (HDL.out _ D4.out.1).mono ?_;rintro e w5 ⟨vt,ts,rfl,hm,ho,hd⟩;have HD5:=hid hd;have HM:=hid hm;obtain ⟨AT,qT,rfl⟩:=Rd.form (Rd.of_own ho);have HTS:=hid ho;clear hm ho hd)|(refine qjD rfl rfl rfl rfl (cs:=[.slice A l.length q0]) ⟨_,Tryz.layRg,by simp⟩ rfl rfl (by kernel_rfl) (by simp [Value.oneCell']) ?_;intro w6 hb6q hA6 hs6))
 try simp only [zq]
 have lb1:=HT1.out.lt;have lb4:=D4.out.size;have D5:=hid (D4.out.trans HD5.out);have lb5:=D5.out.1.lt;replace HO:=hid (HO.out.drawn HD5.out (by omega));obtain ⟨b8,hb8⟩:=nqx (w5.heap.size);rw [←hb8] at hA6 lb5 ⊢;have Ab8:=hid hA6;replace HO:=hid (HO.out.below hb6q);replace HTS:=hid (qgX HTS.out hb6q);have D6:=hid (D5.out.below hb6q);obtain ⟨n,hn⟩:=nqx (ts.length);obtain ⟨nS,hnS⟩:=nqx (l.length);rw [←hn] at HTS ⊢;rw [←hnS] at HO Ab8 ⊢;have HNT:=hid hn;have HNS:=hid hnS;have HZB:=hid (show Below w.heap.size w w1 by have h:=HB1.out;rwa [HBT.out] at h);clear hA6 hs6 hb6q hb8 D3 D4 D5 HD5 HB1 HT1 HRG HDL hn hnS;obtain ⟨hm0,hm1⟩:=qrH pz 4 (by decide);obtain ⟨pl,hpl⟩:∃ pl:Nat,modI pz 4=(pl:Int):=⟨(modI pz 4).toNat,by omega⟩;have hpl3:pl≤3:=by omega
 have HMD:=hid (fun W=>show Calls Tryz.prog 18 #[.int .i64 pz,.int .i64 4] W (fun e w'=>e=.returned (.int .i64 (pl:Int))∧W=w') by rw [←hpl];exact qrG pz 4 W (by decide));obtain ⟨hn0,hn1⟩:=qrH nz 1000000000 (by decide);obtain ⟨mz,hmz⟩:=nqx (modI nz 1000000000);have HME:=hid (fun W=>show Calls Tryz.prog 18 #[.int .i64 nz,.int .i64 1000000000] W (fun e w'=>e=.returned (.int .i64 mz)∧W=w') by rw [hmz];exact qrG nz 1000000000 W (by decide));rw [←hmz] at hn0 hn1;obtain ⟨net,hnet⟩:∃ m,m=1+mz:=⟨_,rfl⟩;have wn:IntKind.i64.wrap (1+mz)=net:=by rw [hnet];exact IntWalk.i64_in _ (by omega)
 have hnet1:1≤net∧net≤1000000000:=by omega
 clear hpl hm0 hm1 hmz hnet hn0 hn1;go_wp2_with fail
 refine (HMD.out _).mono ?_;rintro e w9 ⟨rfl,rfl⟩;go_wp2_with fail
 refine (HME.out _).mono ?_;rintro e w9 ⟨rfl,rfl⟩;go_upto_region 4 with fail
 clear wn HMD HME;obtain ⟨hT,hOK,hn8⟩:=jbS HM.out (by decide);have HCH:=hid (quN HG.out (by have:=HL6.out;omega));have HOK:=hid hOK;have HTT:=hid hT;have hn8':n≤8:=by rw [HNT.out];exact hn8
 obtain ⟨hg0,hg1⟩:=jcL HG.out HL6.out;obtain ⟨before,hbe⟩:=nqx (sumU l);rw [←hbe] at hg0 hg1;have HBE:=hid hbe;obtain ⟨c8,V_c8⟩:=nvx ([.slice A nS q0]);have Ab8c:=hid (show At w6 b8 0 c8 by rw [V_c8.out];exact Ab8.out)
 have HTO:=hid (fun V (h:Below w6.heap.size w6 V)=>show CB 37 #[.agg c8.toArray] (.tuple #[.int .i64 before,.int .i64 0]) V by
  have g:=qkV A q0 l V (by have:=Rd.below HO.out.lots h;rwa [HNS.out] at this);rw [V_c8.out,HNS.out];have e1:totN l=before:=by unfold totN;rw [HCH.out,HBE.out];rfl
  have e2:totE l=0:=by unfold totE;rw [HCH.out];rfl
  rw [e1,e2] at g;exact g)
 clear hOK hT hn8 hbe;have FR:=hid (Fr.start w6);have FR0:=hid FR.out.le;refine wE [(36,aT c8),(37,.tuple #[iT before,iT 0]),(35,.tuple #[iT before,iT 0]),(38,iT before),(39,iT 0),(10,iT before),(11,iT 0)] (by simp only [zu];rfl) (by kernel_rfl) ?_ ?_
 ·intro W' hW';refine fxl (abl Ab8c hW') (qfZ V_c8.out) Tryz.underlying40 rfl rfl<|fo4 ?_ ?_ ?_ ?_<|fo2 ?_ ?_<|fxn;all_goals (go_big_quiet_step (exact qaA (HTO.out _ (hW'.trans ((qbG _ _ _).mono hW'.size))));exact wqn rfl)
 intro β w7 E;replace FR:=fnf FR E rfl;replace Ab8c:=fnh Ab8c E rfl;simp only [nP,zu];replace FR0:=hid FR.out.le;have HB67:=hid FR.out.below;have D7:=hid (D6.out.below HB67.out);have HBW:=hid (Drew.fram D7.out HBT.out HZB.out);by_cases hb0:before=0
 ·subst hb0;go_wp2_with fail
  refine (qiZ _).mono ?_;rintro e w9 ⟨rfl,hb9⟩;go_wp2
  go_ret
  exact ⟨rfl,HBW.out.trans (hb9.mono HBW.out.size)⟩
 have hbp:1≤before:=by omega
 go_upto_region 7 with fail
 obtain ⟨one,hone⟩:=jiI (pl:=pl) hnet1.1 hnet1.2 hbp (by omega) hpl3;have HON:=hid hone;obtain ⟨T,hT⟩:=nqx (((10^pl:Nat):Int):Int)
 have HT4:=hid (fun g W (hA:At W g 0 [.int .i64 1,.int .i64 10,.int .i64 100,.int .i64 1000])=>show W.cell? ⟨g,pl,none⟩=some (.int .i64 T) by
  have h4:pl=0∨pl=1∨pl=2∨pl=3:=by omega
  rcases h4 with h|h|h|h<;>subst h<;>rw [hT]
  ·exact hA.cel (k:=0) rfl
  ·exact hA.cel (k:=1) rfl
  ·exact hA.cel (k:=2) rfl
  ·exact hA.cel (k:=3) rfl)
 have hTb:1≤T∧T≤1000:=by
  have h10:10^pl≤10^3:=Nat.pow_le_pow_right (by omega) hpl3;have h1p:0<10^pl:=Nat.pow_pos (by decide);omega
 have hp4:(pl:Int)<4:=by omega
 have HTE:=hid hT;clear hT;have hNT0:0≤net*T:=Int.mul_nonneg (by omega) (by omega);have hNT1:net*T≤1000000000*T:=Int.mul_le_mul_of_nonneg_right hnet1.2 (by omega);obtain ⟨cn,V_cn⟩:=nvx (nm (decide (net<0)) (net).natAbs false 1 0);obtain ⟨ct,V_ct⟩:=nvx (nm (decide (T<0)) (T).natAbs false 1 0);obtain ⟨cnt,V_cnt⟩:=nvx (nm (decide (net*T<0)) (net*T).natAbs false 1 0);obtain ⟨cb,V_cb⟩:=nvx (nm (decide (before<0)) (before).natAbs false 1 0);obtain ⟨ch,V_ch⟩:=nvx (nm false 100 false 1 0);obtain ⟨cbh,V_cbh⟩:=nvx (nm (decide (before*100<0)) (before*100).natAbs false 1 0);obtain ⟨co,V_co⟩:=nvx (nm (decide (one.1<0)) one.1.natAbs false one.2 0);have HI1:=hid (jeO (cN:=cn) (z:=net) (by rw [V_cn.out];rfl) (by omega) (by omega));have HI2:=hid (jeO (cN:=ct) (z:=T) (by rw [V_ct.out];rfl) (by omega) (by omega));have HI3:=hid (jeO (cN:=cb) (z:=before) (by rw [V_cb.out];rfl) (by omega) (by omega));have HI4:=hid (jeO (cN:=ch) (z:=100) (by rw [V_ch.out];rfl) (by decide) (by decide));have HM1:=hid (jiX (ca:=cn) (cb:=ct) (cN:=cnt) (a:=some (net,1)) (b:=some (T,1)) (by rw [V_cn.out];rfl) (by rw [V_ct.out];rfl) (fun r e=>by injection e with e;subst e;exact vqz _ (by omega)) (fun r e=>by injection e with e;subst e;exact vqz _ (by omega)) (by show _=resN (mulQ (net,1) (T,1));rw [qxP (by omega),V_cnt.out];rfl));have HM2:=hid (jiX (ca:=cb) (cb:=ch) (cN:=cbh) (a:=some (before,1)) (b:=some (100,1)) (by rw [V_cb.out];rfl) (by rw [V_ch.out];rfl) (fun r e=>by injection e with e;subst e;exact vqz _ (by omega)) (fun r e=>by injection e with e;subst e;exact vqz _ (by decide)) (by show _=resN (mulQ (before,1) (100,1));rw [qxP (by omega),V_cbh.out];rfl));have HQ1:=hid (eQuo (ca:=cnt) (cb:=cbh) (cN:=co) (a:=some (net*T,1)) (b:=some (before*100,1)) (by rw [V_cnt.out];rfl) (by rw [V_cbh.out];rfl) (fun r e=>by injection e with e;subst e;exact vqz _ (by omega)) (fun r e=>by injection e with e;subst e;exact vqz _ (by omega)) (fun y e=>by injection e with e;subst e;show 0<before*100;omega) (by show _=resN (quo2 (net*T,1) (before*100,1));rw [HTE.out,HON.out.eq,V_co.out];rfl));have HTW:=hid D7.out.1;have hbW:=D7.out.1.lt
 refine qeT 14 [2,13] (fun g v w=>(g=2→EvRow w7.heap.size 4 (fun cs=>cs=[.int .i64 1,.int .i64 10,.int .i64 100,.int .i64 1000]) v w)∧(g=13→EvNew w7.heap.size 67 v w)) (fun a b=>Drew a bt b) [⟨43,[],fun _=>.int .i64 net⟩,⟨44,[],fun _=>.agg cn.toArray⟩,⟨45,[2],fun l=>(l.getD 0 undef)⟩,⟨46,[],fun _=>.int .i64 (pl:Int)⟩,⟨47,[2],fun l=>slcAt (l.getD 0 undef) pl⟩,⟨48,[],fun _=>.int .i64 T⟩,⟨49,[],fun _=>.agg ct.toArray⟩,⟨50,[],fun _=>.agg cnt.toArray⟩,⟨51,[],fun _=>.int .i64 before⟩,⟨52,[],fun _=>.agg cb.toArray⟩,⟨53,[],fun _=>.agg ch.toArray⟩,⟨54,[],fun _=>.agg cbh.toArray⟩,⟨55,[],fun _=>.agg co.toArray⟩,⟨12,[13],fun l=>(l.getD 0 undef)⟩] _ (by simp only [List.take_succ_cons,List.take_zero,List.take_nil];rfl) (by simp only [List.drop_succ_cons,List.drop_zero,List.drop_nil];rfl) (by intro γ;simp only [finG,List.foldl_cons,List.foldl_nil,List.map_cons,List.map_nil,List.getD_cons_zero,List.getD_cons_succ,zq];rfl) (by kernel_rfl) (by kernel_rfl) (by kernel_rfl) (by kernel_rfl) (by kernel_rfl) (fun _ _ _ h k=>h.trans k) (Drew.refl HTW.out) (fun a b h k=>⟨k.1.below h,qaH h _⟩) (fun g v x y h h1 h2=>⟨fun e=>EvRow.up hbW (h.1 e) h2,fun e=>EvNew.up hbW (h.2 e) h2⟩) ?_ ?_ ?_ ?_
 ·intro γ W' hK';refine qoH ?_ ?_;(go_big_quiet_step (fail);(try simp only [zq]);exact wqn rfl);refine qoH (by go_big_quiet_step ((go_at_call 30;exact qaA (HI1.out _)));(try simp only [zq]);exact wqn rfl) ?_;refine qvF (by rfl) ?_;refine qoH ?_ ?_;(go_big_quiet_step (fail);(try simp only [zq]);exact wqn rfl);refine qcD (fun hf=>?_) ?_
  ·obtain ⟨g1,c1,e45,hg1,hA1,hc1⟩:=(hf 2 (by simp) (by kernel_rfl)).1 rfl;simp only [e45,ivl,slcAt]
   go_big_quiet_step (fail);(try simp only [zq]);exact wqn rfl
  refine qcD (fun hf=>?_) ?_
  ·obtain ⟨g1,c1,e45,hg1,hA1,hc1⟩:=(hf 2 (by simp) (by kernel_rfl)).1 rfl;subst hc1;have hcc:=HT4.out g1 _ hA1;simp only [e45,ivl,slcAt];exact (wcg (by rfl) rfl rfl (fun W h=>by simp [loadVar,h,go_sem]) hcc (wqn (by simp only [zq])))
  refine qoH (by go_big_quiet_step ((go_at_call 30;exact qaA (HI2.out _)));(try simp only [zq]);exact wqn rfl) ?_;refine qoH (by go_big_quiet_step ((go_at_call 29;exact qaA (HM1.out _)));(try simp only [zq]);exact wqn rfl) ?_;refine qoH ?_ ?_;(go_big_quiet_step (fail);(try simp only [zq]);exact wqn rfl);refine qoH (by go_big_quiet_step ((go_at_call 30;exact qaA (HI3.out _)));(try simp only [zq]);exact wqn rfl) ?_;refine qoH (by go_big_quiet_step ((go_at_call 30;exact qaA (HI4.out _)));(try simp only [zq]);exact wqn rfl) ?_;refine qoH (by go_big_quiet_step ((go_at_call 29;exact qaA (HM2.out _)));(try simp only [zq]);exact wqn rfl) ?_;refine qoH (by go_big_quiet_step ((go_at_call 38;exact qaA (HQ1.out _)));(try simp only [zq]);exact wqn rfl) ?_;refine qvF (by rfl) ?_;exact qeG
 ·intro γ j hj oj hoj W' hK' hR';simp only [List.mem_cons,List.not_mem_nil,or_false] at hj;have hT':=hK'.1;have hB':=hK'.2.size;rcases hj with rfl|rfl
  ·cases hoj
   refine ⟨rfl,GY.mono (D:=fun v w=>Drew W' bt w∧EvRow w7.heap.size 4 (fun cs=>cs=[.int .i64 1,.int .i64 10,.int .i64 100,.int .i64 1000]) v w) ?_ fun v w h=>⟨h.1,⟨fun _=>h.2,fun e=>absurd e (by decide)⟩⟩⟩;exact GY.rowOf (len:=4) (e:=3) (s:=1) [.int .i64 1,.int .i64 10,.int .i64 100,.int .i64 1000] rfl (by simp [Act.eval]) rfl (by decide) (by decide) (by simp [Value.cells]) (by decide) Tryz.underlying33 (by kernel_rfl) (by kernel_rfl) hT' hB' rfl
  ·cases hoj
   refine ⟨rfl,GY.mono (D:=fun v w=>Drew W' bt w∧EvNew w7.heap.size 67 v w) ?_ fun v w h=>⟨h.1,⟨fun e=>absurd e (by decide),fun _=>h.2⟩⟩⟩;exact GY.newOf Tryz.layN2 (by rw [List.size_toArray,qfC]) rfl hT' hB'
 ·intro γ j hj oj hoj;simp only [List.mem_cons,List.not_mem_nil,or_false] at hj;rcases hj with rfl|rfl<;>cases hoj<;>rfl
 intro γ w8 hK hR;obtain ⟨g1,c1,e45,hg1,hA1,hc1⟩:=(hR 2 (by simp)).1 rfl;obtain ⟨X,zs,e12,hX,hAX,hzl⟩:=(hR 13 (by simp)).2 rfl;simp only [e45,e12,ivl,slcAt];clear hR;have HTH:=hid (show w8.there X 0 co.toArray.size by rw [List.size_toArray,V_co.out,qfC,←hzl];exact hAX.there);have HSA:=hid (show (Tryz.prog.info? 70).map (·.size)=some co.toArray.size by rw [List.size_toArray];exact qbU V_co.out);have HONE:=hid (qxI V_co.out);go_upto_region 8 with (refine wpList_store_mid rfl _ _ _ rfl X 0 co.toArray rfl rfl HTH.out HSA.out HONE.out ?_)
 try simp only [zq]
 try simp only [List.toList_toArray]
 have A12:=hid (show At (w8.setCells X 0 co) X 0 co from hAX.stored (ds:=co) (by rw [V_co.out,qfC,hzl]));have E6:=hid (((Drew.refl D6.out.1).below HB67.out).trans (Drew.sets hK hbW hX co));have hXb:bt<X:=by omega
 have hX6:w6.heap.size≤X:=by have:=HB67.out.size;omega
 obtain ⟨w9,hw9⟩:=nqx (w8.setCells X 0 co);rw [←hw9] at A12 E6 ⊢;clear hw9 hK hX hAX hzl hg1 hA1 hc1 e45 e12 HTW hbW HTH HSA HONE HI1 HI2 HI3 HI4 HM1 HM2 HQ1 HT4 D7 hNT0 hNT1;have HTW:=hid E6.out.1;have hbW:=E6.out.1.lt;refine qeT 7 [2,4,5,6] (fun g v w=>(g=2→EvInt (fun u=>0≤u∧u<3) v w)∧(g=4→EvVal (fun v=>∃ (u:Int) (c:List Value),(0≤u∧u<3)∧c=resN (mkQ (100+u) 100)∧v=.agg c.toArray) v w)∧(g=5→EvVal (fun v=>∃ (u:Int) (r q:Qn) (c:List Value),(0≤u∧u<3)∧mkQ (100+u) 100=some r∧mulQ one r=some q∧c=nm (decide (q.1<0)) q.1.natAbs false q.2 0∧v=.agg c.toArray) v w)∧(g=6→EvNew w9.heap.size 67 v w)) (fun a b=>Drew a bt b) [⟨56,[],fun _=>.agg co.toArray⟩,⟨57,[],fun _=>.pointer (some ⟨bt,0,none⟩)⟩,⟨58,[2],fun l=>(l.getD 0 undef)⟩,⟨59,[2],fun l=>.int .i64 (100+ivl (l.getD 0 undef))⟩,⟨60,[4],fun l=>(l.getD 0 undef)⟩,⟨61,[5],fun l=>(l.getD 0 undef)⟩,⟨13,[6],fun l=>(l.getD 0 undef)⟩] _ (by simp only [List.take_succ_cons,List.take_zero,List.take_nil];rfl) (by simp only [List.drop_succ_cons,List.drop_zero,List.drop_nil];rfl) (by intro γ;simp only [finG,List.foldl_cons,List.foldl_nil,List.map_cons,List.map_nil,List.getD_cons_zero,List.getD_cons_succ,zq];rfl) (by kernel_rfl) (by kernel_rfl) (by kernel_rfl) (by kernel_rfl) (by kernel_rfl) (fun _ _ _ h k=>h.trans k) (Drew.refl HTW.out) (fun a b h k=>⟨k.1.below h,qaH h _⟩) (fun g v x y h h1 h2=>⟨fun e=>(h.1 e),fun e=>(h.2.1 e),fun e=>(h.2.2.1 e),fun e=>EvNew.up hbW (h.2.2.2 e) h2⟩) ?_ ?_ ?_ ?_
 ·intro γ W' hK';refine qcD (fun hf=>?_) ?_
  ·skip
   have rdx:=A12.out.drw hK' (by omega);exact (wlg (by rfl) rfl rfl rdx Tryz.underlying70 rfl (qbU V_co.out) (wqn (by simp only [zq])))
  refine qoH ?_ ?_;(go_big_quiet_step (fail);(try simp only [zq]);exact wqn rfl);refine qvF (by rfl) ?_;refine qcD (fun hf=>?_) ?_
  ·obtain ⟨u,e58,hu⟩:=(hf 2 (by simp) (by kernel_rfl)).1 rfl;have wu:IntKind.i64.wrap (100+u)=100+u:=IntWalk.i64_in _ (by omega);simp only [e58,ivl]
   go_big_quiet_step (fail);(try simp only [zq]);exact wqn rfl
  iterate 3 (refine qvF (by rfl) ?_)
  exact qeG
 ·intro γ j hj oj hoj W' hK' hR';simp only [List.mem_cons,List.not_mem_nil,or_false] at hj;have hT':=hK'.1;have hB':=hK'.2.size;rcases hj with rfl|rfl|rfl|rfl
  ·cases hoj
   refine ⟨rfl,GY.mono (D:=fun v w=>Drew W' bt w∧EvInt (fun u=>0≤u∧u<3) v w) ?_ fun v w h=>⟨h.1,⟨fun _=>h.2,fun e=>absurd e (by decide),fun e=>absurd e (by decide),fun e=>absurd e (by decide)⟩⟩⟩;refine GY.callOf (f:=23) (args:=#[.pointer (some ⟨bt,0,none⟩),.int .i64 3]) (by simp [execOp,Act.eval,go_sem]) ((qbN bt 3 _ hT' (by omega) (by omega)).mono ?_);rintro e w5 ⟨u,rfl,h1,h2,hd⟩;exact ⟨_,rfl,hd,u,rfl,h1,h2⟩
  ·cases hoj
   obtain ⟨u,e58,hu⟩:=(hR' 2 (by simp) (by kernel_rfl)).1 rfl;refine ⟨rfl,GY.mono (D:=fun v w=>Drew W' bt w∧EvVal (fun v=>∃ (u:Int) (c:List Value),(0≤u∧u<3)∧c=resN (mkQ (100+u) 100)∧v=.agg c.toArray) v w) ?_ fun v w h=>⟨h.1,⟨fun e=>absurd e (by decide),fun _=>h.2,fun e=>absurd e (by decide),fun e=>absurd e (by decide)⟩⟩⟩;have wu:IntKind.i64.wrap (100+u)=100+u:=IntWalk.i64_in _ (by omega);refine GY.callOf (f:=39) (args:=#[.int .i64 (100+u),.int .i64 100]) (by simp [execOp,Act.eval,go_sem,e58,ivl]) ((jgW (cN:=resN (mkQ (100+u) 100)) (x:=100+u) (y:=100) (d:=100) rfl (by decide) rfl (by omega) (by omega) (by decide) _).mono ?_);rintro e w5 ⟨rfl,hb⟩;exact ⟨_,rfl,(Drew.refl hT').below hb,u,_,hu,rfl,rfl⟩
  ·cases hoj
   obtain ⟨u2,c2,hu2,hc2,e60⟩:=(hR' 4 (by simp) (by kernel_rfl)).2.1 rfl;refine ⟨rfl,GY.mono (D:=fun v w=>Drew W' bt w∧EvVal (fun v=>∃ (u:Int) (r q:Qn) (c:List Value),(0≤u∧u<3)∧mkQ (100+u) 100=some r∧mulQ one r=some q∧c=nm (decide (q.1<0)) q.1.natAbs false q.2 0∧v=.agg c.toArray) v w) ?_ fun v w h=>⟨h.1,⟨fun e=>absurd e (by decide),fun e=>absurd e (by decide),fun _=>h.2,fun e=>absurd e (by decide)⟩⟩⟩;obtain ⟨r,q,hr,hvr,hq,_,_⟩:=qiW HON.out (s:=100+u2) (by omega) (by omega);refine GY.callOf (f:=29) (args:=#[.agg co.toArray,.agg c2.toArray]) (by simp [execOp,Act.eval,go_sem,e60]) ((jiX (ca:=co) (cb:=c2) (cN:=nm (decide (q.1<0)) q.1.natAbs false q.2 0) (a:=some one) (b:=some r) (by rw [V_co.out];rfl) (by rw [hc2,hr]) (fun r e=>by injection e with e;subst e;exact HON.out.vq) (fun r e=>by injection e with e;subst e;exact hvr) (by show _=resN (mulQ one r);rw [hq];rfl) _).mono ?_);rintro e w5 ⟨rfl,hb⟩;exact ⟨_,rfl,(Drew.refl hT').below hb,u2,r,q,_,hu2,hr,hq,rfl,rfl⟩
  ·cases hoj
   refine ⟨rfl,GY.mono (D:=fun v w=>Drew W' bt w∧EvNew w9.heap.size 67 v w) ?_ fun v w h=>⟨h.1,⟨fun e=>absurd e (by decide),fun e=>absurd e (by decide),fun e=>absurd e (by decide),fun _=>h.2⟩⟩⟩;exact GY.newOf Tryz.layN2 (by rw [List.size_toArray,qfC]) rfl hT' hB'
 ·intro γ j hj oj hoj;simp only [List.mem_cons,List.not_mem_nil,or_false] at hj;rcases hj with rfl|rfl|rfl|rfl<;>cases hoj<;>rfl
 intro γ w10 hK hR;obtain ⟨u,e58,hu⟩:=(hR 2 (by simp)).1 rfl;obtain ⟨u2,c2,hu2,hc2,e60⟩:=(hR 4 (by simp)).2.1 rfl;obtain ⟨u3,r3,qo,cqo,hu3,hr3,hqo,hcqo,e61⟩:=(hR 5 (by simp)).2.2.1 rfl;obtain ⟨Xo,zs,e13,hX,hAX,hzl⟩:=(hR 6 (by simp)).2.2.2 rfl;simp only [e58,e60,e61,e13,ivl];clear hR;have V_cqo:=hid hcqo;have HTH:=hid (show w10.there Xo 0 cqo.toArray.size by rw [List.size_toArray,V_cqo.out,qfC,←hzl];exact hAX.there);have HSA:=hid (show (Tryz.prog.info? 70).map (·.size)=some cqo.toArray.size by rw [List.size_toArray];exact qbU V_cqo.out);have HONE:=hid (qxI V_cqo.out);go_upto_region 9 with (refine wpList_store_mid rfl _ _ _ rfl Xo 0 cqo.toArray rfl rfl HTH.out HSA.out HONE.out ?_)
 try simp only [zq]
 try simp only [List.toList_toArray]
 have AXo:=hid (show At (w10.setCells Xo 0 cqo) Xo 0 cqo from hAX.stored (ds:=cqo) (by rw [V_cqo.out,qfC,hzl]));have hds:=Drew.sets hK hbW hX cqo;have HRqo:=hid (And.intro hu3 (And.intro hr3 hqo));replace E6:=hid (E6.out.trans hds);replace A12:=hid (A12.out.drw hds (by omega));have hbXo:bt<Xo:=by omega
 obtain ⟨w11,hw3⟩:=nqx (w10.setCells Xo 0 cqo);rw [←hw3] at AXo A12 E6  ⊢;clear hw3 hK hX hAX hzl HTW hbW HTH HSA HONE hds hu hu2 hc2 hu3 hr3 hqo hcqo e58 e60 e61 e13;have HTW:=hid E6.out.1;have hbW:=E6.out.1.lt;refine qeT 7 [2,4,5,6] (fun g v w=>(g=2→EvInt (fun u=>0≤u∧u<3) v w)∧(g=4→EvVal (fun v=>∃ (u:Int) (c:List Value),(0≤u∧u<3)∧c=resN (mkQ (100 - u) 100)∧v=.agg c.toArray) v w)∧(g=5→EvVal (fun v=>∃ (u:Int) (r q:Qn) (c:List Value),(0≤u∧u<3)∧mkQ (100 - u) 100=some r∧mulQ one r=some q∧c=nm (decide (q.1<0)) q.1.natAbs false q.2 0∧v=.agg c.toArray) v w)∧(g=6→EvNew w11.heap.size 67 v w)) (fun a b=>Drew a bt b) [⟨62,[],fun _=>.agg co.toArray⟩,⟨63,[],fun _=>.pointer (some ⟨bt,0,none⟩)⟩,⟨64,[2],fun l=>(l.getD 0 undef)⟩,⟨65,[2],fun l=>.int .i64 (100 - ivl (l.getD 0 undef))⟩,⟨66,[4],fun l=>(l.getD 0 undef)⟩,⟨67,[5],fun l=>(l.getD 0 undef)⟩,⟨14,[6],fun l=>(l.getD 0 undef)⟩] _ (by simp only [List.take_succ_cons,List.take_zero,List.take_nil];rfl) (by simp only [List.drop_succ_cons,List.drop_zero,List.drop_nil];rfl) (by intro γ;simp only [finG,List.foldl_cons,List.foldl_nil,List.map_cons,List.map_nil,List.getD_cons_zero,List.getD_cons_succ,zq];rfl) (by kernel_rfl) (by kernel_rfl) (by kernel_rfl) (by kernel_rfl) (by kernel_rfl) (fun _ _ _ h k=>h.trans k) (Drew.refl HTW.out) (fun a b h k=>⟨k.1.below h,qaH h _⟩) (fun g v x y h h1 h2=>⟨fun e=>(h.1 e),fun e=>(h.2.1 e),fun e=>(h.2.2.1 e),fun e=>EvNew.up hbW (h.2.2.2 e) h2⟩) ?_ ?_ ?_ ?_
 ·intro γ W' hK';refine qcD (fun hf=>?_) ?_
  ·skip
   have rdx:=A12.out.drw hK' (by omega);exact (wlg (by rfl) rfl rfl rdx Tryz.underlying70 rfl (qbU V_co.out) (wqn (by simp only [zq])))
  refine qoH ?_ ?_;(go_big_quiet_step (fail);(try simp only [zq]);exact wqn rfl);refine qvF (by rfl) ?_;refine qcD (fun hf=>?_) ?_
  ·obtain ⟨u,e64,hu⟩:=(hf 2 (by simp) (by kernel_rfl)).1 rfl;have wu:IntKind.i64.wrap (100 - u)=100 - u:=IntWalk.i64_in _ (by omega);simp only [e64,ivl]
   go_big_quiet_step (fail);(try simp only [zq]);exact wqn rfl
  iterate 3 (refine qvF (by rfl) ?_)
  exact qeG
 ·intro γ j hj oj hoj W' hK' hR';simp only [List.mem_cons,List.not_mem_nil,or_false] at hj;have hT':=hK'.1;have hB':=hK'.2.size;rcases hj with rfl|rfl|rfl|rfl
  ·cases hoj
   refine ⟨rfl,GY.mono (D:=fun v w=>Drew W' bt w∧EvInt (fun u=>0≤u∧u<3) v w) ?_ fun v w h=>⟨h.1,⟨fun _=>h.2,fun e=>absurd e (by decide),fun e=>absurd e (by decide),fun e=>absurd e (by decide)⟩⟩⟩;refine GY.callOf (f:=23) (args:=#[.pointer (some ⟨bt,0,none⟩),.int .i64 3]) (by simp [execOp,Act.eval,go_sem]) ((qbN bt 3 _ hT' (by omega) (by omega)).mono ?_);rintro e w5 ⟨u,rfl,h1,h2,hd⟩;exact ⟨_,rfl,hd,u,rfl,h1,h2⟩
  ·cases hoj
   obtain ⟨u,e64,hu⟩:=(hR' 2 (by simp) (by kernel_rfl)).1 rfl;refine ⟨rfl,GY.mono (D:=fun v w=>Drew W' bt w∧EvVal (fun v=>∃ (u:Int) (c:List Value),(0≤u∧u<3)∧c=resN (mkQ (100 - u) 100)∧v=.agg c.toArray) v w) ?_ fun v w h=>⟨h.1,⟨fun e=>absurd e (by decide),fun _=>h.2,fun e=>absurd e (by decide),fun e=>absurd e (by decide)⟩⟩⟩;have wu:IntKind.i64.wrap (100 - u)=100 - u:=IntWalk.i64_in _ (by omega);refine GY.callOf (f:=39) (args:=#[.int .i64 (100 - u),.int .i64 100]) (by simp [execOp,Act.eval,go_sem,e64,ivl]) ((jgW (cN:=resN (mkQ (100 - u) 100)) (x:=100 - u) (y:=100) (d:=100) rfl (by decide) rfl (by omega) (by omega) (by decide) _).mono ?_);rintro e w5 ⟨rfl,hb⟩;exact ⟨_,rfl,(Drew.refl hT').below hb,u,_,hu,rfl,rfl⟩
  ·cases hoj
   obtain ⟨u2,c2,hu2,hc2,e66⟩:=(hR' 4 (by simp) (by kernel_rfl)).2.1 rfl;refine ⟨rfl,GY.mono (D:=fun v w=>Drew W' bt w∧EvVal (fun v=>∃ (u:Int) (r q:Qn) (c:List Value),(0≤u∧u<3)∧mkQ (100 - u) 100=some r∧mulQ one r=some q∧c=nm (decide (q.1<0)) q.1.natAbs false q.2 0∧v=.agg c.toArray) v w) ?_ fun v w h=>⟨h.1,⟨fun e=>absurd e (by decide),fun e=>absurd e (by decide),fun _=>h.2,fun e=>absurd e (by decide)⟩⟩⟩;obtain ⟨r,q,hr,hvr,hq,_,_⟩:=qiW HON.out (s:=100 - u2) (by omega) (by omega);refine GY.callOf (f:=29) (args:=#[.agg co.toArray,.agg c2.toArray]) (by simp [execOp,Act.eval,go_sem,e66]) ((jiX (ca:=co) (cb:=c2) (cN:=nm (decide (q.1<0)) q.1.natAbs false q.2 0) (a:=some one) (b:=some r) (by rw [V_co.out];rfl) (by rw [hc2,hr]) (fun r e=>by injection e with e;subst e;exact HON.out.vq) (fun r e=>by injection e with e;subst e;exact hvr) (by show _=resN (mulQ one r);rw [hq];rfl) _).mono ?_);rintro e w5 ⟨rfl,hb⟩;exact ⟨_,rfl,(Drew.refl hT').below hb,u2,r,q,_,hu2,hr,hq,rfl,rfl⟩
  ·cases hoj
   refine ⟨rfl,GY.mono (D:=fun v w=>Drew W' bt w∧EvNew w11.heap.size 67 v w) ?_ fun v w h=>⟨h.1,⟨fun e=>absurd e (by decide),fun e=>absurd e (by decide),fun e=>absurd e (by decide),fun _=>h.2⟩⟩⟩;exact GY.newOf Tryz.layN2 (by rw [List.size_toArray,qfC]) rfl hT' hB'
 ·intro γ j hj oj hoj;simp only [List.mem_cons,List.not_mem_nil,or_false] at hj;rcases hj with rfl|rfl|rfl|rfl<;>cases hoj<;>rfl
 intro γ w12 hK hR;obtain ⟨u,e64,hu⟩:=(hR 2 (by simp)).1 rfl;obtain ⟨u2,c2,hu2,hc2,e66⟩:=(hR 4 (by simp)).2.1 rfl;obtain ⟨u3,r3,qb,cqb,hu3,hr3,hqb,hcqb,e67⟩:=(hR 5 (by simp)).2.2.1 rfl;obtain ⟨Xb,zs,e14,hX,hAX,hzl⟩:=(hR 6 (by simp)).2.2.2 rfl;simp only [e64,e66,e67,e14,ivl];clear hR;have V_cqb:=hid hcqb;have HTH:=hid (show w12.there Xb 0 cqb.toArray.size by rw [List.size_toArray,V_cqb.out,qfC,←hzl];exact hAX.there);have HSA:=hid (show (Tryz.prog.info? 70).map (·.size)=some cqb.toArray.size by rw [List.size_toArray];exact qbU V_cqb.out);have HONE:=hid (qxI V_cqb.out);go_upto_region 10 with (refine wpList_store_mid rfl _ _ _ rfl Xb 0 cqb.toArray rfl rfl HTH.out HSA.out HONE.out ?_)
 try simp only [zq]
 try simp only [List.toList_toArray]
 have AXb:=hid (show At (w12.setCells Xb 0 cqb) Xb 0 cqb from hAX.stored (ds:=cqb) (by rw [V_cqb.out,qfC,hzl]));have hds:=Drew.sets hK hbW hX cqb;have HRqb:=hid (And.intro hu3 (And.intro hr3 hqb));replace E6:=hid (E6.out.trans hds);replace A12:=hid (A12.out.drw hds (by omega));replace AXo:=hid (AXo.out.drw hds (by omega));have hbXb:bt<Xb:=by omega
 obtain ⟨w13,hw3⟩:=nqx (w12.setCells Xb 0 cqb);rw [←hw3] at AXb A12 E6 AXo ⊢;clear hw3 hK hX hAX hzl HTW hbW HTH HSA HONE hds hu hu2 hc2 hu3 hr3 hqb hcqb e64 e66 e67 e14;obtain ⟨cor,V_cor⟩:=nvx (rat (decide (qo.1<0)) qo.1.natAbs false qo.2);obtain ⟨cbr,V_cbr⟩:=nvx (rat (decide (qb.1<0)) qb.1.natAbs false qb.2);have HXo:=hid (AXo.out.val V_cqo.out V_cor.out);have HXb:=hid (AXb.out.val V_cqb.out V_cbr.out);have A8:=hid ((show At w6 b8 0 c8 by rw [V_c8.out];exact Ab8.out).drw E6.out (by omega));obtain ⟨ho1,ho2⟩:=jcK HON.out hnet1.1 HRqo.out.1 HRqo.out.2.1 HRqo.out.2.2;obtain ⟨hb1,hb2⟩:=jiJ HON.out hnet1.1 HRqb.out.1 HRqb.out.2.1 HRqb.out.2.2;have HLO:=hid (HO.out.drawn E6.out (by omega)).lots
 have HTK:=hid (show TksAt w13 (.slice AT n qT) ts by
  have h:=World.ownsRow.kept HTS.out (row:=some bt) E6.out.2 (.inr (fun e=>by have:=HTS.out.lt bt e;omega));have h2:=Rd.of_own h;rw [HNT.out] at h2;rw [HNT.out];exact h2)
 have HB13:=hid (Drew.fram (D6.out.trans E6.out) HBT.out HZB.out);obtain ⟨RD,hRD⟩:=nqx (dealL l ts qo qb pl 0);have HRD:=hid hRD
 have HDE:=hid (fun V (hV:Below w13.heap.size w13 V)=>show Calls Tryz.prog 19 #[.agg c8.toArray,.slice AT n qT,.agg cor.toArray,.agg cbr.toArray,.int .i64 (pl:Int),.int .i64 0] V (DealP RD V) by
  rw [HRD.out,V_c8.out,HNS.out,HNT.out];exact qkG (pl:=pl) (z:=(pl:Int)) (by rw [V_cor.out];rfl) (by rw [V_cbr.out];rfl) ho1 hb1 rfl (by omega) (by decide) (by decide) HCH.out HTT.out HNIL.out V (by have:=Rd.below HLO.out hV;rwa [HNS.out] at this) (by have:=Rd.below HTK.out hV;rwa [HNT.out] at this))
 clear hRD HO HTS HNIL HG HL6 E6 D6 HB67 HZB HBW A12 AXo AXb Ab8 Ab8c HTO HRqo HRqb HTE hTb hp4 FR FR0;go_upto_region 11 with (first|(refine wpList_load_mid rfl _ _ rfl b8 0 rfl c8 _ A8.out.range Tryz.underlying40 rfl (qfZ V_c8.out) ?_)|(refine wpList_load_mid rfl _ _ rfl Xo 0 rfl cor _ HXo.out.range Tryz.underlying27 rfl (qR V_cor.out) ?_)|(refine wpList_load_mid rfl _ _ rfl Xb 0 rfl cbr _ HXb.out.range Tryz.underlying27 rfl (qR V_cbr.out) ?_)|(go_at_call 19;refine (HDE.out _ (Below.refl _ _)).mono ?_;intro e w14 h9;obtain ⟨v9,rfl,hb9,⟨⟨A1,n1,q1,vn,ec,rfl⟩,hR⟩⟩:=h9.dlr;have HB9:=hid hb9;have HR9:=hid hR;clear h9 hb9 hR)|(refine qjD rfl rfl rfl rfl (cs:=[.slice A1 n1 q1]) ⟨_,Tryz.layRg,by simp⟩ rfl rfl (by kernel_rfl) (by simp [Value.oneCell']) ?_;intro W hbW hAW hsW))
 try simp only [zq]
 obtain ⟨X15,hX15⟩:=nqx (w14.heap.size);rw [←hX15] at hAW ⊢;have hR:=DlR.upB (show DlR RD w13.heap.size (.tuple #[.agg #[.slice A1 n1 q1],vn,.int .i64 ec]) w14 from ⟨⟨_,_,_,_,_,rfl⟩,HR9.out⟩) hbW;have hW:=HB9.out.trans (hbW.mono HB9.out.size);have HBW:=hid (HB13.out.trans (hW.mono HB13.out.size));have HAW:=hid hAW;clear hAW hsW hbW HR9 HB9 hX15 hW
 cases RD with
 | error c =>
  have hc:=jdG HRD.out.symm;obtain ⟨_,_,he⟩:=tup3 hR.2;injection he with _ he
  subst he;clear hR;rcases hc with rfl|rfl|rfl|rfl
  all_goals go_wp2_with fail
  all_goals refine (qiZ _).mono ?_
  all_goals rintro e w9 ⟨rfl,hb9⟩
  all_goals go_wp2
  all_goals go_ret
  all_goals exact ⟨rfl,HBW.out.trans (hb9.mono HBW.out.size)⟩
 | ok rr =>
  obtain ⟨l',N⟩:=rr;obtain ⟨v',bn,he,hOw,hNm,_,_⟩:=hR.2;obtain ⟨e1,e2,e3⟩:=tup3 he;injection e3 with _ e3
  have e4:Value.slice A1 n1 q1=v':=by simpa using e1
  subst e4 e3;obtain ⟨k1,k2,k3,k4⟩:=qzB ho1 hb1 (by omega) (by decide) (by decide) hg0 ho2 hb2 HCH.out HOK.out HRD.out.symm;rw [←HNT.out] at k2;rw [k2] at e2;subst e2;have hl1:=jbX hOw.lots;obtain ⟨l7,hr1,hr2,hr3⟩:=jfZ hNm (by rw [k2];omega);have hfs:=jcU hr2 (by rw [k2];omega) k3 hr3;have hfb:=qyH k3;rw [k2] at hfb hr1;obtain ⟨fl,hfl⟩:=nqx (sumD inM N);rw [←hfl] at hfs hfb k4;obtain ⟨after,haf⟩:=nqx (sumU l');have hab:=qiC k1;rw [←haf,←HBE.out] at k4;rw [←haf] at hab;obtain ⟨cX,V_cX⟩:=nvx ([.slice A1 n1 q1]);have AX:=hid (show At W X15 0 cX by rw [V_cX.out];exact HAW.out);have HC2:=hid k1;have HLO2:=hid hOw.lots;have HR1:=hid hr1;have HFS:=hid hfs;have HAF:=hid haf
  have HFL:=hid (fun V (h:Below W.heap.size W V)=>show CB 40 #[.slice (some ⟨bn,0,none⟩) n n] (.tuple #[.int .i64 fl,.int .i64 0]) V by
   have g:=quQ _ l7 V (Rd.below HR1.out h);unfold FlowP at g;rw [HFS.out] at g;exact g)
  have HT2:=hid (fun V (h:Below W.heap.size W V)=>show CB 37 #[.agg cX.toArray] (.tuple #[.int .i64 after,.int .i64 0]) V by
   have g:=qkV A1 q1 l' V (by have:=Rd.below HLO2.out h;rwa [hl1] at this);rw [V_cX.out,hl1];have e1:totN l'=after:=by unfold totN;rw [HC2.out,HAF.out];rfl
   have e2:totE l'=0:=by unfold totE;rw [HC2.out];rfl
   rw [e1,e2] at g;exact g)
  have HK4:=hid k4;clear hR he e1 hOw hNm k1 k2 k3 hr1 hr2 hr3 hfs hfl haf k4 HDE HRD HM ho1 ho2 hb1 hb2;go_upto_region 13 with fail
  have FR:=hid (Fr.start W);have FR0:=hid FR.out.le;refine wE [(96,.slice (some ⟨bn,0,none⟩) n n),(97,.tuple #[iT fl,iT 0]),(95,.tuple #[iT fl,iT 0]),(98,iT fl),(99,iT 0),(18,iT fl),(19,iT 0)] (by simp only [zu];rfl) (by kernel_rfl) ?_ ?_
  ·intro W' hW';refine fo4 ?_ ?_ ?_ ?_<|fo3 ?_ ?_ ?_<|fxn;all_goals (go_big_quiet_step (exact qaA (HFL.out _ (FR.out.below.trans ((hW'.trans ((qbG _ _ _).mono hW'.size)).mono FR.out.below.size))));exact wqn rfl)
  intro β wx1 E;replace FR:=fnf FR E rfl;replace AX:=fnh AX E rfl;simp only [nP,zu];replace FR0:=hid FR.out.le;go_upto_region 14 with fail
  refine wE [(101,aT cX),(102,.tuple #[iT after,iT 0]),(100,.tuple #[iT after,iT 0]),(103,iT after),(104,iT 0),(20,iT after),(21,iT 0)] (by simp only [zu];rfl) (by kernel_rfl) ?_ ?_
  ·intro W' hW';refine fxl (abl AX hW') (qfZ V_cX.out) Tryz.underlying40 rfl rfl<|fo4 ?_ ?_ ?_ ?_<|fo2 ?_ ?_<|fxn;all_goals (go_big_quiet_step (exact qaA (HT2.out _ (FR.out.below.trans ((hW'.trans ((qbG _ _ _).mono hW'.size)).mono FR.out.below.size))));exact wqn rfl)
  intro β wx2 E;replace FR:=fnf FR E rfl;replace AX:=fnh AX E rfl;simp only [nP,zu];replace FR0:=hid FR.out.le;go_upto_region 15 with fail
  refine wE [(105,iT 0),(106,bF),(107,bF),(108,iT 0),(109,bF),(110,bF),(111,bF),(112,.slice (some ⟨bn,0,none⟩) n n),(113,iT n),(114,.slice AT n qT),(115,iT n),(116,bF),(117,bF)] (by simp only [zu];rfl) (by kernel_rfl) ?_ ?_
  ·intro W' hW';iterate 13 (refine fxo ?_ ?_;(go_big_quiet_step (fail);(try simp only [zq]);exact wqn rfl))
   exact fxn
  intro β wx3 E;replace FR:=fnf FR E rfl;replace AX:=fnh AX E rfl;simp only [nP,zu];replace FR0:=hid FR.out.le;have HBV:=hid (HBW.out.trans (FR.out.below.mono HBW.out.size));by_cases ha0:after=0
  ·subst ha0;go_wp2_with fail
   refine (qiZ _).mono ?_;rintro e w9 ⟨rfl,hb9⟩;go_wp2
   go_ret
   exact ⟨rfl,HBV.out.trans (hb9.mono HBV.out.size)⟩
  have hap:0<after:=by omega
  obtain ⟨nw,hnw⟩:=nqx (net+fl);have wn:IntKind.i64.wrap (net+fl)=nw:=by rw [hnw];exact IntWalk.i64_in _ (by omega)
  obtain ⟨now,hno,hnv⟩:=jeM (x:=nw) (y:=after) (by omega) hap (by omega);obtain ⟨old,hol,hov⟩:=jeM (x:=net) (y:=before) (by omega) (by omega) (by omega);have htest:=qyI (now:=now) (old:=old) (net:=net) (flow:=fl) (by omega) hap (by rw [←hnw];exact hno) hol HK4.out;obtain ⟨c1,V_c1⟩:=nvx (nm (decide (nw<0)) (nw).natAbs false 1 0);obtain ⟨c2,V_c2⟩:=nvx (nm (decide (after<0)) (after).natAbs false 1 0);obtain ⟨c3,V_c3⟩:=nvx (nm (decide (now.1<0)) now.1.natAbs false now.2 0);obtain ⟨c4,V_c4⟩:=nvx (nm (decide (net<0)) (net).natAbs false 1 0);obtain ⟨c5,V_c5⟩:=nvx (nm (decide (before<0)) (before).natAbs false 1 0);obtain ⟨c6,V_c6⟩:=nvx (nm (decide (old.1<0)) old.1.natAbs false old.2 0);have HI1:=hid (jeO (cN:=c1) (z:=nw) (by rw [V_c1.out];rfl) (by omega) (by omega));have HI2:=hid (jeO (cN:=c2) (z:=after) (by rw [V_c2.out];rfl) (by omega) (by omega));have HI3:=hid (jeO (cN:=c4) (z:=net) (by rw [V_c4.out];rfl) (by omega) (by omega));have HI4:=hid (jeO (cN:=c5) (z:=before) (by rw [V_c5.out];rfl) (by omega) (by omega));have HQ1:=hid (eQuo (ca:=c1) (cb:=c2) (cN:=c3) (a:=some (nw,1)) (b:=some (after,1)) (by rw [V_c1.out];rfl) (by rw [V_c2.out];rfl) (fun r e=>by injection e with e;subst e;exact vqz _ (by omega)) (fun r e=>by injection e with e;subst e;exact vqz _ (by omega)) (fun y e=>by injection e with e;subst e;exact hap) (by show _=resN (quo2 (nw,1) (after,1));rw [hno,V_c3.out];rfl));have HQ2:=hid (eQuo (ca:=c4) (cb:=c5) (cN:=c6) (a:=some (net,1)) (b:=some (before,1)) (by rw [V_c4.out];rfl) (by rw [V_c5.out];rfl) (fun r e=>by injection e with e;subst e;exact vqz _ (by omega)) (fun r e=>by injection e with e;subst e;exact vqz _ (by omega)) (fun y e=>by injection e with e;subst e;show 0<before;omega) (by show _=resN (quo2 (net,1) (before,1));rw [hol,V_c6.out];rfl));have HLE:=hid (eLess (ca:=c3) (cb:=c6) (a:=now) (b:=old) (t:=false) (by rw [V_c3.out];rfl) (by rw [V_c6.out];rfl) hnv hov (by rw [decide_eq_false htest]));clear hnw hno hol hnv hov htest;go_upto_region 19 with fail
  refine wT [⟨true,7,22,8,0,0,70,127,c3,0,c3,[]⟩] [(121,iT net),(122,iT fl),(123,iT nw),(124,aT c1),(125,iT after),(126,aT c2),(127,aT c3)] (by simp only [zu];rfl) (by kernel_rfl) rfl ?_ ?_ ?_ ?_
  ·intro W' hW';refine fo4 ?_ ?_ ?_ ?_<|fxo ?_<|fxo (by go_big_quiet_step (exact qaA (HI2.out _));exact wqn rfl)<|fxo (by go_big_quiet_step (exact qaA (HQ1.out _));exact wqn rfl)<|fxs rfl<|fxs rfl<|fxn;all_goals (go_big_quiet_step (exact qaA (HI1.out _));exact wqn rfl)
  ·exact fP1 (Tryz.alN (qbU V_c3.out))
  ·exact fP1 (stw rfl (qbU V_c3.out) (qxI V_c3.out) (fun _=>rfl))
  intro β wx4 E;replace FR:=fnf FR E rfl;obtain ⟨b22,hb22,eb22⟩:=nwb E mms;have lX15_b22:X15<b22:=ltb AX eb22.1;have hZb22:W.heap.size≤b22:=by have h1:=eb22.1;have h2:=FR0.out;omega
  replace AX:=fnh AX E rfl;have Ab22:=hid eb22.2;simp only [nP,zu];rw [←hb22];replace FR0:=hid FR.out.le;clear E eb22 hb22;go_upto_region 20 with fail
  refine wT [⟨true,5,23,6,0,0,70,132,c6,0,c6,[]⟩] [(128,iT net),(129,aT c4),(130,iT before),(131,aT c5),(132,aT c6)] (by simp only [zu];rfl) (by kernel_rfl) rfl ?_ ?_ ?_ ?_
  ·intro W' hW';refine fo3 ?_ ?_ ?_<|fxo (by go_big_quiet_step (exact qaA (HI4.out _));exact wqn rfl)<|fxo (by go_big_quiet_step (exact qaA (HQ2.out _));exact wqn rfl)<|fxs rfl<|fxs rfl<|fxn;all_goals (go_big_quiet_step (exact qaA (HI3.out _));exact wqn rfl)
  ·exact fP1 (Tryz.alN (qbU V_c6.out))
  ·exact fP1 (stw rfl (qbU V_c6.out) (qxI V_c6.out) (fun _=>rfl))
  intro β wx5 E;replace FR:=fnf FR E rfl;obtain ⟨b23,hb23,eb23⟩:=nwb E mms;have lX15_b23:X15<b23:=ltb AX eb23.1;have lb22_b23:b22<b23:=ltb Ab22 eb23.1;have hZb23:W.heap.size≤b23:=by have h1:=eb23.1;have h2:=FR0.out;omega
  replace Ab22:=fnh Ab22 E rfl;have Ab23:=hid eb23.2;simp only [nP,zu];rw [←hb23];clear E eb23 hb23;go_upto_region 21 with fail
  refine wE [(133,aT c3),(134,aT c6),(135,bF),(136,bT),(137,bT),(138,bT),(139,bT),(6,bT)] (by simp only [zu];rfl) (by kernel_rfl) ?_ ?_
  ·intro W' hW';refine fxl (abl Ab22 hW') (qbU V_c3.out) Tryz.underlying70 rfl rfl<|fxl (abl Ab23 hW') (qbU V_c6.out) Tryz.underlying70 rfl rfl<|fo3 ?_ ?_ ?_<|fxo (by go_big_quiet_step (exact qaA (qiZ _));exact wqn rfl)<|fo2 ?_ ?_<|fxn;all_goals (go_big_quiet_step (exact qaA (HLE.out _));exact wqn rfl)
  intro β wx6 E;replace FR:=fnf FR E rfl;simp only [nP,zu];have HBZ:=hid (HBW.out.trans (FR.out.below.mono HBW.out.size));go_wp2
  go_ret
  exact ⟨rfl,HBZ.out⟩
end Go.Proofs.YtemoddmadfoaiaaGreat
