import Derived.Test.YtemoddmadfoaiaaGreatBkI
import Derived.Test.YtemoddmadfoaiaaGreatPcA
set_option linter.unusedVariables false
set_option linter.unusedSimpArgs false
set_option maxRecDepth 100000
set_option maxHeartbeats 8000000
namespace Go.Proofs.YtemoddmadfoaiaaGreat
open Go.RowKit Big
open Lib (hid)
namespace Big
theorem jcF (m n v:Nat):dg (m+n) v=dg m (v%BB^m)++dg n (v / BB^m):=by
 unfold dg;rw [List.range_add,List.map_append,List.map_map];congr 1
 ·apply List.map_congr_left
  intro k hk;have hk:=List.mem_range.1 hk;have h:=Nat.div_add_mod v (BB^m);have e:v%BB^m+v / BB^m*BB^m=v:=by rw [Nat.mul_comm];omega
  rw [←qrU (p:=v%BB^m) (x:=v / BB^m) hk,e]
 ·apply List.map_congr_left
  intro k hk;show lim v (m+k)=lim (v / BB^m) k
  unfold lim;rw [Nat.pow_add,Nat.div_div_eq_div_mul]
end Big
theorem jbB (m n v:Nat):lv (m+n) v=lv m (v%BB^m)++lv n (v / BB^m):=by
 unfold lv cells;rw [jcF,List.map_append]
theorem At.drewN {w:World} {b o:Nat} {c:List Value} (h:At w b o c) (d:Nat):At (w.drewN d) b o c:=h.same rfl
theorem At.cellV {w:World} {b v n j x:Nat} {c:List Value} (h:At w b 0 c) (hc:c=lv n v) (hx:x=lim v j) (hj:j<n):w.cell? ⟨b,j,none⟩=some (.int .u32 (x:Int))∧w.frozen? ⟨b,j,none⟩=false:=by
 subst hc hx;have h1:=h.range j _ (qrS v hj);have h2:=(h.there j (by rw [qlL];exact hj)).2;rw [Nat.zero_add] at h1 h2;exact ⟨h1,h2⟩
theorem qcX {P:Program} {ops:Array Oper} {C:World→Prop} {Q:Act→Prop} {a:Act} {op:Oper} {rest:List Oper} {t:TypeId} {x:Operand} {b o:Nat} (hgd:Region.wanted op (yielded ops a.tmps)=true) (low high:Option Operand) (ho:op.op=.slice t x low high none)
  (hx:a.eval x=.pointer (some ⟨b,o,none⟩)) {v:Value} (hr:∀ W,(Instr.sliceAt t (.pointer (some ⟨b,o,none⟩)) (low.map a.eval) (high.map a.eval) none).run P W=.ok v W)
  (h:wpQuiet P ops C Q rest (a.put op.dst v)):wpQuiet P ops C Q (op::rest) a:=by
 refine wpQuiet_step (fun K hK=>?_);rw [if_pos hgd];refine ⟨v,fun W hW=>?_,hK _ h⟩;unfold Oper.quietAt execOp;simp [ho,hx,hr W,Oper.quietUpon]
theorem qdD {P:Program} {ops:Array Oper} {C:World→Prop} {Q:Act→Prop} {a:Act} {op:Oper} {rest:List Oper} {t e:TypeId} {x:Operand} {n len cap:Nat} {p:Option Addr} (hgd:Region.wanted op (yielded ops a.tmps)=true) (ho:op.op=.sliceToArrayPointer t x)
  (hx:a.eval x=.slice p len cap) (hu:P.underlying t=some (.array n e)) (hn:n≤len)
  (h:wpQuiet P ops C Q rest (a.put op.dst (.pointer p))):wpQuiet P ops C Q (op::rest) a:=by
 refine wpQuiet_step (fun K hK=>?_);rw [if_pos hgd];refine ⟨.pointer p,fun W hW=>?_,hK _ h⟩;unfold Oper.quietAt execOp;simp [ho,hx,run_arrayAt (P:=P) (w:=W) t e n p len cap hu hn,Oper.quietUpon]
theorem qnW (W:World) (b:Nat):(Instr.sliceAt 180 (.pointer (some ⟨b,0,none⟩)) none (some (.int .i64 32)) none).run Tryz.prog W=.ok (.slice (some ⟨b,0,none⟩) 32 64) W:=by
 simp [Instr.sliceAt,Instr.sureAddr,run_underlying Tryz.underlying180,Instr.sliceBounds,run_sliceBound,sizeOf];rfl
theorem qnX (W:World) (b:Nat):(Instr.sliceAt 180 (.pointer (some ⟨b,0,none⟩)) (some (.int .i64 32)) none none).run Tryz.prog W=.ok (.slice (some ⟨b,32,none⟩) 32 32) W:=by
 simp [Instr.sliceAt,Instr.sureAddr,run_underlying Tryz.underlying180,Instr.sliceBounds,run_sliceBound,sizeOf];rfl
theorem qzV {ca cb cv:List Value} {a b v ba oa bb ob:Nat} {r:Bool} (w:World) (h1:At w ba oa ca) (h2:At w bb ob cb) (hca:ca=lv 32 a) (hcb:cb=lv 32 b) (hcv:cv=lv 32 v) (ha:a<BB^32) (hb:b<BB^32) (hv:v=a*b%BB^32) (hr:r=decide (a*b<BB^32)) :
  CB 148 #[.pointer (some ⟨ba,oa,none⟩),.pointer (some ⟨bb,ob,none⟩)] (.tuple #[.agg cv.toArray,.bool r]) w:=by
 obtain ⟨N,hN32,hN⟩:=qLE a 32 ha;obtain ⟨K,hK32,hK⟩:=qLE b 32 hb;have HUA:=hid (fun W (h:At W ba oa ca)=>qeU a N ba oa W (hca ▸ h) ha hN);have HUB:=hid (fun W (h:At W bb ob cb)=>qeU b K bb ob W (hcb ▸ h) hb hK);have V_ca:=hid hca;have V_cb:=hid hcb;have V_cv:=hid hcv;have HV:=hid (And.intro ha (And.intro hb (And.intro hv hr)));have HNK:=hid (And.intro hN hK);have Aba:=hid h1;have Abb:=hid h2;have lba:=h1.lt;have lbb:=h2.lt;clear hca hcb hcv ha hb hv h1 h2 hN hK hr;obtain ⟨cz,V_cz⟩:=nvx (lv 32 0);obtain ⟨cd,V_cd⟩:=nvx (lv 64 0);obtain ⟨B0,B1,w0,hw0,hB0,hB1,AB0,AB1,FR,FR0,HB0,hZB0,l01,hZB1⟩:=en2 w 140 180 (zM V_cz) (zM V_cd);rw [qbV] at hw0;rw [qoO] at hw0;go_enter Tryz.func148,Tryz.ntmps148
 go_upto_region 2 with fail
 rw [←hw0,←hB1,←hB0];clear hw0 hB0 hB1;replace Aba:=hid (Aba.out.below (by have:=FR.out.below;rwa [HB0.out] at this));replace Abb:=hid (Abb.out.below (by have:=FR.out.below;rwa [HB0.out] at this));rw [←HB0.out] at lba lbb;have na1:B1≠ba:=by omega
 have nb1:B1≠bb:=by omega
 have n01:B1≠B0:=by omega
 refine wE [(13,pT ba oa),(14,iT N),(15,pT bb ob),(16,iT K),(7,iT N),(8,iT K)] (by simp only [zu];rfl) (by kernel_rfl) ?_ ?_
 ·intro W' hW';refine fo3 ?_ ?_ ?_<|fxo (by go_big_quiet_step (exact qaJ (HUB.out _ ((Abb.out.below hW').below (qbG _ _ _))));exact wqn rfl)<|fo2 ?_ ?_<|fxn;all_goals (go_big_quiet_step (exact qaJ (HUA.out _ ((Aba.out.below hW').below (qbG _ _ _))));exact wqn rfl)
 intro β wx1 E;replace FR:=fnf FR E rfl;replace AB0:=fnh AB0 E rfl;replace AB1:=fnh AB1 E rfl;replace Aba:=fnh Aba E rfl;replace Abb:=fnh Abb E rfl;simp only [nP,zu];go_wp2
 go_loopg [18] N (fun g iv wr=>∃ (i P:Nat),i≤N∧N - i≤g∧iv=.int .i64 (i:Int)∧P=(a%BB^i)*b∧At wr ba oa ca∧At wr bb ob cb∧At wr B0 0 cz∧At wr B1 0 (lv 64 P)∧Fr B0 w wr)
 case atStart=>exact ⟨0,0,by omega,by omega,rfl,by simp [Nat.mod_one],Aba.out,Abb.out,AB0.out,by have:=AB1.out;rwa [V_cd.out] at this,FR.out⟩
 case round =>
  obtain ⟨i,P,hi,hg,rfl,hP,hA,hB,hR,hO,hF⟩:=hrel;have HP:=hid hP;replace Aba:=hid hA;replace Abb:=hid hB;replace AB0:=hid hR;replace AB1:=hid hO;replace FR:=hid hF
  have HPB:=hid (show P<BB^(i+K) by
   rw [hP,Nat.pow_add];exact Nat.mul_lt_mul'' (Nat.mod_lt _ (BP i)) HNK.out.2.1)
  clear hP hA hB hR hO hF;by_cases hlt:i<N
  ·obtain ⟨x,hx⟩:=nqx (lim a i);have hxl:x<BB:=hx ▸ qaG a i;have HX:=hid (And.intro hx hxl);clear hx hxl;obtain ⟨G,hG⟩:=nqx gk;rw [←hG] at hg;have HGG:=hid hG;clear hG;go_wp2
   go_loopg [10,22] K (fun g2 cv0 jv wr2=>∃ (j P2 c:Nat),j≤K∧K - j≤g2∧jv=.int .i64 (j:Int)∧cv0=.int .u64 (c:Int)∧c<BB∧P2<BB^(i+K)∧P2+c*BB^(i+j)=(a%BB^i)*b+x*(b%BB^j)*BB^i∧At wr2 ba oa ca∧At wr2 bb ob cb∧At wr2 B0 0 cz∧At wr2 B1 0 (lv 64 P2)∧Fr B0 w wr2)
   case atStart=>exact ⟨0,P,0,by omega,by omega,rfl,rfl,qbH,HPB.out,by rw [HP.out];simp [Nat.mod_one],Aba.out,Abb.out,AB0.out,AB1.out,FR.out⟩
   case round =>
    obtain ⟨j,P2,c,hj,hg2,rfl,rfl,hc,hP2,he,hA,hB,hR,hO,hF⟩:=hrel;have HE:=hid he;have HP2:=hid hP2;replace Aba:=hid hA;replace Abb:=hid hB;replace AB0:=hid hR;replace AB1:=hid hO;replace FR:=hid hF;have HC4:=hid hc;clear he hP2 hA hB hR hO hF hc;by_cases hlt2:j<K
    ·obtain ⟨t,ht⟩:=nqx (i+j);have ht64:t<64:=by omega
     have hij:IntKind.i64.wrap ((i:Int)+(j:Int))=(t:Int):=by rw [show (i:Int)+(j:Int)=(t:Int) by omega];exact IntWalk.i64_in _ (by omega)
     obtain ⟨y,hy⟩:=nqx (lim b j);obtain ⟨zz,hzz⟩:=nqx (lim P2 t);have ca':=Aba.out.limbO V_ca.out HX.out.1 (show i<32 by omega);have cb':=Abb.out.limbO V_cb.out hy (show j<32 by omega);obtain ⟨co',fo'⟩:=AB1.out.cellV rfl hzz ht64;have hyl:y<BB:=hy ▸ qaG b j;have hzl:zz<BB:=hzz ▸ qaG P2 t;obtain ⟨d,c',V,hd,hc',hn,e1,e2,e4⟩:=qwR HX.out.2 hyl hzl HC4.out;have HSTEP:=hid (qrO HE.out HX.out.1 hy (by rw [←ht,←hzz];exact hn));have HUPB:=hid (show upd P2 t d<BB^(i+K) from qkA HP2.out (by omega) hd);have HD:=hid (And.intro hd hc');have hw1':IntKind.u64.wrap (x:Int)=(x:Int):=by have:=HX.out.2;unfold BB at this;rw [IntKind.wrap_u64];omega
     have hw2':IntKind.u64.wrap (y:Int)=(y:Int):=by unfold BB at hyl;rw [IntKind.wrap_u64];omega
     have hw3':IntKind.u64.wrap (zz:Int)=(zz:Int):=by unfold BB at hzl;rw [IntKind.wrap_u64];omega
     have HT':=hid ht;have hi32:i<32:=by omega
     have hj32:j<32:=by omega
     clear ht hy hzz hyl hzl hd hc' hn;go_wp2
     go_quiet (fail)
     go_wp2
     go_roundg (gk - 1)
     case measure=>omega
     case rel=>exact ⟨j+1,upd P2 t d,c',by omega,by omega,by go_num,rfl,HD.out.2,HUPB.out,by have:=HSTEP.out;rwa [←HT'.out] at this,(Aba.out.drewN _).putOther _ _ na1,(Abb.out.drewN _).putOther _ _ nb1,(AB0.out.drewN _).putOther _ _ n01,(AB1.out.drewN _).put rfl ht64 HD.out.1 rfl,(FR.out.same _ rfl).put _ _ hZB1⟩
    ·have hjK:j=K:=by omega
     obtain ⟨t,ht⟩:=nqx (i+K);have ht64:t<64:=by omega
     have hij:IntKind.i64.wrap ((i:Int)+(K:Int))=(t:Int):=by rw [show (i:Int)+(K:Int)=(t:Int) by omega];exact IntWalk.i64_in _ (by omega)
     have hwc:IntKind.u32.wrap (c:Int)=(c:Int):=by have:=HC4.out;unfold BB at this;rw [IntKind.wrap_u32];omega
     obtain ⟨zz,hzz⟩:=nqx (lim P2 t);obtain ⟨co',fo'⟩:=AB1.out.cellV rfl hzz ht64
     have HROW:=hid (show P2+c*BB^(i+K)=(a%BB^(i+1))*b by
      have h:=HE.out;rw [hjK,Nat.mod_eq_of_lt HNK.out.2.1] at h;exact qwQ h HX.out.1)
     have HU:=hid (show upd P2 t c=P2+c*BB^(i+K) by rw [ht];exact qeB HP2.out);clear ht hjK hzz;go_wp2
     go_roundg (G - 1)
     case measure=>have:=HGG.out;omega
     case rel=>exact ⟨i+1,P2+c*BB^(i+K),by omega,by have:=HGG.out;omega,by go_num,HROW.out,Aba.out.putOther _ _ na1,Abb.out.putOther _ _ nb1,AB0.out.putOther _ _ n01,AB1.out.put rfl ht64 HC4.out (by rw [HU.out]),FR.out.put _ _ hZB1⟩
  ·have hPv:P=a*b:=by
    have h:=HP.out;rw [show i=N by omega,Nat.mod_eq_of_lt HNK.out.1.1] at h;exact h
   have HHI:=hid (show P / BB^32<BB^32 by
    rw [hPv,Nat.div_lt_iff_lt_mul (BP 32)];exact Nat.mul_lt_mul'' HV.out.1 HV.out.2.1)
   have HRR:=hid (show r=decide (P / BB^32=0) by
    rw [HV.out.2.2.2,hPv,Bool.eq_iff_iff,decide_eq_true_eq,decide_eq_true_eq]
    exact ⟨fun h=>Nat.div_eq_of_lt h,fun h=>by
     rcases Nat.lt_or_ge (a*b) (BB^32) with h1|h1
     ·exact h1
     ·have:=Nat.div_pos h1 (BP 32);omega⟩)
   have HLO:=hid (show P%BB^32=v by rw [HV.out.2.2.1,hPv]);obtain ⟨clo,V_clo⟩:=nvx (lv 32 (P%BB^32));obtain ⟨chi,V_chi⟩:=nvx (lv 32 (P / BB^32));obtain ⟨cp,V_cp⟩:=nvx (lv 64 P);have hs:At wr B1 0 (clo++chi):=by have:=AB1.out;rw [show (64:Nat)=32+32 from rfl,jbB] at this;rwa [V_clo.out,V_chi.out]
   have AB1_0:=hid hs.head;have AB1_32:=hid (hs.tail (k:=32) (by rw [V_clo.out,qlL]));have HCV:=hid (show clo=cv by rw [V_clo.out,V_cv.out,HLO.out]);clear hs hPv;go_upto_region 15 with fail
   refine wF [⟨false,0,4,8,B0,0,140,65,clo,0,clo,[]⟩] [(63,.slice (some ⟨B1,0,none⟩) 32 64),(64,pT B1 0),(65,aT clo),(66,.slice (some ⟨B1,32,none⟩) 32 32),(67,pT B1 32),(68,aT chi),(69,aT cz),(70,.bool r),(5,.bool r)] (by simp only [zu];rfl) (by kernel_rfl) ?_ ?_ (fP1 bnC) ?_ uno ?_ ?_
   ·intro W' hW';refine fxo (qcX (by rfl) _ _ rfl rfl (fun W=>qnW W B1) (wqn (by simp only [zq])))<|fxo (qdD (by rfl) rfl rfl Tryz.underlying140 (by omega) (wqn (by simp only [zq])))<|lhG AB1_0 hW' V_clo rfl<|fxo (qcX (by rfl) _ _ rfl rfl (fun W=>qnX W B1) (wqn (by simp only [zq])))<|fxo (qdD (by rfl) rfl rfl Tryz.underlying140 (by omega) (wqn (by simp only [zq])))<|lhG AB1_32 hW' V_chi rfl<|fxb (qcA V_cz.out) rfl<|fxo (qdT (r:=r) (by rfl) rfl rfl rfl V_chi.out V_cz.out HHI.out qcJ HRR.out (wqn (by simp only [zq])))<|fxs rfl<|fxo ?_<|fxn
    go_big_quiet_step (fail);exact wqn rfl
   ·intro W' hK';have rd0:=akh AB1_0 hK' (by omega);have rd1:=akh AB1_32 hK' (by omega);refine fxo (qcX (by rfl) _ _ rfl rfl (fun W=>qnW W B1) (wqn (by simp only [zq])))<|fxo (qdD (by rfl) rfl rfl Tryz.underlying140 (by omega) (wqn (by simp only [zq])))<|ldG rd0 V_clo rfl<|fxo (qcX (by rfl) _ _ rfl rfl (fun W=>qnX W B1) (wqn (by simp only [zq])))<|fxo (qdD (by rfl) rfl rfl Tryz.underlying140 (by omega) (wqn (by simp only [zq])))<|ldG rd1 V_chi rfl<|fxb (qcA V_cz.out) rfl<|fxo (qdT (r:=r) (by rfl) rfl rfl rfl V_chi.out V_cz.out HHI.out qcJ HRR.out (wqn (by simp only [zq])))<|fxs (by kernel_rfl)<|fxi ?_<|fxn
    first|(refine .inr ?_;go_big_quiet_step (fail);exact wqn rfl)|exact .inl (by kernel_rfl)
   ·exact fP1 (fun _=>rmh AB0 (qG V_cz.out) (qG V_clo.out) rfl)
   ·exact fP1 (sG V_clo (fun _=>rfl) rfl)
   intro β wx2 E;replace FR:=ffh FR E (by omega);replace AB0:=aoh E AB0 mms;simp only [nP,zu];rw [HCV.out] at AB0;go_wp2_with fail
   have hld:=rdG AB0 V_cv;refine bodyPost_ret (v:=.tuple #[.agg cv.toArray,.bool r]) (by simp [results,Tryz.results148,asAddr,hld]) rfl ?_;exact ⟨rfl,qbL HB0 FR⟩
set_option maxHeartbeats 8000000
theorem qeL {cx:List Value} {s:Bool} {v:Nat} {r:Int} (h:cx=.bool s::lv 32 v) (hr:r=sgnI s v) (hv:v<BB^32) (w:World) :
  CB 107 #[.agg cx.toArray] (.int .i64 r) w:=by
 have V_cx:=hid h;obtain ⟨n,hn⟩:=nqx (cs1 s v);obtain ⟨cm,V_cm⟩:=nvx (lv 32 v);obtain ⟨cz,V_cz⟩:=nvx (lv 32 0);have HS:=hid (qbR V_cx.out V_cm.out hn hv);have HV:=hid (And.intro hv (And.intro hn hr));clear h hn hr hv;obtain ⟨B0,w0,hw0,hB0,AB0,FR,FR0,HB0,hZB0⟩:=en1 w 25 (bxq cx);go_enter Tryz.func107,Tryz.ntmps107
 go_upto_region 1 with fail
 rw [←hw0,←hB0];clear hw0 hB0;refine wT [⟨true,5,4,7,0,0,140,9,cm,0,cm,[]⟩] [(6,aT cx),(7,.tuple #[.bool n,aT cm]),(5,.tuple #[.bool n,aT cm]),(8,.bool n),(9,aT cm),(3,.bool n)] (by simp only [zu];rfl) (by kernel_rfl) rfl ?_ ?_ ?_ ?_
 ·intro W' hW';refine lhI AB0 hW' V_cx rfl<|fo4 ?_ ?_ ?_ ?_<|fxs rfl<|fxo ?_<|fxs rfl<|fxn;all_goals (go_big_quiet_step (exact qaA (HS.out _));exact wqn rfl)
 ·exact fP1 (Tryz.alG (qG V_cm.out))
 ·exact fP1 (sG V_cm (fun _=>rfl) rfl)
 intro β wx1 E;replace FR:=fnf FR E rfl;obtain ⟨b4,hb4,eb4⟩:=nwb E mms;have lB0_b4:B0<b4:=ltb AB0 eb4.1;have hZb4:B0≤b4:=Nat.le_trans FR0.out eb4.1;have Ab4:=hid eb4.2;simp only [nP,zu];rw [←hb4];clear E eb4 hb4
 cases n with
 | true =>
  have hr:r=-1:=by
   have h1:=HV.out.2.1;have h2:=HV.out.2.2;rw [h2];unfold sgnI;unfold cs1 at h1
   cases s<;>simp at h1 ⊢
   simp [h1]
  subst hr;go_wp2
  go_ret
  exact ⟨rfl,qbL HB0 FR⟩
 | false =>
  obtain ⟨z,hz⟩:=nqx (decide (v=0));have HZ:=hid hz;clear hz;go_upto_region 4 with fail
  refine wE [(13,aT cm),(14,aT cz),(15,.bool z),(12,.bool z)] (by simp only [zu];rfl) (by kernel_rfl) ?_ ?_
  ·intro W' hW';refine lhG Ab4 hW' V_cm rfl<|fxb (qcA V_cz.out) rfl<|fxo (qdT (r:=z) (by rfl) rfl rfl rfl V_cm.out V_cz.out HV.out.1 qcJ HZ.out (wqn (by simp only [zq])))<|fxo ?_<|fxn
   go_big_quiet_step (fail);exact wqn rfl
  intro β wx2 E;replace FR:=fnf FR E rfl;simp only [nP,zu]
  cases z with
  | true =>
   have hr:r=0:=by rw [HV.out.2.2];have:=HZ.out;simp at this;simp [sgnI,this]
   subst hr;go_wp2
   go_ret
   exact ⟨rfl,qbL HB0 FR⟩
  | false =>
   have hr:r=1:=by
    have h1:=HV.out.2.1;have h3:=HZ.out;simp at h3;rw [HV.out.2.2];unfold sgnI;unfold cs1 at h1
    cases s<;>simp [h3] at h1 ⊢
   subst hr;go_wp2
   go_ret
   exact ⟨rfl,qbL HB0 FR⟩
theorem qrL {cx:List Value} {s:Bool} {v k:Nat} (h:cx=.bool s::lv 32 v) (hk:IsBits v k) (hv:v<BB^32) (w:World) :
  CB 147 #[.agg cx.toArray] (.int .i64 (k:Int)) w:=by
 have V_cx:=hid h;obtain ⟨n,hn⟩:=nqx (cs1 s v);obtain ⟨cm,V_cm⟩:=nvx (lv 32 v);have HS:=hid (qbR V_cx.out V_cm.out hn hv);have HV:=hid (And.intro hv hk);clear h hn hk hv;obtain ⟨B0,w0,hw0,hB0,AB0,FR,FR0,HB0,hZB0⟩:=en1 w 25 (bxq cx);go_enter Tryz.func147,Tryz.ntmps147
 go_upto_region 1 with fail
 rw [←hw0,←hB0];clear hw0 hB0;refine wT [⟨true,5,4,7,0,0,140,9,cm,0,cm,[]⟩] [(6,aT cx),(7,.tuple #[.bool n,aT cm]),(5,.tuple #[.bool n,aT cm]),(8,.bool n),(9,aT cm),(3,.bool n)] (by simp only [zu];rfl) (by kernel_rfl) rfl ?_ ?_ ?_ ?_
 ·intro W' hW';refine lhI AB0 hW' V_cx rfl<|fo4 ?_ ?_ ?_ ?_<|fxs rfl<|fxo ?_<|fxs rfl<|fxn;all_goals (go_big_quiet_step (exact qaA (HS.out _));exact wqn rfl)
 ·exact fP1 (Tryz.alG (qG V_cm.out))
 ·exact fP1 (sG V_cm (fun _=>rfl) rfl)
 intro β wx1 E;replace FR:=fnf FR E rfl;obtain ⟨b4,hb4,eb4⟩:=nwb E mms;have lB0_b4:B0<b4:=ltb AB0 eb4.1;have hZb4:B0≤b4:=Nat.le_trans FR0.out eb4.1;have Ab4:=hid eb4.2;simp only [nP,zu];rw [←hb4];clear E eb4 hb4;have HB:=hid (qiO v k b4 0 wx1 (by have:=Ab4.out;rwa [V_cm.out] at this) HV.out.1 HV.out.2);go_wp2_with (go_at_call 172;refine HB.out.mono ?_;rintro e w' ⟨rfl,rfl⟩)
 go_ret
 exact ⟨rfl,qbL HB0 FR⟩
theorem qzA {c:List Value} {v:Nat} (hc:c=lv 32 v) (hv:v<BB^2):Tryz.prog.built 140 [(0,.int .u32 (lim v 0:Nat)),(1,.int .u32 (lim v 1:Nat))]=some c.toArray:=by
 subst hc;rw [qoN hv];generalize lim v 0=x
 generalize lim v 1=y
 kernel_rfl
theorem qiK {cr:List Value} {z:Int} {n:Bool} {v:Nat} (h:cr=.bool n::lv 32 v) (hn:n=decide (z<0)) (hv:v=z.natAbs) (h1:-9223372036854775808≤z) (h2:z≤9223372036854775807) (w:World) :
  CB 76 #[.int .i64 z] (.agg cr.toArray) w:=by
 have V_cr:=hid h;have hvb:v<18446744073709551616:=by omega
 have hv2:v<BB^2:=qnO hvb;have hvB:v<BB^32:=Nat.lt_of_lt_of_le hv2 (Nat.pow_le_pow_right qbH (by omega));obtain ⟨l0,hl0⟩:=nqx (lim v 0);obtain ⟨l1,hl1⟩:=nqx (lim v 1);have htwo:=qeE hv2;rw [←hl0,←hl1] at htwo;have hl0B:l0<BB:=hl0 ▸ qaG v 0;have hl1B:l1<BB:=hl1 ▸ qaG v 1;obtain ⟨U,hU⟩:=nqx (IntKind.u64.wrap z:Int);have e1:IntKind.u32.wrap (v:Int)=(l0:Int):=by unfold BB at *;rw [IntKind.wrap_u32];omega
 have e2:(v:Int) / 4294967296=(l1:Int):=by unfold BB at *;omega
 have e3:IntKind.u32.wrap (l1:Int)=(l1:Int):=by unfold BB at *;rw [IntKind.wrap_u32];omega
 obtain ⟨cm,V_cm⟩:=nvx (lv 32 v);obtain ⟨cy,V_cy⟩:=nvx (.bool false::lv 32 0);have HM:=hid (qeO (neg:=n) V_cm.out V_cr.out (show n=cs1 n v by rw [hn];unfold cs1;by_cases hz:z<0<;>simp [hz];omega) hvB);have HBT:=hid (show Tryz.prog.built 140 [(0,.int .u32 (l0:Nat)),(1,.int .u32 (l1:Nat))]=some cm.toArray by rw [hl0,hl1];exact qzA V_cm.out hv2);have HUN:=hid (show IntKind.u64.wrap z=U from hU.symm);have hneg:z<0→IntKind.u64.wrap (-U)=(v:Int):=fun hz=>by rw [hU,IntKind.wrap_u64,IntKind.wrap_u64];omega
 have hpos:¬z<0→U=(v:Int):=fun hz=>by rw [hU,IntKind.wrap_u64];omega
 clear h hvb hv2 hvB hl0 hl1 htwo hl0B hl1B hU hv h1 h2;obtain ⟨B0,w0,hw0,hB0,AB0,FR,FR0,HB0,hZB0⟩:=en1 w 25 (zQI V_cy);unfold zero33 at hw0;go_enter Tryz.func76,Tryz.ntmps76
 go_upto_region 1 with fail
 rw [←hw0,←hB0];clear hw0 hB0;have hun:=HUN.out;by_cases hz:z<0
 ·have hn1:n=true:=by rw [hn];simp [hz]
  have hw:=hneg hz;subst hn1;clear hn hneg hpos;go_upto_region 4 with fail
  refine wF [⟨false,0,2,9,B0,0,25,18,cr,0,cr,[]⟩] [(10,iT z),(11,bT),(12,.int .u64 (v:Int)),(13,.int .u32 (l0:Int)),(14,.int .u64 (v:Int)),(15,.int .u64 (l1:Int)),(16,.int .u32 (l1:Int)),(17,aT cm),(18,aT cr)] (by simp only [zu];rfl) (by kernel_rfl) ?_ ?_ (fP1 bnC) ?_ uno ?_ ?_
  ·intro W' hW';refine fo4 ?_ ?_ ?_ ?_<|fo3 ?_ ?_ ?_<|fxb HBT.out rfl<|fxo ?_<|fxs rfl<|fxn;all_goals (go_big_quiet_step (exact qaA (HM.out _));exact wqn rfl)
  ·intro W' hK';refine fxi ?_<|fxi ?_<|fxi ?_<|fxi ?_<|fxi ?_<|fxi ?_<|fxi ?_<|fxb HBT.out rfl<|fxs (by kernel_rfl)<|fxs (by kernel_rfl)<|fxn;all_goals (first|(refine .inr ?_;go_big_quiet_step (fail);exact wqn rfl)|exact .inl (by kernel_rfl))
  ·exact fP1 (fun _=>rmh AB0 (qI V_cy.out) (qI V_cr.out) rfl)
  ·exact fP1 (sI V_cr (fun _=>rfl) rfl)
  intro β wx1 E;replace FR:=ffh FR E (by omega);replace AB0:=aoh E AB0 mms;simp only [nP,zu];go_wp2_with fail
  have hld:=rdI AB0 V_cr;refine bodyPost_ret (v:=.agg cr.toArray) (by simp [results,Tryz.results76,asAddr,hld]) rfl ?_;exact ⟨rfl,qbL HB0 FR⟩
 ·have hn1:n=false:=by rw [hn];simp [hz]
  have hw:=hpos hz;subst hn1;clear hn hneg hpos;rw [hw] at hun;go_upto_region 4 with fail
  refine wF [⟨false,0,2,9,B0,0,25,18,cr,0,cr,[]⟩] [(10,iT z),(11,bF),(12,.int .u64 (v:Int)),(13,.int .u32 (l0:Int)),(14,.int .u64 (v:Int)),(15,.int .u64 (l1:Int)),(16,.int .u32 (l1:Int)),(17,aT cm),(18,aT cr)] (by simp only [zu];rfl) (by kernel_rfl) ?_ ?_ (fP1 bnC) ?_ uno ?_ ?_
  ·intro W' hW';refine fo4 ?_ ?_ ?_ ?_<|fo3 ?_ ?_ ?_<|fxb HBT.out rfl<|fxo ?_<|fxs rfl<|fxn;all_goals (go_big_quiet_step (exact qaA (HM.out _));exact wqn rfl)
  ·intro W' hK';refine fxi ?_<|fxi ?_<|fxi ?_<|fxi ?_<|fxi ?_<|fxi ?_<|fxi ?_<|fxb HBT.out rfl<|fxs (by kernel_rfl)<|fxs (by kernel_rfl)<|fxn;all_goals (first|(refine .inr ?_;go_big_quiet_step (fail);exact wqn rfl)|exact .inl (by kernel_rfl))
  ·exact fP1 (fun _=>rmh AB0 (qI V_cy.out) (qI V_cr.out) rfl)
  ·exact fP1 (sI V_cr (fun _=>rfl) rfl)
  intro β wx1 E;replace FR:=ffh FR E (by omega);replace AB0:=aoh E AB0 mms;simp only [nP,zu];go_wp2_with fail
  have hld:=rdI AB0 V_cr;refine bodyPost_ret (v:=.agg cr.toArray) (by simp [results,Tryz.results76,asAddr,hld]) rfl ?_;exact ⟨rfl,qbL HB0 FR⟩
theorem jeM {ca cr:List Value} {na n:Bool} {a:Nat} (h:ca=.bool na::lv 32 a) (hr:cr=.bool n::lv 32 a) (hn:n=cs1 (!cs1 na a) a) (ha:a<BB^32) (w:World) :
  CB 109 #[.agg ca.toArray] (.agg cr.toArray) w:=by
 have V_ca:=hid h;have V_cr:=hid hr;obtain ⟨sa,hsa⟩:=nqx (cs1 na a);rw [←hsa] at hn;obtain ⟨cm,V_cm⟩:=nvx (lv 32 a);obtain ⟨cy,V_cy⟩:=nvx (.bool false::lv 32 0);have HS:=hid (qbR V_ca.out V_cm.out hsa ha);have HM:=hid (qeO (neg:=!sa) V_cm.out V_cr.out hn ha);clear h hr hn ha hsa;obtain ⟨B0,B1,w0,hw0,hB0,hB1,AB0,AB1,FR,FR0,HB0,hZB0,l01,hZB1⟩:=en2 w 25 25 (bxq ca) (zQI V_cy);unfold zero33 at hw0;go_enter Tryz.func109,Tryz.ntmps109
 go_upto_region 1 with fail
 rw [←hw0,←hB1,←hB0];clear hw0 hB0 hB1;refine wT [⟨true,5,4,7,0,0,140,9,cm,0,cm,[]⟩] [(6,aT ca),(7,.tuple #[.bool sa,aT cm]),(5,.tuple #[.bool sa,aT cm]),(8,.bool sa),(9,aT cm),(3,.bool sa)] (by simp only [zu];rfl) (by kernel_rfl) rfl ?_ ?_ ?_ ?_
 ·intro W' hW';refine lhI AB0 hW' V_ca rfl<|fo4 ?_ ?_ ?_ ?_<|fxs rfl<|fxo ?_<|fxs rfl<|fxn;all_goals (go_big_quiet_step (exact qaA (HS.out _));exact wqn rfl)
 ·exact fP1 (Tryz.alG (qG V_cm.out))
 ·exact fP1 (sG V_cm (fun _=>rfl) rfl)
 intro β wx1 E;replace FR:=fnf FR E rfl;obtain ⟨b4,hb4,eb4⟩:=nwb E mms;have lB0_b4:B0<b4:=ltb AB0 eb4.1;have lB1_b4:B1<b4:=ltb AB1 eb4.1;have hZb4:B0≤b4:=Nat.le_trans FR0.out eb4.1;replace AB1:=fnh AB1 E rfl;have Ab4:=hid eb4.2;simp only [nP,zu];rw [←hb4];clear E eb4 hb4;go_upto_region 2 with fail
 refine wF [⟨false,0,2,4,B1,0,25,13,cr,0,cr,[]⟩] [(10,.bool sa),(11,.bool (!sa)),(12,aT cm),(13,aT cr)] (by simp only [zu];rfl) (by kernel_rfl) ?_ ?_ (fP1 bnC) ?_ uno ?_ ?_
 ·intro W' hW';refine fo2 ?_ ?_<|lhG Ab4 hW' V_cm rfl<|fxo ?_<|fxs rfl<|fxn;all_goals (go_big_quiet_step (exact qaA (HM.out _));exact wqn rfl)
 ·intro W' hK';have rd0:=akh Ab4 hK' (by omega);refine fxi ?_<|fxi ?_<|ldG rd0 V_cm rfl<|fxs (by kernel_rfl)<|fxs (by kernel_rfl)<|fxn;all_goals (first|(refine .inr ?_;go_big_quiet_step (fail);exact wqn rfl)|exact .inl (by kernel_rfl))
 ·exact fP1 (fun _=>rmh AB1 (qI V_cy.out) (qI V_cr.out) rfl)
 ·exact fP1 (sI V_cr (fun _=>rfl) rfl)
 intro β wx2 E;replace FR:=ffh FR E (by omega);replace AB1:=aoh E AB1 mms;simp only [nP,zu];go_wp2_with fail
 have hld:=rdI AB1 V_cr;refine bodyPost_ret (v:=.agg cr.toArray) (by simp [results,Tryz.results109,asAddr,hld]) rfl ?_;exact ⟨rfl,qbL HB0 FR⟩
theorem qwE {ca cb cr:List Value} {na nb n:Bool} {a b v:Nat} (h1:ca=.bool na::lv 32 a) (h2:cb=.bool nb::lv 32 b) (hr:cr=.bool n::lv 32 v) (hv:v=a*b) (hn:n=cs1 (na != nb) v) (ha:a<BB^32) (hb:b<BB^32) (hvb:v<BB^32) (w:World) :
  CB 113 #[.agg ca.toArray,.agg cb.toArray] (.tuple #[.agg cr.toArray,.int .i64 0]) w:=by
 have V_ca:=hid h1;have V_cb:=hid h2;have V_cr:=hid hr;obtain ⟨sa,hsa⟩:=nqx (cs1 na a);obtain ⟨sb,hsb⟩:=nqx (cs1 nb b);obtain ⟨ma,V_ma⟩:=nvx (lv 32 a);obtain ⟨mb,V_mb⟩:=nvx (lv 32 b);obtain ⟨mv,V_mv⟩:=nvx (lv 32 v);obtain ⟨cy,V_cy⟩:=nvx (.bool false::lv 32 0);have HSA:=hid (qbR V_ca.out V_ma.out hsa ha);have HSB:=hid (qbR V_cb.out V_mb.out hsb hb);have HT:=hid (fun (W:World) (p q:Nat) (hp:At W p 0 ma) (hq:At W q 0 mb)=>qzV (r:=true) W hp hq V_ma.out V_mb.out V_mv.out ha hb (by rw [←hv];exact (Nat.mod_eq_of_lt hvb).symm) (by rw [←hv];simp [hvb]))
 have HM:=hid (qeO (neg:=sa != sb) V_mv.out V_cr.out (show n=cs1 (sa != sb) v by
  rw [hn,hsa,hsb];unfold cs1;by_cases hz:v=0
  ·simp [hz]
  ·have ha0:a≠0:=fun h=>hz (by rw [hv,h,Nat.zero_mul])
   have hb0:b≠0:=fun h=>hz (by rw [hv,h,Nat.mul_zero])
   simp [ha0,hb0]) hvb)
 clear h1 h2 hr hn ha hb hsa hsb hv hvb;obtain ⟨B0,B1,B2,w0,hw0,hB0,hB1,hB2,AB0,AB1,AB2,FR,FR0,HB0,hZB0,l01,hZB1,l12,hZB2⟩:=en3 w 25 25 25 (bxq ca) (bxq cb) (zQI V_cy);unfold zero33 at hw0;go_enter Tryz.func113,Tryz.ntmps113
 go_upto_region 1 with fail
 rw [←hw0,←hB2,←hB1,←hB0];clear hw0 hB0 hB1 hB2;refine wT [⟨true,5,7,7,0,0,140,16,ma,0,ma,[]⟩] [(13,aT ca),(14,.tuple #[.bool sa,aT ma]),(12,.tuple #[.bool sa,aT ma]),(15,.bool sa),(16,aT ma),(6,.bool sa)] (by simp only [zu];rfl) (by kernel_rfl) rfl ?_ ?_ ?_ ?_
 ·intro W' hW';refine lhI AB0 hW' V_ca rfl<|fo4 ?_ ?_ ?_ ?_<|fxs rfl<|fxo ?_<|fxs rfl<|fxn;all_goals (go_big_quiet_step (exact qaA (HSA.out _));exact wqn rfl)
 ·exact fP1 (Tryz.alG (qG V_ma.out))
 ·exact fP1 (sG V_ma (fun _=>rfl) rfl)
 intro β wx1 E;replace FR:=fnf FR E rfl;obtain ⟨b7,hb7,eb7⟩:=nwb E mms;have lB0_b7:B0<b7:=ltb AB0 eb7.1;have lB1_b7:B1<b7:=ltb AB1 eb7.1;have lB2_b7:B2<b7:=ltb AB2 eb7.1;have hZb7:B0≤b7:=Nat.le_trans FR0.out eb7.1;replace AB0:=fnh AB0 E rfl;replace AB1:=fnh AB1 E rfl;replace AB2:=fnh AB2 E rfl;have Ab7:=hid eb7.2;simp only [nP,zu];rw [←hb7];replace FR0:=hid FR.out.le;clear E eb7 hb7;go_upto_region 2 with fail
 refine wT [⟨true,5,9,7,0,0,140,21,mb,0,mb,[]⟩] [(18,aT cb),(19,.tuple #[.bool sb,aT mb]),(17,.tuple #[.bool sb,aT mb]),(20,.bool sb),(21,aT mb),(8,.bool sb)] (by simp only [zu];rfl) (by kernel_rfl) rfl ?_ ?_ ?_ ?_
 ·intro W' hW';refine lhI AB1 hW' V_cb rfl<|fo4 ?_ ?_ ?_ ?_<|fxs rfl<|fxo ?_<|fxs rfl<|fxn;all_goals (go_big_quiet_step (exact qaA (HSB.out _));exact wqn rfl)
 ·exact fP1 (Tryz.alG (qG V_mb.out))
 ·exact fP1 (sG V_mb (fun _=>rfl) rfl)
 intro β wx2 E;replace FR:=fnf FR E rfl;obtain ⟨b9,hb9,eb9⟩:=nwb E mms;have lB0_b9:B0<b9:=ltb AB0 eb9.1;have lB1_b9:B1<b9:=ltb AB1 eb9.1;have lB2_b9:B2<b9:=ltb AB2 eb9.1;have lb7_b9:b7<b9:=ltb Ab7 eb9.1;have hZb9:B0≤b9:=Nat.le_trans FR0.out eb9.1;replace AB0:=fnh AB0 E rfl;replace AB1:=fnh AB1 E rfl;replace AB2:=fnh AB2 E rfl;replace Ab7:=fnh Ab7 E rfl;have Ab9:=hid eb9.2;simp only [nP,zu];rw [←hb9];replace FR0:=hid FR.out.le;clear E eb9 hb9;go_upto_region 3 with fail
 refine wT [⟨true,4,10,5,0,0,140,24,mv,0,mv,[]⟩] [(23,.tuple #[aT mv,bT]),(22,.tuple #[aT mv,bT]),(24,aT mv),(25,bT),(11,bT)] (by simp only [zu];rfl) (by kernel_rfl) rfl ?_ ?_ ?_ ?_
 ·intro W' hW';refine fo4 ?_ ?_ ?_ ?_<|fxs rfl<|fxs rfl<|fxo ?_<|fxn;all_goals (go_big_quiet_step (exact qaA (HT.out _ _ _ ((Ab7.out.below hW').below (qbG _ _ _)) ((Ab9.out.below hW').below (qbG _ _ _))));exact wqn rfl)
 ·exact fP1 (Tryz.alG (qG V_mv.out))
 ·exact fP1 (sG V_mv (fun _=>rfl) rfl)
 intro β wx3 E;replace FR:=fnf FR E rfl;obtain ⟨b10,hb10,eb10⟩:=nwb E mms;have lB0_b10:B0<b10:=ltb AB0 eb10.1;have lB1_b10:B1<b10:=ltb AB1 eb10.1;have lB2_b10:B2<b10:=ltb AB2 eb10.1;have lb7_b10:b7<b10:=ltb Ab7 eb10.1;have lb9_b10:b9<b10:=ltb Ab9 eb10.1;have hZb10:B0≤b10:=Nat.le_trans FR0.out eb10.1;replace AB2:=fnh AB2 E rfl;have Ab10:=hid eb10.2;simp only [nP,zu];rw [←hb10];clear E eb10 hb10;go_upto_region 6 with fail
 refine wF [⟨false,0,4,5,B2,0,25,33,cr,0,cr,[]⟩] [(29,.bool sa),(30,.bool sb),(31,.bool (sa != sb)),(32,aT mv),(33,aT cr),(5,iT 0)] (by simp only [zu];rfl) (by kernel_rfl) ?_ ?_ (fP1 bnC) ?_ uno ?_ ?_
 ·intro W' hW';refine fo3 ?_ ?_ ?_<|lhG Ab10 hW' V_mv rfl<|fxo ?_<|fxs rfl<|fxo ?_<|fxn;all_goals (go_big_quiet_step (exact qaA (HM.out _));exact wqn rfl)
 ·intro W' hK';have rd0:=akh Ab10 hK' (by omega);refine fxi ?_<|fxi ?_<|fxi ?_<|ldG rd0 V_mv rfl<|fxs (by kernel_rfl)<|fxs (by kernel_rfl)<|fxi ?_<|fxn;all_goals (first|(refine .inr ?_;go_big_quiet_step (fail);exact wqn rfl)|exact .inl (by kernel_rfl))
 ·exact fP1 (fun _=>rmh AB2 (qI V_cy.out) (qI V_cr.out) rfl)
 ·exact fP1 (sI V_cr (fun _=>rfl) rfl)
 intro β wx4 E;replace FR:=ffh FR E (by omega);replace AB2:=aoh E AB2 mms;simp only [nP,zu];go_wp2_with fail
 have hld:=rdI AB2 V_cr;refine bodyPost_ret (v:=.tuple #[.agg cr.toArray,.int .i64 0]) (by simp [results,Tryz.results113,asAddr,hld]) rfl ?_;exact ⟨rfl,qbL HB0 FR⟩
theorem jeN {ca cb cr:List Value} {na nb n:Bool} {a b v:Nat} (h1:ca=.bool na::lv 32 a) (h2:cb=.bool nb::lv 32 b) (hr:cr=.bool n::lv 32 v) (hn:n=decide (zI na a+zI nb b<0)) (hve:v=(zI na a+zI nb b).natAbs) (ha:a<BB^32) (hb:b<BB^32) (hv:v<BB^32) (w:World) :
  CB 177 #[.agg ca.toArray,.agg cb.toArray] (.tuple #[.agg cr.toArray,.int .i64 0]) w:=by
 have V_ca:=hid h1;have V_cb:=hid h2;have V_cr:=hid hr;obtain ⟨sa,hsa⟩:=nqx (cs1 na a);obtain ⟨sb,hsb⟩:=nqx (cs1 nb b);obtain ⟨ma,V_ma⟩:=nvx (lv 32 a);obtain ⟨mb,V_mb⟩:=nvx (lv 32 b);obtain ⟨mv,V_mv⟩:=nvx (lv 32 v);obtain ⟨cy,V_cy⟩:=nvx (.bool false::lv 32 0);have HSA:=hid (qbR V_ca.out V_ma.out hsa ha);have HSB:=hid (qbR V_cb.out V_mb.out hsb hb);have HM:=hid (fun (s:Bool) (hs:n=cs1 s v)=>qeO (neg:=s) V_mv.out V_cr.out hs hv);have HP:=hid (And.intro hsa (And.intro hsb (And.intro hn hve)));have HL:=hid (And.intro ha (And.intro hb hv));clear h1 h2 hr hn ha hb hsa hsb hv hve;obtain ⟨B0,B1,B2,w0,hw0,hB0,hB1,hB2,AB0,AB1,AB2,FR,FR0,HB0,hZB0,l01,hZB1,l12,hZB2⟩:=en3 w 25 25 25 (bxq ca) (bxq cb) (zQI V_cy);unfold zero33 at hw0;go_enter Tryz.func177,Tryz.ntmps177
 go_upto_region 1 with fail
 rw [←hw0,←hB2,←hB1,←hB0];clear hw0 hB0 hB1 hB2;refine wT [⟨true,5,7,7,0,0,140,16,ma,0,ma,[]⟩] [(13,aT ca),(14,.tuple #[.bool sa,aT ma]),(12,.tuple #[.bool sa,aT ma]),(15,.bool sa),(16,aT ma),(6,.bool sa)] (by simp only [zu];rfl) (by kernel_rfl) rfl ?_ ?_ ?_ ?_
 ·intro W' hW';refine lhI AB0 hW' V_ca rfl<|fo4 ?_ ?_ ?_ ?_<|fxs rfl<|fxo ?_<|fxs rfl<|fxn;all_goals (go_big_quiet_step (exact qaA (HSA.out _));exact wqn rfl)
 ·exact fP1 (Tryz.alG (qG V_ma.out))
 ·exact fP1 (sG V_ma (fun _=>rfl) rfl)
 intro β wx1 E;replace FR:=fnf FR E rfl;obtain ⟨b7,hb7,eb7⟩:=nwb E mms;have lB0_b7:B0<b7:=ltb AB0 eb7.1;have lB1_b7:B1<b7:=ltb AB1 eb7.1;have lB2_b7:B2<b7:=ltb AB2 eb7.1;have hZb7:B0≤b7:=Nat.le_trans FR0.out eb7.1;replace AB0:=fnh AB0 E rfl;replace AB1:=fnh AB1 E rfl;replace AB2:=fnh AB2 E rfl;have Ab7:=hid eb7.2;simp only [nP,zu];rw [←hb7];replace FR0:=hid FR.out.le;clear E eb7 hb7;go_upto_region 2 with fail
 refine wT [⟨true,5,9,7,0,0,140,21,mb,0,mb,[]⟩] [(18,aT cb),(19,.tuple #[.bool sb,aT mb]),(17,.tuple #[.bool sb,aT mb]),(20,.bool sb),(21,aT mb),(8,.bool sb)] (by simp only [zu];rfl) (by kernel_rfl) rfl ?_ ?_ ?_ ?_
 ·intro W' hW';refine lhI AB1 hW' V_cb rfl<|fo4 ?_ ?_ ?_ ?_<|fxs rfl<|fxo ?_<|fxs rfl<|fxn;all_goals (go_big_quiet_step (exact qaA (HSB.out _));exact wqn rfl)
 ·exact fP1 (Tryz.alG (qG V_mb.out))
 ·exact fP1 (sG V_mb (fun _=>rfl) rfl)
 intro β wx2 E;replace FR:=fnf FR E rfl;obtain ⟨b9,hb9,eb9⟩:=nwb E mms;have lB0_b9:B0<b9:=ltb AB0 eb9.1;have lB1_b9:B1<b9:=ltb AB1 eb9.1;have lB2_b9:B2<b9:=ltb AB2 eb9.1;have lb7_b9:b7<b9:=ltb Ab7 eb9.1;have hZb9:B0≤b9:=Nat.le_trans FR0.out eb9.1;replace AB0:=fnh AB0 E rfl;replace AB1:=fnh AB1 E rfl;replace AB2:=fnh AB2 E rfl;replace Ab7:=fnh Ab7 E rfl;have Ab9:=hid eb9.2;simp only [nP,zu];rw [←hb9];replace FR0:=hid FR.out.le;clear E eb9 hb9;by_cases hs:sa=sb
 ·have hsum:v=a+b∧n=cs1 sa (a+b):=by
   have:=jdA na nb a b (by rw [←HP.out.1,←HP.out.2.1];exact hs)
   exact ⟨by rw [HP.out.2.2.2,this.2],by rw [HP.out.2.2.1,this.1,HP.out.1]⟩
  have he:(sa==sb)=true:=by simp [hs]
  have HMM:=hid (HM.out sa (by rw [hsum.1];exact hsum.2));have HPL:=hid (fun (W:World) (p q:Nat) (hp:At W p 0 ma) (hq:At W q 0 mb)=>qwG (c2:=0) W hp hq V_ma.out V_mb.out V_mv.out HL.out.1 HL.out.2.1 HL.out.2.2 (by rw [hsum.1];simp));simp only [decide_true] at HPL;clear hsum hs;go_upto_region 7 with fail
  refine wT [⟨true,4,10,5,0,0,140,35,mv,0,mv,[]⟩] [(34,.tuple #[aT mv,bT]),(33,.tuple #[aT mv,bT]),(35,aT mv),(36,bT),(11,bT)] (by simp only [zu];rfl) (by kernel_rfl) rfl ?_ ?_ ?_ ?_
  ·intro W' hW';refine fo4 ?_ ?_ ?_ ?_<|fxs rfl<|fxs rfl<|fxo ?_<|fxn;all_goals (go_big_quiet_step (exact qaA (HPL.out _ _ _ ((Ab7.out.below hW').below (qbG _ _ _)) ((Ab9.out.below hW').below (qbG _ _ _))));exact wqn rfl)
  ·exact fP1 (Tryz.alG (qG V_mv.out))
  ·exact fP1 (sG V_mv (fun _=>rfl) rfl)
  intro β wx3 E;replace FR:=fnf FR E rfl;obtain ⟨b10,hb10,eb10⟩:=nwb E mms;have lB0_b10:B0<b10:=ltb AB0 eb10.1;have lB1_b10:B1<b10:=ltb AB1 eb10.1;have lB2_b10:B2<b10:=ltb AB2 eb10.1;have lb7_b10:b7<b10:=ltb Ab7 eb10.1;have lb9_b10:b9<b10:=ltb Ab9 eb10.1;have hZb10:B0≤b10:=Nat.le_trans FR0.out eb10.1;replace AB2:=fnh AB2 E rfl;have Ab10:=hid eb10.2;simp only [nP,zu];rw [←hb10];clear E eb10 hb10;go_upto_region 10 with fail
  refine wF [⟨false,0,4,3,B2,0,25,42,cr,0,cr,[]⟩] [(40,.bool sa),(41,aT mv),(42,aT cr),(5,iT 0)] (by simp only [zu];rfl) (by kernel_rfl) ?_ ?_ (fP1 bnC) ?_ uno ?_ ?_
  ·intro W' hW';refine fxo ?_<|lhG Ab10 hW' V_mv rfl<|fxo ?_<|fxs rfl<|fxo ?_<|fxn;all_goals (go_big_quiet_step (exact qaA (HMM.out _));exact wqn rfl)
  ·intro W' hK';have rd0:=akh Ab10 hK' (by omega);refine fxi ?_<|ldG rd0 V_mv rfl<|fxs (by kernel_rfl)<|fxs (by kernel_rfl)<|fxi ?_<|fxn;all_goals (first|(refine .inr ?_;go_big_quiet_step (fail);exact wqn rfl)|exact .inl (by kernel_rfl))
  ·exact fP1 (fun _=>rmh AB2 (qI V_cy.out) (qI V_cr.out) rfl)
  ·exact fP1 (sI V_cr (fun _=>rfl) rfl)
  intro β wx4 E;replace FR:=ffh FR E (by omega);replace AB2:=aoh E AB2 mms;simp only [nP,zu];go_wp2_with fail
  have hld:=rdI AB2 V_cr;refine bodyPost_ret (v:=.tuple #[.agg cr.toArray,.int .i64 0]) (by simp [results,Tryz.results177,asAddr,hld]) rfl ?_;exact ⟨rfl,qbL HB0 FR⟩
 ·have HS:=hid hs;have he:(sa==sb)=false:=by simp [hs]
  clear hs;obtain ⟨x,hx⟩:=nqx (cmpI a b);have HCM:=hid (fun (W:World) (p q:Nat) (hp:At W p 0 ma) (hq:At W q 0 mb)=>show CB 165 #[.pointer (some ⟨p,0,none⟩),.pointer (some ⟨q,0,none⟩)] (.int .i64 x) W by rw [hx];exact qnB a b p 0 q 0 W (V_ma.out ▸ hp) (V_mb.out ▸ hq) HL.out.1 HL.out.2.1);go_upto_region 4 with fail
  by_cases hl:a<b
  ·have hx0:x<0:=by rw [hx];unfold cmpI;rw [if_pos hl];decide
   have hd:v=b - a∧n=cs1 sb (b - a):=by
    have:=jdC na nb a b (by rw [←HP.out.1,←HP.out.2.1];exact HS.out) hl
    exact ⟨by rw [HP.out.2.2.2,this.2],by rw [HP.out.2.2.1,this.1,HP.out.2.1]⟩
   have HMM:=hid (HM.out sb (by rw [hd.1];exact hd.2));have HMN:=hid (fun (W:World) (p q:Nat) (hp:At W p 0 mb) (hq:At W q 0 ma)=>qmN (c2:=0) W hp hq V_mb.out V_ma.out V_mv.out HL.out.2.1 HL.out.1 HL.out.2.2 (by rw [Nat.zero_mul];omega));clear hx hl hd;refine wE [(25,iT x),(26,bT)] (by simp only [zu];rfl) (by kernel_rfl) ?_ ?_
   ·intro W' hW';refine fo2 ?_ ?_<|fxn;all_goals (go_big_quiet_step (exact qaA (HCM.out _ _ _ ((Ab7.out.below hW').below (qbG _ _ _)) ((Ab9.out.below hW').below (qbG _ _ _))));exact wqn rfl)
   intro β wx3 E;replace FR:=fnf FR E rfl;replace AB2:=fnh AB2 E rfl;replace Ab7:=fnh Ab7 E rfl;replace Ab9:=fnh Ab9 E rfl;simp only [nP,zu];clear hx0;go_upto_region 5 with fail
   refine wF [⟨false,0,4,3,B2,0,25,29,cr,0,cr,[]⟩] [(27,.bool sb),(28,aT mv),(29,aT cr),(5,iT 0)] (by simp only [zu];rfl) (by kernel_rfl) ?_ ?_ (fP1 bnC) ?_ uno ?_ ?_
   ·intro W' hW';refine fo2 ?_ ?_<|fxo (by go_big_quiet_step (exact qaA (HMM.out _));exact wqn rfl)<|fxs rfl<|fxo ?_<|fxn;all_goals (go_big_quiet_step (exact qaA (HMN.out _ _ _ ((Ab9.out.below hW').below (qbG _ _ _)) ((Ab7.out.below hW').below (qbG _ _ _))));exact wqn rfl)
   ·intro W' hK';refine fxi ?_<|fxs (by kernel_rfl)<|fxs (by kernel_rfl)<|fxs (by kernel_rfl)<|fxi ?_<|fxn;all_goals (first|(refine .inr ?_;go_big_quiet_step (fail);exact wqn rfl)|exact .inl (by kernel_rfl))
   ·exact fP1 (fun _=>rmh AB2 (qI V_cy.out) (qI V_cr.out) rfl)
   ·exact fP1 (sI V_cr (fun _=>rfl) rfl)
   intro β wx4 E;replace FR:=ffh FR E (by omega);replace AB2:=aoh E AB2 mms;simp only [nP,zu];go_wp2_with fail
   have hld:=rdI AB2 V_cr;refine bodyPost_ret (v:=.tuple #[.agg cr.toArray,.int .i64 0]) (by simp [results,Tryz.results177,asAddr,hld]) rfl ?_;exact ⟨rfl,qbL HB0 FR⟩
  ·have hx0:¬x<0:=by rw [hx];unfold cmpI;rw [if_neg hl];split<;>omega
   have hd:v=a - b∧n=cs1 sa (a - b):=by
    have:=jdB na nb a b (by rw [←HP.out.1,←HP.out.2.1];exact HS.out) hl
    exact ⟨by rw [HP.out.2.2.2,this.2],by rw [HP.out.2.2.1,this.1,HP.out.1]⟩
   have HMM:=hid (HM.out sa (by rw [hd.1];exact hd.2));have HMN:=hid (fun (W:World) (p q:Nat) (hp:At W p 0 ma) (hq:At W q 0 mb)=>qmN (c2:=0) W hp hq V_ma.out V_mb.out V_mv.out HL.out.1 HL.out.2.1 HL.out.2.2 (by rw [Nat.zero_mul];omega));clear hx hl hd;refine wE [(25,iT x),(26,bF)] (by simp only [zu];rfl) (by kernel_rfl) ?_ ?_
   ·intro W' hW';refine fo2 ?_ ?_<|fxn;all_goals (go_big_quiet_step (exact qaA (HCM.out _ _ _ ((Ab7.out.below hW').below (qbG _ _ _)) ((Ab9.out.below hW').below (qbG _ _ _))));exact wqn rfl)
   intro β wx3 E;replace FR:=fnf FR E rfl;replace AB2:=fnh AB2 E rfl;replace Ab7:=fnh Ab7 E rfl;replace Ab9:=fnh Ab9 E rfl;simp only [nP,zu];clear hx0;go_upto_region 6 with fail
   refine wF [⟨false,0,4,3,B2,0,25,32,cr,0,cr,[]⟩] [(30,.bool sa),(31,aT mv),(32,aT cr),(5,iT 0)] (by simp only [zu];rfl) (by kernel_rfl) ?_ ?_ (fP1 bnC) ?_ uno ?_ ?_
   ·intro W' hW';refine fo2 ?_ ?_<|fxo (by go_big_quiet_step (exact qaA (HMM.out _));exact wqn rfl)<|fxs rfl<|fxo ?_<|fxn;all_goals (go_big_quiet_step (exact qaA (HMN.out _ _ _ ((Ab7.out.below hW').below (qbG _ _ _)) ((Ab9.out.below hW').below (qbG _ _ _))));exact wqn rfl)
   ·intro W' hK';refine fxi ?_<|fxs (by kernel_rfl)<|fxs (by kernel_rfl)<|fxs (by kernel_rfl)<|fxi ?_<|fxn;all_goals (first|(refine .inr ?_;go_big_quiet_step (fail);exact wqn rfl)|exact .inl (by kernel_rfl))
   ·exact fP1 (fun _=>rmh AB2 (qI V_cy.out) (qI V_cr.out) rfl)
   ·exact fP1 (sI V_cr (fun _=>rfl) rfl)
   intro β wx4 E;replace FR:=ffh FR E (by omega);replace AB2:=aoh E AB2 mms;simp only [nP,zu];go_wp2_with fail
   have hld:=rdI AB2 V_cr;refine bodyPost_ret (v:=.tuple #[.agg cr.toArray,.int .i64 0]) (by simp [results,Tryz.results177,asAddr,hld]) rfl ?_;exact ⟨rfl,qbL HB0 FR⟩
end Go.Proofs.YtemoddmadfoaiaaGreat
