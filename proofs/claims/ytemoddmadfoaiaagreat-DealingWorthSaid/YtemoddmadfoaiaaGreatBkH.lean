import Derived.Test.YtemoddmadfoaiaaGreatBkI
import Derived.Test.YtemoddmadfoaiaaGreatPcA
import Derived.Test.YtemoddmadfoaiaaGreatToA
set_option linter.unusedVariables false
set_option linter.unusedSimpArgs false
set_option maxRecDepth 100000
set_option maxHeartbeats 8000000
namespace Go.Proofs.YtemoddmadfoaiaaGreat
open Go.RowKit Big
open Lib (hid)
namespace Big
theorem qzQ (m n v:Nat):dg (m+n) v=dg m (v%BB^m)++dg n (v / BB^m):=by
 unfold dg;rw [List.range_add,List.map_append,List.map_map];congr 1
 ·apply List.map_congr_left
  intro k hk;have hk:=List.mem_range.1 hk;have h:=Nat.div_add_mod v (BB^m);have e:v%BB^m+v / BB^m*BB^m=v:=by rw [Nat.mul_comm];omega
  rw [←qnL (p:=v%BB^m) (x:=v / BB^m) hk,e]
 ·apply List.map_congr_left
  intro k hk;show lim v (m+k)=lim (v / BB^m) k
  unfold lim;rw [Nat.pow_add,Nat.div_div_eq_div_mul]
end Big
theorem qyN (m n v:Nat):lv (m+n) v=lv m (v%BB^m)++lv n (v / BB^m):=by
 unfold lv cells;rw [qzQ,List.map_append]
theorem At.drewN {w:World} {b o:Nat} {c:List Value} (h:At w b o c) (d:Nat):At (w.drewN d) b o c:=h.same rfl
theorem At.cellV {w:World} {b v n j x:Nat} {c:List Value} (h:At w b 0 c) (hc:c=lv n v) (hx:x=lim v j) (hj:j<n):w.cell? ⟨b,j,none⟩=some (.int .u32 (x:Int))∧w.frozen? ⟨b,j,none⟩=false:=by
 subst hc hx;have h1:=h.range j _ (lv_get v hj);have h2:=(h.there j (by rw [qlL];exact hj)).2;rw [Nat.zero_add] at h1 h2;exact ⟨h1,h2⟩
theorem qcN {P:Program} {ops:Array Oper} {C:World→Prop} {Q:Act→Prop} {a:Act} {op:Oper} {rest:List Oper} {t:TypeId} {x:Operand} {b o:Nat} (hgd:Region.wanted op (yielded ops a.tmps)=true) (low high:Option Operand) (ho:op.op=.slice t x low high none)
  (hx:a.eval x=.pointer (some ⟨b,o,none⟩)) {v:Value} (hr:∀ W,(Instr.sliceAt t (.pointer (some ⟨b,o,none⟩)) (low.map a.eval) (high.map a.eval) none).run P W=.ok v W)
  (h:wpQuiet P ops C Q rest (a.put op.dst v)):wpQuiet P ops C Q (op::rest) a:=by
 refine wpQuiet_step (fun K hK=>?_);rw [if_pos hgd];refine ⟨v,fun W hW=>?_,hK _ h⟩;unfold Oper.quietAt execOp;simp [ho,hx,hr W,Oper.quietUpon]
theorem qcV {P:Program} {ops:Array Oper} {C:World→Prop} {Q:Act→Prop} {a:Act} {op:Oper} {rest:List Oper} {t e:TypeId} {x:Operand} {n len cap:Nat} {p:Option Addr} (hgd:Region.wanted op (yielded ops a.tmps)=true) (ho:op.op=.sliceToArrayPointer t x)
  (hx:a.eval x=.slice p len cap) (hu:P.underlying t=some (.array n e)) (hn:n≤len)
  (h:wpQuiet P ops C Q rest (a.put op.dst (.pointer p))):wpQuiet P ops C Q (op::rest) a:=by
 refine wpQuiet_step (fun K hK=>?_);rw [if_pos hgd];refine ⟨.pointer p,fun W hW=>?_,hK _ h⟩;unfold Oper.quietAt execOp;simp [ho,hx,run_arrayAt (P:=P) (w:=W) t e n p len cap hu hn,Oper.quietUpon]
theorem qmS (W:World) (b:Nat):(Instr.sliceAt 180 (.pointer (some ⟨b,0,none⟩)) none (some (.int .i64 32)) none).run Tryz.prog W=.ok (.slice (some ⟨b,0,none⟩) 32 64) W:=by
 simp [Instr.sliceAt,Instr.sureAddr,run_underlying Tryz.underlying180,Instr.sliceBounds,run_sliceBound,sizeOf];rfl
theorem qmT (W:World) (b:Nat):(Instr.sliceAt 180 (.pointer (some ⟨b,0,none⟩)) (some (.int .i64 32)) none none).run Tryz.prog W=.ok (.slice (some ⟨b,32,none⟩) 32 32) W:=by
 simp [Instr.sliceAt,Instr.sureAddr,run_underlying Tryz.underlying180,Instr.sliceBounds,run_sliceBound,sizeOf];rfl
theorem qxG {ca cb cv:List Value} {a b v ba oa bb ob:Nat} {r:Bool} (w:World) (h1:At w ba oa ca) (h2:At w bb ob cb) (hca:ca=lv 32 a) (hcb:cb=lv 32 b) (hcv:cv=lv 32 v) (ha:a<BB^32) (hb:b<BB^32) (hv:v=a*b%BB^32) (hr:r=decide (a*b<BB^32)) :
  Calls Tryz.prog 148 #[.pointer (some ⟨ba,oa,none⟩),.pointer (some ⟨bb,ob,none⟩)] w fun e w'=>e=.returned (.tuple #[.agg cv.toArray,.bool r])∧Below w.heap.size w w':=by
 obtain ⟨N,hN32,hN⟩:=qLE a 32 ha;obtain ⟨K,hK32,hK⟩:=qLE b 32 hb;have HUA:=hid (fun W (h:At W ba oa ca)=>qeH a N ba oa W (hca ▸ h) ha hN);have HUB:=hid (fun W (h:At W bb ob cb)=>qeH b K bb ob W (hcb ▸ h) hb hK);have V_ca:=hid hca;have V_cb:=hid hcb;have V_cv:=hid hcv;have HV:=hid (And.intro ha (And.intro hb (And.intro hv hr)));have HNK:=hid (And.intro hN hK);have Aba:=hid h1;have Abb:=hid h2;have lba:=h1.lt;have lbb:=h2.lt;clear hca hcb hcv ha hb hv h1 h2 hN hK hr;obtain ⟨cz,V_cz⟩:∃ c:List Value,Hid (c=lv 32 0):=⟨_,hid rfl⟩;obtain ⟨cd,V_cd⟩:∃ c:List Value,Hid (c=lv 64 0):=⟨_,hid rfl⟩;obtain ⟨B0,B1,w0,hw0,hB0,hB1,AB0,AB1,FR,FR0,HB0,hZB0,l01,hZB1⟩:=en2 w 140 180 (zM V_cz) (zM V_cd);rw [qbO] at hw0;rw [qnH] at hw0;go_enter Tryz.func148,Tryz.ntmps148
 go_upto_region 2 with fail
 rw [←hw0,←hB1,←hB0];clear hw0 hB0 hB1;replace Aba:=hid (Aba.out.below (by have:=FR.out.below;rwa [HB0.out] at this));replace Abb:=hid (Abb.out.below (by have:=FR.out.below;rwa [HB0.out] at this));rw [←HB0.out] at lba lbb;have na1:B1≠ba:=by omega
 have nb1:B1≠bb:=by omega
 have n01:B1≠B0:=by omega
 refine wT [] [(13,.pointer (some ⟨ba,oa,none⟩)),(14,.int .i64 (N:Int)),(15,.pointer (some ⟨bb,ob,none⟩)),(16,.int .i64 (K:Int)),(7,.int .i64 (N:Int)),(8,.int .i64 (K:Int))] (by simp only [zr,zq];rfl) (by kernel_rfl) rfl ?_ oN oN ?_
 ·intro W' hW';refine fo3 ?_ ?_ ?_<|fxo (by go_big_quiet_step ((go_at_call 164;exact qaG (HUB.out _ ((Abb.out.below hW').below (qbG _ _ _)))));exact wqn rfl)<|fo2 ?_ ?_<|fxn;all_goals (go_big_quiet_step ((go_at_call 164;exact qaG (HUA.out _ ((Aba.out.below hW').below (qbG _ _ _)))));exact wqn rfl)
 intro β wx1 E;replace FR:=fnf FR E rfl;replace AB0:=fnh AB0 E rfl;replace AB1:=fnh AB1 E rfl;replace Aba:=fnh Aba E rfl;replace Abb:=fnh Abb E rfl;simp only [nP,zr,zq];clear E;go_wp2
 go_loopg [18] N (fun g iv wr=>∃ (i P:Nat),i≤N∧N - i≤g∧iv=.int .i64 (i:Int)∧P=(a%BB^i)*b∧At wr ba oa ca∧At wr bb ob cb∧At wr B0 0 cz∧At wr B1 0 (lv 64 P)∧Fr B0 w wr)
 case atStart=>exact ⟨0,0,by omega,by omega,rfl,by simp [Nat.mod_one],Aba.out,Abb.out,AB0.out,by have:=AB1.out;rwa [V_cd.out] at this,FR.out⟩
 case round =>
  obtain ⟨i,P,hi,hg,rfl,hP,hA,hB,hR,hO,hF⟩:=hrel;have HP:=hid hP;replace Aba:=hid hA;replace Abb:=hid hB;replace AB0:=hid hR;replace AB1:=hid hO;replace FR:=hid hF
  have HPB:=hid (show P<BB^(i+K) by
   rw [hP,Nat.pow_add];exact Nat.mul_lt_mul'' (Nat.mod_lt _ (BP i)) HNK.out.2.1)
  clear hP hA hB hR hO hF;by_cases hlt:i<N
  ·obtain ⟨x,hx⟩:∃ x,x=lim a i:=⟨_,rfl⟩;have hxl:x<BB:=hx ▸ qaD a i;have HX:=hid (And.intro hx hxl);clear hx hxl;obtain ⟨G,hG⟩:∃ G,G=gk:=⟨_,rfl⟩;rw [←hG] at hg;have HGG:=hid hG;clear hG;go_wp2
   go_loopg [10,22] K (fun g2 cv0 jv wr2=>∃ (j P2 c:Nat),j≤K∧K - j≤g2∧jv=.int .i64 (j:Int)∧cv0=.int .u64 (c:Int)∧c<BB∧P2<BB^(i+K)∧P2+c*BB^(i+j)=(a%BB^i)*b+x*(b%BB^j)*BB^i∧At wr2 ba oa ca∧At wr2 bb ob cb∧At wr2 B0 0 cz∧At wr2 B1 0 (lv 64 P2)∧Fr B0 w wr2)
   case atStart=>exact ⟨0,P,0,by omega,by omega,rfl,rfl,qaX,HPB.out,by rw [HP.out];simp [Nat.mod_one],Aba.out,Abb.out,AB0.out,AB1.out,FR.out⟩
   case round =>
    obtain ⟨j,P2,c,hj,hg2,rfl,rfl,hc,hP2,he,hA,hB,hR,hO,hF⟩:=hrel;have HE:=hid he;have HP2:=hid hP2;replace Aba:=hid hA;replace Abb:=hid hB;replace AB0:=hid hR;replace AB1:=hid hO;replace FR:=hid hF;have HC4:=hid hc;clear he hP2 hA hB hR hO hF hc;by_cases hlt2:j<K
    ·obtain ⟨t,ht⟩:∃ t,t=i+j:=⟨_,rfl⟩;have ht64:t<64:=by omega
     have hij:IntKind.i64.wrap ((i:Int)+(j:Int))=(t:Int):=by rw [show (i:Int)+(j:Int)=(t:Int) by omega];exact IntWalk.i64_in _ (by omega)
     obtain ⟨y,hy⟩:∃ y,y=lim b j:=⟨_,rfl⟩;obtain ⟨zz,hzz⟩:∃ zz,zz=lim P2 t:=⟨_,rfl⟩;have ca':=Aba.out.limbO V_ca.out HX.out.1 (show i<32 by omega);have cb':=Abb.out.limbO V_cb.out hy (show j<32 by omega);obtain ⟨co',fo'⟩:=AB1.out.cellV rfl hzz ht64;have hyl:y<BB:=hy ▸ qaD b j;have hzl:zz<BB:=hzz ▸ qaD P2 t;obtain ⟨d,c',V,hd,hc',hn,e1,e2,e4⟩:=quT HX.out.2 hyl hzl HC4.out;have HSTEP:=hid (qqI HE.out HX.out.1 hy (by rw [←ht,←hzz];exact hn));have HUPB:=hid (show upd P2 t d<BB^(i+K) from qiZ HP2.out (by omega) hd);have HD:=hid (And.intro hd hc');have hw1':IntKind.u64.wrap (x:Int)=(x:Int):=by have:=HX.out.2;unfold BB at this;rw [IntKind.wrap_u64];omega
     have hw2':IntKind.u64.wrap (y:Int)=(y:Int):=by unfold BB at hyl;rw [IntKind.wrap_u64];omega
     have hw3':IntKind.u64.wrap (zz:Int)=(zz:Int):=by unfold BB at hzl;rw [IntKind.wrap_u64];omega
     have HT':=hid ht;have hi32:i<32:=by omega
     have hj32:j<32:=by omega
     clear ht hy hzz hyl hzl hd hc' hn;go_wp2
     go_quiet (fail)
     go_wp2
     go_roundg (gk - 1)
     case measure=>omega
     case rel=>exact ⟨j+1,upd P2 t d,c',by omega,by omega,by go_num,rfl,HD.out.2,HUPB.out,by have:=HSTEP.out;rwa [←HT'.out] at this,(Aba.out.drewN _).putOther _ _ na1,(Abb.out.drewN _).putOther _ _ nb1,(AB0.out.drewN _).putOther _ _ n01,(AB1.out.drewN _).put rfl ht64 HD.out.1 rfl,(FR.out.same _ rfl).put _ _ hZB1⟩
    ·have hjK:j=K:=by omega
     obtain ⟨t,ht⟩:∃ t,t=i+K:=⟨_,rfl⟩;have ht64:t<64:=by omega
     have hij:IntKind.i64.wrap ((i:Int)+(K:Int))=(t:Int):=by rw [show (i:Int)+(K:Int)=(t:Int) by omega];exact IntWalk.i64_in _ (by omega)
     have hwc:IntKind.u32.wrap (c:Int)=(c:Int):=by have:=HC4.out;unfold BB at this;rw [IntKind.wrap_u32];omega
     obtain ⟨zz,hzz⟩:∃ zz,zz=lim P2 t:=⟨_,rfl⟩;obtain ⟨co',fo'⟩:=AB1.out.cellV rfl hzz ht64
     have HROW:=hid (show P2+c*BB^(i+K)=(a%BB^(i+1))*b by
      have h:=HE.out;rw [hjK,Nat.mod_eq_of_lt HNK.out.2.1] at h;exact quS h HX.out.1)
     have HU:=hid (show upd P2 t c=P2+c*BB^(i+K) by rw [ht];exact qdN HP2.out);clear ht hjK hzz;go_wp2
     go_roundg (G - 1)
     case measure=>have:=HGG.out;omega
     case rel=>exact ⟨i+1,P2+c*BB^(i+K),by omega,by have:=HGG.out;omega,by go_num,HROW.out,Aba.out.putOther _ _ na1,Abb.out.putOther _ _ nb1,AB0.out.putOther _ _ n01,AB1.out.put rfl ht64 HC4.out (by rw [HU.out]),FR.out.put _ _ hZB1⟩
  ·have hPv:P=a*b:=by
    have h:=HP.out;rw [show i=N by omega,Nat.mod_eq_of_lt HNK.out.1.1] at h;exact h
   have HHI:=hid (show P / BB^32<BB^32 by
    rw [hPv,Nat.div_lt_iff_lt_mul (BP 32)];exact Nat.mul_lt_mul'' HV.out.1 HV.out.2.1)
   have HRR:=hid (show r=decide (P / BB^32=0) by
    rw [HV.out.2.2.2,hPv,Bool.eq_iff_iff,decide_eq_true_eq,decide_eq_true_eq]
    exact ⟨fun h=>Nat.div_eq_of_lt h,fun h=>by
     rcases Nat.lt_or_ge (a*b) (BB^32) with h1|h1
     ·exact h1
     ·have:=Nat.div_pos h1 (BP 32);omega⟩)
   have HLO:=hid (show P%BB^32=v by rw [HV.out.2.2.1,hPv]);obtain ⟨clo,V_clo⟩:∃ c:List Value,Hid (c=lv 32 (P%BB^32)):=⟨_,hid rfl⟩;obtain ⟨chi,V_chi⟩:∃ c:List Value,Hid (c=lv 32 (P / BB^32)):=⟨_,hid rfl⟩;obtain ⟨cp,V_cp⟩:∃ c:List Value,Hid (c=lv 64 P):=⟨_,hid rfl⟩;have hs:At wr B1 0 (clo++chi):=by have:=AB1.out;rw [show (64:Nat)=32+32 from rfl,qyN] at this;rwa [V_clo.out,V_chi.out]
   replace AB1:=hid (show At wr B1 0 cp by rw [V_cp.out];exact AB1.out);have AB1_0:=hid hs.head;have AB1_32:=hid (hs.tail (k:=32) (by rw [V_clo.out,qlL]));have HCV:=hid (show clo=cv by rw [V_clo.out,V_cv.out,HLO.out]);clear hs hPv;go_upto_region 15 with fail
   refine wF [⟨false,0,4,8,B0,0,140,65,clo,0,clo,[]⟩] [(63,.slice (some ⟨B1,0,none⟩) 32 64),(64,.pointer (some ⟨B1,0,none⟩)),(65,.agg clo.toArray),(66,.slice (some ⟨B1,32,none⟩) 32 32),(67,.pointer (some ⟨B1,32,none⟩)),(68,.agg chi.toArray),(69,.agg cz.toArray),(70,.bool r),(5,.bool r)] (by simp only [zr,zq];rfl) (by kernel_rfl) ?_ ?_ (fP1 bnC) ?_ uno ?_ ?_
   ·intro W' hW';refine fxo (qcN (by rfl) _ _ rfl rfl (fun W=>qmS W B1) (wqn (by simp only [zq])))<|fxo (qcV (by rfl) rfl rfl Tryz.underlying140 (by omega) (wqn (by simp only [zq])))<|ldG (abl AB1_0 hW') V_clo rfl<|fxo (qcN (by rfl) _ _ rfl rfl (fun W=>qmT W B1) (wqn (by simp only [zq])))<|fxo (qcV (by rfl) rfl rfl Tryz.underlying140 (by omega) (wqn (by simp only [zq])))<|ldG (abl AB1_32 hW') V_chi rfl<|fxb (qbT V_cz.out) rfl<|fxo (qdG (r:=r) (by rfl) rfl rfl rfl V_chi.out V_cz.out HHI.out qcC HRR.out (wqn (by simp only [zq])))<|fxs rfl<|fxo ?_<|fxn
    go_big_quiet_step (fail);exact wqn rfl
   ·intro W' hK';have rd0:=akh AB1_0 hK' (by show B0≠B1;omega);have rd1:=akh AB1_32 hK' (by show B0≠B1;omega);refine fxo (qcN (by rfl) _ _ rfl rfl (fun W=>qmS W B1) (wqn (by simp only [zq])))<|fxo (qcV (by rfl) rfl rfl Tryz.underlying140 (by omega) (wqn (by simp only [zq])))<|ldG rd0 V_clo rfl<|fxo (qcN (by rfl) _ _ rfl rfl (fun W=>qmT W B1) (wqn (by simp only [zq])))<|fxo (qcV (by rfl) rfl rfl Tryz.underlying140 (by omega) (wqn (by simp only [zq])))<|ldG rd1 V_chi rfl<|fxb (qbT V_cz.out) rfl<|fxo (qdG (r:=r) (by rfl) rfl rfl rfl V_chi.out V_cz.out HHI.out qcC HRR.out (wqn (by simp only [zq])))<|fxs (by kernel_rfl)<|fxi ?_<|fxn
    first|(refine .inr ?_;go_big_quiet_step (fail);exact wqn rfl)|exact .inl (by kernel_rfl)
   ·exact fP1 (fun _=>⟨AB0.out.lt,rfl,At.room AB0.out (qG V_cz.out) (qG V_clo.out)⟩)
   ·exact fP1 (sG V_clo (fun _=>rfl) rfl)
   intro β wx2 E;replace FR:=ffh FR E (by show B0≤B0;omega);replace AB0:=hid (show At wx2 B0 0 clo from E.atOld mms rfl AB0.out.lt);replace Aba:=afh Aba E (by show B0≠ba;omega);replace Abb:=afh Abb E (by show B0≠bb;omega);replace AB1_0:=afh AB1_0 E (by show B0≠B1;omega);replace AB1_32:=afh AB1_32 E (by show B0≠B1;omega);simp only [nP,zr,zq];clear E;rw [HCV.out] at AB0;go_wp2_with fail
   have hld:=AB0.out.read (P:=Tryz.prog) Tryz.underlying140 rfl (qG V_cv.out);refine bodyPost_ret (v:=.tuple #[.agg cv.toArray,.bool r]) (by simp [results,Tryz.results148,asAddr,hld]) rfl ?_;exact ⟨rfl,fend HB0 FR⟩
end Go.Proofs.YtemoddmadfoaiaaGreat
