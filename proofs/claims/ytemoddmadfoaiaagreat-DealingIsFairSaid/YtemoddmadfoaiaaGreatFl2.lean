import Derived.Test.YtemoddmadfoaiaaGreatBiW
import Derived.StillTailTactics
set_option linter.unusedVariables false
set_option linter.unusedSimpArgs false
set_option maxRecDepth 100000
set_option maxHeartbeats 8000000
namespace Go.Proofs.YtemoddmadfoaiaaGreat
open Go.RowKit Big
open Lib (hid)
theorem Tryz.infoU:(Tryz.prog.info? 22).map (·.size)=some 1:=by kernel_rfl
theorem Tryz.infoG:(Tryz.prog.info? 140).map (·.size)=some 32:=by kernel_rfl
theorem qG {cs:List Value} {v:Nat} (h:cs=lv 32 v):(Tryz.prog.info? 140).map (·.size)=some cs.length:=by rw [h,qlL];exact Tryz.infoG
theorem qpO {cs:List Value} {v:Nat} (h:cs=lv 32 v):cs.toArray.all (·.oneCell')=true:=jeR h
theorem ldG {ops:Array Oper} {w:World} {fin:Act} {s:Nat→Bool} {k:Nat} {op:Oper} {l:List Oper} {x:Operand} {b o:Nat} {cs:List Value} {v:Nat} (hA:At w b o cs) (hV:Hid (cs=lv 32 v)) (h:(Region.wanted op (yielded ops fin.tmps),op.op,fin.eval x,fin.put op.dst (.agg cs.toArray))=(true,.load 140 x,.pointer (some ⟨b,o,none⟩),fin)) (h2:flowX Tryz.prog ops (fun w'=>∃ p:GB,w'=gw w p.d p.os) fin s (k+1) l):flowX Tryz.prog ops (fun w'=>∃ p:GB,w'=gw w p.d p.os) fin s k (op::l):=fxl hA (qG hV.out) Tryz.underlying140 rfl h h2
theorem lhG {ops:Array Oper} {u w:World} {fin:Act} {s:Nat→Bool} {k:Nat} {op:Oper} {l:List Oper} {x:Operand} {b o:Nat} {cs:List Value} {v:Nat} (hA:Hid (At u b o cs)) (hb:Below u.heap.size u w) (hV:Hid (cs=lv 32 v)) (h:(Region.wanted op (yielded ops fin.tmps),op.op,fin.eval x,fin.put op.dst (.agg cs.toArray))=(true,.load 140 x,.pointer (some ⟨b,o,none⟩),fin)) (h2:flowX Tryz.prog ops (fun w'=>∃ p:GB,w'=gw w p.d p.os) fin s (k+1) l):flowX Tryz.prog ops (fun w'=>∃ p:GB,w'=gw w p.d p.os) fin s k (op::l):=ldG (hA.out.below hb) hV h h2
theorem rdG {w:World} {b o:Nat} {cs:List Value} {v:Nat} (h:Hid (At w b o cs)) (hV:Hid (cs=lv 32 v)):(loadVar 140 ⟨b,o,none⟩).run Tryz.prog w=.ok (.agg cs.toArray) w:=run_loadVar_mid w b o 140 cs _ h.out.range Tryz.underlying140 rfl (qG hV.out)
theorem sG {fin:Act} {new:Bool} {i s b o:Nat} {d x:Tmp} {cs:List Value} {v:Nat} (hV:Hid (cs=lv 32 v)) (h0:new=true→o=0) (h:fin.tmps[x]?=some (.agg cs.toArray)):StOk Tryz.prog fin ⟨new,i,d,s,b,o,140,x,cs,o,cs,[]⟩:=stw h (qG hV.out) (qpO hV.out) h0
theorem Tryz.laysG:LaysAs Tryz.prog 140 (lv 32 0).toArray:=by
 rw [qbV];intro o h b w;unfold execOp;simp only [h];rfl
theorem Tryz.alG {cs:List Value} (h:(Tryz.prog.info? 140).map (·.size)=some cs.length):∃ z,LaysAs Tryz.prog 140 z∧cs.length≤z.size :=
 ⟨_,Tryz.laysG,by rw [Tryz.infoG] at h;injection h with h;rw [←h,List.size_toArray,qlL];exact Nat.le_refl _⟩
theorem qeD {c c2:List Value} {P i d:Nat} (h:c=lv 32 P) (h2:c2=lv 32 (upd P i d)) (hi:i<32) (hd:d<BB):c2=c.set i (.int .u32 (d:Int)):=by
 subst h h2;exact (qxB P hi hd).symm
theorem At.limbV {w:World} {b v j x:Nat} {c:List Value} (h:At w b 0 c) (hc:c=lv 32 v) (hx:x=lim v j) (hj:j<32):w.cell? ⟨b,j,none⟩=some (.int .u32 (x:Int)):=by
 subst hc hx
 have:=h.limb (j:=j) hj
 rwa [Nat.zero_add] at this
theorem At.limbO {w:World} {b o v j x:Nat} {c:List Value} (h:At w b o c) (hc:c=lv 32 v) (hx:x=lim v j) (hj:j<32):w.cell? ⟨b,o+j,none⟩=some (.int .u32 (x:Int)):=by
 subst hc hx;exact h.limb (j:=j) hj
theorem quY {x y c:Nat} (hx:x<BB) (hy:y<BB) (hc:c≤1):∃ d c':Nat,d<BB∧c'≤1∧d+c'*BB=x+y+c :=
 ⟨(x+y+c)%BB,(x+y+c) / BB,Nat.mod_lt _ qbH,by unfold BB at *;omega,by unfold BB;omega⟩
theorem qmZ {x y c:Nat} (hx:x<BB) (hy:y<BB) (hc:c≤1):∃ d c':Nat,d<BB∧c'≤1∧d+y+c=x+c'*BB:=by
 by_cases h:x<y+c
 ·exact ⟨x+BB - y - c,1,by unfold BB at *;omega,by omega,by unfold BB at *;omega⟩
 ·exact ⟨x - y - c,0,by omega,by omega,by omega⟩
theorem qwG {ca cb cv:List Value} {a b v ba oa bb ob:Nat} {c2:Nat} (w:World) (h1:At w ba oa ca) (h2:At w bb ob cb) (hca:ca=lv 32 a) (hcb:cb=lv 32 b) (hcv:cv=lv 32 v) (ha:a<BB^32) (hb:b<BB^32) (hv:v<BB^32) (hd:a+b=v+c2*BB^32) :
  CB 170 #[.pointer (some ⟨ba,oa,none⟩),.pointer (some ⟨bb,ob,none⟩)] (.tuple #[.agg cv.toArray,.bool (decide (c2=0))]) w:=by
 have V_ca:=hid hca;have V_cb:=hid hcb;have V_cv:=hid hcv;have HV:=hid (And.intro ha (And.intro hb (And.intro hv hd)));have Aba:=hid h1;have Abb:=hid h2;have lba:=h1.lt;have lbb:=h2.lt;clear hca hcb hcv ha hb hv hd h1 h2;obtain ⟨cz,V_cz⟩:=nvx (lv 32 0);obtain ⟨B0,B1,w0,hw0,hB0,hB1,AB0,AB1,FR,FR0,HB0,hZB0,l01,hZB1⟩:=en2 w 140 140 (zM V_cz) (zM V_cz);rw [qbV] at hw0;go_enter Tryz.func170,Tryz.ntmps170
 go_wp2
 rw [←hw0,←hB1,←hB0];clear hw0 hB0 hB1;replace Aba:=hid (Aba.out.below (by have:=FR.out.below;rwa [HB0.out] at this));replace Abb:=hid (Abb.out.below (by have:=FR.out.below;rwa [HB0.out] at this));rw [←HB0.out] at lba lbb;go_loopg [7,9] 32 (fun g bw iv wr=>∃ (i P c:Nat),i≤32∧32 - i≤g∧c≤1∧P<BB^i∧P+c*BB^i=a%BB^i+b%BB^i∧bw=.int .u32 (c:Int)∧iv=.int .i64 (i:Int)∧At wr ba oa ca∧At wr bb ob cb∧At wr B0 0 cz∧At wr B1 0 (lv 32 P)∧Fr B0 w wr)
 case atStart=>exact ⟨0,0,0,by omega,by omega,by omega,BP 0,by simp [Nat.mod_one],rfl,rfl,Aba.out,Abb.out,AB0.out,by have:=AB1.out;rwa [V_cz.out] at this,FR.out⟩
 case round =>
  obtain ⟨i,P,c,hi,hg,hc,hP,he,rfl,rfl,hA,hB,hR,hO,hF⟩:=hrel;replace Aba:=hid hA;replace Abb:=hid hB;replace AB0:=hid hR;replace FR:=hid hF;obtain ⟨cp,V_cp⟩:=nvx (lv 32 P);have AB1:=hid (show At wr B1 0 cp by rw [V_cp.out];exact hO);have HE:=hid (And.intro hP (And.intro he hc));clear hP he hA hB hR hO hF;by_cases hlt:i<32
  ·obtain ⟨x,hx⟩:=nqx (lim a i);obtain ⟨y,hy⟩:=nqx (lim b i);obtain ⟨d,c',hd,hc',hn⟩:=quY (x:=x) (y:=y) (hx ▸ qaG a i) (hy ▸ qaG b i) hc;have HXY:=hid (And.intro hx (And.intro hy (And.intro hd hlt)));have HAD:=hid (fun W=>qsQ x y c d c' W (hx ▸ qaG a i) (hy ▸ qaG b i) hc hn hd);have HS:=hid (qrC HE.out.2.1 (by rw [←hx,←hy];exact hn.symm));have HPL:=hid (qhN HE.out.1 hd);have HU:=hid (qeB (d:=d) HE.out.1);have HC:=hid hc';obtain ⟨cq,V_cq⟩:=nvx (lv 32 (upd P i d));clear hx hy hd hc hn hc';go_upto_region 6 with fail
   refine qgH [⟨false,0,28,17,B1,0,22,26,cq,i,[.int .u32 (d:Int)],cp⟩] [(13,.int .i64 (i:Int)),(14,.pointer (some ⟨ba,oa,none⟩)),(15,.int .i64 (i:Int)),(16,.pointer (some ⟨ba,oa,none⟩)),(17,.pointer (some ⟨ba,(oa+i),none⟩)),(18,.int .u32 (x:Int)),(19,.pointer (some ⟨bb,ob,none⟩)),(20,.int .i64 (i:Int)),(21,.pointer (some ⟨bb,ob,none⟩)),(22,.pointer (some ⟨bb,(ob+i),none⟩)),(23,.int .u32 (y:Int)),(24,.int .u32 (c:Int)),(25,.tuple #[.int .u32 (d:Int),.int .u32 (c':Int)]),(12,.tuple #[.int .u32 (d:Int),.int .u32 (c':Int)]),(26,.int .u32 (d:Int)),(27,.int .u32 (c':Int)),(28,.pointer (some ⟨B1,i,none⟩)),(7,.int .u32 (c':Int))] [(7,.int .u32 (c:Int))] _ _ (by simp only [zz4,zz5,zq];rfl) (by simp only [zz4,zz5,zq];rfl) (jhP _ _ rfl (jbS)) (by kernel_rfl) (by kernel_rfl) ?_ ?_ ?_ ?_ ?_ ?_ ?_
   ·intro W' hW';have cl1:=fun p os=>qaB ((Aba.out.below hW').limbO V_ca.out HXY.out.1 hlt) p os
    have cl2:=fun p os=>qaB ((Abb.out.below hW').limbO V_cb.out HXY.out.2.1 hlt) p os
    iterate 11 (refine qgG (by kernel_rfl) ?_ ?_;(go_big_quiet_step (fail);(try simp only [zq]);exact wqn rfl))
    refine jdO (by kernel_rfl) ?_ ?_;(go_big_quiet_step (fail);(try simp only [zq]);exact wqn rfl);refine qgG (by kernel_rfl) ?_ ?_;(go_big_quiet_step ((go_at_call 169;exact qaJ (HAD.out _)));(try simp only [zq]);exact wqn rfl);iterate 4 (refine qgG (by kernel_rfl) ?_ ?_;(go_big_quiet_step (fail);(try simp only [zq]);exact wqn rfl))
    refine qhA (by rfl) ?_;refine qgG (by kernel_rfl) ?_ ?_;(go_big_quiet_step (fail);(try simp only [zq]);exact wqn rfl);exact qcN
   ·intro W' hK';iterate 11 (first|(refine qgG (by kernel_rfl) ?_ ?_;(go_big_quiet_step (fail);(try simp only [zq]);exact wqn rfl))|(refine qhA (by kernel_rfl) ?_))
    first|(refine jdO (by kernel_rfl) ?_ ?_;(go_big_quiet_step (fail);(try simp only [zq]);exact wqn rfl))|(refine qhA (by kernel_rfl) ?_)
    refine qhA (by kernel_rfl) ?_;iterate 4 (first|(refine qgG (by kernel_rfl) ?_ ?_;(go_big_quiet_step (fail);(try simp only [zq]);exact wqn rfl))|(refine qhA (by kernel_rfl) ?_))
    refine qhA (by kernel_rfl) ?_
    first|(refine qgG (by kernel_rfl) ?_ ?_;(go_big_quiet_step (fail);(try simp only [zq]);exact wqn rfl))|(refine qhA (by kernel_rfl) ?_)
    exact qcN
   ·exact fP1 (bnc)
   ·exact fP1 (fun _=>⟨AB1.out.lt,rfl,At.roomC AB1.out ((qeD V_cp.out V_cq.out hlt HXY.out.2.2.1))⟩)
   ·exact uno
   ·exact fP1 (qeK rfl rfl Tryz.infoU rfl (by rw [V_cp.out,qlL];omega) (qeD V_cp.out V_cq.out hlt HXY.out.2.2.1))
   intro β wx1 E;replace FR:=ffh FR E (by omega);replace AB0:=afh AB0 E (by omega);replace AB1:=aoh E AB1 mms;replace Aba:=afh Aba E (by omega);replace Abb:=afh Abb E (by omega);simp only [nP,zu];go_wp2
   go_roundg (gk - 1)
   case measure=>omega
   case rel=>exact ⟨i+1,P+d*BB^i,c',by omega,by omega,HC.out,HPL.out,HS.out,rfl,by go_num,Aba.out,Abb.out,AB0.out,by have:=AB1.out;rwa [V_cq.out,HU.out] at this,FR.out⟩
  ·have hi32:i=32:=by omega
   subst hi32
   have hPv:P=v∧c=c2:=by
    obtain ⟨h1,h2,h3,h4⟩:=HV.out;have h5:=HE.out.2.1;rw [Nat.mod_eq_of_lt h1,Nat.mod_eq_of_lt h2,h4] at h5;exact qpW h3 HE.out.1 hc h5
   obtain ⟨hPv,hcc⟩:=hPv;have hcb:((c:Int)==0)=decide (c2=0):=by rw [hcc,Bool.eq_iff_iff];simp only [beq_iff_eq,decide_eq_true_eq];omega
   have HCV:=hid (show cp=cv by rw [V_cp.out,V_cv.out,hPv]);clear hPv hcc;go_upto_region 8 with fail
   refine wF [⟨false,0,4,3,B0,0,140,30,cp,0,cp,[]⟩] [(30,aT cp),(31,.int .u32 (c:Int)),(32,.bool (decide (c2=0))),(5,.bool (decide (c2=0)))] (by simp only [zu];rfl) (by kernel_rfl) ?_ ?_ (fP1 bnC) ?_ uno ?_ ?_
   ·intro W' hW';refine lhG AB1 hW' V_cp rfl<|fo2 ?_ ?_<|fxs rfl<|fxo ?_<|fxn;all_goals (go_big_quiet_step (fail);exact wqn rfl)
   ·intro W' hK';have rd0:=akh AB1 hK' (by omega);refine ldG rd0 V_cp rfl<|fxi ?_<|fxi ?_<|fxs (by kernel_rfl)<|fxi ?_<|fxn;all_goals (first|(refine .inr ?_;go_big_quiet_step (fail);exact wqn rfl)|exact .inl (by kernel_rfl))
   ·exact fP1 (fun _=>rmh AB0 (qG V_cz.out) (qG V_cp.out) rfl)
   ·exact fP1 (sG V_cp (fun _=>rfl) rfl)
   intro β wx1 E;replace FR:=ffh FR E (by omega);replace AB0:=aoh E AB0 mms;simp only [nP,zu];rw [HCV.out] at AB0;go_wp2_with fail
   have hld:=rdG AB0 V_cv;refine bodyPost_ret (v:=.tuple #[.agg cv.toArray,.bool (decide (c2=0))]) (by simp [results,Tryz.results170,asAddr,hld]) rfl ?_;exact ⟨rfl,qbL HB0 FR⟩
theorem qmN {ca cb cv:List Value} {a b v ba oa bb ob:Nat} {c2:Nat} (w:World) (h1:At w ba oa ca) (h2:At w bb ob cb) (hca:ca=lv 32 a) (hcb:cb=lv 32 b) (hcv:cv=lv 32 v) (ha:a<BB^32) (hb:b<BB^32) (hv:v<BB^32) (hd:v+b=a+c2*BB^32) :
  CB 171 #[.pointer (some ⟨ba,oa,none⟩),.pointer (some ⟨bb,ob,none⟩)] (.agg cv.toArray) w:=by
 have V_ca:=hid hca;have V_cb:=hid hcb;have V_cv:=hid hcv;have HV:=hid (And.intro ha (And.intro hb (And.intro hv hd)));have Aba:=hid h1;have Abb:=hid h2;have lba:=h1.lt;have lbb:=h2.lt;clear hca hcb hcv ha hb hv hd h1 h2;obtain ⟨cz,V_cz⟩:=nvx (lv 32 0);obtain ⟨B0,B1,w0,hw0,hB0,hB1,AB0,AB1,FR,FR0,HB0,hZB0,l01,hZB1⟩:=en2 w 140 140 (zM V_cz) (zM V_cz);rw [qbV] at hw0;go_enter Tryz.func171,Tryz.ntmps171
 go_wp2
 rw [←hw0,←hB1,←hB0];clear hw0 hB0 hB1;replace Aba:=hid (Aba.out.below (by have:=FR.out.below;rwa [HB0.out] at this));replace Abb:=hid (Abb.out.below (by have:=FR.out.below;rwa [HB0.out] at this));rw [←HB0.out] at lba lbb;go_loopg [6,8] 32 (fun g bw iv wr=>∃ (i P c:Nat),i≤32∧32 - i≤g∧c≤1∧P<BB^i∧P+b%BB^i=a%BB^i+c*BB^i∧bw=.int .u32 (c:Int)∧iv=.int .i64 (i:Int)∧At wr ba oa ca∧At wr bb ob cb∧At wr B0 0 cz∧At wr B1 0 (lv 32 P)∧Fr B0 w wr)
 case atStart=>exact ⟨0,0,0,by omega,by omega,by omega,BP 0,by simp [Nat.mod_one],rfl,rfl,Aba.out,Abb.out,AB0.out,by have:=AB1.out;rwa [V_cz.out] at this,FR.out⟩
 case round =>
  obtain ⟨i,P,c,hi,hg,hc,hP,he,rfl,rfl,hA,hB,hR,hO,hF⟩:=hrel;replace Aba:=hid hA;replace Abb:=hid hB;replace AB0:=hid hR;replace FR:=hid hF;obtain ⟨cp,V_cp⟩:=nvx (lv 32 P);have AB1:=hid (show At wr B1 0 cp by rw [V_cp.out];exact hO);have HE:=hid (And.intro hP (And.intro he hc));clear hP he hA hB hR hO hF;by_cases hlt:i<32
  ·obtain ⟨x,hx⟩:=nqx (lim a i);obtain ⟨y,hy⟩:=nqx (lim b i);obtain ⟨d,c',hd,hc',hn⟩:=qmZ (x:=x) (y:=y) (hx ▸ qaG a i) (hy ▸ qaG b i) hc;have HXY:=hid (And.intro hx (And.intro hy (And.intro hd hlt)));have HAD:=hid (fun W=>qmA x y c d c' W (hx ▸ qaG a i) (hy ▸ qaG b i) hc hn hd);have HS:=hid (qpD HE.out.2.1 (by rw [←hx,←hy];exact hn));have HPL:=hid (qhN HE.out.1 hd);have HU:=hid (qeB (d:=d) HE.out.1);have HC:=hid hc';obtain ⟨cq,V_cq⟩:=nvx (lv 32 (upd P i d));clear hx hy hd hc hn hc';go_upto_region 6 with fail
   refine qgH [⟨false,0,27,17,B1,0,22,25,cq,i,[.int .u32 (d:Int)],cp⟩] [(12,.int .i64 (i:Int)),(13,.pointer (some ⟨ba,oa,none⟩)),(14,.int .i64 (i:Int)),(15,.pointer (some ⟨ba,oa,none⟩)),(16,.pointer (some ⟨ba,(oa+i),none⟩)),(17,.int .u32 (x:Int)),(18,.pointer (some ⟨bb,ob,none⟩)),(19,.int .i64 (i:Int)),(20,.pointer (some ⟨bb,ob,none⟩)),(21,.pointer (some ⟨bb,(ob+i),none⟩)),(22,.int .u32 (y:Int)),(23,.int .u32 (c:Int)),(24,.tuple #[.int .u32 (d:Int),.int .u32 (c':Int)]),(11,.tuple #[.int .u32 (d:Int),.int .u32 (c':Int)]),(25,.int .u32 (d:Int)),(26,.int .u32 (c':Int)),(27,.pointer (some ⟨B1,i,none⟩)),(6,.int .u32 (c':Int))] [(6,.int .u32 (c:Int))] _ _ (by simp only [zz4,zz5,zq];rfl) (by simp only [zz4,zz5,zq];rfl) (jhP _ _ rfl (jbS)) (by kernel_rfl) (by kernel_rfl) ?_ ?_ ?_ ?_ ?_ ?_ ?_
   ·intro W' hW';have cl1:=fun p os=>qaB ((Aba.out.below hW').limbO V_ca.out HXY.out.1 hlt) p os
    have cl2:=fun p os=>qaB ((Abb.out.below hW').limbO V_cb.out HXY.out.2.1 hlt) p os
    iterate 11 (refine qgG (by kernel_rfl) ?_ ?_;(go_big_quiet_step (fail);(try simp only [zq]);exact wqn rfl))
    refine jdO (by kernel_rfl) ?_ ?_;(go_big_quiet_step (fail);(try simp only [zq]);exact wqn rfl);refine qgG (by kernel_rfl) ?_ ?_;(go_big_quiet_step ((go_at_call 168;exact qaJ (HAD.out _)));(try simp only [zq]);exact wqn rfl);iterate 4 (refine qgG (by kernel_rfl) ?_ ?_;(go_big_quiet_step (fail);(try simp only [zq]);exact wqn rfl))
    refine qhA (by rfl) ?_;refine qgG (by kernel_rfl) ?_ ?_;(go_big_quiet_step (fail);(try simp only [zq]);exact wqn rfl);exact qcN
   ·intro W' hK';iterate 11 (first|(refine qgG (by kernel_rfl) ?_ ?_;(go_big_quiet_step (fail);(try simp only [zq]);exact wqn rfl))|(refine qhA (by kernel_rfl) ?_))
    first|(refine jdO (by kernel_rfl) ?_ ?_;(go_big_quiet_step (fail);(try simp only [zq]);exact wqn rfl))|(refine qhA (by kernel_rfl) ?_)
    refine qhA (by kernel_rfl) ?_;iterate 4 (first|(refine qgG (by kernel_rfl) ?_ ?_;(go_big_quiet_step (fail);(try simp only [zq]);exact wqn rfl))|(refine qhA (by kernel_rfl) ?_))
    refine qhA (by kernel_rfl) ?_
    first|(refine qgG (by kernel_rfl) ?_ ?_;(go_big_quiet_step (fail);(try simp only [zq]);exact wqn rfl))|(refine qhA (by kernel_rfl) ?_)
    exact qcN
   ·exact fP1 (bnc)
   ·exact fP1 (fun _=>⟨AB1.out.lt,rfl,At.roomC AB1.out ((qeD V_cp.out V_cq.out hlt HXY.out.2.2.1))⟩)
   ·exact uno
   ·exact fP1 (qeK rfl rfl Tryz.infoU rfl (by rw [V_cp.out,qlL];omega) (qeD V_cp.out V_cq.out hlt HXY.out.2.2.1))
   intro β wx1 E;replace FR:=ffh FR E (by omega);replace AB0:=afh AB0 E (by omega);replace AB1:=aoh E AB1 mms;replace Aba:=afh Aba E (by omega);replace Abb:=afh Abb E (by omega);simp only [nP,zu];go_wp2
   go_roundg (gk - 1)
   case measure=>omega
   case rel=>exact ⟨i+1,P+d*BB^i,c',by omega,by omega,HC.out,HPL.out,HS.out,rfl,by go_num,Aba.out,Abb.out,AB0.out,by have:=AB1.out;rwa [V_cq.out,HU.out] at this,FR.out⟩
  ·have hi32:i=32:=by omega
   subst hi32
   have hPv:P=v:=by
    obtain ⟨h1,h2,h3,h4⟩:=HV.out;have h5:=HE.out.2.1;rw [Nat.mod_eq_of_lt h1,Nat.mod_eq_of_lt h2] at h5;exact qsG h1 h2 h3 HE.out.1 hc h5 h4
   have HCV:=hid (show cp=cv by rw [V_cp.out,V_cv.out,hPv]);clear hPv;go_upto_region 8 with fail
   refine wF [⟨false,0,4,1,B0,0,140,29,cp,0,cp,[]⟩] [(29,aT cp)] (by simp only [zu];rfl) (by kernel_rfl) ?_ ?_ (fP1 bnC) ?_ uno ?_ ?_
   ·intro W' hW';exact lhG AB1 hW' V_cp rfl<|fxs rfl<|fxn
   ·intro W' hK';have rd0:=akh AB1 hK' (by omega);exact ldG rd0 V_cp rfl<|fxs (by kernel_rfl)<|fxn
   ·exact fP1 (fun _=>rmh AB0 (qG V_cz.out) (qG V_cp.out) rfl)
   ·exact fP1 (sG V_cp (fun _=>rfl) rfl)
   intro β wx1 E;replace FR:=ffh FR E (by omega);replace AB0:=aoh E AB0 mms;simp only [nP,zu];rw [HCV.out] at AB0;go_wp2_with fail
   have hld:=rdG AB0 V_cv;refine bodyPost_ret (v:=.agg cv.toArray) (by simp [results,Tryz.results171,asAddr,hld]) rfl ?_;exact ⟨rfl,qbL HB0 FR⟩
end Go.Proofs.YtemoddmadfoaiaaGreat
namespace Go.Proofs.YtemoddmadfoaiaaGreat
open Go.RowKit
structure Vl where
 t:Tmp
 ds:List Nat
 f:List Value→Value
def finG (vs:List Vl) (a:Act) (γ:Nat→Value):Act:=vs.foldl (fun a e=>a.put (some e.t) (e.f (e.ds.map γ))) a
def vlB (ops:Array Oper) (G:List Nat) (vs:List Vl):Bool:=vs.all fun e=>e.ds.all fun g=>G.contains g&&(List.range ops.size).all fun j=>!dstIs ops j e.t || (g==j || waitsIn ops 8 j g)
def updG (γ:Nat→Value) (j:Nat) (v:Value):Nat→Value:=fun k=>if k=j then v else γ k
theorem qoW:∀ (vs:List Vl) (a:Act) (γ:Nat→Value),(finG vs a γ).tmps.size=a.tmps.size∧(finG vs a γ).defers=a.defers
 | [],_,_=>⟨rfl,rfl⟩
 | e::vs,a,γ=>by
  have:=qoW vs (a.put (some e.t) (e.f (e.ds.map γ))) γ
  unfold finG at this ⊢;rw [List.foldl_cons];exact ⟨by rw [this.1,qcY],by rw [this.2,qdL]⟩
theorem qsD {t:Tmp}:∀ (vs:List Vl) (a:Act) (γ:Nat→Value),(∀ e∈vs,e.t≠t)→(finG vs a γ).tmps[t]?=a.tmps[t]?
 | [],_,_,_=>rfl
 | e::vs,a,γ,h=>by
  have:=qsD vs (a.put (some e.t) (e.f (e.ds.map γ))) γ (fun x hx=>h x (List.mem_cons_of_mem _ hx))
  unfold finG at this ⊢;rw [List.foldl_cons,this,qeF fun c=>h e mms (Option.some.inj c)]
theorem qoX {t:Tmp} {γ γ':Nat→Value}:∀ (vs:List Vl) (a a':Act),a.tmps.size=a'.tmps.size→a.tmps[t]?=a'.tmps[t]?→(∀ e∈vs,e.t=t→∀ g∈e.ds,γ g=γ' g)→(finG vs a γ).tmps[t]?=(finG vs a' γ').tmps[t]?
 | [],_,_,_,h,_=>h
 | e::vs,a,a',hs,h,hd=>by
  have:=qoX vs (a.put (some e.t) (e.f (e.ds.map γ))) (a'.put (some e.t) (e.f (e.ds.map γ'))) (by rw [qcY,qcY,hs]) (by
   by_cases he:e.t=t
   ·have hm:e.ds.map γ=e.ds.map γ':=List.map_congr_left fun g hg=>hd e mms he g hg
    rw [hm,he];simp only [Act.put,Array.getElem?_setIfInBounds,hs,if_true]
   ·rw [qeF fun c=>he (Option.some.inj c),qeF fun c=>he (Option.some.inj c),h]) (fun x hx=>hd x (List.mem_cons_of_mem _ hx))
  unfold finG at this ⊢;rw [List.foldl_cons,List.foldl_cons];exact this
def GY (P:Program) (fin:Act) (o:Oper) (W:World) (D:Value→World→Prop):Prop:=match (execOp fin.eval o).run P W with
 | .ok (.value v) w''=>D v w''
 | .ok (.enter f args) w''=>w''=W∧Calls P f args W (fun e w3=>∃ v,e=.returned v∧D v w3)
 | _=>False
theorem GY.value {P:Program} {fin:Act} {o:Oper} {W w':World} {D:Value→World→Prop} {v:Value} (h:(execOp fin.eval o).run P W=.ok (.value v) w') (hD:D v w'):GY P fin o W D:=by
 unfold GY;rw [h];exact hD
theorem GY.call {P:Program} {fin:Act} {o:Oper} {W:World} {D:Value→World→Prop} {f:FuncId} {args:Array Value} (h:(execOp fin.eval o).run P W=.ok (.enter f args) W) (hD:Calls P f args W (fun e w3=>∃ v,e=.returned v∧D v w3)):GY P fin o W D:=by
 unfold GY;rw [h];exact ⟨rfl,hD⟩
section
variable {P:Program} {ops:Array Oper} {pl:List Pl} {L:List Tmp} {fin ini:Act} {W:World} {β:Nat→Nat} {seen:Array Bool} {a:Act} {w:World}
theorem FlowJ.refin (J:FlowJ ops pl fin ini W β seen a w) {fin':Act} (hs:fin'.tmps.size=fin.tmps.size) (hd:fin'.defers=fin.defers)
  (h:∀ t,(∀ p∈pl,p.new=true→p.d≠t)→(∀ (i:Nat) (o:Oper),ops[i]?=some o→o.dst=some t→seen.getD i false=true)→fin.tmps[t]?=fin'.tmps[t]?):FlowJ ops pl fin' ini W β seen a w :=
 ⟨J.ssz,J.closed,J.size.trans hs.symm,J.defers.trans hd.symm,fun t h1 h2=>(J.same t h1 h2).trans (h t h1 h2),J.init,J.os,J.tape,J.output,J.big,J.keep,J.laid,J.old,J.apart,J.held⟩
theorem FlowJ.stepG {Q:Exit→Act→World→Prop} (C:FlowC ops pl []) (J:FlowJ ops pl fin ini W β seen a w) {j:Nat} {oj:Oper} (hr:j∈Region.ready .any ops seen) (hoj:ops[j]?=some oj) (hA:isA pl j=false) (hS:isS pl j=false)
  {F:Value→Act} {D:Value→World→Prop} (hg:Region.wanted oj (yielded ops fin.tmps)=true) (hy:GY P fin oj w D) (hD:∀ v w'',D v w''→Below w.heap.size w w'') (hF:∀ v,FlowJ ops pl (F v) ini W β seen a w) (hput:∀ v,(F v).put oj.dst v=F v) :
  wpOp P ops Q j (fun a' w'=>∃ v,FlowJ ops pl (F v) ini W β (seen.setIfInBounds j true) a' w'∧D v w') a w:=by
 have hfree:∀ t∈oj.looksAt ops,∀ p∈pl,p.new=true→p.d≠t:=fun t ht p hp hn e=>C.free j oj hoj hS p hp hn (by rw [e];exact ht)
 have hlk:∀ t∈oj.looksAt ops,a.tmps[t]?=fin.tmps[t]?:=fun t ht=>J.sees C hr hoj ht (by simp) (hfree t ht)
 have hex:=qfB (a:=a) (b:=fin) (C.sel j oj · · hoj) hlk;have hwa:=qdV (a:=a) (b:=fin) hlk;unfold wpOp;simp only [hoj];rw [hwa,if_pos hg];left
 unfold GY at hy;unfold Oper.wp;rw [hex];generalize (execOp fin.eval oj).run P w=r at *
 cases r with
 | ok n w' =>
  cases n<;>simp only at hy<;>simp only [Oper.upon]
  case value u=>exact ⟨u,(hF u).move C hr hoj hA hS (hput u) (hD u w' hy),hy⟩
  case enter f args =>
   obtain ⟨e1,hc⟩:=hy;rw [e1];exact hc.mono fun e w'' ⟨v,he,hw''⟩=>by subst he;exact ⟨v,(hF v).move C hr hoj hA hS (hput v) (hD v w'' hw''),hw''⟩
 | halt x w'=>simp only at hy
section
variable {G:List Nat} {R:Nat→Value→World→Prop} {ft:Nat→Value→Nat→Prop} {F:(Nat→Value)→Act}
end
end
def tailB (l:List Oper) (n:Nat):Bool :=
 decide (n≤l.length)&&(List.range n).all (fun j=>match l[j]? with|some o=>(match o.guard with|some (g,_)=>decide (g<n)|none=>true)|none=>true) &&
 (List.range l.length).all (fun j=>decide (j<n) || (List.range n).all fun i=>waitsIn l.toArray 8 j i) &&
 Region.seqB .any l.toArray (l.length - n) n ((List.replicate n true++List.replicate (l.length - n) false).toArray)
section
variable {P:Program} {l:List Oper} {n:Nat}
theorem qhQ (hn:n≤l.length) {j:Nat} (hj:j<n):(l.take n).toArray[j]?=l.toArray[j]?:=by
 simp [List.getElem?_take,hj]
theorem quK {Q:Exit→Act→World→Prop} {K:Act→World→Prop} {a:Act} {w:World} (hn:n≤l.length) {j:Nat} (hj:j<n) (hg:∀ o g b,l[j]?=some o→o.guard=some (g,b)→g<n)
  (h:wpOp P (l.take n).toArray Q j K a w):wpOp P l.toArray Q j K a w:=by
 unfold wpOp at *;rw [qhQ hn hj] at h
 cases ho:l.toArray[j]? with
 | none=>simp only [ho] at h ⊢;exact h
 | some o =>
  simp only [ho] at h ⊢
  have hw:Region.wanted o (yielded (l.take n).toArray a.tmps)=Region.wanted o (yielded l.toArray a.tmps):=by
   unfold Region.wanted
   cases hgd:o.guard with
   | none=>rfl
   | some gb =>
    obtain ⟨g,b⟩:=gb
    have:=hg o g b (by simpa using ho) hgd
    simp only
    congr 1
    unfold yielded;rw [qhQ hn this]
  rwa [hw] at h
def flowXG (P:Program) (ops:Array Oper) (C:World→Prop) (G:List Nat) (Rw:Nat→Prop) (fin:Act) (skip:Nat→Bool):Nat→List Oper→Prop
 | _,[]=>True
 | k,o::l=>(skip k=true∨((∀ g∈G,waitsIn ops 8 k g=true→Rw g)→wpQuiet P ops C (fun a'=>a'=fin) [o] fin))∧flowXG P ops C G Rw fin skip (k+1) l
section
variable {ops:Array Oper} {fin:Act} {G:List Nat} {Rw:Nat→Prop}
theorem qkN {C:World→Prop} {skip:Nat→Bool} {k:Nat}:flowXG P ops C G Rw fin skip k []:=trivial
theorem jgG {C:World→Prop} {skip:Nat→Bool} {k:Nat} {o:Oper} {l:List Oper} (h:skip k=true) (h2:flowXG P ops C G Rw fin skip (k+1) l):flowXG P ops C G Rw fin skip k (o::l):=⟨.inl h,h2⟩
theorem jgH {C:World→Prop} {skip:Nat→Bool} {k:Nat} {o:Oper} {l:List Oper} (h:wpQuiet P ops C (fun a'=>a'=fin) [o] fin) (h2:flowXG P ops C G Rw fin skip (k+1) l):flowXG P ops C G Rw fin skip k (o::l):=⟨.inr fun _=>h,h2⟩
theorem qoV {C:World→Prop} {skip:Nat→Bool}:∀ (l:List Oper) (k:Nat),flowXG P ops C G Rw fin skip k l→∀ j o,l[j]?=some o→skip (k+j)=false→(∀ g∈G,waitsIn ops 8 (k+j) g=true→Rw g)→wpQuiet P ops C (fun a'=>a'=fin) [o] fin
 | [],_,_,j,o,h,_,_=>by simp at h
 | x::l,k,h,j,o,hj,hs,hf=>by
  cases j with
  | zero =>
   simp only [List.getElem?_cons_zero,Option.some.injEq] at hj;subst hj;exact (h.1.resolve_left (by rw [Nat.add_zero] at hs;rw [hs];exact Bool.noConfusion)) hf
  | succ j=>exact qoV l (k+1) h.2 j o (by simpa using hj) (by rw [show k+1+j=k+(j+1) by omega];exact hs) (by rw [show k+1+j=k+(j+1) by omega];exact hf)
end
end
structure EvJ (ops:Array Oper) (fin:Act) (Gr:World→World→Prop) (W:World) (seen:Array Bool) (a:Act) (w:World):Prop where
 ssz:seen.size=ops.size
 closed:∀ j oj,ops[j]?=some oj→seen.getD j false=true→∀ e∈oj.after,Region.binds .any e=true→seen.getD e.on false=true
 size:a.tmps.size=fin.tmps.size
 defers:a.defers=fin.defers
 same:∀ t,(∀ (i:Nat) (o:Oper),ops[i]?=some o→o.dst=some t→seen.getD i false=true)→a.tmps[t]?=fin.tmps[t]?
 gr:Gr W w
structure EvH (P:Program) (ops:Array Oper) (G:List Nat) (R:Nat→Value→World→Prop) (F:(Nat→Value)→Act) (Gr:World→World→Prop) (ini:Act) (W:World):Prop where
 tr:∀ a b c,Gr a b→Gr b c→Gr a c
 be:∀ a b,Below a.heap.size a b→Gr W a→Gr a b
 up:∀ g v w w',R g v w→Gr W w→Gr w w'→R g v w'
 x:∀ γ j oj,ops[j]?=some oj→j∉G→∀ W',Gr W W'→(∀ g∈G,waitsIn ops 8 j g=true→R g (γ g) W')→wpQuiet P ops (fun w'=>∃ p:GB,w'=gw W' p.d p.os) (fun a'=>a'=F γ) [oj] (F γ)
 g:∀ γ,∀ j∈G,∀ oj,ops[j]?=some oj→∀ W',Gr W W'→(∀ g∈G,waitsIn ops 8 j g=true→R g (γ g) W')→Region.wanted oj (yielded ops (F γ).tmps)=true∧GY P (F γ) oj W' (fun v w''=>Gr W' w''∧R j v w'')
 put:∀ γ,∀ j∈G,∀ oj,ops[j]?=some oj→(F γ).put oj.dst (γ j)=F γ
 dep:∀ γ γ' t,(∀ (j:Nat) (o:Oper),ops[j]?=some o→o.dst=some t→∀ g∈G,(g=j∨waitsIn ops 8 j g=true)→γ g=γ' g)→(F γ).tmps[t]?=(F γ').tmps[t]?
 size:∀ γ,(F γ).tmps.size=ini.tmps.size∧(F γ).defers=ini.defers
section
variable {P:Program} {ops:Array Oper} {fin ini:Act} {W:World} {Gr:World→World→Prop} {seen:Array Bool} {a:Act} {w:World} {G:List Nat} {R:Nat→Value→World→Prop} {F:(Nat→Value)→Act}
theorem EvJ.shut (J:EvJ ops fin Gr W seen a w) {j:Nat} (hr:j∈Region.ready .any ops seen) :
  ∀ k ok,ops[k]?=some ok→(seen.setIfInBounds j true).getD k false=true→∀ e∈ok.after,Region.binds .any e=true→(seen.setIfInBounds j true).getD e.on false=true:=by
 obtain ⟨_,oj,hoj,hall⟩:=mem_ready.1 hr;intro k ok hk hs e he hb;rcases qaV hs with rfl|hs
 ·obtain rfl:=Option.some.inj (hk.symm.trans hoj);exact getD_set_true (hall e he hb)
 ·exact getD_set_true (J.closed k ok hk hs e he hb)
theorem EvJ.sees (C:FlowC ops [] []) (J:EvJ ops fin Gr W seen a w) {j:Nat} {oj:Oper} (hr:j∈Region.ready .any ops seen) (hoj:ops[j]?=some oj) {t:Tmp} (ht:t∈oj.looksAt ops):a.tmps[t]?=fin.tmps[t]? :=
 J.same t fun i o hi hd=>qcQ (C.looks j oj hoj t ht (by simp) i o hi hd) hr
theorem EvJ.move (J:EvJ ops fin Gr W seen a w) {j:Nat} {oj:Oper} (hr:j∈Region.ready .any ops seen) (hoj:ops[j]?=some oj)
  {v:Value} (hv:fin.put oj.dst v=fin) {w':World} (hg:Gr W w'):EvJ ops fin Gr W (seen.setIfInBounds j true) (a.put oj.dst v) w':=by
 refine ⟨by simp [J.ssz],J.shut hr,by rw [qcY,J.size],by rw [qdL,J.defers],?_,hg⟩;intro t hw;by_cases e:oj.dst=some t
 ·rw [e] at hv ⊢;have h1:fin.tmps[t]?=(fin.put (some t) v).tmps[t]?:=by rw [hv]
  rw [h1];simp only [Act.put,Array.getElem?_setIfInBounds,J.size,if_true]
 ·rw [qeF e];exact J.same t fun i o hi hd=>(qaV (hw i o hi hd)).resolve_left fun e2=>by subst e2;rw [hoj] at hi;cases hi;exact e hd
theorem EvJ.skip (J:EvJ ops fin Gr W seen a w) {j:Nat} {oj:Oper} (hr:j∈Region.ready .any ops seen) (hoj:ops[j]?=some oj)
  (hv:fin.put oj.dst undef=fin):EvJ ops fin Gr W (seen.setIfInBounds j true) (a.put oj.dst undef) w:=J.move hr hoj hv J.gr
theorem EvJ.stepX {Q:Exit→Act→World→Prop} (C:FlowC ops [] []) (J:EvJ ops fin Gr W seen a w) {j:Nat} {oj:Oper} (hr:j∈Region.ready .any ops seen) (hoj:ops[j]?=some oj)
  (hbe:∀ b,Below w.heap.size w b→Gr W b)
  (h:wpQuiet P ops (fun w'=>∃ p:GB,w'=gw w p.d p.os) (fun a'=>a'=fin) [oj] fin) :
  wpOp P ops Q j (fun a' w'=>EvJ ops fin Gr W (seen.setIfInBounds j true) a' w'∧Below w.heap.size w w') a w:=by
 have hlk:∀ t∈oj.looksAt ops,a.tmps[t]?=fin.tmps[t]?:=fun t ht=>J.sees C hr hoj ht
 have hex:=qfB (a:=a) (b:=fin) (C.sel j oj · · hoj) hlk;have hwa:=qdV (a:=a) (b:=fin) hlk;simp only [wpQuiet] at h;unfold wpOp;simp only [hoj];rw [hwa];split
 ·rename_i hw
  simp only [hw,if_true] at h;obtain ⟨v,h1,h2⟩:=h;left
  refine Oper.wp_of_quiet (C:=fun w'=>∃ p:GB,w'=gw w p.d p.os) (K:=fun a'=>a'=a.put oj.dst v) (qcK (Below.refl _ _)) ?_ ⟨v,fun w' hw'=>?_,rfl⟩
  ·rintro a' w' ⟨p,rfl⟩ rfl;exact ⟨J.move hr hoj h2 (hbe _ (qbG w p.d p.os)),qbG w p.d p.os⟩
  ·have:=h1 w' hw'
   unfold Oper.quietAt at *;rw [hex];exact this
 ·rename_i hw
  simp only [hw] at h;exact ⟨J.move hr hoj h J.gr,Below.refl _ _⟩
theorem EvJ.stepG {Q:Exit→Act→World→Prop} (C:FlowC ops [] []) (J:EvJ ops fin Gr W seen a w) {j:Nat} {oj:Oper} (hr:j∈Region.ready .any ops seen) (hoj:ops[j]?=some oj)
  {F:Value→Act} {D:Value→World→Prop} (hg:Region.wanted oj (yielded ops fin.tmps)=true) (hy:GY P fin oj w D) (hD:∀ v w'',D v w''→Gr W w'') (hF:∀ v,EvJ ops (F v) Gr W seen a w) (hput:∀ v,(F v).put oj.dst v=F v) :
  wpOp P ops Q j (fun a' w'=>∃ v,EvJ ops (F v) Gr W (seen.setIfInBounds j true) a' w'∧D v w') a w:=by
 have hlk:∀ t∈oj.looksAt ops,a.tmps[t]?=fin.tmps[t]?:=fun t ht=>J.sees C hr hoj ht
 have hex:=qfB (a:=a) (b:=fin) (C.sel j oj · · hoj) hlk;have hwa:=qdV (a:=a) (b:=fin) hlk;unfold wpOp;simp only [hoj];rw [hwa,if_pos hg];left
 unfold GY at hy;unfold Oper.wp;rw [hex];generalize (execOp fin.eval oj).run P w=r at *
 cases r with
 | ok n w' =>
  cases n<;>simp only at hy<;>simp only [Oper.upon]
  case value u=>exact ⟨u,(hF u).move hr hoj (hput u) (hD u w' hy),hy⟩
  case enter f args =>
   obtain ⟨e1,hc⟩:=hy;rw [e1];exact hc.mono fun e w'' ⟨v,he,hw''⟩=>by subst he;exact ⟨v,(hF v).move hr hoj (hput v) (hD v w'' hw''),hw''⟩
 | halt x w'=>simp only at hy
theorem EvJ.refin (J:EvJ ops fin Gr W seen a w) {fin':Act} (hs:fin'.tmps.size=fin.tmps.size) (hd:fin'.defers=fin.defers)
  (h:∀ t,(∀ (i:Nat) (o:Oper),ops[i]?=some o→o.dst=some t→seen.getD i false=true)→fin.tmps[t]?=fin'.tmps[t]?):EvJ ops fin' Gr W seen a w :=
 ⟨J.ssz,J.closed,J.size.trans hs.symm,J.defers.trans hd.symm,fun t h2=>(J.same t h2).trans (h t h2),J.gr⟩
theorem jfR {Q:Exit→Act→World→Prop} (C:FlowC ops [] []) (H:EvH P ops G R F Gr ini W) {γ:Nat→Value} (J:EvJ ops (F γ) Gr W seen a w) (I:∀ g∈G,seen.getD g false=true→R g (γ g) w) {j:Nat} (hj:j∈Region.ready .any ops seen) :
  wpOp P ops Q j (fun a' w'=>∃ γ',EvJ ops (F γ') Gr W (seen.setIfInBounds j true) a' w'∧∀ g∈G,(seen.setIfInBounds j true).getD g false=true→R g (γ' g) w') a w:=by
 obtain ⟨hun,oj,hoj,_⟩:=mem_ready.1 hj;have hjs:j<seen.size:=by rw [J.ssz];exact (Array.getElem?_eq_some_iff.1 hoj).1
 have hRw:∀ g∈G,waitsIn ops 8 j g=true→R g (γ g) w:=fun g hg hw=>by
  refine I g hg ?_
  have:=qcI (J.shut hj) _ _ _ hw (by simp [hjs])
  rcases qaV this with e|h
  ·subst e
   have hl:∀ (f i:Nat),waitsIn ops f i j=true→i≠j∧j<i∨False:=by
    intro f
    induction f with
    | zero=>intro i h;simp [waitsIn] at h
    | succ f ih =>
     intro i h;unfold waitsIn at h;split at h
     ·rename_i o ho
      obtain ⟨e,he,hb⟩:=Array.any_eq_true'.1 h;simp only [Bool.and_eq_true,Bool.or_eq_true,beq_iff_eq] at hb;have hlt:=C.less i o ho e he hb.1;rcases hb.2 with h1|h1
      ·left;omega
      ·rcases ih _ h1 with ⟨_,h2⟩|h2
       ·left;omega
       ·exact h2.elim
     ·cases h
   rcases hl _ _ hw with ⟨h1,_⟩|h1
   ·exact absurd rfl h1
   ·exact h1.elim
  ·exact h
 by_cases hjG:j∈G
 ·obtain ⟨hw,hy⟩:=H.g γ j hjG oj hoj w J.gr hRw;have hns:seen.getD j false=false:=getD_both hun
  have hsame:∀ v,EvJ ops (F (updG γ j v)) Gr W seen a w:=fun v=>by
   refine J.refin (by rw [(H.size _).1,(H.size _).1]) (by rw [(H.size _).2,(H.size _).2]) fun t hs=>H.dep _ _ t (fun i o ho hd g hg hw=>?_)
   have hi:=hs i o ho hd
   have hgs:seen.getD g false=true:=by
    rcases hw with rfl|hw
    ·exact hi
    ·exact qcI J.closed _ _ _ hw hi
   unfold updG;rw [if_neg fun e=>by rw [e,hns] at hgs;cases hgs]
  refine wpOp_mono (fun a' w' ⟨v,J',hgr,hR⟩=>⟨updG γ j v,J',fun g hg hs=>?_⟩) (J.stepG C hj hoj hw hy (fun v w'' h=>H.tr _ _ _ J.gr h.1) hsame fun v=>by
   have:=H.put (updG γ j v) j hjG oj hoj
   rwa [show updG γ j v j=v by simp [updG]] at this)
  by_cases e:g=j
  ·subst e;simpa [updG] using hR
  ·have:=H.up _ _ _ _ (I g hg ((qaV hs).resolve_left fun h=>e h.symm)) J.gr hgr
   simpa [updG,e] using this
 ·refine wpOp_mono (fun a' w' ⟨J',hbl⟩=>⟨γ,J',fun g hg hs=>?_⟩) (J.stepX C hj hoj (fun b hb=>H.tr _ _ _ J.gr (H.be _ _ hb J.gr)) (H.x γ j oj hoj hjG w J.gr hRw));exact H.up _ _ _ _ (I g hg ((qaV hs).resolve_left fun e=>hjG (by rw [e];exact hg))) J.gr (H.be _ _ hbl J.gr)
theorem jfS {γ:Nat→Value} (J:EvJ ops (F γ) Gr W seen a w) (I:∀ g∈G,seen.getD g false=true→R g (γ g) w) (hG:∀ g∈G,g<ops.size) (hall:∀ j,j<ops.size→seen.getD j false=true) :
  a=F γ∧Gr W w∧∀ g∈G,R g (γ g) w:=by
 refine ⟨?_,J.gr,fun g hg=>I g hg (hall g (hG g hg))⟩
 have h1:a.tmps=(F γ).tmps:=by
  apply Array.ext_getElem?
  intro t;exact J.same t fun i o h _=>hall i (Array.getElem?_eq_some_iff.1 h).1
 have h2:=J.defers
 cases a;cases hF:F γ
 rw [hF] at h1 h2;simp only at h1 h2
 rw [h1,h2]
end
section
variable {P:Program} {l:List Oper} {n:Nat}
theorem jhF {Q:Exit→Act→World→Prop} {G:List Nat} {R:Nat→Value→World→Prop} {F:(Nat→Value)→Act} {Gr:World→World→Prop} {ini:Act} {W:World}
  (hT:tailB l n=true) (C:FlowC (l.take n).toArray [] []) (H:EvH P (l.take n).toArray G R F Gr ini W) (hG:∀ g∈G,g<n)
  (hQ:∀ γ w,Gr W w→(∀ g∈G,R g (γ g) w)→wpList P l.toArray Q (l.drop n) (F γ) w) :
  ∀ (f:Nat) (sh seen:Array Bool) (a:Act) (w:World) (γ:Nat→Value),cnt sh=f→seen.size=l.length→(∀ i,i<n→seen.getD i false=sh.getD i false)→(∀ i,n≤i→i<l.length→seen.getD i false=false) →
  EvJ (l.take n).toArray (F γ) Gr W sh a w→(∀ g∈G,sh.getD g false=true→R g (γ g) w)→wpAny P .any l.toArray Q (f+(l.length - n)) seen a w:=by
 unfold tailB at hT;simp only [Bool.and_eq_true,decide_eq_true_eq] at hT;obtain ⟨⟨⟨hn,hgd⟩,hwt⟩,hsq⟩:=hT;have hsz:(l.take n).toArray.size=n:=by simp;omega
 have hgd':∀ j,j<n→∀ o g b,l[j]?=some o→o.guard=some (g,b)→g<n:=fun j hj o g b ho hgo=>by
  have:=List.all_eq_true.1 hgd j (List.mem_range.2 hj)
  simpa [ho,hgo] using this
 have hwt':∀ j,n≤j→j<l.length→∀ i,i<n→waitsIn l.toArray 8 j i=true:=fun j h1 h2 i hi=>by
  have:=List.all_eq_true.1 hwt j (List.mem_range.2 h2)
  simp only [Bool.or_eq_true,decide_eq_true_eq] at this
  have:=this.resolve_left (by omega)
  exact List.all_eq_true.1 this i (List.mem_range.2 hi)
 intro f
 induction f with
 | zero =>
  intro sh seen a w γ hc hss hs1 hs2 J I;have hall:∀ j,j<(l.take n).toArray.size→sh.getD j false=true:=qgN C J.ssz (qeG hc);obtain ⟨rfl,hE,hGE⟩:=jfS J I (fun g hg=>by rw [hsz];exact hG g hg) hall
  have hseen:seen=(List.replicate n true++List.replicate (l.length - n) false).toArray:=by
   apply Array.ext_getElem?
   intro i;by_cases hi:i<l.length
   ·have h1:seen[i]?=some (seen.getD i false):=by simp [hss,hi]
    rw [h1];by_cases hin:i<n
    ·rw [hs1 i hin,hall i (by rw [hsz];exact hin)];simp [List.getElem?_append_left,List.getElem?_replicate,hin]
    ·rw [hs2 i (by omega) hi]
     have:i - n<l.length - n:=by omega
     simp [List.getElem?_append_right (show (List.replicate n true).length≤i by simp;omega),List.getElem?_replicate,this]
   ·rw [Array.getElem?_eq_none (by omega),Array.getElem?_eq_none (by simp;omega)]
  rw [Nat.zero_add]
  have:=wpAny_of_seq (md:=.any) (P:=P) (ops:=l.toArray) (Q':=Q) (l.drop n) n seen (F γ) w (fun j=>by simp [List.getElem?_drop]) (by rw [List.length_drop,hseen];exact hsq) (hQ γ w hE hGE)
  rwa [List.length_drop] at this
 | succ f ih =>
  intro sh seen a w γ hc hss hs1 hs2 J I
  have hex:∃ i,i<n∧sh.getD i true=false:=by
   by_cases h:∃ i,i<n∧sh.getD i true=false
   ·exact h
   ·exfalso
    have:cnt sh=0:=by
     unfold cnt;rw [List.countP_eq_zero];intro b hb hbf;obtain ⟨i,hi⟩:=List.mem_iff_getElem?.1 hb;have hil:i<sh.size:=by have:=(List.getElem?_eq_some_iff.1 hi).1;simpa using this
     refine h ⟨i,by rw [J.ssz,hsz] at hil;exact hil,?_⟩;rw [Array.getElem?_toList] at hi
     have:b=false:=by simpa using hbf
     simp [hi,this]
    omega
  obtain ⟨i0,hi0,hu0⟩:=hex
  have hcl:∀ j oj,l.toArray[j]?=some oj→seen.getD j false=true→∀ e∈oj.after,Region.binds .any e=true→seen.getD e.on false=true:=by
   intro j oj ho hs e he hb;have hjl:j<l.length:=by have:=(Array.getElem?_eq_some_iff.1 ho).1;simpa using this
   have hjn:j<n:=by
    rcases Nat.lt_or_ge j n with h|h
    ·exact h
    ·rw [hs2 j h hjl] at hs;cases hs
   have ho':(l.take n).toArray[j]?=some oj:=by rw [qhQ hn hjn];exact ho
   have hlt:=C.less j oj ho' e he hb;rw [hs1 e.on (by omega)];exact J.closed j oj ho' (by rw [←hs1 j hjn];exact hs) e he hb
  rw [show f+1+(l.length - n)=(f+(l.length - n))+1 by omega]
  have step:∀ j∈Region.ready .any l.toArray seen,j<n∧j∈Region.ready .any (l.take n).toArray sh:=by
   intro j hj;obtain ⟨hun,oj,hoj,hall⟩:=mem_ready.1 hj;have hjl:j<l.length:=by have:=(Array.getElem?_eq_some_iff.1 hoj).1;simpa using this
   have hjn:j<n:=by
    rcases Nat.lt_or_ge j n with h|h
    ·exact h
    ·exfalso
     have hw:=hwt' j h hjl i0 hi0;unfold waitsIn at hw;rw [hoj] at hw;obtain ⟨e,he,hb⟩:=Array.any_eq_true'.1 hw;simp only [Bool.and_eq_true,Bool.or_eq_true,beq_iff_eq] at hb;have h1:=hall e he hb.1
     have h2:seen.getD i0 false=true:=by
      rcases hb.2 with rfl|h2
      ·exact h1
      ·exact qcI hcl _ _ _ h2 h1
     rw [hs1 i0 hi0,getD_both hu0] at h2;cases h2
   refine ⟨hjn,mem_ready.2 ⟨?_,oj,by rw [qhQ hn hjn];exact hoj,fun e he hb=>?_⟩⟩
   ·have h1:=getD_both hun;rw [hs1 j hjn] at h1;exact getD_in (by rw [J.ssz,hsz];exact hjn) h1
   ·have hlt:=C.less j oj (by rw [qhQ hn hjn];exact hoj) e he hb;rw [←hs1 e.on (by omega)];exact hall e he hb
  refine ⟨fun h0=>?_,fun j hj=>?_⟩
  ·exfalso
   have hr:Region.ready .any (l.take n).toArray sh≠[]:=fun h=>by
    have:=qgN C J.ssz h i0 (by rw [hsz];exact hi0)
    rw [getD_both hu0] at this;cases this
   obtain ⟨j,hj⟩:=List.exists_mem_of_ne_nil _ hr;obtain ⟨hun,oj,hoj,hall⟩:=mem_ready.1 hj;have hjn:j<n:=by have:=(Array.getElem?_eq_some_iff.1 hoj).1;rwa [hsz] at this
   have:j∈Region.ready .any l.toArray seen:=by
    refine mem_ready.2 ⟨?_,oj,by rw [←qhQ hn hjn];exact hoj,fun e he hb=>?_⟩
    ·have h1:=getD_both hun;rw [←hs1 j hjn] at h1;exact getD_in (by rw [hss];omega) h1
    ·have hlt:=C.less j oj hoj e he hb;rw [hs1 e.on (by omega)];exact hall e he hb
   rw [h0] at this;cases this
  ·obtain ⟨hjn,hjr⟩:=step j hj;have hc':cnt (sh.setIfInBounds j true)=f:=by have:=qnA (mem_ready.1 hjr).1;omega
   refine quK hn hjn (hgd' j hjn) (wpOp_mono (fun a' w' ⟨γ',J',I'⟩=>ih _ _ a' w' γ' hc' (by simpa using hss) (fun i hi=>?_) (fun i hi hil=>?_) J' I') (jfR (Q:=Q) C H J I hjr))
   ·by_cases e:j=i
    ·subst e;have h1:j<seen.size:=by rw [hss];omega
     have h2:j<sh.size:=by rw [J.ssz,hsz];exact hjn
     simp [h1,h2]
    ·rw [getD_set_ne false e,getD_set_ne false e];exact hs1 i hi
   ·rw [getD_set_ne false (by omega)];exact hs2 i hi hil
theorem qnL {id:Nat} {Q:Exit→Act→World→Prop} {a:Act} {w:World} (n:Nat) (G:List Nat) (R:Nat→Value→World→Prop) (Gr:World→World→Prop) (vs:List Vl) (F:(Nat→Value)→Act) {h t:List Oper} (hh:l.take n=h) (ht:l.drop n=t) (hfin:∀ γ,finG vs a γ=F γ)
  (hm:P.follows .mixedOrders=true) (hB:flowB h.toArray [] (vs.map (·.t)) a.tmps.size=true) (hV:vlB h.toArray G vs=true) (hT:tailB l n=true) (hGi:(G.all fun g=>decide (g<n))=true)
  (htr:∀ a b c,Gr a b→Gr b c→Gr a c) (hst:Gr w w) (hbe:∀ a b,Below a.heap.size a b→Gr w a→Gr a b) (hup:∀ g v x y,R g v x→Gr w x→Gr x y→R g v y)
  (hX:∀ γ W',Gr w W'→flowXG P h.toArray (fun w'=>∃ p:GB,w'=gw W' p.d p.os) G (fun g=>R g (γ g) W') (F γ) (fun k=>G.contains k) 0 h)
  (hg:∀ γ,∀ j∈G,∀ oj,h.toArray[j]?=some oj→∀ W',Gr w W'→(∀ g∈G,waitsIn h.toArray 8 j g=true→R g (γ g) W') →
   Region.wanted oj (yielded h.toArray (F γ).tmps)=true∧GY P (F γ) oj W' (fun v w''=>Gr W' w''∧R j v w''))
  (hput:∀ γ,∀ j∈G,∀ oj,h.toArray[j]?=some oj→(F γ).put oj.dst (γ j)=F γ)
  (hQ:∀ γ w',Gr w w'→(∀ g∈G,R g (γ g) w')→wpList P l.toArray Q t (F γ) w'):(Code.region id l.toArray true).wp P Q a w:=by
 subst hh ht;obtain ⟨C,hts,-⟩:=jfO hB;have hgin:∀ g∈G,g<n:=fun g hg=>of_decide_eq_true (List.all_eq_true.1 hGi g hg)
 have hd:∀ e∈vs,∃ (i:Nat) (o:Oper),(l.take n).toArray[i]?=some o∧o.dst=some e.t:=fun e he=>by obtain ⟨_,i,o,ho,hd,_⟩:=hts e.t (List.mem_map.2 ⟨e,he,rfl⟩);exact ⟨i,o,ho,hd⟩
 have hsz:∀ γ,(F γ).tmps.size=a.tmps.size∧(F γ).defers=a.defers:=fun γ=>by rw [←hfin];exact qoW vs a γ
 have hn:n≤l.length:=by
  unfold tailB at hT;simp only [Bool.and_eq_true,decide_eq_true_eq] at hT;exact hT.1.1.1
 have hlen:(l.take n).toArray.size=n:=by simp;omega
 have hdr:Gr w w.drew:=hbe _ _ ⟨rfl,rfl,rfl,Nat.le_refl _,fun _ _=>rfl⟩ hst
 have H:EvH P (l.take n).toArray G R F Gr a w:=by
  refine ⟨htr,hbe,hup,fun γ j oj hoj hjG W' hK hR=>?_,hg,hput,?_,hsz⟩
  ·have hjl:(l.take n)[j]?=some oj:=by simpa using hoj
   exact qoV (l.take n) 0 (hX γ W' hK) j oj hjl (by simpa using hjG) (by simpa using hR)
  ·intro γ γ' t h;rw [←hfin,←hfin];refine qoX vs a a rfl rfl fun e he het g hg=>?_
   obtain ⟨i,o,ho,hdo⟩:=hd e he;have hv:=List.all_eq_true.1 hV e he;have hv:=List.all_eq_true.1 hv g hg;simp only [Bool.and_eq_true] at hv;have h1:=List.all_eq_true.1 hv.2 i (List.mem_range.2 (Array.getElem?_eq_some_iff.1 ho).1);have hdi:dstIs (l.take n).toArray i e.t=true:=qfC.2 ⟨o,ho,hdo⟩;simp only [hdi,Bool.not_true,Bool.false_or,Bool.or_eq_true,beq_iff_eq] at h1;exact h i o ho (by rw [hdo,het]) g (by simpa using hv.1) h1
 have h0:∀ i,(Array.replicate (l.take n).toArray.size false).getD i false=false:=getD_replicate_false _
 have J:EvJ (l.take n).toArray (F fun _=>undef) Gr w (Array.replicate (l.take n).toArray.size false) a w.drew:=by
  refine ⟨by simp,fun j oj _ h=>absurd h (by rw [h0];exact Bool.noConfusion),(hsz _).1.symm,(hsz _).2.symm,fun t ht=>?_,hdr⟩;rw [←hfin];refine (qsD vs a _ fun e he het=>?_).symm;obtain ⟨i,o,ho,hdo⟩:=hd e he
  have:=ht i o ho (by rw [hdo,het])
  rw [h0] at this;cases this
 refine wp_region_any hm ?_
 have:=jhF (Q:=Q) hT C H hgin hQ _ _ (Array.replicate l.toArray.size false) a w.drew _ (qiZ _) (by simp) (fun i _=>by rw [h0,getD_replicate_false]) (fun i _ _=>getD_replicate_false _ _) J (fun g _ h=>absurd h (by rw [h0];exact Bool.noConfusion))
 rw [hlen,show n+(l.length - n)=l.toArray.size by simp;omega] at this;exact this
end
theorem qhI {b o:Nat} {cs:List Value}:∀ (ds:List Value) (k:Nat) (w:World),w.rangeAt b o cs→(k+ds.length≤o∨o+cs.length≤k)→(w.setCells b k ds).rangeAt b o cs
 | [],k,w,h,_=>h
 | d::ds,k,w,h,hk=>by
  rw [List.length_cons] at hk;refine qhI ds (k+1) (w.setCell ⟨b,k,none⟩ d) (fun j v hj=>?_) (by omega);have hl:=(List.getElem?_eq_some_iff.1 hj).1;rw [World.cell?_setCell_other _ _ _ _ (show (⟨b,k,none⟩:Addr)≠⟨b,o+j,none⟩ from fun e=>by injection e with _ e2;omega)];exact h j v hj
section
variable {P:Program} {ops:Array Oper} {pl:List Pl} {L:List Tmp} {fin fin2 ini:Act} {W:World} {β:Nat→Nat} {seen:Array Bool} {a:Act} {w:World}
structure FlowJ3 (ops:Array Oper) (pl:List Pl) (fin ini:Act) (W:World) (β:Nat→Nat) (seen:Array Bool) (a:Act) (w:World):Prop where
 J:FlowJ ops pl fin ini W β seen a w
 pr:∀ p∈pl,p.new=false→seen.getD p.s false=false→w.rangeAt p.b p.o p.pre
theorem FlowJ3.stepS {Q:Exit→Act→World→Prop} (C:FlowC ops pl L) (K:FlowJ3 ops pl fin ini W β seen a w) {p:Pl} (hp:p∈pl) (hr:p.s∈Region.ready .any ops seen)
  (hold:∀ q∈pl,q.new=false→q.b<W.heap.size∧fin.tmps[q.d]?=some (.pointer (some ⟨q.b,q.so,none⟩)))
  (hdb:∀ q∈pl,∀ r∈pl,q.new=false→r.new=false→q.b=r.b→q=r∨q.o+q.cs.length≤r.o∨r.o+r.cs.length≤q.o) (hall:∀ q∈pl,q.new=false) (hlen:∀ q∈pl,q.pre.length≤q.cs.length)
  (hpre:p.new=false→W.rangeAt p.b p.o p.pre)
  (hSt:StOk P fin p) :
  wpOp P ops Q p.s (fun a' w'=>FlowJ3 ops pl fin ini W β (seen.setIfInBounds p.s true) a' w') a w:=by
 have J:=K.J;obtain ⟨o,ho,hg,hdn,hop,hxt,hxL,hdL⟩:=C.store p hp;obtain ⟨⟨v,hx,hvs⟩,hi,hk,hlo,hhi,hat0,heff⟩:=hSt;have hun:=(mem_ready.1 hr).1;have hlt:p.s<seen.size:=by rw [J.ssz];exact (Array.getElem?_eq_some_iff.1 ho).1
 have hlook:∀ x,Operand.tmp x∈o.op.operands→x∈o.looksAt ops:=fun x hx=>List.mem_append_left _ (List.mem_filterMap.2 ⟨.tmp x,by simpa using hx,rfl⟩)
 have hax:a.tmps[p.x]?=some v:=by
  rw [J.sees C hr ho (hlook p.x (by simp [hop,Op.operands])) hxL hxt];exact hx
 have hap:a.tmps[p.d]?=some (.pointer (some ⟨p.blk β,p.so,none⟩))∧w.there (p.blk β) p.o p.cs.length∧(p.new=true→W.heap.size≤p.blk β):=by
  cases hpn:p.new with
  | true =>
   obtain ⟨_,_,_,_,_,hws,ho0,_⟩:=C.lay p hp hpn;obtain ⟨h1,_,h3,h4⟩:=J.laid p hp hpn (qcQ hws hr);simp only [Pl.blk,hpn,if_true,ho0,hat0 hpn];exact ⟨h3,h4,fun _=>h1⟩
  | false =>
   simp only [Pl.blk,hpn,Bool.false_eq_true,if_false];refine ⟨?_,J.old p hp hpn,fun h=>by cases h⟩;rw [J.sees C hr ho (hlook p.d (by simp [hop,Op.operands])) hdL (C.oldd p hp hpn)];exact (hold p hp hpn).2
 obtain ⟨h1,h2,h3⟩:=hap;unfold wpOp;simp only [ho];rw [if_pos (by simp [Region.wanted,hg])];left
 have hvl:v.cells.size=p.scs.length:=by rw [←hvs,Array.length_toList]
 have hpw:p.new=false→w.rangeAt (p.blk β) p.o p.pre:=fun hpn=>by
  simp only [Pl.blk,hpn,Bool.false_eq_true,if_false];exact K.pr p hp hpn (getD_both hun)
 refine qjZ p.ty _ _ hop (p.blk β) p.so v (by simp [Act.eval,h1]) (by simp [Act.eval,hax]) (fun j hj=>by
  have:=h2 (p.so - p.o+j) (by omega)
  rwa [show p.o+(p.so - p.o+j)=p.so+j by omega] at this) (by rw [hvl];exact hi) (Array.all_eq_true_iff_forall_mem.2 fun x hx=>hk x (by rw [←hvs];simpa using hx)) ?_
 rw [hvs];have hput:a.put o.dst undef=a:=by rw [hdn];rfl
 rw [hput];have hso:=qpZ (p.blk β) p.scs p.so w;have hsz:(w.setCells (p.blk β) p.so p.scs).heap.size=w.heap.size:=qaU ..;have hseen:(seen.setIfInBounds p.s true).getD p.s false=true:=by simp [hlt]
 have nI:∀ q∈pl,q.new=true→q.i≠p.s:=fun q hq hqn e=>by
  obtain ⟨_,_,_,_,_,_,_,hs⟩:=C.lay q hq hqn
  have:isS pl q.i=true:=List.any_eq_true.2 ⟨p,hp,by simp [e]⟩
  rw [hs] at this;cases this
 have hpr:∀ q∈pl,q.new=false→(seen.setIfInBounds p.s true).getD q.s false=false→(w.setCells (p.blk β) p.so p.scs).rangeAt q.b q.o q.pre:=by
  intro q hq hqn hqs;have hpn:=hall p hp;have hne:q≠p:=fun e=>by rw [e,hseen] at hqs;cases hqs
  have h0:=K.pr q hq hqn (qbU hqs);have hl:=hlen q hq;simp only [Pl.blk,hpn,Bool.false_eq_true,if_false];by_cases e:p.b=q.b
  ·rcases hdb p hp q hq hpn hqn e with this|hd
   ·exact absurd this.symm hne
   ·rw [e];exact qhI _ _ _ h0 (by omega)
  ·exact qaL h0 _ _ _ e
 refine ⟨⟨by simp [J.ssz],J.shut hr,J.size,J.defers,?_,fun t hw=>J.init t fun i oi hi hd=>qbU (hw i oi hi hd),hso.1.trans J.os,hso.2.1.trans J.tape,hso.2.2.trans J.output,by rw [hsz];exact J.big,?_,?_,?_,?_,?_⟩,hpr⟩
 ·intro x hxn hw
  exact J.same x hxn fun i oi hi' hdi=>(qaV (hw i oi hi' hdi)).resolve_left fun e2=>by
   subst e2;rw [ho] at hi';cases hi';rw [hdn] at hdi;cases hdi
 ·intro k hkW hq;rw [qcC k (p.blk β) ?_]
  ·exact J.keep k hkW fun q hq' hqn hb'=>qbU (hq q hq' hqn hb')
  ·intro e
   cases hpn:p.new with
   | true=>have:=h3 hpn;omega
   | false =>
    have:=hq p hp hpn (by rw [e];simp [Pl.blk,hpn])
    rw [hseen] at this;cases this
 ·intro q hq hqn hs;have hs:=(qaV hs).resolve_left (nI q hq hqn).symm;obtain ⟨g1,g2,g3,g4⟩:=J.laid q hq hqn hs;exact ⟨g1,by rw [hsz];exact g2,g3,World.there_setCells g4 _ _ _⟩
 ·intro q hq hqn;exact World.there_setCells (J.old q hq hqn) _ _ _
 ·intro q hq r hr' hqn hrn g1 g2;exact J.apart q hq r hr' hqn hrn ((qaV g1).resolve_left (nI q hq hqn).symm) ((qaV g2).resolve_left (nI r hr' hrn).symm)
 ·intro q hq hs;rcases C.two q hq p hp with rfl|hne
  ·exact heff w _ hpw h2
  ·have hs:=(qaV hs).resolve_left (fun h=>hne.1 h.symm);by_cases hdj:p.new=false∧q.new=false∧p.b=q.b
   ·obtain ⟨hpn,hqn,e⟩:=hdj;rcases hdb p hp q hq hpn hqn e with this|hd
    ·exact absurd (by rw [this]) hne.1
    ·have hh:=J.held q hq hs;simp only [Pl.blk,hpn,hqn,Bool.false_eq_true,if_false] at hh ⊢;rw [e];exact qhI _ _ _ hh (by omega)
   refine qaL (J.held q hq hs) _ _ _ ?_;intro e
   cases hpn:p.new with
   | true =>
    obtain ⟨_,_,_,_,_,hws,_,_⟩:=C.lay p hp hpn;have hpi:=qcQ hws hr
    cases hqn:q.new with
    | true =>
     obtain ⟨_,_,_,_,_,hqs,_,_⟩:=C.lay q hq hqn;have hqi:=qeC J.closed hqs hs;simp only [Pl.blk,hpn,hqn,if_true] at e;exact (hne.2 hqn hpn).1 (J.apart p hp q hq hpn hqn hpi hqi e).symm
    | false =>
     have h5:=h3 hpn;have h6:=(hold q hq hqn).1;rw [e] at h5;simp only [Pl.blk,hqn,Bool.false_eq_true,if_false] at h5;omega
   | false =>
    cases hqn:q.new with
    | true =>
     obtain ⟨_,_,_,_,_,hqs,_,_⟩:=C.lay q hq hqn;have h5:=(J.laid q hq hqn (qeC J.closed hqs hs)).1;have h6:=(hold p hp hpn).1;simp only [Pl.blk,hpn,hqn,if_true,Bool.false_eq_true,if_false] at e;omega
    | false =>
     simp only [Pl.blk,hpn,hqn,Bool.false_eq_true,if_false] at e;exact hdj ⟨hpn,hqn,e⟩
theorem FlowJ3.stepX {Q:Exit→Act→World→Prop} (C:FlowC ops pl L) (K:FlowJ3 ops pl fin ini W β seen a w) {j:Nat} {oj:Oper} (hr:j∈Region.ready .any ops seen) (hoj:ops[j]?=some oj) (hA:isA pl j=false) (hS:isS pl j=false)
  (h2:∀ t,t∉L→fin2.tmps[t]?=fin.tmps[t]?) (h2i:∀ t,t∈L→fin2.tmps[t]?=ini.tmps[t]?) (h2s:fin2.tmps.size=fin.tmps.size)
  (hX:∀ W',FlowK pl W W'→(early ops pl j=true→Below W.heap.size W W')→wpQuiet P ops (fun w'=>∃ p:GB,w'=gw W' p.d p.os) (fun a'=>a'=frm ops L fin fin2 oj) [oj] (frm ops L fin fin2 oj)) :
  wpOp P ops Q j (fun a' w'=>FlowJ3 ops pl fin ini W β (seen.setIfInBounds j true) a' w') a w:=by
 have J:=K.J;have hun:=(mem_ready.1 hr).1;have hfree:∀ t∈oj.looksAt ops,∀ p∈pl,p.new=true→p.d≠t:=fun t ht p hp hn e=>C.free j oj hoj hS p hp hn (by rw [e];exact ht)
 have hlk:∀ t∈oj.looksAt ops,a.tmps[t]?=(frm ops L fin fin2 oj).tmps[t]?:=fun t ht=>by
  unfold frm;by_cases hL:(oj.looksAt ops).any (L.contains ·)=true
  ·rw [if_pos hL];by_cases htL:t∈L
   ·rw [h2i t htL];exact J.seesL C hr hoj ht htL
   ·rw [h2 t htL];exact J.sees C hr hoj ht htL (hfree t ht)
  ·rw [if_neg hL];have htL:t∉L:=fun h=>hL (List.any_eq_true.2 ⟨t,ht,by simpa using h⟩)
   exact J.sees C hr hoj ht htL (hfree t ht)
 have hput:∀ v,(frm ops L fin fin2 oj).put oj.dst v=frm ops L fin fin2 oj→fin.put oj.dst v=fin:=fun v hv=>by
  unfold frm at hv;by_cases hL:(oj.looksAt ops).any (L.contains ·)=true
  ·rw [if_pos hL] at hv
   cases hd:oj.dst with
   | none=>rfl
   | some d =>
    rw [hd] at hv;have hdL:=C.dstL j oj hoj hL d hd;have e1:fin2.tmps[d]?=(fin2.put (some d) v).tmps[d]?:=by rw [hv]
    obtain ⟨ft,fd⟩:=fin;simp only [Act.put] at e1 ⊢;congr 1
    apply Array.ext_getElem?
    intro i;by_cases e:d=i
    ·subst e
     have:=h2 d hdL
     simp only at this h2s
     rw [←this,e1,Array.getElem?_setIfInBounds,Array.getElem?_setIfInBounds,h2s];simp only [if_true]
    ·rw [Array.getElem?_setIfInBounds_ne e]
  ·rwa [if_neg hL] at hv
 have h:=hX w ⟨J.os,J.tape,J.output,J.big,fun k hk hp=>J.keep k hk fun p h1 h2 h3=>absurd h3 (hp p h1 h2)⟩ fun he=>⟨J.os,J.tape,J.output,J.big,fun k hk=>J.keep k hk fun p hp hn _=>by
  have h1:=List.all_eq_true.1 he p hp;rw [hn,Bool.false_or] at h1
  cases hs:seen.getD p.s false with
  | false=>rfl
  | true =>
   have:=qcI J.closed _ _ _ h1 hs
   rw [getD_both hun] at this;cases this⟩
 have hex:=qfB (a:=a) (b:=frm ops L fin fin2 oj) (C.sel j oj · · hoj) hlk;have hwa:=qdV (a:=a) (b:=frm ops L fin fin2 oj) hlk;simp only [wpQuiet] at h;unfold wpOp;simp only [hoj];rw [hwa];split
 ·rename_i hw
  simp only [hw,if_true] at h;obtain ⟨v,h1,h2'⟩:=h;have h2:=hput v h2';left
  refine Oper.wp_of_quiet (C:=fun w'=>∃ p:GB,w'=gw w p.d p.os) (K:=fun a'=>a'=a.put oj.dst v) (qcK (Below.refl _ _)) ?_ ⟨v,fun w' hw'=>?_,rfl⟩
  ·rintro a' w' ⟨p,rfl⟩ rfl;exact ⟨J.move C hr hoj hA hS h2 (qbG w p.d p.os),fun q hq hqn hs=>qaN (K.pr q hq hqn (qbU hs)) (qbG w p.d p.os)⟩
  ·have:=h1 w' hw'
   unfold Oper.quietAt at *;rw [hex];exact this
 ·rename_i hw
  simp only [hw] at h;exact ⟨J.move C hr hoj hA hS (hput _ h) (Below.refl _ _),fun q hq hqn hs=>K.pr q hq hqn (qbU hs)⟩
structure FlowH2 (P:Program) (ops:Array Oper) (pl:List Pl) (L:List Tmp) (fin fin2 ini:Act) (W:World):Prop where
 f2:∀ t,t∉L→fin2.tmps[t]?=fin.tmps[t]?
 f2i:∀ t,t∈L→fin2.tmps[t]?=ini.tmps[t]?
 f2s:fin2.tmps.size=fin.tmps.size
 x:∀ j oj,ops[j]?=some oj→isA pl j=false→isS pl j=false→∀ W',FlowK pl W W'→(early ops pl j=true→Below W.heap.size W W')→wpQuiet P ops (fun w'=>∃ p:GB,w'=gw W' p.d p.os) (fun a'=>a'=frm ops L fin fin2 oj) [oj] (frm ops L fin fin2 oj)
 al:∀ p∈pl,p.new=true→p.d<fin.tmps.size∧∃ z,LaysAs P p.ty z∧p.cs.length≤z.size
 old:∀ q∈pl,q.new=false→q.b<W.heap.size∧fin.tmps[q.d]?=some (.pointer (some ⟨q.b,q.so,none⟩))∧W.there q.b q.o q.cs.length∧W.rangeAt q.b q.o q.pre
 db:∀ q∈pl,∀ r∈pl,q.new=false→r.new=false→q.b=r.b→q=r∨q.o+q.cs.length≤r.o∨r.o+r.cs.length≤q.o
 all:∀ q∈pl,q.new=false
 len:∀ q∈pl,q.pre.length≤q.cs.length
 st:∀ p∈pl,StOk P fin p
theorem qxY {Q:Exit→Act→World→Prop} (C:FlowC ops pl L) (H:FlowH2 P ops pl L fin fin2 ini W) (hQ:∀ β w,FlowE pl W β w→Q .normal (nP β pl fin) w) :
  ∀ (f:Nat) (seen:Array Bool) (a:Act) (w:World) (β:Nat→Nat),cnt seen=f→FlowJ3 ops pl fin ini W β seen a w→wpAny P .any ops Q f seen a w:=by
 have done:∀ (seen:Array Bool) (a:Act) (w:World) (β:Nat→Nat),FlowJ3 ops pl fin ini W β seen a w→Region.ready .any ops seen=[]→Q .normal a w:=by
  intro seen a w β J h0;have hall:=qgN C J.J.ssz h0;have hs:∀ i o,ops[i]?=some o→seen.getD i false=true:=fun i o h=>hall i (Array.getElem?_eq_some_iff.1 h).1
  have hi:∀ p∈pl,p.new=true→seen.getD p.i false=true:=fun p hp hn=>by
   obtain ⟨o,ho,_⟩:=C.lay p hp hn;exact hs _ o ho
  have hst:∀ p∈pl,seen.getD p.s false=true:=fun p hp=>by
   obtain ⟨o,ho,_⟩:=C.store p hp;exact hs _ o ho
  rw [qdN (β:=β) pl a fin J.J.size J.J.defers (fun t ht=>J.J.same t ht fun i o h _=>hs i o h) fun p hp hn=>(J.J.laid p hp hn (hi p hp hn)).2.2.1];refine hQ β w ⟨J.J.os,J.J.tape,J.J.output,J.J.big,fun k hk hp=>J.J.keep k hk fun p h1 h2 h3=>absurd h3 (hp p h1 h2),fun p hp hn=>?_,fun p hp hn=>?_,fun p hp q hq hpn hqn=>J.J.apart p hp q hq hpn hqn (hi p hp hpn) (hi q hq hqn)⟩
  ·obtain ⟨h1,h2,_,h4⟩:=J.J.laid p hp hn (hi p hp hn)
   have:=J.J.held p hp (hst p hp)
   obtain ⟨_,_,_,_,_,_,ho0,_⟩:=C.lay p hp hn;simp only [Pl.blk,hn,if_true,ho0] at this;exact ⟨h1,h2,h4,this⟩
  ·have:=J.J.held p hp (hst p hp)
   simp only [Pl.blk,hn,Bool.false_eq_true,if_false] at this;exact ⟨J.J.old p hp hn,this⟩
 intro f
 induction f with
 | zero=>intro seen a w β hc J;exact ⟨qeG hc,done seen a w β J (qeG hc)⟩
 | succ f ih =>
  intro seen a w β hc J;refine ⟨done seen a w β J,fun j hj=>?_⟩;have hc':cnt (seen.setIfInBounds j true)=f:=by have:=qnA (mem_ready.1 hj).1;omega
  obtain ⟨hun,oj,hoj,_⟩:=mem_ready.1 hj
  cases hA:isA pl j with
  | true =>
   obtain ⟨p,hp,hb⟩:=List.any_eq_true.1 hA;simp only [Bool.and_eq_true,beq_iff_eq] at hb;obtain ⟨hn,rfl⟩:=hb;exact absurd hn (by rw [H.all p hp];exact Bool.noConfusion)
  | false =>
   cases hS:isS pl j with
   | true =>
    obtain ⟨p,hp,hb⟩:=List.any_eq_true.1 hS;obtain rfl:=beq_iff_eq.1 hb;exact wpOp_mono (fun a' w' J'=>ih _ a' w' β hc' J') (J.stepS C hp hj (fun q hq hqn=>⟨(H.old q hq hqn).1,(H.old q hq hqn).2.1⟩) H.db H.all H.len (fun hpn=>(H.old p hp hpn).2.2.2) (H.st p hp))
   | false=>exact wpOp_mono (fun a' w' J'=>ih _ a' w' β hc' J') (J.stepX C hj hoj hA hS H.f2 H.f2i H.f2s (H.x j oj hoj hA hS))
theorem qxX {Q:Exit→Act→World→Prop} (C:FlowC ops pl L) (H:FlowH2 P ops pl L fin fin2 ini W) (hQ:∀ β w,FlowE pl W β w→Q .normal (nP β pl fin) w) :
  ∀ (m k:Nat) (seen:Array Bool) (a:Act) (w:World) (β:Nat→Nat),k+m=ops.size→(∀ i,i<ops.size→seen.getD i false=decide (i<k))→FlowJ3 ops pl fin ini W β seen a w→wpOps P ops Q (List.range' k m) a w:=by
 intro m
 induction m with
 | zero =>
  intro k seen a w β hk hseen J
  have hs:∀ i o,ops[i]?=some o→seen.getD i false=true:=fun i o h=>by
   have:=(Array.getElem?_eq_some_iff.1 h).1
   rw [hseen i this];simp;omega
  have hi:∀ p∈pl,p.new=true→seen.getD p.i false=true:=fun p hp hn=>by
   obtain ⟨o,ho,_⟩:=C.lay p hp hn;exact hs _ o ho
  have hst:∀ p∈pl,seen.getD p.s false=true:=fun p hp=>by
   obtain ⟨o,ho,_⟩:=C.store p hp;exact hs _ o ho
  show Q .normal a w
  rw [qdN (β:=β) pl a fin J.J.size J.J.defers (fun t ht=>J.J.same t ht fun i o h _=>hs i o h) fun p hp hn=>(J.J.laid p hp hn (hi p hp hn)).2.2.1];refine hQ β w ⟨J.J.os,J.J.tape,J.J.output,J.J.big,fun k hk hp=>J.J.keep k hk fun p h1 h2 h3=>absurd h3 (hp p h1 h2),fun p hp hn=>?_,fun p hp hn=>?_,fun p hp q hq hpn hqn=>J.J.apart p hp q hq hpn hqn (hi p hp hpn) (hi q hq hqn)⟩
  ·obtain ⟨h1,h2,_,h4⟩:=J.J.laid p hp hn (hi p hp hn)
   have:=J.J.held p hp (hst p hp)
   obtain ⟨_,_,_,_,_,_,ho0,_⟩:=C.lay p hp hn;simp only [Pl.blk,hn,if_true,ho0] at this;exact ⟨h1,h2,h4,this⟩
  ·have:=J.J.held p hp (hst p hp)
   simp only [Pl.blk,hn,Bool.false_eq_true,if_false] at this;exact ⟨J.J.old p hp hn,this⟩
 | succ m ih =>
  intro k seen a w β hk hseen J;have hkl:k<ops.size:=by omega
  rw [qkE,wpOps_cons];have hoj:ops[k]?=some ops[k]:=Array.getElem?_eq_getElem hkl;have hun:seen.getD k true=false:=getD_in (by rw [J.J.ssz];exact hkl) (by rw [hseen k hkl];simp)
  have hj:k∈Region.ready .any ops seen:=mem_ready.2 ⟨hun,ops[k],hoj,fun e he hb=>by
   have hl:=C.less k _ hoj e he hb;rw [hseen e.on (by omega)];simp [hl]⟩
  have hsn:∀ i,i<ops.size→(seen.setIfInBounds k true).getD i false=decide (i<k+1):=fun i hi=>by
   by_cases e:k=i
   ·subst e;simp [J.J.ssz,hkl]
   ·rw [getD_set_ne false e,hseen i hi];by_cases h:i<k
    ·simp [h];omega
    ·simp [h];omega
  cases hA:isA pl k with
  | true =>
   obtain ⟨p,hp,hb⟩:=List.any_eq_true.1 hA;simp only [Bool.and_eq_true,beq_iff_eq] at hb;obtain ⟨hn,rfl⟩:=hb;exact absurd hn (by rw [H.all p hp];exact Bool.noConfusion)
  | false =>
   cases hS:isS pl k with
   | true =>
    obtain ⟨p,hp,hb⟩:=List.any_eq_true.1 hS;obtain rfl:=beq_iff_eq.1 hb;exact wpOp_mono (fun a' w' J'=>ih _ _ a' w' β (by omega) hsn J') (J.stepS C hp hj (fun q hq hqn=>⟨(H.old q hq hqn).1,(H.old q hq hqn).2.1⟩) H.db H.all H.len (fun hpn=>(H.old p hp hpn).2.2.2) (H.st p hp))
   | false=>exact wpOp_mono (fun a' w' J'=>ih _ _ a' w' β (by omega) hsn J') (J.stepX C hj hoj hA hS H.f2 H.f2i H.f2s (H.x k _ hoj hA hS))
theorem quJ {id:Nat} {dr:Bool} {Q:Exit→Act→World→Prop} {a:Act} {w:World} {l:List Oper} (pl:List Pl) (vs vs2:List (Tmp × Value)) (fin fin2:Act) (hfin:vs.foldl (fun a p=>a.put (some p.1) p.2) a=fin) (hfin2:vs2.foldl (fun a p=>a.put (some p.1) p.2) fin=fin2) (hini:∀ p∈vs2,a.tmps[p.1]?=some p.2)
  (hm:P.follows .mixedOrders=true) (hB:flowBL l.toArray pl (vs2.map (·.1)) (vs.map (·.1)) a.tmps.size=true)
  (hX:∀ W',Below w.heap.size w W'→flowXL P l.toArray (fun w'=>∃ p:GB,w'=gw W' p.d p.os) (vs2.map (·.1)) fin fin2 (fun k=>isA pl k || isS pl k || !early l.toArray pl k) 0 l)
  (hY:∀ W',FlowK pl w W'→flowXL P l.toArray (fun w'=>∃ p:GB,w'=gw W' p.d p.os) (vs2.map (·.1)) fin fin2 (fun k=>isA pl k || isS pl k || early l.toArray pl k) 0 l)
  (hAl:∀ p∈pl,p.new=true→∃ z,LaysAs P p.ty z∧p.cs.length≤z.size)
  (hOld:∀ q∈pl,q.new=false→q.b<w.heap.size∧fin.tmps[q.d]?=some (.pointer (some ⟨q.b,q.so,none⟩))∧w.there q.b q.o q.cs.length∧w.rangeAt q.b q.o q.pre)
  (hDb:∀ q∈pl,∀ r∈pl,q.new=false→r.new=false→q.b=r.b→q=r∨q.o+q.cs.length≤r.o∨r.o+r.cs.length≤q.o) (hAll:∀ q∈pl,q.new=false) (hLen:∀ q∈pl,q.pre.length≤q.cs.length)
  (hSt:∀ p∈pl,StOk P fin p)
  (hQ:∀ β w',FlowE pl w β w'→Q .normal (nP β pl fin) w'):(Code.region id l.toArray dr).wp P Q a w:=by
 obtain ⟨C,hts,hpd⟩:=jfO hB;have hd:∀ t∈vs.map (·.1),∃ (i:Nat) (o:Oper),l.toArray[i]?=some o∧o.dst=some t:=fun t ht=>by obtain ⟨_,i,o,ho,hd,_⟩:=hts t ht;exact ⟨i,o,ho,hd⟩
 have hX':∀ (W0:World),W0.os=w.os→W0.tape=w.tape→W0.output=w.output→W0.heap=w.heap→∀ j oj,l.toArray[j]?=some oj→isA pl j=false→isS pl j=false→∀ W',FlowK pl W0 W'→(early l.toArray pl j=true→Below W0.heap.size W0 W') →
   wpQuiet P l.toArray (fun w'=>∃ p:GB,w'=gw W' p.d p.os) (fun a'=>a'=frm l.toArray (vs2.map (·.1)) fin fin2 oj) [oj] (frm l.toArray (vs2.map (·.1)) fin fin2 oj):=by
  intro W0 e1 e2 e3 e4 j oj hoj hA hS W' hK hW'
  cases he:early l.toArray pl j with
  | true =>
   have h:=hW' he;exact qfA l 0 (hX W' ⟨h.os.trans e1,h.tape.trans e2,h.output.trans e3,by rw [←e4];exact h.size,fun k hk=>by rw [←e4];exact h.block k (by rw [e4];exact hk)⟩) j oj (by simpa using hoj) (by simp [hA,hS,he])
  | false =>
   exact qfA l 0 (hY W' ⟨hK.os.trans e1,hK.tape.trans e2,hK.output.trans e3,by rw [←e4];exact hK.big,fun k hk hp=>by rw [←e4];exact hK.keep k (by rw [e4];exact hk) hp⟩) j oj (by simpa using hoj) (by simp [hA,hS,he])
 cases dr with
 | true =>
  have hO:∀ q∈pl,q.new=false→q.b<w.drew.heap.size∧fin.tmps[q.d]?=some (.pointer (some ⟨q.b,q.so,none⟩))∧w.drew.there q.b q.o q.cs.length∧w.drew.rangeAt q.b q.o q.pre:=fun q hq hn=>by
   obtain ⟨h1,h2,h3,h4⟩:=hOld q hq hn;exact ⟨h1,h2,by simpa using h3,h4⟩
  have J:FlowJ l.toArray pl fin a w.drew (fun _=>0) (Array.replicate l.toArray.size false) a w.drew:=FlowJ.start C hfin hd fun q hq hn=>(hO q hq hn).2.2.1
  obtain ⟨b1,b2,b3⟩:=qhG vs2 fin a J.size.symm hini;rw [hfin2] at b1 b2 b3;refine wp_region_any hm (qxY (P:=P) (fin2:=fin2) (ini:=a) C ⟨b2,b3,b1,hX' w.drew rfl rfl rfl rfl,?_,hO,hDb,hAll,hLen,hSt⟩ (fun β w' E=>hQ β w' ⟨E.os,E.tape,E.output,E.big,E.keep,E.laid,E.old,E.apart⟩) _ _ _ _ _ (qiZ _) ⟨J,fun p hp hn _=>(hO p hp hn).2.2.2⟩);intro p hp hn;exact ⟨by rw [J.size.symm];exact hpd p hp hn,hAl p hp hn⟩
 | false =>
  have J:FlowJ l.toArray pl fin a w (fun _=>0) (Array.replicate l.toArray.size false) a w:=FlowJ.start C hfin hd fun q hq hn=>(hOld q hq hn).2.2.1
  obtain ⟨b1,b2,b3⟩:=qhG vs2 fin a J.size.symm hini;rw [hfin2] at b1 b2 b3;refine wp_region ?_;rw [List.range_eq_range'];refine qxX (P:=P) (W:=w) (fin2:=fin2) (ini:=a) C ⟨b2,b3,b1,hX' w rfl rfl rfl rfl,?_,hOld,hDb,hAll,hLen,hSt⟩ hQ _ _ _ _ _ _ (by omega) (fun i hi=>by rw [getD_replicate_false];simp) ⟨J,fun p hp hn _=>(hOld p hp hn).2.2.2⟩;intro p hp hn;exact ⟨by rw [J.size.symm];exact hpd p hp hn,hAl p hp hn⟩
theorem qzP {id:Nat} {dr:Bool} {Q:Exit→Act→World→Prop} {a:Act} {w:World} {l:List Oper} (pl:List Pl) (vs:List (Tmp × Value)) (fin:Act) (hfin:vs.foldl (fun a p=>a.put (some p.1) p.2) a=fin)
  (hm:P.follows .mixedOrders=true) (hB:flowB l.toArray pl (vs.map (·.1)) a.tmps.size=true)
  (hX:∀ W',Below w.heap.size w W'→flowX P l.toArray (fun w'=>∃ p:GB,w'=gw W' p.d p.os) fin (fun k=>isA pl k || isS pl k || !early l.toArray pl k) 0 l)
  (hY:∀ W',FlowK pl w W'→flowX P l.toArray (fun w'=>∃ p:GB,w'=gw W' p.d p.os) fin (fun k=>isA pl k || isS pl k || early l.toArray pl k) 0 l)
  (hAl:∀ p∈pl,p.new=true→∃ z,LaysAs P p.ty z∧p.cs.length≤z.size)
  (hOld:∀ q∈pl,q.new=false→q.b<w.heap.size∧fin.tmps[q.d]?=some (.pointer (some ⟨q.b,q.so,none⟩))∧w.there q.b q.o q.cs.length∧w.rangeAt q.b q.o q.pre)
  (hDb:∀ q∈pl,∀ r∈pl,q.new=false→r.new=false→q.b=r.b→q=r∨q.o+q.cs.length≤r.o∨r.o+r.cs.length≤q.o) (hAll:∀ q∈pl,q.new=false) (hLen:∀ q∈pl,q.pre.length≤q.cs.length)
  (hSt:∀ p∈pl,StOk P fin p)
  (hQ:∀ β w',FlowE pl w β w'→Q .normal (nP β pl fin) w'):(Code.region id l.toArray dr).wp P Q a w :=
 quJ pl vs [] fin fin hfin rfl (fun p hp=>by cases hp) hm hB (fun W' h=>qeZ l 0 (hX W' h)) (fun W' h=>qeZ l 0 (hY W' h)) hAl hOld hDb hAll hLen hSt hQ
end
end Go.Proofs.YtemoddmadfoaiaaGreat
