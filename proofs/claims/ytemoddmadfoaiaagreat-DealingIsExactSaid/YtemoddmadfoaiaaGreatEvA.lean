import Derived.Test.YtemoddmadfoaiaaGreatToA
set_option linter.unusedVariables false
set_option linter.unusedSimpArgs false
set_option maxRecDepth 100000
set_option maxHeartbeats 8000000
namespace Go.Proofs.YtemoddmadfoaiaaGreat
open Go.RowKit Big
open Lib (hid)
theorem Tryz.infoU:(Tryz.prog.info? 22).map (·.size)=some 1:=by kernel_rfl
theorem Tryz.infoG:(Tryz.prog.info? 140).map (·.size)=some 32:=by kernel_rfl
theorem qG {cs:List Value} {v:Nat} (h:cs=lv 32 v):(Tryz.prog.info? 140).map (·.size)=some cs.length:=by rw [h,qlL];exact Tryz.infoG
theorem qqB {cs:List Value} {v:Nat} (h:cs=lv 32 v):cs.toArray.all (·.oneCell')=true:=jeD h
theorem ldG {ops:Array Oper} {w:World} {fin:Act} {s:Nat→Bool} {k:Nat} {op:Oper} {l:List Oper} {x:Operand} {b o:Nat} {cs:List Value} {v:Nat} (hA:At w b o cs) (hV:Hid (cs=lv 32 v)) (h:(Region.wanted op (yielded ops fin.tmps),op.op,fin.eval x,fin.put op.dst (.agg cs.toArray))=(true,.load 140 x,.pointer (some ⟨b,o,none⟩),fin)) (h2:flowX Tryz.prog ops (fun w'=>∃ p:GB,w'=gw w p.d p.os) fin s (k+1) l):flowX Tryz.prog ops (fun w'=>∃ p:GB,w'=gw w p.d p.os) fin s k (op::l):=fxl hA (qG hV.out) Tryz.underlying140 rfl h h2
theorem lhG {ops:Array Oper} {u w:World} {fin:Act} {s:Nat→Bool} {k:Nat} {op:Oper} {l:List Oper} {x:Operand} {b o:Nat} {cs:List Value} {v:Nat} (hA:Hid (At u b o cs)) (hb:Below u.heap.size u w) (hV:Hid (cs=lv 32 v)) (h:(Region.wanted op (yielded ops fin.tmps),op.op,fin.eval x,fin.put op.dst (.agg cs.toArray))=(true,.load 140 x,.pointer (some ⟨b,o,none⟩),fin)) (h2:flowX Tryz.prog ops (fun w'=>∃ p:GB,w'=gw w p.d p.os) fin s (k+1) l):flowX Tryz.prog ops (fun w'=>∃ p:GB,w'=gw w p.d p.os) fin s k (op::l):=ldG (hA.out.below hb) hV h h2
theorem rdG {w:World} {b o:Nat} {cs:List Value} {v:Nat} (h:Hid (At w b o cs)) (hV:Hid (cs=lv 32 v)):(loadVar 140 ⟨b,o,none⟩).run Tryz.prog w=.ok (.agg cs.toArray) w:=run_loadVar_mid w b o 140 cs _ h.out.range Tryz.underlying140 rfl (qG hV.out)
theorem sG {fin:Act} {new:Bool} {i s b o:Nat} {d x:Tmp} {cs:List Value} {v:Nat} (hV:Hid (cs=lv 32 v)) (h0:new=true→o=0) (h:fin.tmps[x]?=some (.agg cs.toArray)):StOk Tryz.prog fin ⟨new,i,d,s,b,o,140,x,cs,o,cs,[]⟩:=stw h (qG hV.out) (qqB hV.out) h0
theorem Tryz.laysG:LaysAs Tryz.prog 140 (lv 32 0).toArray:=by
 rw [qbW];intro o h b w;unfold execOp;simp only [h];rfl
theorem Tryz.alG {cs:List Value} (h:(Tryz.prog.info? 140).map (·.size)=some cs.length):∃ z,LaysAs Tryz.prog 140 z∧cs.length≤z.size :=
 ⟨_,Tryz.laysG,by rw [Tryz.infoG] at h;injection h with h;rw [←h,List.size_toArray,qlL];exact Nat.le_refl _⟩
theorem qeG {c c2:List Value} {P i d:Nat} (h:c=lv 32 P) (h2:c2=lv 32 (upd P i d)) (hi:i<32) (hd:d<BB):c2=c.set i (.int .u32 (d:Int)):=by
 subst h h2;exact (qxY P hi hd).symm
theorem At.limbV {w:World} {b v j x:Nat} {c:List Value} (h:At w b 0 c) (hc:c=lv 32 v) (hx:x=lim v j) (hj:j<32):w.cell? ⟨b,j,none⟩=some (.int .u32 (x:Int)):=by
 subst hc hx
 have:=h.limb (j:=j) hj
 rwa [Nat.zero_add] at this
theorem At.limbO {w:World} {b o v j x:Nat} {c:List Value} (h:At w b o c) (hc:c=lv 32 v) (hx:x=lim v j) (hj:j<32):w.cell? ⟨b,o+j,none⟩=some (.int .u32 (x:Int)):=by
 subst hc hx;exact h.limb (j:=j) hj
theorem qvX {x y c:Nat} (hx:x<BB) (hy:y<BB) (hc:c≤1):∃ d c':Nat,d<BB∧c'≤1∧d+c'*BB=x+y+c :=
 ⟨(x+y+c)%BB,(x+y+c) / BB,Nat.mod_lt _ qbK,by unfold BB at *;omega,by unfold BB;omega⟩
theorem qnJ {x y c:Nat} (hx:x<BB) (hy:y<BB) (hc:c≤1):∃ d c':Nat,d<BB∧c'≤1∧d+y+c=x+c'*BB:=by
 by_cases h:x<y+c
 ·exact ⟨x+BB - y - c,1,by unfold BB at *;omega,by omega,by unfold BB at *;omega⟩
 ·exact ⟨x - y - c,0,by omega,by omega,by omega⟩
theorem qxD {ca cb cv:List Value} {a b v ba oa bb ob:Nat} {c2:Nat} (w:World) (h1:At w ba oa ca) (h2:At w bb ob cb) (hca:ca=lv 32 a) (hcb:cb=lv 32 b) (hcv:cv=lv 32 v) (ha:a<BB^32) (hb:b<BB^32) (hv:v<BB^32) (hd:a+b=v+c2*BB^32) :
  CB 170 #[.pointer (some ⟨ba,oa,none⟩),.pointer (some ⟨bb,ob,none⟩)] (.tuple #[.agg cv.toArray,.bool (decide (c2=0))]) w:=by
 have V_ca:=hid hca;have V_cb:=hid hcb;have V_cv:=hid hcv;have HV:=hid (And.intro ha (And.intro hb (And.intro hv hd)));have Aba:=hid h1;have Abb:=hid h2;have lba:=h1.lt;have lbb:=h2.lt;clear hca hcb hcv ha hb hv hd h1 h2;obtain ⟨cz,V_cz⟩:=nvx (lv 32 0);obtain ⟨B0,B1,w0,hw0,hB0,hB1,AB0,AB1,FR,FR0,HB0,hZB0,l01,hZB1⟩:=en2 w 140 140 (zM V_cz) (zM V_cz);rw [qbW] at hw0;go_enter Tryz.func170,Tryz.ntmps170
 go_wp2
 rw [←hw0,←hB1,←hB0];clear hw0 hB0 hB1;replace Aba:=hid (Aba.out.below (by have:=FR.out.below;rwa [HB0.out] at this));replace Abb:=hid (Abb.out.below (by have:=FR.out.below;rwa [HB0.out] at this));rw [←HB0.out] at lba lbb;go_loopg [7,9] 32 (fun g bw iv wr=>∃ (i P c:Nat),i≤32∧32 - i≤g∧c≤1∧P<BB^i∧P+c*BB^i=a%BB^i+b%BB^i∧bw=.int .u32 (c:Int)∧iv=.int .i64 (i:Int)∧At wr ba oa ca∧At wr bb ob cb∧At wr B0 0 cz∧At wr B1 0 (lv 32 P)∧Fr B0 w wr)
 case atStart=>exact ⟨0,0,0,by omega,by omega,by omega,BP 0,by simp [Nat.mod_one],rfl,rfl,Aba.out,Abb.out,AB0.out,by have:=AB1.out;rwa [V_cz.out] at this,FR.out⟩
 case round =>
  obtain ⟨i,P,c,hi,hg,hc,hP,he,rfl,rfl,hA,hB,hR,hO,hF⟩:=hrel;replace Aba:=hid hA;replace Abb:=hid hB;replace AB0:=hid hR;replace FR:=hid hF;obtain ⟨cp,V_cp⟩:=nvx (lv 32 P);have AB1:=hid (show At wr B1 0 cp by rw [V_cp.out];exact hO);have HE:=hid (And.intro hP (And.intro he hc));clear hP he hA hB hR hO hF;by_cases hlt:i<32
  ·obtain ⟨x,hx⟩:=nqx (lim a i);obtain ⟨y,hy⟩:=nqx (lim b i);obtain ⟨d,c',hd,hc',hn⟩:=qvX (x:=x) (y:=y) (hx ▸ qaI a i) (hy ▸ qaI b i) hc;have HXY:=hid (And.intro hx (And.intro hy (And.intro hd hlt)));have HAD:=hid (fun W=>qtH x y c d c' W (hx ▸ qaI a i) (hy ▸ qaI b i) hc hn hd);have HS:=hid (qrP HE.out.2.1 (by rw [←hx,←hy];exact hn.symm));have HPL:=hid (qhR HE.out.1 hd);have HU:=hid (qeC (d:=d) HE.out.1);have HC:=hid hc';obtain ⟨cq,V_cq⟩:=nvx (lv 32 (upd P i d));clear hx hy hd hc hn hc';go_upto_region 6 with fail
   refine qgN [⟨false,0,28,17,B1,0,22,26,cq,i,[.int .u32 (d:Int)],cp⟩] [(13,.int .i64 (i:Int)),(14,.pointer (some ⟨ba,oa,none⟩)),(15,.int .i64 (i:Int)),(16,.pointer (some ⟨ba,oa,none⟩)),(17,.pointer (some ⟨ba,(oa+i),none⟩)),(18,.int .u32 (x:Int)),(19,.pointer (some ⟨bb,ob,none⟩)),(20,.int .i64 (i:Int)),(21,.pointer (some ⟨bb,ob,none⟩)),(22,.pointer (some ⟨bb,(ob+i),none⟩)),(23,.int .u32 (y:Int)),(24,.int .u32 (c:Int)),(25,.tuple #[.int .u32 (d:Int),.int .u32 (c':Int)]),(12,.tuple #[.int .u32 (d:Int),.int .u32 (c':Int)]),(26,.int .u32 (d:Int)),(27,.int .u32 (c':Int)),(28,.pointer (some ⟨B1,i,none⟩)),(7,.int .u32 (c':Int))] [(7,.int .u32 (c:Int))] _ _ (by simp only [zz4,zz5,zq];rfl) (by simp only [zz4,zz5,zq];rfl) (jiO _ _ rfl (jcN)) (by kernel_rfl) (by kernel_rfl) ?_ ?_ ?_ ?_ ?_ ?_ ?_
   ·intro W' hW';have cl1:=fun p os=>qaB ((Aba.out.below hW').limbO V_ca.out HXY.out.1 hlt) p os
    have cl2:=fun p os=>qaB ((Abb.out.below hW').limbO V_cb.out HXY.out.2.1 hlt) p os
    iterate 11 (refine qgM (by kernel_rfl) ?_ ?_;(go_big_quiet_step (fail);(try simp only [zq]);exact wqn rfl))
    refine jeK (by kernel_rfl) ?_ ?_;(go_big_quiet_step (fail);(try simp only [zq]);exact wqn rfl);refine qgM (by kernel_rfl) ?_ ?_;(go_big_quiet_step ((go_at_call 169;exact qaL (HAD.out _)));(try simp only [zq]);exact wqn rfl);iterate 4 (refine qgM (by kernel_rfl) ?_ ?_;(go_big_quiet_step (fail);(try simp only [zq]);exact wqn rfl))
    refine qhD (by rfl) ?_;refine qgM (by kernel_rfl) ?_ ?_;(go_big_quiet_step (fail);(try simp only [zq]);exact wqn rfl);exact qcO
   ·intro W' hK';iterate 11 (first|(refine qgM (by kernel_rfl) ?_ ?_;(go_big_quiet_step (fail);(try simp only [zq]);exact wqn rfl))|(refine qhD (by kernel_rfl) ?_))
    first|(refine jeK (by kernel_rfl) ?_ ?_;(go_big_quiet_step (fail);(try simp only [zq]);exact wqn rfl))|(refine qhD (by kernel_rfl) ?_)
    refine qhD (by kernel_rfl) ?_;iterate 4 (first|(refine qgM (by kernel_rfl) ?_ ?_;(go_big_quiet_step (fail);(try simp only [zq]);exact wqn rfl))|(refine qhD (by kernel_rfl) ?_))
    refine qhD (by kernel_rfl) ?_
    first|(refine qgM (by kernel_rfl) ?_ ?_;(go_big_quiet_step (fail);(try simp only [zq]);exact wqn rfl))|(refine qhD (by kernel_rfl) ?_)
    exact qcO
   ·exact fP1 (bnc)
   ·exact fP1 (fun _=>⟨AB1.out.lt,rfl,At.roomC AB1.out ((qeG V_cp.out V_cq.out hlt HXY.out.2.2.1))⟩)
   ·exact uno
   ·exact fP1 (qfF rfl rfl Tryz.infoU rfl (by rw [V_cp.out,qlL];omega) (qeG V_cp.out V_cq.out hlt HXY.out.2.2.1))
   intro β wx1 E;replace FR:=ffh FR E (by omega);replace AB0:=afh AB0 E (by omega);replace AB1:=aoh E AB1 mms;replace Aba:=afh Aba E (by omega);replace Abb:=afh Abb E (by omega);simp only [nP,zu];go_wp2
   go_roundg (gk - 1)
   case measure=>omega
   case rel=>exact ⟨i+1,P+d*BB^i,c',by omega,by omega,HC.out,HPL.out,HS.out,rfl,by go_num,Aba.out,Abb.out,AB0.out,by have:=AB1.out;rwa [V_cq.out,HU.out] at this,FR.out⟩
  ·have hi32:i=32:=by omega
   subst hi32
   have hPv:P=v∧c=c2:=by
    obtain ⟨h1,h2,h3,h4⟩:=HV.out;have h5:=HE.out.2.1;rw [Nat.mod_eq_of_lt h1,Nat.mod_eq_of_lt h2,h4] at h5;exact qqI h3 HE.out.1 hc h5
   obtain ⟨hPv,hcc⟩:=hPv;have hcb:((c:Int)==0)=decide (c2=0):=by rw [hcc,Bool.eq_iff_iff];simp only [beq_iff_eq,decide_eq_true_eq];omega
   have HCV:=hid (show cp=cv by rw [V_cp.out,V_cv.out,hPv]);clear hPv hcc;go_upto_region 8 with fail
   refine wF [⟨false,0,4,3,B0,0,140,30,cp,0,cp,[]⟩] [(30,aT cp),(31,.int .u32 (c:Int)),(32,.bool (decide (c2=0))),(5,.bool (decide (c2=0)))] (by simp only [zu];rfl) (by kernel_rfl) ?_ ?_ (fP1 bnC) ?_ uno ?_ ?_
   ·intro W' hW';refine lhG AB1 hW' V_cp rfl<|fo2 ?_ ?_<|fxs rfl<|fxo ?_<|fxn;all_goals (go_big_quiet_step (fail);exact wqn rfl)
   ·intro W' hK';have rd0:=akh AB1 hK' (by omega);refine ldG rd0 V_cp rfl<|fxi ?_<|fxi ?_<|fxs (by kernel_rfl)<|fxi ?_<|fxn;all_goals (first|(refine .inr ?_;go_big_quiet_step (fail);exact wqn rfl)|exact .inl (by kernel_rfl))
   ·exact fP1 (fun _=>rmh AB0 (qG V_cz.out) (qG V_cp.out) rfl)
   ·exact fP1 (sG V_cp (fun _=>rfl) rfl)
   intro β wx1 E;replace FR:=ffh FR E (by omega);replace AB0:=aoh E AB0 mms;simp only [nP,zu];rw [HCV.out] at AB0;go_wp2_with fail
   have hld:=rdG AB0 V_cv;refine bodyPost_ret (v:=.tuple #[.agg cv.toArray,.bool (decide (c2=0))]) (by simp [results,Tryz.results170,asAddr,hld]) rfl ?_;exact ⟨rfl,qaY HB0 FR⟩
theorem qmW {ca cb cv:List Value} {a b v ba oa bb ob:Nat} {c2:Nat} (w:World) (h1:At w ba oa ca) (h2:At w bb ob cb) (hca:ca=lv 32 a) (hcb:cb=lv 32 b) (hcv:cv=lv 32 v) (ha:a<BB^32) (hb:b<BB^32) (hv:v<BB^32) (hd:v+b=a+c2*BB^32) :
  CB 171 #[.pointer (some ⟨ba,oa,none⟩),.pointer (some ⟨bb,ob,none⟩)] (.agg cv.toArray) w:=by
 have V_ca:=hid hca;have V_cb:=hid hcb;have V_cv:=hid hcv;have HV:=hid (And.intro ha (And.intro hb (And.intro hv hd)));have Aba:=hid h1;have Abb:=hid h2;have lba:=h1.lt;have lbb:=h2.lt;clear hca hcb hcv ha hb hv hd h1 h2;obtain ⟨cz,V_cz⟩:=nvx (lv 32 0);obtain ⟨B0,B1,w0,hw0,hB0,hB1,AB0,AB1,FR,FR0,HB0,hZB0,l01,hZB1⟩:=en2 w 140 140 (zM V_cz) (zM V_cz);rw [qbW] at hw0;go_enter Tryz.func171,Tryz.ntmps171
 go_wp2
 rw [←hw0,←hB1,←hB0];clear hw0 hB0 hB1;replace Aba:=hid (Aba.out.below (by have:=FR.out.below;rwa [HB0.out] at this));replace Abb:=hid (Abb.out.below (by have:=FR.out.below;rwa [HB0.out] at this));rw [←HB0.out] at lba lbb;go_loopg [6,8] 32 (fun g bw iv wr=>∃ (i P c:Nat),i≤32∧32 - i≤g∧c≤1∧P<BB^i∧P+b%BB^i=a%BB^i+c*BB^i∧bw=.int .u32 (c:Int)∧iv=.int .i64 (i:Int)∧At wr ba oa ca∧At wr bb ob cb∧At wr B0 0 cz∧At wr B1 0 (lv 32 P)∧Fr B0 w wr)
 case atStart=>exact ⟨0,0,0,by omega,by omega,by omega,BP 0,by simp [Nat.mod_one],rfl,rfl,Aba.out,Abb.out,AB0.out,by have:=AB1.out;rwa [V_cz.out] at this,FR.out⟩
 case round =>
  obtain ⟨i,P,c,hi,hg,hc,hP,he,rfl,rfl,hA,hB,hR,hO,hF⟩:=hrel;replace Aba:=hid hA;replace Abb:=hid hB;replace AB0:=hid hR;replace FR:=hid hF;obtain ⟨cp,V_cp⟩:=nvx (lv 32 P);have AB1:=hid (show At wr B1 0 cp by rw [V_cp.out];exact hO);have HE:=hid (And.intro hP (And.intro he hc));clear hP he hA hB hR hO hF;by_cases hlt:i<32
  ·obtain ⟨x,hx⟩:=nqx (lim a i);obtain ⟨y,hy⟩:=nqx (lim b i);obtain ⟨d,c',hd,hc',hn⟩:=qnJ (x:=x) (y:=y) (hx ▸ qaI a i) (hy ▸ qaI b i) hc;have HXY:=hid (And.intro hx (And.intro hy (And.intro hd hlt)));have HAD:=hid (fun W=>qmM x y c d c' W (hx ▸ qaI a i) (hy ▸ qaI b i) hc hn hd);have HS:=hid (qpP HE.out.2.1 (by rw [←hx,←hy];exact hn));have HPL:=hid (qhR HE.out.1 hd);have HU:=hid (qeC (d:=d) HE.out.1);have HC:=hid hc';obtain ⟨cq,V_cq⟩:=nvx (lv 32 (upd P i d));clear hx hy hd hc hn hc';go_upto_region 6 with fail
   refine qgN [⟨false,0,27,17,B1,0,22,25,cq,i,[.int .u32 (d:Int)],cp⟩] [(12,.int .i64 (i:Int)),(13,.pointer (some ⟨ba,oa,none⟩)),(14,.int .i64 (i:Int)),(15,.pointer (some ⟨ba,oa,none⟩)),(16,.pointer (some ⟨ba,(oa+i),none⟩)),(17,.int .u32 (x:Int)),(18,.pointer (some ⟨bb,ob,none⟩)),(19,.int .i64 (i:Int)),(20,.pointer (some ⟨bb,ob,none⟩)),(21,.pointer (some ⟨bb,(ob+i),none⟩)),(22,.int .u32 (y:Int)),(23,.int .u32 (c:Int)),(24,.tuple #[.int .u32 (d:Int),.int .u32 (c':Int)]),(11,.tuple #[.int .u32 (d:Int),.int .u32 (c':Int)]),(25,.int .u32 (d:Int)),(26,.int .u32 (c':Int)),(27,.pointer (some ⟨B1,i,none⟩)),(6,.int .u32 (c':Int))] [(6,.int .u32 (c:Int))] _ _ (by simp only [zz4,zz5,zq];rfl) (by simp only [zz4,zz5,zq];rfl) (jiO _ _ rfl (jcN)) (by kernel_rfl) (by kernel_rfl) ?_ ?_ ?_ ?_ ?_ ?_ ?_
   ·intro W' hW';have cl1:=fun p os=>qaB ((Aba.out.below hW').limbO V_ca.out HXY.out.1 hlt) p os
    have cl2:=fun p os=>qaB ((Abb.out.below hW').limbO V_cb.out HXY.out.2.1 hlt) p os
    iterate 11 (refine qgM (by kernel_rfl) ?_ ?_;(go_big_quiet_step (fail);(try simp only [zq]);exact wqn rfl))
    refine jeK (by kernel_rfl) ?_ ?_;(go_big_quiet_step (fail);(try simp only [zq]);exact wqn rfl);refine qgM (by kernel_rfl) ?_ ?_;(go_big_quiet_step ((go_at_call 168;exact qaL (HAD.out _)));(try simp only [zq]);exact wqn rfl);iterate 4 (refine qgM (by kernel_rfl) ?_ ?_;(go_big_quiet_step (fail);(try simp only [zq]);exact wqn rfl))
    refine qhD (by rfl) ?_;refine qgM (by kernel_rfl) ?_ ?_;(go_big_quiet_step (fail);(try simp only [zq]);exact wqn rfl);exact qcO
   ·intro W' hK';iterate 11 (first|(refine qgM (by kernel_rfl) ?_ ?_;(go_big_quiet_step (fail);(try simp only [zq]);exact wqn rfl))|(refine qhD (by kernel_rfl) ?_))
    first|(refine jeK (by kernel_rfl) ?_ ?_;(go_big_quiet_step (fail);(try simp only [zq]);exact wqn rfl))|(refine qhD (by kernel_rfl) ?_)
    refine qhD (by kernel_rfl) ?_;iterate 4 (first|(refine qgM (by kernel_rfl) ?_ ?_;(go_big_quiet_step (fail);(try simp only [zq]);exact wqn rfl))|(refine qhD (by kernel_rfl) ?_))
    refine qhD (by kernel_rfl) ?_
    first|(refine qgM (by kernel_rfl) ?_ ?_;(go_big_quiet_step (fail);(try simp only [zq]);exact wqn rfl))|(refine qhD (by kernel_rfl) ?_)
    exact qcO
   ·exact fP1 (bnc)
   ·exact fP1 (fun _=>⟨AB1.out.lt,rfl,At.roomC AB1.out ((qeG V_cp.out V_cq.out hlt HXY.out.2.2.1))⟩)
   ·exact uno
   ·exact fP1 (qfF rfl rfl Tryz.infoU rfl (by rw [V_cp.out,qlL];omega) (qeG V_cp.out V_cq.out hlt HXY.out.2.2.1))
   intro β wx1 E;replace FR:=ffh FR E (by omega);replace AB0:=afh AB0 E (by omega);replace AB1:=aoh E AB1 mms;replace Aba:=afh Aba E (by omega);replace Abb:=afh Abb E (by omega);simp only [nP,zu];go_wp2
   go_roundg (gk - 1)
   case measure=>omega
   case rel=>exact ⟨i+1,P+d*BB^i,c',by omega,by omega,HC.out,HPL.out,HS.out,rfl,by go_num,Aba.out,Abb.out,AB0.out,by have:=AB1.out;rwa [V_cq.out,HU.out] at this,FR.out⟩
  ·have hi32:i=32:=by omega
   subst hi32
   have hPv:P=v:=by
    obtain ⟨h1,h2,h3,h4⟩:=HV.out;have h5:=HE.out.2.1;rw [Nat.mod_eq_of_lt h1,Nat.mod_eq_of_lt h2] at h5;exact qsW h1 h2 h3 HE.out.1 hc h5 h4
   have HCV:=hid (show cp=cv by rw [V_cp.out,V_cv.out,hPv]);clear hPv;go_upto_region 8 with fail
   refine wF [⟨false,0,4,1,B0,0,140,29,cp,0,cp,[]⟩] [(29,aT cp)] (by simp only [zu];rfl) (by kernel_rfl) ?_ ?_ (fP1 bnC) ?_ uno ?_ ?_
   ·intro W' hW';exact lhG AB1 hW' V_cp rfl<|fxs rfl<|fxn
   ·intro W' hK';have rd0:=akh AB1 hK' (by omega);exact ldG rd0 V_cp rfl<|fxs (by kernel_rfl)<|fxn
   ·exact fP1 (fun _=>rmh AB0 (qG V_cz.out) (qG V_cp.out) rfl)
   ·exact fP1 (sG V_cp (fun _=>rfl) rfl)
   intro β wx1 E;replace FR:=ffh FR E (by omega);replace AB0:=aoh E AB0 mms;simp only [nP,zu];rw [HCV.out] at AB0;go_wp2_with fail
   have hld:=rdG AB0 V_cv;refine bodyPost_ret (v:=.agg cv.toArray) (by simp [results,Tryz.results171,asAddr,hld]) rfl ?_;exact ⟨rfl,qaY HB0 FR⟩
set_option maxHeartbeats 4000000
theorem qvD {c:List Value} {v:Nat} (h:c=lv 32 v) (hv:v<BB^32) {z:Bool} (hz:z=decide (v=0)) (W:World) :
  CB 137 #[.agg c.toArray] (.bool z) W:=by
 subst h;exact qiW v z W hv hz
theorem qyX {c d q r:List Value} {a b:Nat} (hc:c=lv 32 a) (hd:d=lv 32 b) (hq:q=lv 32 (a / b)) (hr:r=lv 32 (a%b)) (ha:a<BB^32) (hb:b<BB^32) (h0:b≠0) (W:World) :
  CB 163 #[.agg c.toArray,.agg d.toArray] (.tuple #[.agg q.toArray,.agg r.toArray]) W:=by
 subst hc hd hq hr;exact qpN a b W ha hb h0
theorem qeX {c d:List Value} {neg n:Bool} {v:Nat} (hc:c=lv 32 v) (hd:d=.bool n::lv 32 v) (hn:n=cs1 neg v) (hv:v<BB^32) (W:World) :
  CB 139 #[.bool neg,.agg c.toArray] (.agg d.toArray) W:=by
 subst hc hd hn;exact qnL neg v W hv
theorem qkY {a b n:Nat} (ha:a<n) (hb:b<n):Nat.gcd a b<n:=by
 by_cases h:a=0
 ·subst h;rw [Nat.gcd_zero_left];exact hb
 ·exact Nat.lt_of_le_of_lt (Nat.gcd_le_left b (Nat.pos_of_ne_zero h)) ha
theorem jhZ (na nb:Bool) (a b:Nat) (w:World) (ha:a<BB^32) (hb:b<BB^32) :
  CB 133 #[iV na a,iV nb b] (iV false (Nat.gcd a b)) w:=by
 obtain ⟨G,hG⟩:=nqx (Nat.gcd a b);rw [←hG];have HGB:=hid (show G<BB^32 by rw [hG];exact qkY ha hb);obtain ⟨ca,V_ca⟩:=nvx (.bool na::lv 32 a);obtain ⟨cb,V_cb⟩:=nvx (.bool nb::lv 32 b);obtain ⟨cg,V_cg⟩:=nvx (.bool false::lv 32 G);obtain ⟨cz,V_cz⟩:=nvx (.bool false::lv 32 0);obtain ⟨ma,V_ma⟩:=nvx (lv 32 a);obtain ⟨mb,V_mb⟩:=nvx (lv 32 b);rw [jdY V_ca.out,jdY V_cb.out,jdY V_cg.out];have HA:=hid (And.intro ha (And.intro hb hG));clear ha hb hG;obtain ⟨B0,hB0⟩:=nqx (w.heap.size);obtain ⟨B1,hB1⟩:=nqx (w.heap.size+1);obtain ⟨B2,hB2⟩:=nqx (w.heap.size+1+1);obtain ⟨w0,hw0⟩:∃ w0,w0=((w.alloc (.cells ca.toArray 25)).alloc (.cells cb.toArray 25)).alloc (.cells zero33 25):=⟨_,rfl⟩;have AB0_1:=hid (show At w0 B0 1 ma by rw [hw0];exact (((At.fresh w ca _ hB0).alloc _).alloc _).mag V_ca.out V_ma.out);have AB1_1:=hid (show At w0 B1 1 mb by rw [hw0];exact ((At.fresh _ cb _ (by simp [hB1])).alloc _).mag V_cb.out V_mb.out);have AB2:=hid (show At w0 B2 0 cz by rw [hw0,V_cz.out];exact At.zero _ _ (by simp [hB2]));have FR:=hid (show Fr B0 w w0 by rw [hw0,hB0];exact (((Fr.start w).alloc _).alloc _).alloc _);have FR0:=hid FR.out.le;have l01:B0<B1:=by omega
 have l12:B1<B2:=by omega
 have hZB2:B0≤B2:=by omega
 unfold zero33 at hw0;go_enter Tryz.func133,Tryz.ntmps133
 go_upto_region 1 with fail
 rw [←hw0,←hB2,←hB1,←hB0];have HB0:=hid hB0;clear hw0 hB1 hB2 hB0;refine wT [⟨true,4,5,6,0,0,23,10,ma,0,ma,[]⟩,⟨true,5,6,7,0,0,23,12,mb,0,mb,[]⟩] [(9,pT B0 1),(10,aT ma),(11,pT B1 1),(12,aT mb)] (by simp only [zu];rfl) (by kernel_rfl) rfl ?_ ?_ ?_ ?_
 ·intro W' hW';refine fxo ?_<|fxl (abl AB0_1 hW') (qbP V_ma.out) Tryz.underlying23 rfl rfl<|fxo ?_<|fxl (abl AB1_1 hW') (qbP V_mb.out) Tryz.underlying23 rfl rfl<|fxs rfl<|fxs rfl<|fxs rfl<|fxs rfl<|fxn;all_goals (go_big_quiet_step (fail);exact wqn rfl)
 ·exact oP _ _ (Tryz.alM (qbP V_ma.out)) (oP _ _ (Tryz.alM (qbP V_mb.out)) (oN))
 ·exact oP _ _ (stw rfl (qbP V_ma.out) (jeD V_ma.out) (fun _=>rfl)) (oP _ _ (stw rfl (qbP V_mb.out) (jeD V_mb.out) (fun _=>rfl)) (oN))
 intro β wx1 E;replace FR:=fnf FR E rfl;obtain ⟨b5,hb5,eb5⟩:=nwb E mms;have lB0_b5:B0<b5:=ltb AB0_1 eb5.1;have lB1_b5:B1<b5:=ltb AB1_1 eb5.1;have lB2_b5:B2<b5:=ltb AB2 eb5.1;have hZb5:B0≤b5:=Nat.le_trans FR0.out eb5.1;obtain ⟨b6,hb6,eb6⟩:=nwb E (List.mem_cons_of_mem _ mms);have lB0_b6:B0<b6:=ltb AB0_1 eb6.1;have lB1_b6:B1<b6:=ltb AB1_1 eb6.1;have lB2_b6:B2<b6:=ltb AB2 eb6.1;have hZb6:B0≤b6:=Nat.le_trans FR0.out eb6.1;have nb5_b6:b5≠b6:=fun e=>absurd (E.apart _ mms _ (List.mem_cons_of_mem _ mms) rfl rfl (by rw [hb5,hb6] at e;exact e)) (show ¬(4:Nat)=5 by decide)
 clear AB0_1;clear AB1_1;replace AB2:=fnh AB2 E rfl;have Ab5:=hid eb5.2;have Ab6:=hid eb6.2;simp only [nP,zu];rw [←hb5];rw [←hb6];replace FR0:=hid FR.out.le;clear E eb5 hb5 eb6 hb6;clear l01;go_wp2
 go_loopg [] b (fun m wr=>∃ vm vn,At wr b5 0 (lv 32 vm)∧At wr b6 0 (lv 32 vn)∧At wr B2 0 cz∧Fr B0 w wr∧vm<BB^32∧vn<BB^32∧G=Nat.gcd vm vn∧vn≤m)
 case atStart=>exact ⟨a,b,by have:=Ab5.out;rwa [V_ma.out] at this,by have:=Ab6.out;rwa [V_mb.out] at this,AB2.out,FR.out,HA.out.1,HA.out.2.1,HA.out.2.2,Nat.le_refl _⟩
 case round =>
  obtain ⟨vm,vn,h5,h6,h2,hf,hm,hn,hg,hle⟩:=hrel;obtain ⟨cm,V_cm⟩:=nvx (lv 32 vm);obtain ⟨cn,V_cn⟩:=nvx (lv 32 vn);replace Ab5:=hid (show At wr b5 0 cm by rw [V_cm.out];exact h5);replace Ab6:=hid (show At wr b6 0 cn by rw [V_cn.out];exact h6);replace AB2:=hid h2;replace FR:=hid hf;replace FR0:=hid FR.out.le;have HV:=hid (And.intro hm (And.intro hn hg));clear h5 h6 h2 hf hm hn hg;by_cases h0:vn=0
  ·have HE:=hid (show cm=lv 32 G by rw [HV.out.2.2,h0,Nat.gcd_zero_right];exact V_cm.out);have HZ:=hid (qvD V_cn.out HV.out.2.1 (z:=true) (by simp [h0]));clear h0 hle;go_upto_region 2 with fail
   refine wE [(13,aT cn),(14,bT),(15,bF)] (by simp only [zu];rfl) (by kernel_rfl) ?_ ?_
   ·intro W' hW';refine fxl (abl Ab6 hW') (qbP V_cn.out) Tryz.underlying23 rfl rfl<|fo2 ?_ ?_<|fxn;all_goals (go_big_quiet_step (exact qaA (HZ.out _));exact wqn rfl)
   intro β wx2 E;replace FR:=fnf FR E rfl;replace AB2:=fnh AB2 E rfl;replace Ab5:=fnh Ab5 E rfl;simp only [nP,zu];go_upto_region 5 with fail
   refine wF [⟨false,0,4,2,B2,0,25,25,cg,0,cg,[]⟩] [(24,aT cm),(25,aT cg)] (by simp only [zu];rfl) (by kernel_rfl) ?_ ?_ (fP1 bnC) ?_ uno ?_ ?_
   ·intro W' hW';refine fxl (abl Ab5 hW') (qbP V_cm.out) Tryz.underlying23 rfl rfl<|fxo ?_<|fxs rfl<|fxn
    go_big_quiet_step (exact qaA (qeX HE.out V_cg.out rfl HGB.out _));exact wqn rfl
   ·intro W' hK';have rd0:=akh Ab5 hK' (by omega);exact fxl rd0 (qbP V_cm.out) Tryz.underlying23 rfl rfl<|fxs (by kernel_rfl)<|fxs (by kernel_rfl)<|fxn
   ·exact fP1 (fun _=>rmh AB2 (qI V_cz.out) (qI V_cg.out) rfl)
   ·exact fP1 (sI V_cg (fun _=>rfl) rfl)
   intro β wx3 E;replace FR:=ffh FR E (by omega);replace AB2:=aoh E AB2 mms;simp only [nP,zu];go_wp2_with fail
   have hld:=rdI AB2 V_cg;refine bodyPost_ret (v:=.agg cg.toArray) (by simp [results,Tryz.results133,asAddr,hld]) rfl ?_;exact ⟨rfl,qaY HB0 FR⟩
  ·have HZ:=hid (qvD V_cn.out HV.out.2.1 (z:=false) (by simp [h0]));have H0:=hid h0;clear h0;obtain ⟨cq,V_cq⟩:=nvx (lv 32 (vm / vn));obtain ⟨cr,V_cr⟩:=nvx (lv 32 (vm%vn));go_upto_region 2 with fail
   refine wE [(13,aT cn),(14,bF),(15,bT)] (by simp only [zu];rfl) (by kernel_rfl) ?_ ?_
   ·intro W' hW';refine fxl (abl Ab6 hW') (qbP V_cn.out) Tryz.underlying23 rfl rfl<|fo2 ?_ ?_<|fxn;all_goals (go_big_quiet_step (exact qaA (HZ.out _));exact wqn rfl)
   intro β wx2 E;replace FR:=fnf FR E rfl;replace AB2:=fnh AB2 E rfl;replace Ab5:=fnh Ab5 E rfl;replace Ab6:=fnh Ab6 E rfl;simp only [nP,zu];replace FR0:=hid FR.out.le;go_upto_region 3 with fail
   refine wT [⟨true,6,7,8,0,0,23,20,cq,0,cq,[]⟩,⟨true,7,8,9,0,0,23,21,cr,0,cr,[]⟩] [(17,aT cm),(18,aT cn),(19,.tuple #[aT cq,aT cr]),(16,.tuple #[aT cq,aT cr]),(20,aT cq),(21,aT cr)] (by simp only [zu];rfl) (by kernel_rfl) rfl ?_ ?_ ?_ ?_
   ·intro W' hW';refine fxl (abl Ab5 hW') (qbP V_cm.out) Tryz.underlying23 rfl rfl<|fxl (abl Ab6 hW') (qbP V_cn.out) Tryz.underlying23 rfl rfl<|fo4 ?_ ?_ ?_ ?_<|fxs rfl<|fxs rfl<|fxs rfl<|fxs rfl<|fxn;all_goals (go_big_quiet_step (exact qaA (qyX V_cm.out V_cn.out V_cq.out V_cr.out HV.out.1 HV.out.2.1 H0.out _));exact wqn rfl)
   ·exact oP _ _ (Tryz.alM (qbP V_cq.out)) (oP _ _ (Tryz.alM (qbP V_cr.out)) (oN))
   ·exact oP _ _ (stw rfl (qbP V_cq.out) (jeD V_cq.out) (fun _=>rfl)) (oP _ _ (stw rfl (qbP V_cr.out) (jeD V_cr.out) (fun _=>rfl)) (oN))
   intro β wx3 E;replace FR:=fnf FR E rfl;obtain ⟨b7,hb7,eb7⟩:=nwb E mms;have lB2_b7:B2<b7:=ltb AB2 eb7.1;have lb5_b7:b5<b7:=ltb Ab5 eb7.1;have lb6_b7:b6<b7:=ltb Ab6 eb7.1;have hZb7:B0≤b7:=Nat.le_trans FR0.out eb7.1;obtain ⟨b8,hb8,eb8⟩:=nwb E (List.mem_cons_of_mem _ mms);have lB2_b8:B2<b8:=ltb AB2 eb8.1;have lb5_b8:b5<b8:=ltb Ab5 eb8.1;have lb6_b8:b6<b8:=ltb Ab6 eb8.1;have hZb8:B0≤b8:=Nat.le_trans FR0.out eb8.1;have nb7_b8:b7≠b8:=fun e=>absurd (E.apart _ mms _ (List.mem_cons_of_mem _ mms) rfl rfl (by rw [hb7,hb8] at e;exact e)) (show ¬(6:Nat)=7 by decide)
   replace AB2:=fnh AB2 E rfl;replace Ab5:=fnh Ab5 E rfl;replace Ab6:=fnh Ab6 E rfl;have Ab8:=hid eb8.2;simp only [nP,zu];rw [←hb7];rw [←hb8];clear E eb7 hb7 eb8 hb8;go_upto_region 4 with fail
   refine wF [⟨false,0,5,2,b5,0,23,22,cn,0,cn,[]⟩,⟨false,0,6,3,b6,0,23,23,cr,0,cr,[]⟩] [(22,aT cn),(23,aT cr)] (by simp only [zu];rfl) (by kernel_rfl) ?_ ?_ (oP _ _ bnC (fP1 bnC)) ?_ ?_ ?_ ?_
   ·intro W' hW';exact fxl (abl Ab6 hW') (qbP V_cn.out) Tryz.underlying23 rfl rfl<|fxl (abl Ab8 hW') (qbP V_cr.out) Tryz.underlying23 rfl rfl<|fxs rfl<|fxs rfl<|fxn
   ·intro W' hK';have rd1:=At.keep hK' Ab8.out (oP _ _ (fun _=>(by show b5≠b8;omega)) (oP _ _ (fun _=>(by show b6≠b8;omega)) (oN)));exact fxs (by kernel_rfl)<|fxl rd1 (qbP V_cr.out) Tryz.underlying23 rfl rfl<|fxs (by kernel_rfl)<|fxs (by kernel_rfl)<|fxn
   ·exact oP _ _ (fun _=>rmh Ab5 (qbP V_cm.out) (qbP V_cn.out) rfl) (oP _ _ (fun _=>rmh Ab6 (qbP V_cn.out) (qbP V_cr.out) rfl) (oN))
   ·intro q hq r hr hqn hrn e;simp only [List.mem_cons,List.not_mem_nil,or_false] at hq hr;rcases hq with rfl|rfl<;>rcases hr with rfl|rfl<;>first|rfl|(exact Bool.noConfusion hqn)|(exact Bool.noConfusion hrn)|(exfalso;simp only at e;omega)
   ·exact oP _ _ (stw rfl (qbP V_cn.out) (jeD V_cn.out) (fun _=>rfl)) (oP _ _ (stw rfl (qbP V_cr.out) (jeD V_cr.out) (fun _=>rfl)) (oN))
   intro β wx4 E;replace FR:=hid (FR.out.flow E (oP _ _ (fun _=>(by show B0≤b5;omega)) (oP _ _ (fun _=>(by show B0≤b6;omega)) (oN))));replace AB2:=hid (At.flow E AB2.out (oP _ _ (fun _=>(by show b5≠B2;omega)) (oP _ _ (fun _=>(by show b6≠B2;omega)) (oN))));replace Ab5:=aoh E Ab5 mms;replace Ab6:=aoh E Ab6 (List.mem_cons_of_mem _ mms);simp only [nP,zu];go_wp2_with fail
   go_roundg (gk - 1)
   case measure=>have:=H0.out;omega
   case rel =>
    have hlt:vm%vn<vn:=Nat.mod_lt _ (Nat.pos_of_ne_zero H0.out);exact ⟨vn,vm%vn,by have:=Ab5.out;rwa [V_cn.out] at this,by have:=Ab6.out;rwa [V_cr.out] at this,AB2.out,FR.out,HV.out.2.1,Nat.lt_trans hlt HV.out.2.1,by rw [HV.out.2.2,Nat.gcd_comm,Nat.gcd_rec vn vm,Nat.gcd_comm],by omega⟩
set_option maxHeartbeats 8000000
theorem jdQ (w:World) (na nb:Bool) (a b:Nat) (t:TypeId):∃ w0:World,w0=(((w.alloc (.cells (Value.bool na::lv 32 a).toArray t)).alloc (.cells (Value.bool nb::lv 32 b).toArray t)).alloc (.cells (Value.bool false::lv 32 0).toArray t)).alloc (.cells (Value.bool false::lv 32 0).toArray t) ∧
  Below w.heap.size w w0∧w0.heap.size=w.heap.size+1+1+1+1∧w0.cell? ⟨w.heap.size,0,none⟩=some (.bool na)∧MagAt w0 w.heap.size 1 32 a∧w0.cell? ⟨w.heap.size+1,0,none⟩=some (.bool nb)∧MagAt w0 (w.heap.size+1) 1 32 b ∧
  w0.there (w.heap.size+1+1) 0 33∧w0.there (w.heap.size+1+1+1) 0 33:=by
 obtain ⟨w1,h1,hb1,hs1,hc1,hA⟩:=qhZ w na a t;obtain ⟨w2,h2,hb2,hs2,hc2,hB⟩:=qhZ w1 nb b t;obtain ⟨w3,h3⟩:=nqx (w2.alloc (.cells (Value.bool false::lv 32 0).toArray t));have hs3:w3.heap.size=w2.heap.size+1:=by rw [h3];simp
 have hb3:Below w2.heap.size w2 w3:=by rw [h3];exact (Below.refl _ _).alloc (Nat.le_refl _) _
 have hb4:Below w3.heap.size w3 (w3.alloc (.cells (Value.bool false::lv 32 0).toArray t)):=(Below.refl _ _).alloc (Nat.le_refl _) _;have t3:w3.there w2.heap.size 0 33:=by rw [h3];exact qjB w2 t
 have t4:=qjB w3 t;have t3':=qaX t3 hb4 (by omega);rw [hs3] at t4;rw [hs2,hs1] at t4 t3';have hb24:=hb3.trans (hb4.mono hb3.size);have hb14:=hb2.trans (hb24.mono hb2.size);refine ⟨_,rfl,?_,?_,?_,?_,?_,?_,?_,?_⟩;all_goals rw [←h1,←h2,←h3]
 ·exact hb1.trans (hb14.mono hb1.size)
 ·rw [World.size_alloc,hs3,hs2,hs1]
 ·exact qcU hc1 hb14
 ·exact hA.up hb14
 ·rw [←hs1];exact qcU hc2 hb24
 ·rw [←hs1];exact hB.up hb24
 ·exact t3'
 ·exact t4
theorem quI:lv 32 1=[.int .u32 1,.int .u32 0,.int .u32 0,.int .u32 0,.int .u32 0,.int .u32 0,.int .u32 0,.int .u32 0,.int .u32 0,.int .u32 0,.int .u32 0,.int .u32 0,.int .u32 0,.int .u32 0,.int .u32 0,.int .u32 0,.int .u32 0,.int .u32 0,.int .u32 0,.int .u32 0,.int .u32 0,.int .u32 0,.int .u32 0,.int .u32 0,.int .u32 0,.int .u32 0,.int .u32 0,.int .u32 0,.int .u32 0,.int .u32 0,.int .u32 0,.int .u32 0]:=by
 have h0:lim 1 0=1:=by unfold lim BB;decide
 have h1:lim 1 1=0:=by unfold lim BB;decide
 rw [qoY (v:=1) (qnY (by omega)),h0,h1];rfl
theorem qyW (na nb:Bool) (a b:Nat) (m n:Nat) (w:World) (ha:a<BB^32) (hb:b<BB^32) (h0:b≠0)
  (hm:m=if na=true∧a%b≠0 then a / b+1 else a / b) (hn:n=if na=true∧a%b≠0 then b - a%b else a%b) :
  CB 134 #[iV na a,iV nb b] (.tuple #[iV (cs1 (na != nb) m) m,iV false n,.int .i64 0]) w:=by
 obtain ⟨q,hq⟩:=nqx (a / b);obtain ⟨r,hr⟩:=nqx (a%b);have hqb:q<BB^32:=by rw [hq];exact Nat.lt_of_le_of_lt (Nat.div_le_self _ _) ha
 have hrb:r<b:=by rw [hr];exact Nat.mod_lt _ (by omega)
 have hrb2:r<BB^32:=Nat.lt_trans hrb hb;rw [←hr] at hm hn;rw [←hq] at hm
 have hq1:r≠0→q+1<BB^32:=by
  intro h;have h2:2≤b:=by omega
  have h3:q≤a / 2:=by rw [hq];exact Nat.div_le_div_left h2 (by omega)
  have h4:r≤a:=by rw [hr];exact Nat.mod_le _ _
  omega
 have hmb:m<BB^32:=by
  rw [hm];split
  ·rename_i h;exact hq1 h.2
  ·exact hqb
 have hnb:n<BB^32:=by rw [hn];split<;>omega
 obtain ⟨w0,hw0,hb0,hs0,hc0,hA,hc1,hB,hT4,hT5⟩:=jdQ w na nb a b 25;obtain ⟨zb,hzb⟩:=nqx (decide (b=0));obtain rfl:zb=false:=by rw [hzb];exact decide_eq_false h0
 have HZB:=hid (fun W=>qiW b false W hb hzb);have HDV:=hid (fun W=>qpN a b W ha hb h0);rw [←hq,←hr] at HDV;have HCM:=hid (fun W=>qnL (na != nb) m W hmb);have HCN:=hid (fun W=>qpT n W hnb);have HW:=hid hb0;rw [qbX] at hw0;unfold mV at HZB HDV HCM HCN;obtain ⟨ca,hca⟩:=nqx (lv 32 a);obtain ⟨cb,hcb⟩:=nqx (lv 32 b);obtain ⟨cq,hcq⟩:=nqx (lv 32 q);obtain ⟨cr,hcr⟩:=nqx (lv 32 r);rw [←hcb] at HZB;rw [←hca,←hcb,←hcq,←hcr] at HDV;have HRA:=hid (show w0.rangeAt w.heap.size 1 ca by rw [hca];exact hA);have HRB:=hid (show w0.rangeAt (w.heap.size+1) 1 cb by rw [hcb];exact hB);have HT4:=hid hT4;have HT5:=hid hT5;have sa:(Tryz.prog.info? 23).map (·.size)=some ca.length:=by rw [hca];exact qbS a
 have sb:(Tryz.prog.info? 23).map (·.size)=some cb.length:=by rw [hcb];exact qbS b
 have SAB:=hid (And.intro sa sb);have HCC:=hid (And.intro hca (And.intro hcb (And.intro hcq hcr)));have HMN:=hid (And.intro hm (And.intro hn (And.intro hmb hnb)));have HQR:=hid (And.intro hqb (And.intro hrb (And.intro hrb2 (And.intro hq1 hb))));have HU:=hid Tryz.underlying23;unfold iV;obtain ⟨va,hva⟩:∃ va,va=(Value.bool na::lv 32 a).toArray:=⟨_,rfl⟩;obtain ⟨vb,hvb⟩:∃ vb,vb=(Value.bool nb::lv 32 b).toArray:=⟨_,rfl⟩;rw [←hva,←hvb] at hw0 ⊢;obtain ⟨rm,hrm⟩:=nqx (Value.bool (cs1 (na != nb) m)::lv 32 m);obtain ⟨rn,hrn⟩:=nqx (Value.bool false::lv 32 n);unfold iV at HCM HCN;rw [←hrm] at HCM ⊢;rw [←hrn] at HCN ⊢;have HRMN:=hid (And.intro hrm hrn);clear hq hr hqb hrb hrb2 hm hn hq1 hmb hnb hb0 hA hB hT4 hT5 hzb hca hcb hcq hcr sa sb hva hvb hrm hrn ha hb h0;go_enter Tryz.func134,Tryz.ntmps134
 go_upto_region 1 with fail
 rw [←hw0];obtain ⟨B0,hB0⟩:=nqx (w.heap.size);have HBE:=hid hB0;rw [←hB0] at HRA HRB HT4 HT5 hs0 hc0 hc1 ⊢;clear hw0 hB0
 go_wp2_with (first
  | (refine wpList_load_mid rfl _ _ rfl (B0+1) 1 rfl cb _ HRB.out HU.out rfl SAB.out.2 ?_))
 refine (HZB.out _).mono ?_;rintro e w1 ⟨rfl,hb1⟩;have HRA1:=hid (qaO HRA.out hb1);have HRB1:=hid (qaO HRB.out hb1);have HB1:=hid hb1;clear hb1;go_upto_region 3 with fail
 go_wp2_with (first
  | (refine wpList_load_mid rfl _ _ rfl (B0+1) 1 rfl cb _ HRB1.out HU.out rfl SAB.out.2 ?_)
  | (refine wpList_load_mid rfl _ _ rfl B0 1 rfl ca _ HRA1.out HU.out rfl SAB.out.1 ?_))
 refine (HDV.out _).mono ?_;rintro e w2 ⟨rfl,hb2⟩;obtain ⟨B7,hB7⟩:=nqx (w2.heap.size);have hb02:=HB1.out.trans (hb2.mono HB1.out.size);have hB7b:B0+1+1+1+1≤B7:=by have:=hb02.size;omega
 obtain ⟨w4,hw4⟩:∃ w4,w4=(w2.alloc (.cells (lv 32 0).toArray 23)).alloc (.cells (lv 32 0).toArray 23):=⟨_,rfl⟩;have hO7:qMO w4 B7 0 32 0:=by rw [hw4,hB7];exact (qMO.new w2 32 0 _).up ((Below.refl _ _).alloc (Nat.le_refl _) _) (by simp)
 have hO8:qMO w4 (B7+1) 0 32 0:=by
  rw [hw4,hB7]
  have:=qMO.new (w2.alloc (.cells (lv 32 0).toArray 23)) 32 0 23
  rwa [World.size_alloc] at this
 have hb24:Below B7 w2 w4:=by rw [hw4,hB7];exact ((Below.refl _ _).alloc (Nat.le_refl _) _).alloc (by simp) _
 have hs4:w4.heap.size=B7+1+1:=by rw [hw4,hB7];simp
 rw [qbW] at hw4;have HW4:=hid hw4;have lcq:cq.length=32:=by rw [HCC.out.2.2.1,qlL]
 have lcr:cr.length=32:=by rw [HCC.out.2.2.2,qlL]
 have HSQ:=hid (show (Tryz.prog.info? 23).map (·.size)=some cq.toArray.size by rw [List.size_toArray,lcq];exact Tryz.infoM);have HSR:=hid (show (Tryz.prog.info? 23).map (·.size)=some cr.toArray.size by rw [List.size_toArray,lcr];exact Tryz.infoM);have HKQ:=hid (show cq.toArray.all (·.oneCell')=true by rw [HCC.out.2.2.1];exact all_oneCell_toArray (qcM 32 q));have HKR:=hid (show cr.toArray.all (·.oneCell')=true by rw [HCC.out.2.2.2];exact all_oneCell_toArray (qcM 32 r));have HTQ:=hid (show w4.there B7 0 cq.toArray.size by rw [List.size_toArray,lcq];exact hO7.there);have HTR:=hid (show (w4.setCells B7 0 cq).there (B7+1) 0 cr.toArray.size by rw [List.size_toArray,lcr];exact qbI hO8.there _ _ (by omega));obtain ⟨w5,hw5⟩:∃ w5,w5=(w4.setCells B7 0 cq).setCells (B7+1) 0 cr:=⟨_,rfl⟩;have hO7':qMO w5 B7 0 32 q:=by rw [hw5,HCC.out.2.2.1];exact qeR (qcS hO7) _ _ (by omega)
 have hO8':qMO w5 (B7+1) 0 32 r:=by rw [hw5,HCC.out.2.2.2];exact qcS (qeR hO8 _ _ (by omega))
 have hb25:Below B7 w2 w5:=by rw [hw5];exact qaC (by omega) _ _ _ (qaC (Nat.le_refl _) _ _ _ hb24)
 have hs5:w5.heap.size=B7+1+1:=by rw [hw5,qaW,qaW,hs4]
 have hb05:Below w0.heap.size w0 w5:=hb02.trans (hb25.mono (by have:=hb02.size;omega));have HRB5:=hid (qaO HRB.out hb05);have HT45:=hid (qaX HT4.out hb05 (by omega));have HT55:=hid (qaX HT5.out hb05 (by omega));have hd0:=qcU hc0 hb05;have hd1:=qcU hc1 hb05;have HO7:=hid hO7';have HO8:=hid hO8';have HW5:=hid (HW.out.trans (hb05.mono HW.out.size));have HW5E:=hid hw5;have HB7E:=hid hB7;clear hb2 hb02 hO7 hO8 hO7' hO8' hb24 hs4 hw4 hw5 hb25 hb05 lcq lcr hc0 hc1 HRA HRB HT4 HT5 HRA1 HRB1 HB1 hB7
 go_upto_region 4 with (first
  | (refine wpList_store_mid rfl _ _ _ rfl w2.heap.size 0 _ rfl rfl (by rw [←HW4.out,←HB7E.out];exact HTQ.out) HSQ.out HKQ.out ?_)
  | (refine wpList_store_mid rfl _ _ _ rfl (w2.heap.size+1) 0 _ rfl rfl (by rw [←HW4.out,←HB7E.out];exact HTR.out) HSR.out HKR.out ?_))
 try simp only [Act.put,List.setIfInBounds_toArray,List.set_cons_zero,List.set_cons_succ]
 try simp only [List.toList_toArray]
 rw [←HW4.out,←HB7E.out,←HW5E.out];obtain ⟨cm,hcm⟩:=nqx (lv 32 m);obtain ⟨cn,hcn⟩:=nqx (lv 32 n);rw [←hcm] at HCM;rw [←hcn] at HCN
 have HCX:=hid (fun W (x:Bool) (cs rs:List Value) (h:(x=(na != nb)∧cs=cm∧rs=rm)∨(x=false∧cs=cn∧rs=rn))=>show CB 139 #[.bool x,.agg cs.toArray] (.agg rs.toArray) W by
  rcases h with ⟨h1,h2,h3⟩|⟨h1,h2,h3⟩
  ·rw [h1,h2,h3];exact HCM.out W
  ·rw [h1,h2,h3];exact HCN.out W)
 have sm:(Tryz.prog.info? 23).map (·.size)=some cm.length:=by rw [hcm];exact qbS m
 have sn:(Tryz.prog.info? 23).map (·.size)=some cn.length:=by rw [hcn];exact qbS n
 have lrm:rm.length=33:=by rw [HRMN.out.1,List.length_cons,qlL]
 have lrn:rn.length=33:=by rw [HRMN.out.2,List.length_cons,qlL]
 have krm:rm.toArray.all (·.oneCell')=true:=by rw [HRMN.out.1];exact all_oneCell_toArray (qfJ _ m)
 have krn:rn.toArray.all (·.oneCell')=true:=by rw [HRMN.out.2];exact all_oneCell_toArray (qfJ _ n)
 have u49:=HU.out;have HCMN:=hid (And.intro hcm hcn);clear hcm hcn
 cases na with
 | false =>
  have hm:m=q:=by rw [HMN.out.1];simp
  have hn:n=r:=by rw [HMN.out.2.1];simp
  have HM:=hid (show w5.rangeAt B7 0 cm by rw [HCMN.out.1,hm];exact HO7.out.1);have HN:=hid (show w5.rangeAt (B7+1) 0 cn by rw [HCMN.out.2,hn];exact HO8.out.1);clear hm hn;go_upto_region 9 with fail
  try simp only [Act.put,List.setIfInBounds_toArray,List.set_cons_zero,List.set_cons_succ]
  have cmr:w5.rangeAt B7 0 cm:=HM.out;have cnr:w5.rangeAt (B7+1) 0 cn:=HN.out;have e0:=fun p os=>qaB hd0 p os
  have e1:=fun p os=>qaB hd1 p os
  refine qbO 9 (by kernel_rfl) (by kernel_rfl) ?_;simp only [List.take_succ_cons,List.take_zero,List.drop_succ_cons,List.drop_zero]
  repeat (first
   | (refine qaK rfl _ _ rfl B7 0 rfl cm _ cmr u49 rfl sm ?_;try simp only [Act.put,List.setIfInBounds_toArray,List.set_cons_zero,List.set_cons_succ])
   | (refine qaK rfl _ _ rfl (B7+1) 0 rfl cn _ cnr u49 rfl sn ?_;try simp only [Act.put,List.setIfInBounds_toArray,List.set_cons_zero,List.set_cons_succ])
   | go_big_quiet_step ((go_at_call 139;exact qaA (HCX.out _ _ _ _ (by first|exact .inl ⟨by first|rfl|(cases nb<;>rfl),rfl,rfl⟩|exact .inr ⟨rfl,rfl,rfl⟩)))))
  refine wpQuiet_nil ?_;intro w' hw';obtain ⟨p,rfl⟩:=hw';have hbg:=qbG w5 p.d p.os;obtain ⟨wx,hwx⟩:=nqx (gw w5 p.d p.os);rw [←hwx] at hbg ⊢;have t4:=qaX HT45.out hbg (by omega);have t5:=qaX HT55.out hbg (by omega);have HWX:=hid ((HW5.out).trans (hbg.mono (HW5.out).size));clear hbg hwx e0 e1 cmr cnr;refine wpList_store_mid rfl _ _ _ rfl (B0+1+1) 0 _ rfl rfl (by rw [List.size_toArray,lrm];exact t4) (by rw [List.size_toArray,lrm];exact Tryz.infoI) krm ?_;simp only [Act.put,List.setIfInBounds_toArray,List.set_cons_zero,List.set_cons_succ];have t5':(wx.setCells (B0+1+1) 0 rm).there (B0+1+1+1) 0 33:=qbI t5 rm 0 (by omega);refine wpList_store_mid rfl _ _ _ rfl (B0+1+1+1) 0 _ rfl rfl (by rw [List.size_toArray,lrn];exact t5') (by rw [List.size_toArray,lrn];exact Tryz.infoI) krn ?_;simp only [Act.put,List.setIfInBounds_toArray,List.set_cons_zero,List.set_cons_succ];have hle2:w.heap.size≤B0+1+1:=by rw [←HBE.out];omega
  have hle3:w.heap.size≤B0+1+1+1:=by omega
  have HWE:=hid (qaC hle3 rn 0 _ (qaC hle2 rm 0 _ HWX.out));have g1:=World.rangeAt_setCells_same wx (B0+1+1) 0 rm (by rw [lrm];exact t4);have g2:=qaN g1 rn (B0+1+1+1) 0 (by omega);have g3:=World.rangeAt_setCells_same (wx.setCells (B0+1+1) 0 rm) (B0+1+1+1) 0 rn (by rw [lrn];exact t5')
  try simp only [List.toList_toArray]
  go_wp2_with fail
  have hld1:=run_loadVar_mid (P:=Tryz.prog) _ _ _ _ _ _ g2 Tryz.underlying25 rfl (by rw [lrm];exact Tryz.infoI);have hld2:=run_loadVar_mid (P:=Tryz.prog) _ _ _ _ _ _ g3 Tryz.underlying25 rfl (by rw [lrn];exact Tryz.infoI);refine bodyPost_ret (v:=.tuple #[.agg rm.toArray,.agg rn.toArray,.int .i64 0]) (by simp [results,Tryz.results134,asAddr,hld1,hld2]) rfl ?_;exact ⟨rfl,HWE.out⟩
 | true =>
  obtain ⟨z,hz⟩:=nqx (decide (r=0));have HZR:=hid (fun W=>qiW r z W HQR.out.2.2.1 hz);unfold mV at HZR;rw [←HCC.out.2.2.2] at HZR;have HLR:=hid (show w5.rangeAt (B7+1) 0 cr by rw [HCC.out.2.2.2];exact HO8.out.1);have HSR2:=hid (show (Tryz.prog.info? 23).map (·.size)=some cr.length by rw [HCC.out.2.2.2];exact qbS r);have HZZ:=hid hz;clear hz;go_wp2_with (refine qbL (by rfl) _ _ rfl (B7+1) 0 rfl cr _ HLR.out u49 rfl HSR2.out ?_)
  refine (HZR.out _).mono ?_;rintro e w6 ⟨rfl,hb6⟩;have hs6:B7+1+1≤w6.heap.size:=by have:=hb6.size;omega
  have HT46:=hid (qaX HT45.out hb6 (by omega));have HT56:=hid (qaX HT55.out hb6 (by omega));have hd06:=qcU hd0 hb6;have hd16:=qcU hd1 hb6;have HO76:=hid (HO7.out.up hb6 (by omega));have HO86:=hid (HO8.out.up hb6 (by omega));have HRB6:=hid (qaO HRB5.out hb6);have HW6:=hid (HW5.out.trans (hb6.mono HW5.out.size));clear hb6 hd0 hd1
  cases z with
  | true =>
   have hr0:r=0:=of_decide_eq_true HZZ.out.symm;have hm:m=q:=by rw [HMN.out.1,if_neg (by simp [hr0])]
   have hn:n=r:=by rw [HMN.out.2.1,if_neg (by simp [hr0])]
   have HM:=hid (show w6.rangeAt B7 0 cm by rw [HCMN.out.1,hm];exact HO76.out.1);have HN:=hid (show w6.rangeAt (B7+1) 0 cn by rw [HCMN.out.2,hn];exact HO86.out.1);clear hm hn hr0;go_upto_region 9 with fail
   try simp only [Act.put,List.setIfInBounds_toArray,List.set_cons_zero,List.set_cons_succ]
   have cmr:w6.rangeAt B7 0 cm:=HM.out;have cnr:w6.rangeAt (B7+1) 0 cn:=HN.out;have e0:=fun p os=>qaB hd06 p os
   have e1:=fun p os=>qaB hd16 p os
   refine qbO 9 (by kernel_rfl) (by kernel_rfl) ?_;simp only [List.take_succ_cons,List.take_zero,List.drop_succ_cons,List.drop_zero]
   repeat (first
    | (refine qaK rfl _ _ rfl B7 0 rfl cm _ cmr u49 rfl sm ?_;try simp only [Act.put,List.setIfInBounds_toArray,List.set_cons_zero,List.set_cons_succ])
    | (refine qaK rfl _ _ rfl (B7+1) 0 rfl cn _ cnr u49 rfl sn ?_;try simp only [Act.put,List.setIfInBounds_toArray,List.set_cons_zero,List.set_cons_succ])
    | go_big_quiet_step ((go_at_call 139;exact qaA (HCX.out _ _ _ _ (by first|exact .inl ⟨by first|rfl|(cases nb<;>rfl),rfl,rfl⟩|exact .inr ⟨rfl,rfl,rfl⟩)))))
   refine wpQuiet_nil ?_;intro w' hw';obtain ⟨p,rfl⟩:=hw';have hbg:=qbG w6 p.d p.os;obtain ⟨wx,hwx⟩:=nqx (gw w6 p.d p.os);rw [←hwx] at hbg ⊢;have t4:=qaX HT46.out hbg (by omega);have t5:=qaX HT56.out hbg (by omega);have HWX:=hid ((HW6.out).trans (hbg.mono (HW6.out).size));clear hbg hwx e0 e1 cmr cnr;refine wpList_store_mid rfl _ _ _ rfl (B0+1+1) 0 _ rfl rfl (by rw [List.size_toArray,lrm];exact t4) (by rw [List.size_toArray,lrm];exact Tryz.infoI) krm ?_;simp only [Act.put,List.setIfInBounds_toArray,List.set_cons_zero,List.set_cons_succ];have t5':(wx.setCells (B0+1+1) 0 rm).there (B0+1+1+1) 0 33:=qbI t5 rm 0 (by omega);refine wpList_store_mid rfl _ _ _ rfl (B0+1+1+1) 0 _ rfl rfl (by rw [List.size_toArray,lrn];exact t5') (by rw [List.size_toArray,lrn];exact Tryz.infoI) krn ?_;simp only [Act.put,List.setIfInBounds_toArray,List.set_cons_zero,List.set_cons_succ];have hle2:w.heap.size≤B0+1+1:=by rw [←HBE.out];omega
   have hle3:w.heap.size≤B0+1+1+1:=by omega
   have HWE:=hid (qaC hle3 rn 0 _ (qaC hle2 rm 0 _ HWX.out));have g1:=World.rangeAt_setCells_same wx (B0+1+1) 0 rm (by rw [lrm];exact t4);have g2:=qaN g1 rn (B0+1+1+1) 0 (by omega);have g3:=World.rangeAt_setCells_same (wx.setCells (B0+1+1) 0 rm) (B0+1+1+1) 0 rn (by rw [lrn];exact t5')
   try simp only [List.toList_toArray]
   go_wp2_with fail
   have hld1:=run_loadVar_mid (P:=Tryz.prog) _ _ _ _ _ _ g2 Tryz.underlying25 rfl (by rw [lrm];exact Tryz.infoI);have hld2:=run_loadVar_mid (P:=Tryz.prog) _ _ _ _ _ _ g3 Tryz.underlying25 rfl (by rw [lrn];exact Tryz.infoI);refine bodyPost_ret (v:=.tuple #[.agg rm.toArray,.agg rn.toArray,.int .i64 0]) (by simp [results,Tryz.results134,asAddr,hld1,hld2]) rfl ?_;exact ⟨rfl,HWE.out⟩
  | false =>
   have hr0:r≠0:=of_decide_eq_false HZZ.out.symm;have hm:m=q+1:=by rw [HMN.out.1,if_pos (by simp [hr0])]
   have hn:n=b - r:=by rw [HMN.out.2.1,if_pos (by simp [hr0])]
   have HDF:=hid (fun W=>qeW b r n W HQR.out.2.2.2.2 HQR.out.2.2.1 HMN.out.2.2.2 ⟨0,by have:=HQR.out.2.1;omega⟩);have HSM:=hid (fun W=>jeA q 1 m 0 W HQR.out.1 (Nat.one_lt_pow (by omega) (by unfold BB;omega)) HMN.out.2.2.1 (by omega));unfold mV at HDF HSM;rw [←HCC.out.2.1,←HCC.out.2.2.2,←HCMN.out.2] at HDF;obtain ⟨c1,hc1⟩:=nqx (lv 32 1);rw [←HCC.out.2.2.1,←hc1,←HCMN.out.1] at HSM;have HC1:=hid hc1;have HLR6:=hid (show w6.rangeAt (B7+1) 0 cr by rw [HCC.out.2.2.2];exact HO86.out.1);clear hm hn hr0 hc1
   go_wp2_with (first
    | (refine wpList_load_mid rfl _ _ rfl (B0+1) 1 rfl cb _ HRB6.out u49 rfl SAB.out.2 ?_)
    | (refine wpList_load_mid rfl _ _ rfl (B7+1) 0 rfl cr _ HLR6.out u49 rfl HSR2.out ?_))
   refine (HDF.out _).mono ?_;rintro e w7 ⟨rfl,hb7⟩;have hs7:B7+1+1≤w7.heap.size:=by have:=hb7.size;omega
   have hO77:=HO76.out.up hb7 (by omega);have hO87:=HO86.out.up hb7 (by omega);have lcn:cn.length=32:=by rw [HCMN.out.2,qlL]
   have lcm:cm.length=32:=by rw [HCMN.out.1,qlL]
   have HSN:=hid (show (Tryz.prog.info? 23).map (·.size)=some cn.toArray.size by rw [List.size_toArray,lcn];exact Tryz.infoM);have HSMM:=hid (show (Tryz.prog.info? 23).map (·.size)=some cm.toArray.size by rw [List.size_toArray,lcm];exact Tryz.infoM);have HKN:=hid (show cn.toArray.all (·.oneCell')=true by rw [HCMN.out.2];exact all_oneCell_toArray (qcM 32 n));have HKM:=hid (show cm.toArray.all (·.oneCell')=true by rw [HCMN.out.1];exact all_oneCell_toArray (qcM 32 m));have HTN:=hid (show w7.there (B7+1) 0 cn.toArray.size by rw [List.size_toArray,lcn];exact hO87.there);obtain ⟨w8,hw8⟩:=nqx (w7.setCells (B7+1) 0 cn);have hs8:w8.heap.size=w7.heap.size:=by rw [hw8,qaW]
   obtain ⟨B9,hB9⟩:=nqx (w8.heap.size);obtain ⟨w10,hw10⟩:=nqx (w8.alloc (.cells (lv 32 1).toArray 23));have hO10:qMO w10 B9 0 32 1:=by rw [hw10,hB9];exact qMO.new w8 32 1 _
   have hb810:Below B9 w8 w10:=by rw [hw10,hB9];exact (Below.refl _ _).alloc (Nat.le_refl _) _
   have hb78:Below (B7+1) w7 w8:=by rw [hw8];exact qaC (Nat.le_refl _) _ _ _ (Below.refl _ _)
   have hO78:qMO w8 B7 0 32 q:=by rw [hw8];exact qeR hO77 _ _ (by omega)
   have hO88:qMO w8 (B7+1) 0 32 n:=by rw [hw8,HCMN.out.2];exact qcS hO87
   rw [hB9] at hb810;have HO710:=hid (hO78.up hb810 (by omega));have HO810:=hid (hO88.up hb810 (by omega));rw [←hB9] at hb810;have hs10:w10.heap.size=B9+1:=by rw [hw10,hB9];simp
   have HT410:=hid (show w10.there (B0+1+1) 0 33 by
    have h7:=qaX HT46.out hb7 (by omega);have h8:w8.there (B0+1+1) 0 33:=by rw [hw8];exact qbI h7 _ _ (by omega)
    exact qaX h8 (by rw [←hB9];exact hb810) (by omega))
   have HT510:=hid (show w10.there (B0+1+1+1) 0 33 by
    have h7:=qaX HT56.out hb7 (by omega);have h8:w8.there (B0+1+1+1) 0 33:=by rw [hw8];exact qbI h7 _ _ (by omega)
    exact qaX h8 (by rw [←hB9];exact hb810) (by omega))
   have hd010:w10.cell? ⟨B0,0,none⟩=some (.bool true):=qcU (by rw [hb78.cell (by simp;omega)];exact qcU hd06 hb7) (by rw [←hB9];exact hb810);have hd110:w10.cell? ⟨B0+1,0,none⟩=some (.bool nb):=qcU (by rw [hb78.cell (by simp;omega)];exact qcU hd16 hb7) (by rw [←hB9];exact hb810)
   have HW10:=hid (show Below w.heap.size w w10 by
    have h7:=HW6.out.trans (hb7.mono HW6.out.size);have h8:Below w.heap.size w w8:=by rw [hw8];exact qaC (by rw [←HBE.out];omega) _ _ _ h7
    exact h8.trans (hb810.mono (by rw [←HBE.out];omega)))
   have HL7:=hid (show w10.rangeAt B7 0 cq by rw [HCC.out.2.2.1];exact HO710.out.1);have HL9:=hid (show w10.rangeAt B9 0 c1 by rw [HC1.out];exact hO10.1);have HSC1:=hid (show (Tryz.prog.info? 23).map (·.size)=some c1.length by rw [HC1.out];exact qbS 1);have HSCQ:=hid (show (Tryz.prog.info? 23).map (·.size)=some cq.length by rw [HCC.out.2.2.1];exact qbS q);rw [quI] at hw10;have HWE:=hid (And.intro hw8 (And.intro hw10 hB9));have hs9:B7+1+1≤B9:=by omega
   clear hb7 hO77 hO87 lcn hw10 hO10 hb810 hb78 hO78 hO88 hd06 hd16 hw8 hs7 hs8 hB9;go_upto_region 6 with (refine wpList_store_mid rfl _ _ _ rfl (B7+1) 0 _ rfl rfl HTN.out HSN.out HKN.out ?_)
   try simp only [Act.put,List.setIfInBounds_toArray,List.set_cons_zero,List.set_cons_succ]
   try simp only [List.toList_toArray]
   rw [←HWE.out.1];go_upto_region 8 with fail
   rw [←HWE.out.2.1,←HWE.out.2.2]
   go_wp2_with (first
    | (refine wpList_load_mid rfl _ _ rfl B7 0 rfl cq _ HL7.out u49 rfl HSCQ.out ?_)
    | (refine wpList_load_mid rfl _ _ rfl B9 0 rfl c1 _ HL9.out u49 rfl HSC1.out ?_))
   refine (HSM.out _).mono ?_;rintro e w11 ⟨rfl,hb11⟩;have hs11:B9≤w11.heap.size:=by have:=hb11.size;omega
   have hO711:=HO710.out.up hb11 (by omega);have hO811:=HO810.out.up hb11 (by omega);have hT411:=qaX HT410.out hb11 (by omega);have hT511:=qaX HT510.out hb11 (by omega);have hd011:=qcU hd010 hb11;have hd111:=qcU hd110 hb11;have hW11:=HW10.out.trans (hb11.mono HW10.out.size);have HTM:=hid (show w11.there B7 0 cm.toArray.size by rw [List.size_toArray,lcm];exact hO711.there);obtain ⟨w12,hw12⟩:=nqx (w11.setCells B7 0 cm);have HM:=hid (show w12.rangeAt B7 0 cm by rw [hw12,HCMN.out.1];exact (qcS hO711).1);have HN:=hid (show w12.rangeAt (B7+1) 0 cn by rw [hw12,HCMN.out.2];exact (qeR hO811 _ _ (by omega)).1);have HT412:=hid (show w12.there (B0+1+1) 0 33 by rw [hw12];exact qbI hT411 _ _ (by omega));have HT512:=hid (show w12.there (B0+1+1+1) 0 33 by rw [hw12];exact qbI hT511 _ _ (by omega));have hb1112:Below B7 w11 w12:=by rw [hw12];exact qaC (Nat.le_refl _) _ _ _ (Below.refl _ _)
   have hd012:w12.cell? ⟨B0,0,none⟩=some (.bool true):=by rw [hb1112.cell (by simp;omega)];exact hd011
   have hd112:w12.cell? ⟨B0+1,0,none⟩=some (.bool nb):=by rw [hb1112.cell (by simp;omega)];exact hd111
   have HW12:=hid (show Below w.heap.size w w12 by rw [hw12];exact qaC (by rw [←HBE.out];omega) _ _ _ hW11);have hs12:B7+1+1≤w12.heap.size:=by rw [hw12,qaW];omega
   have HW12E:=hid hw12;clear hb11 hO711 hO811 hT411 hT511 hd011 hd111 hd010 hd110 hW11 hw12 hb1112;go_upto_region 9 with (refine wpList_store_mid rfl _ _ _ rfl B7 0 _ rfl rfl HTM.out HSMM.out HKM.out ?_)
   try simp only [Act.put,List.setIfInBounds_toArray,List.set_cons_zero,List.set_cons_succ]
   try simp only [List.toList_toArray]
   rw [←HW12E.out]
   try simp only [Act.put,List.setIfInBounds_toArray,List.set_cons_zero,List.set_cons_succ]
   have cmr:w12.rangeAt B7 0 cm:=HM.out;have cnr:w12.rangeAt (B7+1) 0 cn:=HN.out;have e0:=fun p os=>qaB hd012 p os
   have e1:=fun p os=>qaB hd112 p os
   refine qbO 9 (by kernel_rfl) (by kernel_rfl) ?_;simp only [List.take_succ_cons,List.take_zero,List.drop_succ_cons,List.drop_zero]
   repeat (first
    | (refine qaK rfl _ _ rfl B7 0 rfl cm _ cmr u49 rfl sm ?_;try simp only [Act.put,List.setIfInBounds_toArray,List.set_cons_zero,List.set_cons_succ])
    | (refine qaK rfl _ _ rfl (B7+1) 0 rfl cn _ cnr u49 rfl sn ?_;try simp only [Act.put,List.setIfInBounds_toArray,List.set_cons_zero,List.set_cons_succ])
    | go_big_quiet_step ((go_at_call 139;exact qaA (HCX.out _ _ _ _ (by first|exact .inl ⟨by first|rfl|(cases nb<;>rfl),rfl,rfl⟩|exact .inr ⟨rfl,rfl,rfl⟩)))))
   refine wpQuiet_nil ?_;intro w' hw';obtain ⟨p,rfl⟩:=hw';have hbg:=qbG w12 p.d p.os;obtain ⟨wx,hwx⟩:=nqx (gw w12 p.d p.os);rw [←hwx] at hbg ⊢;have t4:=qaX HT412.out hbg (by omega);have t5:=qaX HT512.out hbg (by omega);have HWX:=hid ((HW12.out).trans (hbg.mono (HW12.out).size));clear hbg hwx e0 e1 cmr cnr;refine wpList_store_mid rfl _ _ _ rfl (B0+1+1) 0 _ rfl rfl (by rw [List.size_toArray,lrm];exact t4) (by rw [List.size_toArray,lrm];exact Tryz.infoI) krm ?_;simp only [Act.put,List.setIfInBounds_toArray,List.set_cons_zero,List.set_cons_succ];have t5':(wx.setCells (B0+1+1) 0 rm).there (B0+1+1+1) 0 33:=qbI t5 rm 0 (by omega);refine wpList_store_mid rfl _ _ _ rfl (B0+1+1+1) 0 _ rfl rfl (by rw [List.size_toArray,lrn];exact t5') (by rw [List.size_toArray,lrn];exact Tryz.infoI) krn ?_;simp only [Act.put,List.setIfInBounds_toArray,List.set_cons_zero,List.set_cons_succ];have hle2:w.heap.size≤B0+1+1:=by rw [←HBE.out];omega
   have hle3:w.heap.size≤B0+1+1+1:=by omega
   have HWE:=hid (qaC hle3 rn 0 _ (qaC hle2 rm 0 _ HWX.out));have g1:=World.rangeAt_setCells_same wx (B0+1+1) 0 rm (by rw [lrm];exact t4);have g2:=qaN g1 rn (B0+1+1+1) 0 (by omega);have g3:=World.rangeAt_setCells_same (wx.setCells (B0+1+1) 0 rm) (B0+1+1+1) 0 rn (by rw [lrn];exact t5')
   try simp only [List.toList_toArray]
   go_wp2_with fail
   have hld1:=run_loadVar_mid (P:=Tryz.prog) _ _ _ _ _ _ g2 Tryz.underlying25 rfl (by rw [lrm];exact Tryz.infoI);have hld2:=run_loadVar_mid (P:=Tryz.prog) _ _ _ _ _ _ g3 Tryz.underlying25 rfl (by rw [lrn];exact Tryz.infoI);refine bodyPost_ret (v:=.tuple #[.agg rm.toArray,.agg rn.toArray,.int .i64 0]) (by simp [results,Tryz.results134,asAddr,hld1,hld2]) rfl ?_;exact ⟨rfl,HWE.out⟩
end Go.Proofs.YtemoddmadfoaiaaGreat
namespace Go.Proofs.YtemoddmadfoaiaaGreat
open Go.RowKit
structure EvJ (ops:Array Oper) (fin:Act) (Gr:World→World→Prop) (W:World) (seen:Array Bool) (a:Act) (w:World):Prop where
 ssz:seen.size=ops.size
 closed:∀ j oj,ops[j]?=some oj→seen.getD j false=true→∀ e∈oj.after,Region.binds .any e=true→seen.getD e.on false=true
 size:a.tmps.size=fin.tmps.size
 defers:a.defers=fin.defers
 same:∀ t,(∀ (i:Nat) (o:Oper),ops[i]?=some o→o.dst=some t→seen.getD i false=true)→a.tmps[t]?=fin.tmps[t]?
 gr:Gr W w
structure EvH (P:Program) (ops:Array Oper) (G:List Nat) (R:Nat→Value→World→Prop) (F:(Nat→Value)→Act) (Gr:World→World→Prop) (ini:Act) (W:World):Prop where
 tr:∀ a b c,Gr a b→Gr b c→Gr a c
 be:∀ a b,Below a.heap.size a b→Gr W a→Gr a b
 up:∀ g v w w',R g v w→Gr W w→Gr w w'→R g v w'
 x:∀ γ j oj,ops[j]?=some oj→j∉G→∀ W',Gr W W'→(∀ g∈G,waitsIn ops 8 j g=true→R g (γ g) W')→wpQuiet P ops (fun w'=>∃ p:GB,w'=gw W' p.d p.os) (fun a'=>a'=F γ) [oj] (F γ)
 g:∀ γ,∀ j∈G,∀ oj,ops[j]?=some oj→∀ W',Gr W W'→(∀ g∈G,waitsIn ops 8 j g=true→R g (γ g) W')→Region.wanted oj (yielded ops (F γ).tmps)=true∧GY P (F γ) oj W' (fun v w''=>Gr W' w''∧R j v w'')
 put:∀ γ,∀ j∈G,∀ oj,ops[j]?=some oj→(F γ).put oj.dst (γ j)=F γ
 dep:∀ γ γ' t,(∀ (j:Nat) (o:Oper),ops[j]?=some o→o.dst=some t→∀ g∈G,(g=j∨waitsIn ops 8 j g=true)→γ g=γ' g)→(F γ).tmps[t]?=(F γ').tmps[t]?
 size:∀ γ,(F γ).tmps.size=ini.tmps.size∧(F γ).defers=ini.defers
section
variable {P:Program} {ops:Array Oper} {fin ini:Act} {W:World} {Gr:World→World→Prop} {seen:Array Bool} {a:Act} {w:World} {G:List Nat} {R:Nat→Value→World→Prop} {F:(Nat→Value)→Act}
theorem EvJ.shut (J:EvJ ops fin Gr W seen a w) {j:Nat} (hr:j∈Region.ready .any ops seen) :
  ∀ k ok,ops[k]?=some ok→(seen.setIfInBounds j true).getD k false=true→∀ e∈ok.after,Region.binds .any e=true→(seen.setIfInBounds j true).getD e.on false=true:=by
 obtain ⟨_,oj,hoj,hall⟩:=mem_ready.1 hr;intro k ok hk hs e he hb;rcases qbE hs with rfl|hs
 ·obtain rfl:=Option.some.inj (hk.symm.trans hoj);exact getD_set_true (hall e he hb)
 ·exact getD_set_true (J.closed k ok hk hs e he hb)
theorem EvJ.sees (C:FlowC ops [] []) (J:EvJ ops fin Gr W seen a w) {j:Nat} {oj:Oper} (hr:j∈Region.ready .any ops seen) (hoj:ops[j]?=some oj) {t:Tmp} (ht:t∈oj.looksAt ops):a.tmps[t]?=fin.tmps[t]? :=
 J.same t fun i o hi hd=>qeO (C.looks j oj hoj t ht (by simp) i o hi hd) hr
theorem EvJ.move (J:EvJ ops fin Gr W seen a w) {j:Nat} {oj:Oper} (hr:j∈Region.ready .any ops seen) (hoj:ops[j]?=some oj)
  {v:Value} (hv:fin.put oj.dst v=fin) {w':World} (hg:Gr W w'):EvJ ops fin Gr W (seen.setIfInBounds j true) (a.put oj.dst v) w':=by
 refine ⟨by simp [J.ssz],J.shut hr,by rw [qdA,J.size],by rw [qdQ,J.defers],?_,hg⟩;intro t hw;by_cases e:oj.dst=some t
 ·rw [e] at hv ⊢;have h1:fin.tmps[t]?=(fin.put (some t) v).tmps[t]?:=by rw [hv]
  rw [h1];simp only [Act.put,Array.getElem?_setIfInBounds,J.size,if_true]
 ·rw [qeI e];exact J.same t fun i o hi hd=>(qbE (hw i o hi hd)).resolve_left fun e2=>by subst e2;rw [hoj] at hi;cases hi;exact e hd
theorem EvJ.skip (J:EvJ ops fin Gr W seen a w) {j:Nat} {oj:Oper} (hr:j∈Region.ready .any ops seen) (hoj:ops[j]?=some oj)
  (hv:fin.put oj.dst undef=fin):EvJ ops fin Gr W (seen.setIfInBounds j true) (a.put oj.dst undef) w:=J.move hr hoj hv J.gr
theorem EvJ.stepX {Q:Exit→Act→World→Prop} (C:FlowC ops [] []) (J:EvJ ops fin Gr W seen a w) {j:Nat} {oj:Oper} (hr:j∈Region.ready .any ops seen) (hoj:ops[j]?=some oj)
  (hbe:∀ b,Below w.heap.size w b→Gr W b)
  (h:wpQuiet P ops (fun w'=>∃ p:GB,w'=gw w p.d p.os) (fun a'=>a'=fin) [oj] fin) :
  wpOp P ops Q j (fun a' w'=>EvJ ops fin Gr W (seen.setIfInBounds j true) a' w'∧Below w.heap.size w w') a w:=by
 have hlk:∀ t∈oj.looksAt ops,a.tmps[t]?=fin.tmps[t]?:=fun t ht=>J.sees C hr hoj ht
 have hex:=qhE (a:=a) (b:=fin) (C.sel j oj · · hoj) hlk;have hwa:=qeN (a:=a) (b:=fin) hlk;simp only [wpQuiet] at h;unfold wpOp;simp only [hoj];rw [hwa];split
 ·rename_i hw
  simp only [hw,if_true] at h;obtain ⟨v,h1,h2⟩:=h;left
  refine Oper.wp_of_quiet (C:=fun w'=>∃ p:GB,w'=gw w p.d p.os) (K:=fun a'=>a'=a.put oj.dst v) (qcV (Below.refl _ _)) ?_ ⟨v,fun w' hw'=>?_,rfl⟩
  ·rintro a' w' ⟨p,rfl⟩ rfl;exact ⟨J.move hr hoj h2 (hbe _ (qbG w p.d p.os)),qbG w p.d p.os⟩
  ·have:=h1 w' hw'
   unfold Oper.quietAt at *;rw [hex];exact this
 ·rename_i hw
  simp only [hw] at h;exact ⟨J.move hr hoj h J.gr,Below.refl _ _⟩
theorem EvJ.stepG {Q:Exit→Act→World→Prop} (C:FlowC ops [] []) (J:EvJ ops fin Gr W seen a w) {j:Nat} {oj:Oper} (hr:j∈Region.ready .any ops seen) (hoj:ops[j]?=some oj)
  {F:Value→Act} {D:Value→World→Prop} (hg:Region.wanted oj (yielded ops fin.tmps)=true) (hy:GY P fin oj w D) (hD:∀ v w'',D v w''→Gr W w'') (hF:∀ v,EvJ ops (F v) Gr W seen a w) (hput:∀ v,(F v).put oj.dst v=F v) :
  wpOp P ops Q j (fun a' w'=>∃ v,EvJ ops (F v) Gr W (seen.setIfInBounds j true) a' w'∧D v w') a w:=by
 have hlk:∀ t∈oj.looksAt ops,a.tmps[t]?=fin.tmps[t]?:=fun t ht=>J.sees C hr hoj ht
 have hex:=qhE (a:=a) (b:=fin) (C.sel j oj · · hoj) hlk;have hwa:=qeN (a:=a) (b:=fin) hlk;unfold wpOp;simp only [hoj];rw [hwa,if_pos hg];left
 unfold GY at hy;unfold Oper.wp;rw [hex];generalize (execOp fin.eval oj).run P w=r at *
 cases r with
 | ok n w' =>
  cases n<;>simp only at hy<;>simp only [Oper.upon]
  case value u=>exact ⟨u,(hF u).move hr hoj (hput u) (hD u w' hy),hy⟩
  case enter f args =>
   obtain ⟨e1,hc⟩:=hy;rw [e1];exact hc.mono fun e w'' ⟨v,he,hw''⟩=>by subst he;exact ⟨v,(hF v).move hr hoj (hput v) (hD v w'' hw''),hw''⟩
 | halt x w'=>simp only at hy
theorem EvJ.refin (J:EvJ ops fin Gr W seen a w) {fin':Act} (hs:fin'.tmps.size=fin.tmps.size) (hd:fin'.defers=fin.defers)
  (h:∀ t,(∀ (i:Nat) (o:Oper),ops[i]?=some o→o.dst=some t→seen.getD i false=true)→fin.tmps[t]?=fin'.tmps[t]?):EvJ ops fin' Gr W seen a w :=
 ⟨J.ssz,J.closed,J.size.trans hs.symm,J.defers.trans hd.symm,fun t h2=>(J.same t h2).trans (h t h2),J.gr⟩
theorem jgM {Q:Exit→Act→World→Prop} (C:FlowC ops [] []) (H:EvH P ops G R F Gr ini W) {γ:Nat→Value} (J:EvJ ops (F γ) Gr W seen a w) (I:∀ g∈G,seen.getD g false=true→R g (γ g) w) {j:Nat} (hj:j∈Region.ready .any ops seen) :
  wpOp P ops Q j (fun a' w'=>∃ γ',EvJ ops (F γ') Gr W (seen.setIfInBounds j true) a' w'∧∀ g∈G,(seen.setIfInBounds j true).getD g false=true→R g (γ' g) w') a w:=by
 obtain ⟨hun,oj,hoj,_⟩:=mem_ready.1 hj;have hjs:j<seen.size:=by rw [J.ssz];exact (Array.getElem?_eq_some_iff.1 hoj).1
 have hRw:∀ g∈G,waitsIn ops 8 j g=true→R g (γ g) w:=fun g hg hw=>by
  refine I g hg ?_
  have:=qcL (J.shut hj) _ _ _ hw (by simp [hjs])
  rcases qbE this with e|h
  ·subst e
   have hl:∀ (f i:Nat),waitsIn ops f i j=true→i≠j∧j<i∨False:=by
    intro f
    induction f with
    | zero=>intro i h;simp [waitsIn] at h
    | succ f ih =>
     intro i h;unfold waitsIn at h;split at h
     ·rename_i o ho
      obtain ⟨e,he,hb⟩:=Array.any_eq_true'.1 h;simp only [Bool.and_eq_true,Bool.or_eq_true,beq_iff_eq] at hb;have hlt:=C.less i o ho e he hb.1;rcases hb.2 with h1|h1
      ·left;omega
      ·rcases ih _ h1 with ⟨_,h2⟩|h2
       ·left;omega
       ·exact h2.elim
     ·cases h
   rcases hl _ _ hw with ⟨h1,_⟩|h1
   ·exact absurd rfl h1
   ·exact h1.elim
  ·exact h
 by_cases hjG:j∈G
 ·obtain ⟨hw,hy⟩:=H.g γ j hjG oj hoj w J.gr hRw;have hns:seen.getD j false=false:=getD_both hun
  have hsame:∀ v,EvJ ops (F (updG γ j v)) Gr W seen a w:=fun v=>by
   refine J.refin (by rw [(H.size _).1,(H.size _).1]) (by rw [(H.size _).2,(H.size _).2]) fun t hs=>H.dep _ _ t (fun i o ho hd g hg hw=>?_)
   have hi:=hs i o ho hd
   have hgs:seen.getD g false=true:=by
    rcases hw with rfl|hw
    ·exact hi
    ·exact qcL J.closed _ _ _ hw hi
   unfold updG;rw [if_neg fun e=>by rw [e,hns] at hgs;cases hgs]
  refine wpOp_mono (fun a' w' ⟨v,J',hgr,hR⟩=>⟨updG γ j v,J',fun g hg hs=>?_⟩) (J.stepG C hj hoj hw hy (fun v w'' h=>H.tr _ _ _ J.gr h.1) hsame fun v=>by
   have:=H.put (updG γ j v) j hjG oj hoj
   rwa [show updG γ j v j=v by simp [updG]] at this)
  by_cases e:g=j
  ·subst e;simpa [updG] using hR
  ·have:=H.up _ _ _ _ (I g hg ((qbE hs).resolve_left fun h=>e h.symm)) J.gr hgr
   simpa [updG,e] using this
 ·refine wpOp_mono (fun a' w' ⟨J',hbl⟩=>⟨γ,J',fun g hg hs=>?_⟩) (J.stepX C hj hoj (fun b hb=>H.tr _ _ _ J.gr (H.be _ _ hb J.gr)) (H.x γ j oj hoj hjG w J.gr hRw));exact H.up _ _ _ _ (I g hg ((qbE hs).resolve_left fun e=>hjG (by rw [e];exact hg))) J.gr (H.be _ _ hbl J.gr)
theorem jgN {γ:Nat→Value} (J:EvJ ops (F γ) Gr W seen a w) (I:∀ g∈G,seen.getD g false=true→R g (γ g) w) (hG:∀ g∈G,g<ops.size) (hall:∀ j,j<ops.size→seen.getD j false=true) :
  a=F γ∧Gr W w∧∀ g∈G,R g (γ g) w:=by
 refine ⟨?_,J.gr,fun g hg=>I g hg (hall g (hG g hg))⟩
 have h1:a.tmps=(F γ).tmps:=by
  apply Array.ext_getElem?
  intro t;exact J.same t fun i o h _=>hall i (Array.getElem?_eq_some_iff.1 h).1
 have h2:=J.defers
 cases a;cases hF:F γ
 rw [hF] at h1 h2;simp only at h1 h2
 rw [h1,h2]
end
section
variable {P:Program} {l:List Oper} {n:Nat}
theorem jiB {Q:Exit→Act→World→Prop} {G:List Nat} {R:Nat→Value→World→Prop} {F:(Nat→Value)→Act} {Gr:World→World→Prop} {ini:Act} {W:World}
  (hT:tailB l n=true) (C:FlowC (l.take n).toArray [] []) (H:EvH P (l.take n).toArray G R F Gr ini W) (hG:∀ g∈G,g<n)
  (hQ:∀ γ w,Gr W w→(∀ g∈G,R g (γ g) w)→wpList P l.toArray Q (l.drop n) (F γ) w) :
  ∀ (f:Nat) (sh seen:Array Bool) (a:Act) (w:World) (γ:Nat→Value),cnt sh=f→seen.size=l.length→(∀ i,i<n→seen.getD i false=sh.getD i false)→(∀ i,n≤i→i<l.length→seen.getD i false=false) →
  EvJ (l.take n).toArray (F γ) Gr W sh a w→(∀ g∈G,sh.getD g false=true→R g (γ g) w)→wpAny P .any l.toArray Q (f+(l.length - n)) seen a w:=by
 unfold tailB at hT;simp only [Bool.and_eq_true,decide_eq_true_eq] at hT;obtain ⟨⟨⟨hn,hgd⟩,hwt⟩,hsq⟩:=hT;have hsz:(l.take n).toArray.size=n:=by simp;omega
 have hgd':∀ j,j<n→∀ o g b,l[j]?=some o→o.guard=some (g,b)→g<n:=fun j hj o g b ho hgo=>by
  have:=List.all_eq_true.1 hgd j (List.mem_range.2 hj)
  simpa [ho,hgo] using this
 have hwt':∀ j,n≤j→j<l.length→∀ i,i<n→waitsIn l.toArray 8 j i=true:=fun j h1 h2 i hi=>by
  have:=List.all_eq_true.1 hwt j (List.mem_range.2 h2)
  simp only [Bool.or_eq_true,decide_eq_true_eq] at this
  have:=this.resolve_left (by omega)
  exact List.all_eq_true.1 this i (List.mem_range.2 hi)
 intro f
 induction f with
 | zero =>
  intro sh seen a w γ hc hss hs1 hs2 J I;have hall:∀ j,j<(l.take n).toArray.size→sh.getD j false=true:=qjJ C J.ssz (qhP hc);obtain ⟨rfl,hE,hGE⟩:=jgN J I (fun g hg=>by rw [hsz];exact hG g hg) hall
  have hseen:seen=(List.replicate n true++List.replicate (l.length - n) false).toArray:=by
   apply Array.ext_getElem?
   intro i;by_cases hi:i<l.length
   ·have h1:seen[i]?=some (seen.getD i false):=by simp [hss,hi]
    rw [h1];by_cases hin:i<n
    ·rw [hs1 i hin,hall i (by rw [hsz];exact hin)];simp [List.getElem?_append_left,List.getElem?_replicate,hin]
    ·rw [hs2 i (by omega) hi]
     have:i - n<l.length - n:=by omega
     simp [List.getElem?_append_right (show (List.replicate n true).length≤i by simp;omega),List.getElem?_replicate,this]
   ·rw [Array.getElem?_eq_none (by omega),Array.getElem?_eq_none (by simp;omega)]
  rw [Nat.zero_add]
  have:=wpAny_of_seq (md:=.any) (P:=P) (ops:=l.toArray) (Q':=Q) (l.drop n) n seen (F γ) w (fun j=>by simp [List.getElem?_drop]) (by rw [List.length_drop,hseen];exact hsq) (hQ γ w hE hGE)
  rwa [List.length_drop] at this
 | succ f ih =>
  intro sh seen a w γ hc hss hs1 hs2 J I
  have hex:∃ i,i<n∧sh.getD i true=false:=by
   by_cases h:∃ i,i<n∧sh.getD i true=false
   ·exact h
   ·exfalso
    have:cnt sh=0:=by
     unfold cnt;rw [List.countP_eq_zero];intro b hb hbf;obtain ⟨i,hi⟩:=List.mem_iff_getElem?.1 hb;have hil:i<sh.size:=by have:=(List.getElem?_eq_some_iff.1 hi).1;simpa using this
     refine h ⟨i,by rw [J.ssz,hsz] at hil;exact hil,?_⟩;rw [Array.getElem?_toList] at hi
     have:b=false:=by simpa using hbf
     simp [hi,this]
    omega
  obtain ⟨i0,hi0,hu0⟩:=hex
  have hcl:∀ j oj,l.toArray[j]?=some oj→seen.getD j false=true→∀ e∈oj.after,Region.binds .any e=true→seen.getD e.on false=true:=by
   intro j oj ho hs e he hb;have hjl:j<l.length:=by have:=(Array.getElem?_eq_some_iff.1 ho).1;simpa using this
   have hjn:j<n:=by
    rcases Nat.lt_or_ge j n with h|h
    ·exact h
    ·rw [hs2 j h hjl] at hs;cases hs
   have ho':(l.take n).toArray[j]?=some oj:=by rw [qhU hn hjn];exact ho
   have hlt:=C.less j oj ho' e he hb;rw [hs1 e.on (by omega)];exact J.closed j oj ho' (by rw [←hs1 j hjn];exact hs) e he hb
  rw [show f+1+(l.length - n)=(f+(l.length - n))+1 by omega]
  have step:∀ j∈Region.ready .any l.toArray seen,j<n∧j∈Region.ready .any (l.take n).toArray sh:=by
   intro j hj;obtain ⟨hun,oj,hoj,hall⟩:=mem_ready.1 hj;have hjl:j<l.length:=by have:=(Array.getElem?_eq_some_iff.1 hoj).1;simpa using this
   have hjn:j<n:=by
    rcases Nat.lt_or_ge j n with h|h
    ·exact h
    ·exfalso
     have hw:=hwt' j h hjl i0 hi0;unfold waitsIn at hw;rw [hoj] at hw;obtain ⟨e,he,hb⟩:=Array.any_eq_true'.1 hw;simp only [Bool.and_eq_true,Bool.or_eq_true,beq_iff_eq] at hb;have h1:=hall e he hb.1
     have h2:seen.getD i0 false=true:=by
      rcases hb.2 with rfl|h2
      ·exact h1
      ·exact qcL hcl _ _ _ h2 h1
     rw [hs1 i0 hi0,getD_both hu0] at h2;cases h2
   refine ⟨hjn,mem_ready.2 ⟨?_,oj,by rw [qhU hn hjn];exact hoj,fun e he hb=>?_⟩⟩
   ·have h1:=getD_both hun;rw [hs1 j hjn] at h1;exact getD_in (by rw [J.ssz,hsz];exact hjn) h1
   ·have hlt:=C.less j oj (by rw [qhU hn hjn];exact hoj) e he hb;rw [←hs1 e.on (by omega)];exact hall e he hb
  refine ⟨fun h0=>?_,fun j hj=>?_⟩
  ·exfalso
   have hr:Region.ready .any (l.take n).toArray sh≠[]:=fun h=>by
    have:=qjJ C J.ssz h i0 (by rw [hsz];exact hi0)
    rw [getD_both hu0] at this;cases this
   obtain ⟨j,hj⟩:=List.exists_mem_of_ne_nil _ hr;obtain ⟨hun,oj,hoj,hall⟩:=mem_ready.1 hj;have hjn:j<n:=by have:=(Array.getElem?_eq_some_iff.1 hoj).1;rwa [hsz] at this
   have:j∈Region.ready .any l.toArray seen:=by
    refine mem_ready.2 ⟨?_,oj,by rw [←qhU hn hjn];exact hoj,fun e he hb=>?_⟩
    ·have h1:=getD_both hun;rw [←hs1 j hjn] at h1;exact getD_in (by rw [hss];omega) h1
    ·have hlt:=C.less j oj hoj e he hb;rw [hs1 e.on (by omega)];exact hall e he hb
   rw [h0] at this;cases this
  ·obtain ⟨hjn,hjr⟩:=step j hj;have hc':cnt (sh.setIfInBounds j true)=f:=by have:=qrB (mem_ready.1 hjr).1;omega
   refine qvF hn hjn (hgd' j hjn) (wpOp_mono (fun a' w' ⟨γ',J',I'⟩=>ih _ _ a' w' γ' hc' (by simpa using hss) (fun i hi=>?_) (fun i hi hil=>?_) J' I') (jgM (Q:=Q) C H J I hjr))
   ·by_cases e:j=i
    ·subst e;have h1:j<seen.size:=by rw [hss];omega
     have h2:j<sh.size:=by rw [J.ssz,hsz];exact hjn
     simp [h1,h2]
    ·rw [getD_set_ne false e,getD_set_ne false e];exact hs1 i hi
   ·rw [getD_set_ne false (by omega)];exact hs2 i hi hil
theorem qnV {id:Nat} {Q:Exit→Act→World→Prop} {a:Act} {w:World} (n:Nat) (G:List Nat) (R:Nat→Value→World→Prop) (Gr:World→World→Prop) (vs:List Vl) (F:(Nat→Value)→Act) {h t:List Oper} (hh:l.take n=h) (ht:l.drop n=t) (hfin:∀ γ,finG vs a γ=F γ)
  (hm:P.follows .mixedOrders=true) (hB:flowB h.toArray [] (vs.map (·.t)) a.tmps.size=true) (hV:vlB h.toArray G vs=true) (hT:tailB l n=true) (hGi:(G.all fun g=>decide (g<n))=true)
  (htr:∀ a b c,Gr a b→Gr b c→Gr a c) (hst:Gr w w) (hbe:∀ a b,Below a.heap.size a b→Gr w a→Gr a b) (hup:∀ g v x y,R g v x→Gr w x→Gr x y→R g v y)
  (hX:∀ γ W',Gr w W'→flowXG P h.toArray (fun w'=>∃ p:GB,w'=gw W' p.d p.os) G (fun g=>R g (γ g) W') (F γ) (fun k=>G.contains k) 0 h)
  (hg:∀ γ,∀ j∈G,∀ oj,h.toArray[j]?=some oj→∀ W',Gr w W'→(∀ g∈G,waitsIn h.toArray 8 j g=true→R g (γ g) W') →
   Region.wanted oj (yielded h.toArray (F γ).tmps)=true∧GY P (F γ) oj W' (fun v w''=>Gr W' w''∧R j v w''))
  (hput:∀ γ,∀ j∈G,∀ oj,h.toArray[j]?=some oj→(F γ).put oj.dst (γ j)=F γ)
  (hQ:∀ γ w',Gr w w'→(∀ g∈G,R g (γ g) w')→wpList P l.toArray Q t (F γ) w'):(Code.region id l.toArray true).wp P Q a w:=by
 subst hh ht;obtain ⟨C,hts,-⟩:=jiA hB;have hgin:∀ g∈G,g<n:=fun g hg=>of_decide_eq_true (List.all_eq_true.1 hGi g hg)
 have hd:∀ e∈vs,∃ (i:Nat) (o:Oper),(l.take n).toArray[i]?=some o∧o.dst=some e.t:=fun e he=>by obtain ⟨_,i,o,ho,hd,_⟩:=hts e.t (List.mem_map.2 ⟨e,he,rfl⟩);exact ⟨i,o,ho,hd⟩
 have hsz:∀ γ,(F γ).tmps.size=a.tmps.size∧(F γ).defers=a.defers:=fun γ=>by rw [←hfin];exact qpI vs a γ
 have hn:n≤l.length:=by
  unfold tailB at hT;simp only [Bool.and_eq_true,decide_eq_true_eq] at hT;exact hT.1.1.1
 have hlen:(l.take n).toArray.size=n:=by simp;omega
 have hdr:Gr w w.drew:=hbe _ _ ⟨rfl,rfl,rfl,Nat.le_refl _,fun _ _=>rfl⟩ hst
 have H:EvH P (l.take n).toArray G R F Gr a w:=by
  refine ⟨htr,hbe,hup,fun γ j oj hoj hjG W' hK hR=>?_,hg,hput,?_,hsz⟩
  ·have hjl:(l.take n)[j]?=some oj:=by simpa using hoj
   exact qpH (l.take n) 0 (hX γ W' hK) j oj hjl (by simpa using hjG) (by simpa using hR)
  ·intro γ γ' t h;rw [←hfin,←hfin];refine qpJ vs a a rfl rfl fun e he het g hg=>?_
   obtain ⟨i,o,ho,hdo⟩:=hd e he;have hv:=List.all_eq_true.1 hV e he;have hv:=List.all_eq_true.1 hv g hg;simp only [Bool.and_eq_true] at hv;have h1:=List.all_eq_true.1 hv.2 i (List.mem_range.2 (Array.getElem?_eq_some_iff.1 ho).1);have hdi:dstIs (l.take n).toArray i e.t=true:=qfK.2 ⟨o,ho,hdo⟩;simp only [hdi,Bool.not_true,Bool.false_or,Bool.or_eq_true,beq_iff_eq] at h1;exact h i o ho (by rw [hdo,het]) g (by simpa using hv.1) h1
 have h0:∀ i,(Array.replicate (l.take n).toArray.size false).getD i false=false:=getD_replicate_false _
 have J:EvJ (l.take n).toArray (F fun _=>undef) Gr w (Array.replicate (l.take n).toArray.size false) a w.drew:=by
  refine ⟨by simp,fun j oj _ h=>absurd h (by rw [h0];exact Bool.noConfusion),(hsz _).1.symm,(hsz _).2.symm,fun t ht=>?_,hdr⟩;rw [←hfin];refine (qsT vs a _ fun e he het=>?_).symm;obtain ⟨i,o,ho,hdo⟩:=hd e he
  have:=ht i o ho (by rw [hdo,het])
  rw [h0] at this;cases this
 refine wp_region_any hm ?_
 have:=jiB (Q:=Q) hT C H hgin hQ _ _ (Array.replicate l.toArray.size false) a w.drew _ (qoJ _) (by simp) (fun i _=>by rw [h0,getD_replicate_false]) (fun i _ _=>getD_replicate_false _ _) J (fun g _ h=>absurd h (by rw [h0];exact Bool.noConfusion))
 rw [hlen,show n+(l.length - n)=l.toArray.size by simp;omega] at this;exact this
end
end Go.Proofs.YtemoddmadfoaiaaGreat
