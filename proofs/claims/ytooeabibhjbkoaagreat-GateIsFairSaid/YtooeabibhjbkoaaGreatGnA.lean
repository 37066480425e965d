import Derived.Test.YtooeabibhjbkoaaGreatGmB
import Derived.Test.YtooeabibhjbkoaaGreatGnP
import Derived.Test.YtooeabibhjbkoaaGreatScN
import Derived.Test.YtooeabibhjbkoaaGreatGeD
import Derived.BigFrame
set_option linter.unusedVariables false
set_option linter.unusedSimpArgs false
set_option maxRecDepth 100000
set_option maxHeartbeats 8000000
namespace Go.Proofs.YtooeabibhjbkoaaGreat
open Go.RowKit Big Reg Al Ap Ga
open Lib (hid)
theorem run_maxOp {P:Program} {o:Oper} {a:Act} {W:World} {x y:Operand} {ats:Array TypeId} {k:IntKind} {X Y Z:Int} (ho:o.op=.call { callee:=.builtin .max,args:=#[x,y],argTypes:=ats }) (hx:a.eval x=.int k X) (hy:a.eval y=.int k Y) (hZ:Z=max X Y) :
  (execOp a.eval o).run P W=.ok (.value (.int k Z)) W:=by
 unfold execOp
 simp [Act.eval] at hx hy
 simp [ho,hx,hy,hZ,resolve,invoke,go_sem,BigFrame.builtin_max,Go.Lib.run_max_ints]
theorem add_some {Q:Qn} (hQ:VQ Q) (h1:Q.1.natAbs≤1000000000000) (h2:Q.2≤1000000000000):∃ S,addQ Q (1,1)=some S:=by
 have hb:=b480_big
 refine mkQ_some ?_ ?_
 ·show (Q.1*((1:Nat):Int)+1*(Q.2:Int)).natAbs<B480
  rw [Int.natCast_one,Int.mul_one,Int.one_mul];omega
 ·show Q.2*1<B480
  omega
theorem fair_any (a:Option Addr) (len cap:Nat) (z:List Int) (net:Int) (w:World) (hr:IsRow .i64 w a len cap z) :
  Calls Tryz.prog 5 #[.slice a len cap,.int .i64 net] w fun e w'=>e=.returned (.bool true)∧Below w.heap.size w w':=by
 have hln:=row_len hr
 have hl9:len≤9223372036854775807:=by unfold maxLen at hln;omega
 obtain ⟨bt,hbt⟩:∃ bt,bt=w.heap.size:=⟨_,rfl⟩
 have hN:=new_any a len cap z w hr hl9
 rw [←hbt] at hN
 have HBT:=hid hbt
 have HN:=hid hN
 clear hN hbt hr hl9 hln
 go_enter Tryz.func5,Tryz.ntmps5
 go_wp2_with fail
 refine HN.out.mono ?_
 rintro e w1 ⟨rfl,ht1,hb1⟩
 have HT1:=hid ht1
 have HB1:=hid hb1
 have hbt1:=ht1.lt
 clear ht1 hb1 HN
 go_wp2_with fail
 refine (requests_any bt w1 HT1.out).mono ?_
 rintro e w2 ⟨v0,l,rfl,hM,hO,hD2⟩
 obtain ⟨n,hn⟩:∃ n,n=l.length:=⟨_,rfl⟩
 obtain ⟨_,_,A0,cap0,hv0,_⟩:=Rd.of_own hO
 subst hv0
 have hn8:n≤8:=by rw [hn];exact hM.1
 rw [←hn] at hO ⊢
 have HNL:=hid hn
 have HM:=hid hM
 have HO:=hid hO
 have HD:=hid hD2
 clear hM hO hD2 hn
 go_wp2_with fail
 refine (mod_any net 100000000 w2 (by decide)).mono ?_
 rintro e w3 ⟨rfl,rfl⟩
 have hnb:=modI_bd net 100000000 (by decide)
 obtain ⟨nt,hnt⟩:∃ nt,nt=modI net 100000000:=⟨_,rfl⟩
 rw [←hnt] at hnb ⊢
 clear hnt
 go_wp2_with fail
 refine (next_any bt 100 w2 HD.out.1 (by decide) (by decide)).mono ?_
 rintro e w4 ⟨kk,rfl,hk0,hk1,hd⟩
 replace HO:=hid (HO.out.kept hd.2 (.inr (fun e=>by have:=(HO.out.lt bt e).1;omega)))
 replace HD:=hid (HD.out.trans hd)
 have wk1:IntKind.i64.wrap (1+kk)=1+kk:=IntWalk.i64_in _ (by omega)
 obtain ⟨p,q,hpq,hgt,hp,hq,hq0,hpe⟩:=gate_made (k:=1+kk) (by omega) (by omega)
 obtain ⟨cR,hcR⟩:∃ c:List Value,c=rat false p false q:=⟨_,rfl⟩
 have HSR:=hid (sratio (cR:=cR) (x:=1+kk) (y:=100) (d:=100) rfl (by decide) (by rw [hpq,hcR];exact (ratZ_nat p q).symm) (by omega) (by omega) (by decide))
 have HBW:=hid (show Below w.heap.size w w4 by rw [←HBT.out];exact HB1.out.trans (below_grownBy HD.out.2 (Nat.le_refl _) (by omega)))
 have hbb:=b480_big
 have hRQ:RqsAt w4 (.slice A0 n cap0) l:=by have h:=Rd.of_own HO.out;unfold RqsAt;rw [←HNL.out];exact h
 have hbs:B480≤BB^32:=by unfold B480;exact Nat.pow_le_pow_right (by unfold BB;decide) (by decide)
 have HAL:=hid (fun (W:World) (hb:Below w4.heap.size w4 W)=>allow_any nt hcR (by omega) (by omega) (.slice A0 n cap0) l W (hRQ.below hb) (.inl (by rw [←HNL.out];omega)))
 have HAE:=hid (allowE_made (l:=l) hgt hp hq (net:=nt) (by omega) (made_check HM.out))
 have HRQ:=hid hRQ
 clear hd hpq hgt hp hq hq0 hpe hcR hbb hRQ hbs hnb HO HD HT1 HB1
 go_wp2_with fail
 refine (HSR.out w4).mono ?_
 rintro e w5 ⟨rfl,hb5⟩
 have HB5:=hid hb5
 clear hb5
 go_wp2_with fail
 refine (HAL.out w5 HB5.out).mono ?_
 rintro e w6 ⟨hb6,h6⟩
 have HB6:=hid (HBW.out.trans ((HB5.out.trans (hb6.mono HB5.out.size)).mono HBW.out.size))
 replace HRQ:=hid (RqsAt.below HRQ.out (HB5.out.trans (hb6.mono HB5.out.size)))
 clear hb6
 by_cases hn0:n=0
 ·subst hn0
  have hE0:=HAE.out
  rw [←HNL.out,if_pos rfl] at hE0
  rcases h6 with ⟨c,hc,rfl⟩|⟨hc,_⟩
  ·rw [hE0] at hc
   injection hc with hc
   subst hc
   clear hE0
   go_wp2
   go_loopg [9,10,11] 0 (fun m iv _ _ wr=>iv=.int .i64 0∧w6=wr)
   case atStart=>exact ⟨rfl,rfl⟩
   case round =>
    obtain ⟨rfl,rfl⟩:=hrel
    go_wp2_with fail
    refine (awake_any _).mono ?_
    rintro e w9 ⟨rfl,hb9⟩
    have HB9:=hid (HB6.out.trans (hb9.mono HB6.out.size))
    clear hb9
    go_wp2
    go_ret
    exact ⟨rfl,HB9.out⟩
  ·rw [hE0] at hc;cases hc
 have hE0:=HAE.out
 rw [←HNL.out,if_neg hn0] at hE0
 rcases h6 with ⟨c,hc,_⟩|⟨_,G,outs,rfl,hG1,hG2,hrow,hout⟩
 ·rw [hE0] at hc;cases hc
 rw [←HNL.out]
 have HRO:=hid hrow
 have HOU:=hid hout
 have HOL:=hid (show outs.length=n by rw [(outs_at hout).1];exact HNL.out.symm)
 clear hE0 hrow hout hG1 HAE HAL HSR HB5 HBW
 obtain ⟨g,off,capg,hvg,hcg⟩:=rqs_some HRQ.out (by rw [←HNL.out];omega)
 injection hvg with e1 e2 e3
 subst e1
 clear e2 e3
 have HCG:=hid hcg
 clear hcg
 go_wp2
 go_loopg [9,10,11] n (fun m iv _ _ wr=>∃ k:Nat,iv=.int .i64 k∧k≤n∧n≤m+k∧Below w6.heap.size w6 wr)
 case atStart=>exact ⟨0,rfl,by omega,by omega,Below.refl _ _⟩
 case round =>
  obtain ⟨k,rfl,hk,hm,hb⟩:=hrel
  have HBL:=hid hb
  clear hb
  obtain ⟨G0,hG0⟩:∃ G,G=gk:=⟨_,rfl⟩
  have HG0:=hid hG0
  clear hG0
  by_cases hlt:k<n
  ·have hkI:(k:Int)<(n:Int):=by omega
   obtain ⟨x,hx⟩:∃ x,l[k]?=some x:=⟨l[k]'(by rw [←HNL.out];exact hlt),by simp [←HNL.out,hlt]⟩
   have HX:=hid hx
   obtain ⟨av,hav⟩:∃ y,outs[k]?=some y:=⟨outs[k]'(by rw [HOL.out];exact hlt),by simp [HOL.out,hlt]⟩
   have HAV:=hid hav
   have hmx:=(HM.out.2 k x hx)
   have mx1:=hmx.units
   have mx2:=hmx.value
   clear hx hav hmx
   go_wp2
   obtain ⟨wq,hwq⟩:∃ wq,wq=wr:=⟨_,rfl⟩
   rw [←hwq] at HBL ⊢
   clear hwq
   go_loopg [10,11] k (fun m jv _ wr=>∃ j:Nat,jv=.int .i64 j∧j≤k∧k≤m+j∧Below w6.heap.size w6 wr)
   case atStart=>exact ⟨0,rfl,by omega,by omega,HBL.out⟩
   case round =>
    obtain ⟨j,rfl,hj,hmj,hb⟩:=hrel
    have HBJ:=hid hb
    by_cases hjk:j<k
    ·have hjI:(j:Int)<(k:Int):=by omega
     have hjn:(j:Int)<(n:Int):=by omega
     obtain ⟨y,hy⟩:∃ y,l[j]?=some y:=⟨l[j]'(by rw [←HNL.out];omega),by simp [←HNL.out,show j<n by omega]⟩
     have HY:=hid hy
     obtain ⟨bv,hbv⟩:∃ y,outs[j]?=some y:=⟨outs[j]'(by rw [HOL.out];omega),by simp [HOL.out,show j<n by omega]⟩
     have HBV:=hid hbv
     have qx:=(HCG.out k x HX.out).below hb
     have qy:=(HCG.out j y hy).below hb
     have HC:=hid (And.intro qx.2.1 (And.intro qx.2.2 (And.intro qy.2.1 qy.2.2)))
     have ca:wr.cell? ⟨G,k,none⟩=some (.int .i64 av):=qcU (by have:=HRO.out.1 k av HAV.out;rwa [Nat.zero_add] at this) hb
     have cb:wr.cell? ⟨G,j,none⟩=some (.int .i64 bv):=qcU (by have:=HRO.out.1 j bv hbv;rwa [Nat.zero_add] at this) hb
     have HCA:=hid (And.intro ca cb)
     clear hy hbv qx qy ca cb hb
     go_upto_region 12 with fail
     have FR:=hid (Fr.start wr)
     have FR0:=hid FR.out.le
     by_cases c1:x.units=y.units
     ·have b1:(x.units==y.units)=true:=beq_iff_eq.2 c1
      have C1:=hid c1
      clear c1
      by_cases c2:x.value=y.value
      ·have b2:(x.value==y.value)=true:=beq_iff_eq.2 c2
       have C2:=hid c2
       clear c2
       by_cases c3:0<x.value
       ·refine wfn [] [(47,.slice (some ⟨g,off,none⟩) n cap0),(48,.int .i64 (k:Int)),(49,.pointer (some ⟨g,off+k*3,none⟩)),(50,.pointer (some ⟨g,off+k*3+1,none⟩)),(51,.int .i64 x.units),(52,.slice (some ⟨g,off,none⟩) n cap0),(53,.int .i64 (j:Int)),(54,.pointer (some ⟨g,off+j*3,none⟩)),(55,.pointer (some ⟨g,off+j*3+1,none⟩)),(56,.int .i64 y.units),(57,.bool true),(58,.bool true),(59,.slice (some ⟨g,off,none⟩) n cap0),(60,.int .i64 (k:Int)),(61,.pointer (some ⟨g,off+k*3,none⟩)),(62,.pointer (some ⟨g,off+k*3+2,none⟩)),(63,.int .i64 x.value),(64,.slice (some ⟨g,off,none⟩) n cap0),(65,.int .i64 (j:Int)),(66,.pointer (some ⟨g,off+j*3,none⟩)),(67,.pointer (some ⟨g,off+j*3+2,none⟩)),(68,.int .i64 y.value),(69,.bool true),(70,.bool true),(71,.bool true),(72,.slice (some ⟨g,off,none⟩) n cap0),(73,.int .i64 (k:Int)),(74,.pointer (some ⟨g,off+k*3,none⟩)),(75,.pointer (some ⟨g,off+k*3+2,none⟩)),(76,.int .i64 x.value),(77,.bool true),(78,.bool true)] _ (by simp only [zz4,zz5,zq];rfl) (by kernel_rfl) (by kernel_rfl) rfl ?_ ?_ ?_ ?_
        ·intro W' hW'
         have y1:=qcU HC.out.1 hW'
         have y2:=qcU HC.out.2.1 hW'
         have y3:=qcU HC.out.2.2.1 hW'
         have y4:=qcU HC.out.2.2.2 hW'
         iterate 4 (refine fxo ?_ ?_;(go_big_quiet_step (fail);(try simp only [zq]);exact wqn rfl))
         refine fxo (wcg (by rfl) rfl rfl (fun W h=>by simp [loadVar,h,go_sem]) y1 (wqn (by simp only [zq]))) ?_
         iterate 4 (refine fxo ?_ ?_;(go_big_quiet_step (fail);(try simp only [zq]);exact wqn rfl))
         refine fxo (wcg (by rfl) rfl rfl (fun W h=>by simp [loadVar,h,go_sem]) y3 (wqn (by simp only [zq]))) ?_
         iterate 6 (refine fxo ?_ ?_;(go_big_quiet_step (fail);(try simp only [zq]);exact wqn rfl))
         refine fxo (wcg (by rfl) rfl rfl (fun W h=>by simp [loadVar,h,go_sem]) y2 (wqn (by simp only [zq]))) ?_
         iterate 4 (refine fxo ?_ ?_;(go_big_quiet_step (fail);(try simp only [zq]);exact wqn rfl))
         refine fxo (wcg (by rfl) rfl rfl (fun W h=>by simp [loadVar,h,go_sem]) y4 (wqn (by simp only [zq]))) ?_
         iterate 7 (refine fxo ?_ ?_;(go_big_quiet_step (fail);(try simp only [zq]);exact wqn rfl))
         refine fxo (wcg (by rfl) rfl rfl (fun W h=>by simp [loadVar,h,go_sem]) y2 (wqn (by simp only [zq]))) ?_
         iterate 2 (refine fxo ?_ ?_;(go_big_quiet_step (fail);(try simp only [zq]);exact wqn rfl))
         exact fxn
        ·exact oN
        ·exact oN
        intro β wx1 E
        replace FR:=hid (FR.out.fnw E rfl)
        have hE:=E.below rfl
        simp only [nP,zr,zq]
        replace FR0:=hid FR.out.le
        clear E
        replace HBJ:=hid (HBJ.out.trans (hE.mono HBJ.out.size))
        replace HC:=hid (And.intro (qcU HC.out.1 hE) (qcU HC.out.2.1 hE))
        replace HCA:=hid (And.intro (qcU HCA.out.1 hE) (qcU HCA.out.2 hE))
        clear b1 b2 FR FR0
        have hfp:=fair_pair HOU.out HX.out HY.out C1.out C2.out c3 mx1.1 HAV.out HBV.out
        obtain ⟨d,hdd⟩:∃ d,d=max (av - bv) (bv - av):=⟨_,rfl⟩
        rw [←hdd] at hfp
        have hd0:0≤d∧d≤1000000:=by omega
        have wab:IntKind.i64.wrap (av - bv)=av - bv:=IntWalk.i64_in _ (by omega)
        have wba:IntKind.i64.wrap (bv - av)=bv - av:=IntWalk.i64_in _ (by omega)
        have HDD:=hid hdd
        have hv0:x.value.toNat≠0:=by omega
        have hbb:=b480_big
        obtain ⟨Q,hQ⟩:=mkQ_some (N:=x.units) (D:=x.value.toNat) (by omega) (by omega)
        have vQ:=mkQ_valid hv0 hQ
        obtain ⟨_,q2,q3⟩:=mkQ_val hv0 hQ
        obtain ⟨S,hS⟩:=add_some vQ (by omega) (by omega)
        have vS:VQ S:=mkQ_valid (by have:=vQ.pos;omega) hS
        obtain ⟨cQ,V_cQ⟩:∃ c:List Value,Hid (c=nm (decide (Q.1<0)) Q.1.natAbs false Q.2 0):=⟨_,hid rfl⟩
        obtain ⟨cO,V_cO⟩:∃ c:List Value,Hid (c=nm (decide ((1:Int)<0)) (1:Int).natAbs false 1 0):=⟨_,hid rfl⟩
        obtain ⟨cS,V_cS⟩:∃ c:List Value,Hid (c=nm (decide (S.1<0)) S.1.natAbs false S.2 0):=⟨_,hid rfl⟩
        obtain ⟨cD,V_cD⟩:∃ c:List Value,Hid (c=nm (decide (d<0)) d.natAbs false 1 0):=⟨_,hid rfl⟩
        have HOV:=hid (eOver (cN:=cQ) (x:=x.units) (y:=x.value) (d:=x.value.toNat) (by omega) hv0 (by rw [hQ];exact V_cQ.out) (by omega) (by omega) (by omega))
        have HI1:=hid (eInt (cN:=cO) (z:=1) V_cO.out (by decide) (by decide))
        have HAD:=hid (eAdd (ca:=cQ) (cb:=cO) (cN:=cS) (a:=some Q) (b:=some (1,1)) V_cQ.out V_cO.out (fun r hr=>by cases hr;exact vQ) (fun r hr=>by cases hr;exact vq_int (by decide)) (by rw [V_cS.out];exact congrArg resN hS.symm))
        have HID:=hid (eInt (cN:=cD) (z:=d) V_cD.out (by omega) (by omega))
        have HLS:=hid (eLess (ca:=cS) (cb:=cD) (a:=S) (b:=(d,1)) (t:=false) V_cS.out V_cD.out vS (vq_int (by omega)) (fair_less c3 hQ hS hfp.1).symm)
        clear hfp hdd hv0 hbb hQ vQ q2 q3 hS vS hE
        obtain ⟨W7,hW7⟩:∃ W7,W7=wx1:=⟨_,rfl⟩
        rw [←hW7] at HBJ HC HCA ⊢
        clear hW7
        go_upto_region 13 with fail
        have FR:=hid (Fr.start W7)
        have FR0:=hid FR.out.le
        refine wfn [] [(79,.slice (some ⟨G,0,none⟩) n n),(80,.int .i64 (k:Int)),(81,.pointer (some ⟨G,k,none⟩)),(82,.int .i64 av),(83,.slice (some ⟨G,0,none⟩) n n),(84,.int .i64 (j:Int)),(85,.pointer (some ⟨G,j,none⟩)),(86,.int .i64 bv),(87,.int .i64 (av - bv)),(88,.slice (some ⟨G,0,none⟩) n n),(89,.int .i64 (j:Int)),(90,.pointer (some ⟨G,j,none⟩)),(91,.int .i64 bv),(92,.slice (some ⟨G,0,none⟩) n n),(93,.int .i64 (k:Int)),(94,.pointer (some ⟨G,k,none⟩)),(95,.int .i64 av),(96,.int .i64 (bv - av)),(97,.int .i64 d),(11,.int .i64 d)] _ (by simp only [zz4,zz5,zq];rfl) (by kernel_rfl) (by kernel_rfl) rfl ?_ ?_ ?_ ?_
        ·intro W' hW'
         have ya:=qcU HCA.out.1 hW'
         have yb:=qcU HCA.out.2 hW'
         iterate 3 (refine fxo ?_ ?_;(go_big_quiet_step (fail);(try simp only [zq]);exact wqn rfl))
         refine fxo (wcg (by rfl) rfl rfl (fun W h=>by simp [loadVar,h,go_sem]) ya (wqn (by simp only [zq]))) ?_
         iterate 3 (refine fxo ?_ ?_;(go_big_quiet_step (fail);(try simp only [zq]);exact wqn rfl))
         refine fxo (wcg (by rfl) rfl rfl (fun W h=>by simp [loadVar,h,go_sem]) yb (wqn (by simp only [zq]))) ?_
         iterate 4 (refine fxo ?_ ?_;(go_big_quiet_step (fail);(try simp only [zq]);exact wqn rfl))
         refine fxo (wcg (by rfl) rfl rfl (fun W h=>by simp [loadVar,h,go_sem]) yb (wqn (by simp only [zq]))) ?_
         iterate 3 (refine fxo ?_ ?_;(go_big_quiet_step (fail);(try simp only [zq]);exact wqn rfl))
         refine fxo (wcg (by rfl) rfl rfl (fun W h=>by simp [loadVar,h,go_sem]) ya (wqn (by simp only [zq]))) ?_
         refine fxo ?_ ?_;(go_big_quiet_step (fail);(try simp only [zq]);exact wqn rfl)
         refine fxo (wpQuiet_run_g (by rfl) (fun W hb=>run_maxOp rfl rfl rfl HDD.out) (wqn (by simp only [zq]))) ?_
         refine fxo ?_ ?_;(go_big_quiet_step (fail);(try simp only [zq]);exact wqn rfl)
         exact fxn
        ·exact oN
        ·exact oN
        intro β wx1 E
        replace FR:=hid (FR.out.fnw E rfl)
        have hE:=E.below rfl
        simp only [nP,zr,zq]
        replace FR0:=hid FR.out.le
        clear E
        replace HBJ:=hid (HBJ.out.trans (hE.mono HBJ.out.size))
        replace HC:=hid (And.intro (qcU HC.out.1 hE) (qcU HC.out.2 hE))
        obtain ⟨W8,hW8⟩:∃ W8,W8=wx1:=⟨_,rfl⟩
        clear hE FR FR0
        rw [←hW8] at HBJ HC ⊢
        clear hW8 HCA wab wba HDD
        go_upto_region 14 with fail
        have FR:=hid (Fr.start W8)
        have FR0:=hid FR.out.le
        refine wfn [] [(98,.slice (some ⟨g,off,none⟩) n cap0),(99,.int .i64 (k:Int)),(100,.pointer (some ⟨g,off+k*3,none⟩)),(101,.pointer (some ⟨g,off+k*3+1,none⟩)),(102,.int .i64 x.units),(103,.slice (some ⟨g,off,none⟩) n cap0),(104,.int .i64 (k:Int)),(105,.pointer (some ⟨g,off+k*3,none⟩)),(106,.pointer (some ⟨g,off+k*3+2,none⟩)),(107,.int .i64 x.value),(108,.agg cQ.toArray),(109,.agg cO.toArray),(110,.agg cS.toArray),(111,.int .i64 d),(112,.agg cD.toArray),(113,.bool false)] _ (by simp only [zz4,zz5,zq];rfl) (by kernel_rfl) (by kernel_rfl) rfl ?_ ?_ ?_ ?_
        ·intro W' hW'
         have y1:=qcU HC.out.1 hW'
         have y2:=qcU HC.out.2 hW'
         iterate 4 (refine fxo ?_ ?_;(go_big_quiet_step (fail);(try simp only [zq]);exact wqn rfl))
         refine fxo (wcg (by rfl) rfl rfl (fun W h=>by simp [loadVar,h,go_sem]) y1 (wqn (by simp only [zq]))) ?_
         iterate 4 (refine fxo ?_ ?_;(go_big_quiet_step (fail);(try simp only [zq]);exact wqn rfl))
         refine fxo (wcg (by rfl) rfl rfl (fun W h=>by simp [loadVar,h,go_sem]) y2 (wqn (by simp only [zq]))) ?_
         refine fxo ?_ ?_;(go_big_quiet_step ((go_at_call 22;exact Calls.below_of (HOV.out _)));(try simp only [zq]);exact wqn rfl)
         refine fxo ?_ ?_;(go_big_quiet_step ((go_at_call 19;exact Calls.below_of (HI1.out _)));(try simp only [zq]);exact wqn rfl)
         refine fxo ?_ ?_;(go_big_quiet_step ((go_at_call 20;exact Calls.below_of (HAD.out _)));(try simp only [zq]);exact wqn rfl)
         refine fxo ?_ ?_;(go_big_quiet_step (fail);(try simp only [zq]);exact wqn rfl)
         refine fxo ?_ ?_;(go_big_quiet_step ((go_at_call 19;exact Calls.below_of (HID.out _)));(try simp only [zq]);exact wqn rfl)
         refine fxo ?_ ?_;(go_big_quiet_step ((go_at_call 23;exact Calls.below_of (HLS.out _)));(try simp only [zq]);exact wqn rfl)
         exact fxn
        ·exact oN
        ·exact oN
        intro β wx1 E
        replace FR:=hid (FR.out.fnw E rfl)
        have hE:=E.below rfl
        simp only [nP,zr,zq]
        replace FR0:=hid FR.out.le
        clear E
        replace HBJ:=hid (HBJ.out.trans (hE.mono HBJ.out.size))
        clear hE
        go_wp2
        go_roundg (gk - 1)
        case measure=>omega
        case rel=>exact ⟨j+1,by go_num,by omega,by omega,HBJ.out⟩
       ·refine wfn [] [(47,.slice (some ⟨g,off,none⟩) n cap0),(48,.int .i64 (k:Int)),(49,.pointer (some ⟨g,off+k*3,none⟩)),(50,.pointer (some ⟨g,off+k*3+1,none⟩)),(51,.int .i64 x.units),(52,.slice (some ⟨g,off,none⟩) n cap0),(53,.int .i64 (j:Int)),(54,.pointer (some ⟨g,off+j*3,none⟩)),(55,.pointer (some ⟨g,off+j*3+1,none⟩)),(56,.int .i64 y.units),(57,.bool true),(58,.bool true),(59,.slice (some ⟨g,off,none⟩) n cap0),(60,.int .i64 (k:Int)),(61,.pointer (some ⟨g,off+k*3,none⟩)),(62,.pointer (some ⟨g,off+k*3+2,none⟩)),(63,.int .i64 x.value),(64,.slice (some ⟨g,off,none⟩) n cap0),(65,.int .i64 (j:Int)),(66,.pointer (some ⟨g,off+j*3,none⟩)),(67,.pointer (some ⟨g,off+j*3+2,none⟩)),(68,.int .i64 y.value),(69,.bool true),(70,.bool true),(71,.bool true),(72,.slice (some ⟨g,off,none⟩) n cap0),(73,.int .i64 (k:Int)),(74,.pointer (some ⟨g,off+k*3,none⟩)),(75,.pointer (some ⟨g,off+k*3+2,none⟩)),(76,.int .i64 x.value),(77,.bool false),(78,.bool false)] _ (by simp only [zz4,zz5,zq];rfl) (by kernel_rfl) (by kernel_rfl) rfl ?_ ?_ ?_ ?_
        ·intro W' hW'
         have y1:=qcU HC.out.1 hW'
         have y2:=qcU HC.out.2.1 hW'
         have y3:=qcU HC.out.2.2.1 hW'
         have y4:=qcU HC.out.2.2.2 hW'
         iterate 4 (refine fxo ?_ ?_;(go_big_quiet_step (fail);(try simp only [zq]);exact wqn rfl))
         refine fxo (wcg (by rfl) rfl rfl (fun W h=>by simp [loadVar,h,go_sem]) y1 (wqn (by simp only [zq]))) ?_
         iterate 4 (refine fxo ?_ ?_;(go_big_quiet_step (fail);(try simp only [zq]);exact wqn rfl))
         refine fxo (wcg (by rfl) rfl rfl (fun W h=>by simp [loadVar,h,go_sem]) y3 (wqn (by simp only [zq]))) ?_
         iterate 6 (refine fxo ?_ ?_;(go_big_quiet_step (fail);(try simp only [zq]);exact wqn rfl))
         refine fxo (wcg (by rfl) rfl rfl (fun W h=>by simp [loadVar,h,go_sem]) y2 (wqn (by simp only [zq]))) ?_
         iterate 4 (refine fxo ?_ ?_;(go_big_quiet_step (fail);(try simp only [zq]);exact wqn rfl))
         refine fxo (wcg (by rfl) rfl rfl (fun W h=>by simp [loadVar,h,go_sem]) y4 (wqn (by simp only [zq]))) ?_
         iterate 7 (refine fxo ?_ ?_;(go_big_quiet_step (fail);(try simp only [zq]);exact wqn rfl))
         refine fxo (wcg (by rfl) rfl rfl (fun W h=>by simp [loadVar,h,go_sem]) y2 (wqn (by simp only [zq]))) ?_
         iterate 2 (refine fxo ?_ ?_;(go_big_quiet_step (fail);(try simp only [zq]);exact wqn rfl))
         exact fxn
        ·exact oN
        ·exact oN
        intro β wx1 E
        replace FR:=hid (FR.out.fnw E rfl)
        have hE:=E.below rfl
        simp only [nP,zr,zq]
        replace FR0:=hid FR.out.le
        clear E
        replace HBJ:=hid (HBJ.out.trans (hE.mono HBJ.out.size))
        clear hE
        go_wp2
        go_roundg (gk - 1)
        case measure=>omega
        case rel=>exact ⟨j+1,by go_num,by omega,by omega,HBJ.out⟩
      ·have b2:(x.value==y.value)=false:=beq_eq_false_iff_ne.2 c2
       clear c2
       refine wfn [] [(47,.slice (some ⟨g,off,none⟩) n cap0),(48,.int .i64 (k:Int)),(49,.pointer (some ⟨g,off+k*3,none⟩)),(50,.pointer (some ⟨g,off+k*3+1,none⟩)),(51,.int .i64 x.units),(52,.slice (some ⟨g,off,none⟩) n cap0),(53,.int .i64 (j:Int)),(54,.pointer (some ⟨g,off+j*3,none⟩)),(55,.pointer (some ⟨g,off+j*3+1,none⟩)),(56,.int .i64 y.units),(57,.bool true),(58,.bool true),(59,.slice (some ⟨g,off,none⟩) n cap0),(60,.int .i64 (k:Int)),(61,.pointer (some ⟨g,off+k*3,none⟩)),(62,.pointer (some ⟨g,off+k*3+2,none⟩)),(63,.int .i64 x.value),(64,.slice (some ⟨g,off,none⟩) n cap0),(65,.int .i64 (j:Int)),(66,.pointer (some ⟨g,off+j*3,none⟩)),(67,.pointer (some ⟨g,off+j*3+2,none⟩)),(68,.int .i64 y.value),(69,.bool false),(70,.bool false),(71,.bool false),(72,undef),(73,undef),(74,undef),(75,undef),(76,undef),(77,undef),(78,.bool false)] _ (by simp only [zz4,zz5,zq];rfl) (by kernel_rfl) (by kernel_rfl) rfl ?_ ?_ ?_ ?_
       ·intro W' hW'
        have y1:=qcU HC.out.1 hW'
        have y2:=qcU HC.out.2.1 hW'
        have y3:=qcU HC.out.2.2.1 hW'
        have y4:=qcU HC.out.2.2.2 hW'
        iterate 4 (refine fxo ?_ ?_;(go_big_quiet_step (fail);(try simp only [zq]);exact wqn rfl))
        refine fxo (wcg (by rfl) rfl rfl (fun W h=>by simp [loadVar,h,go_sem]) y1 (wqn (by simp only [zq]))) ?_
        iterate 4 (refine fxo ?_ ?_;(go_big_quiet_step (fail);(try simp only [zq]);exact wqn rfl))
        refine fxo (wcg (by rfl) rfl rfl (fun W h=>by simp [loadVar,h,go_sem]) y3 (wqn (by simp only [zq]))) ?_
        iterate 6 (refine fxo ?_ ?_;(go_big_quiet_step (fail);(try simp only [zq]);exact wqn rfl))
        refine fxo (wcg (by rfl) rfl rfl (fun W h=>by simp [loadVar,h,go_sem]) y2 (wqn (by simp only [zq]))) ?_
        iterate 4 (refine fxo ?_ ?_;(go_big_quiet_step (fail);(try simp only [zq]);exact wqn rfl))
        refine fxo (wcg (by rfl) rfl rfl (fun W h=>by simp [loadVar,h,go_sem]) y4 (wqn (by simp only [zq]))) ?_
        iterate 10 (refine fxo ?_ ?_;(go_big_quiet_step (fail);(try simp only [zq]);exact wqn rfl))
        exact fxn
       ·exact oN
       ·exact oN
       intro β wx1 E
       replace FR:=hid (FR.out.fnw E rfl)
       have hE:=E.below rfl
       simp only [nP,zr,zq]
       replace FR0:=hid FR.out.le
       clear E
       replace HBJ:=hid (HBJ.out.trans (hE.mono HBJ.out.size))
       clear hE
       go_wp2
       go_roundg (gk - 1)
       case measure=>omega
       case rel=>exact ⟨j+1,by go_num,by omega,by omega,HBJ.out⟩
     ·have b1:(x.units==y.units)=false:=beq_eq_false_iff_ne.2 c1
      clear c1
      refine wfn [] [(47,.slice (some ⟨g,off,none⟩) n cap0),(48,.int .i64 (k:Int)),(49,.pointer (some ⟨g,off+k*3,none⟩)),(50,.pointer (some ⟨g,off+k*3+1,none⟩)),(51,.int .i64 x.units),(52,.slice (some ⟨g,off,none⟩) n cap0),(53,.int .i64 (j:Int)),(54,.pointer (some ⟨g,off+j*3,none⟩)),(55,.pointer (some ⟨g,off+j*3+1,none⟩)),(56,.int .i64 y.units),(57,.bool false),(58,.bool false),(59,undef),(60,undef),(61,undef),(62,undef),(63,undef),(64,undef),(65,undef),(66,undef),(67,undef),(68,undef),(69,undef),(70,.bool false),(71,.bool false),(72,undef),(73,undef),(74,undef),(75,undef),(76,undef),(77,undef),(78,.bool false)] _ (by simp only [zz4,zz5,zq];rfl) (by kernel_rfl) (by kernel_rfl) rfl ?_ ?_ ?_ ?_
      ·intro W' hW'
       have y1:=qcU HC.out.1 hW'
       have y2:=qcU HC.out.2.1 hW'
       have y3:=qcU HC.out.2.2.1 hW'
       have y4:=qcU HC.out.2.2.2 hW'
       iterate 4 (refine fxo ?_ ?_;(go_big_quiet_step (fail);(try simp only [zq]);exact wqn rfl))
       refine fxo (wcg (by rfl) rfl rfl (fun W h=>by simp [loadVar,h,go_sem]) y1 (wqn (by simp only [zq]))) ?_
       iterate 4 (refine fxo ?_ ?_;(go_big_quiet_step (fail);(try simp only [zq]);exact wqn rfl))
       refine fxo (wcg (by rfl) rfl rfl (fun W h=>by simp [loadVar,h,go_sem]) y3 (wqn (by simp only [zq]))) ?_
       iterate 22 (refine fxo ?_ ?_;(go_big_quiet_step (fail);(try simp only [zq]);exact wqn rfl))
       exact fxn
      ·exact oN
      ·exact oN
      intro β wx1 E
      replace FR:=hid (FR.out.fnw E rfl)
      have hE:=E.below rfl
      simp only [nP,zr,zq]
      replace FR0:=hid FR.out.le
      clear E
      replace HBJ:=hid (HBJ.out.trans (hE.mono HBJ.out.size))
      clear hE
      go_wp2
      go_roundg (gk - 1)
      case measure=>omega
      case rel=>exact ⟨j+1,by go_num,by omega,by omega,HBJ.out⟩
    ·obtain rfl:j=k:=by omega
     clear hb
     go_wp2
     go_roundg (G0 - 1)
     case measure=>have:=HG0.out;omega
     case rel=>exact ⟨j+1,by go_num,by omega,by have:=HG0.out;omega,HBJ.out⟩
  ·obtain rfl:k=n:=by omega
   go_wp2_with fail
   refine (awake_any _).mono ?_
   rintro e w9 ⟨rfl,hb9⟩
   have z1:=HB6.out.trans (HBL.out.mono HB6.out.size)
   have HB9:=hid (z1.trans (hb9.mono z1.size))
   clear hb9 z1
   go_wp2
   go_ret
   exact ⟨rfl,HB9.out⟩
end Go.Proofs.YtooeabibhjbkoaaGreat
