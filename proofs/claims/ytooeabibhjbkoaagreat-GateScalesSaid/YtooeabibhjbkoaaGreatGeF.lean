import Derived.Test.YtooeabibhjbkoaaGreatGnQ
set_option linter.unusedVariables false
set_option linter.unusedSimpArgs false
set_option maxRecDepth 100000
set_option maxHeartbeats 8000000
namespace Go.Proofs.YtooeabibhjbkoaaGreat
open Go.RowKit Big Reg Al Ap Ga
open Lib (hid)
theorem qqC {p q:Nat} {z:Int} {r:Qn} (hq:q≠0) (h:mulQ ((p:Int),q) (z,1)=some r):VQ r∧r.1 / (r.2:Int)=roomZ z p q:=by
 unfold mulQ at h
 refine ⟨qbS (by simpa using hq) h,?_⟩
 rw [qhS h (by simpa using hq)]
 unfold roomZ
 simp
theorem qvB {net:Int} {p q:Nat} (hq:q≠0):roomZ (max net 0) p q=((roomZ net p q).toNat:Int):=by
 by_cases hn:0≤net
 ·rw [show max net 0=net by omega]
  have:0≤roomZ net p q:=Int.ediv_nonneg (Int.mul_nonneg (Int.natCast_nonneg _) hn) (Int.natCast_nonneg _)
  omega
 ·rw [show max net 0=0 by omega]
  have h1:roomZ net p q≤0:=by
   unfold roomZ
   have a:(p:Int)*net≤0:=Int.mul_nonpos_of_nonneg_of_nonpos (Int.natCast_nonneg _) (by omega)
   have b:=Int.ediv_le_ediv (c:=(q:Int)) (by omega) a
   rwa [Int.zero_ediv] at b
  unfold roomZ at h1 ⊢
  rw [Int.mul_zero,Int.zero_ediv]
  omega
theorem qkO {cr:List Value} {net:Int} {p q:Nat} {r:Qn} (h:cr=ratZ (p:Int) q) (hV:VQ ((p:Int),q)) (hpq:p≤q) (h1:-1000000000000000≤net) (h2:net≤1000000000000000) (hm:mulQ ((p:Int),q) (net,1)=some r) (w:World) :
  Calls Tryz.prog 18 #[.int .i64 net,.agg cr.toArray] w fun e w'=>e=.returned (.int .i64 ((roomZ net p q).toNat:Int))∧Below w.heap.size w w':=by
 have hq:q≠0:=hV.pos
 obtain ⟨r',hr'⟩:=qrM hq hm
 obtain ⟨M,hM⟩:∃ M,M=max net 0:=⟨_,rfl⟩
 have hMX:=hM.symm
 rw [←hM] at hr'
 obtain ⟨hVR,hfl⟩:=qqC hq hr'
 have hrn:=qvB (net:=net) (p:=p) hq
 rw [←hM,←hfl] at hrn
 have hbd:=qjF (net:=M) (p:=p) (q:=q) (by omega) (by omega) hpq (by omega)
 rw [←hfl,hrn] at hbd
 have V_cr:=hid (show cr=rat (decide ((p:Int)<0)) (p:Int).natAbs false q from h)
 obtain ⟨cN,V_cN⟩:∃ c:List Value,Hid (c=nm (decide ((p:Int)<0)) (p:Int).natAbs false q 0):=⟨_,hid rfl⟩
 obtain ⟨cM,V_cM⟩:∃ c:List Value,Hid (c=nm (decide (M<0)) M.natAbs false 1 0):=⟨_,hid rfl⟩
 obtain ⟨cP,V_cP⟩:∃ c:List Value,Hid (c=resN (some r')):=⟨_,hid rfl⟩
 obtain ⟨T,hT⟩:∃ T:Int,T=((roomZ net p q).toNat:Int):=⟨_,rfl⟩
 rw [←hT] at hrn hbd ⊢
 have hT0:0≤T:=by rw [hT];exact Int.natCast_nonneg _
 have HMX:=hid hMX
 have HO:=hid (eOf V_cr.out V_cN.out)
 have HI:=hid (qxU (cN:=cM) (z:=M) V_cM.out (by omega) (by omega))
 have HML:=hid (jbH (ca:=cN) (cb:=cM) (cN:=cP) (a:=some ((p:Int),q)) (b:=some (M,1)) V_cN.out V_cM.out (fun x hx=>by cases hx;exact hV) (fun x hx=>by cases hx;exact qiG (by omega)) (by rw [V_cP.out];exact congrArg resN hr'.symm))
 have HRD:=hid (qxT (ca:=cP) (a:=r') (n:=T) (most:=1000000000000000) V_cP.out hVR hrn.symm hT0 hbd.2 (by decide))
 clear h hV hpq h1 h2 hm hq hr' hM hMX hVR hfl hrn hbd hT hT0
 obtain ⟨B0,hB0⟩:∃ B,B=w.heap.size:=⟨_,rfl⟩
 obtain ⟨w0,hw0⟩:∃ w0,w0=(w.alloc (.cells cr.toArray 27)):=⟨_,rfl⟩
 have AB0:=hid (show At w0 B0 0 cr by rw [hw0];exact (show At (w.alloc (.cells cr.toArray 27)) B0 0 cr from At.fresh _ cr _ (by simp [hB0])))
 have FR:=hid (show Fr B0 w w0 by rw [hw0,hB0];exact (Fr.start w).alloc _)
 have FR0:=hid FR.out.le
 have hZB0:B0≤B0:=Nat.le_refl _
 have HB0:=hid hB0
 go_enter Tryz.func18,Tryz.ntmps18
 go_upto_region 1 with fail
 rw [←hw0,←hB0]
 clear hw0 hB0
 go_wp2_with (first|(refine wpList_load_mid rfl _ _ rfl B0 0 rfl cr _ AB0.out.range Tryz.underlying27 rfl (qR V_cr.out) ?_)|(refine qgI rfl _ _ _ rfl .i64 net 0 rfl rfl ?_;rw [HMX.out])|(go_at_call 40;refine (HO.out _).mono ?_;rintro e w1 ⟨rfl,hb1⟩;have HB1:=hid (FR.out.step hb1);clear hb1)|(go_at_call 19;refine (HI.out _).mono ?_;rintro e w2 ⟨rfl,hb2⟩;have HB2:=hid (HB1.out.step hb2);clear hb2)|(go_at_call 21;refine (HML.out _).mono ?_;rintro e w3 ⟨rfl,hb3⟩;have HB3:=hid (HB2.out.step hb3);clear hb3)|(go_at_call 42;refine (HRD.out _).mono ?_;rintro e w4 ⟨rfl,hb4⟩;have HB4:=hid (HB3.out.step hb4);clear hb4))
 go_ret
 exact ⟨rfl,by have h:=HB4.out.below;rwa [HB0.out] at h⟩
theorem qqR {a b:ByteArray} (h:¬a=b):(a.toList==b.toList)=false:=by
 rw [beq_eq_false_iff_ne]
 intro hq
 rw [ByteArray.toList_eq,ByteArray.toList_eq] at hq
 exact h (by cases a;cases b;exact congrArg ByteArray.mk (Array.toList_inj.1 hq))
theorem qxA {l:List Rq} {k j:Nat} {x y:Rq} (hj:j<k) (hy:l[j]?=some y) (he:y.key=x.key):((l.take k).any fun c=>decide (c.key=x.key))=true:=by
 rw [List.any_eq_true]
 exact ⟨y,List.mem_of_getElem? (i:=j) (by rw [List.getElem?_take,if_pos hj];exact hy),by simp [he]⟩
theorem jaD {l:List Rq} {k:Nat} {s:ByteArray} (h:∀ j y,j<k→l[j]?=some y→y.key≠s):((l.take k).any fun c=>decide (c.key=s))=false:=by
 rw [List.any_eq_false]
 intro y hy
 obtain ⟨j,hj⟩:=List.mem_iff_getElem?.1 hy
 rw [List.getElem?_take] at hj
 split at hj
 ·rename_i hjk;simpa using h j y hjk hj
 ·cases hj
theorem qoJ (v:Value) (l:List Rq) (w:World) (h:RqsAt w v l) :
  Calls Tryz.prog 39 #[v] w fun e w'=>e=.returned (.bool (checkQ l))∧Below w.heap.size w w':=by
 have hF:=checkQ.eq_1 l
 obtain ⟨A,cap,hv⟩:=Rd.form h
 have hmx:=h.2.1
 by_cases hlen:l.length≤64
 ·by_cases hnil:l.length=0
  ·have HF:=hid (show checkQ l=true by rw [hF,List.eq_nil_of_length_eq_zero hnil];rfl)
   subst hv
   rw [hnil]
   clear hF hlen h hmx hnil
   go_enter Tryz.func39,Tryz.ntmps39
   go_wp2
   go_loopg [3] 0 (fun m i wr=>i=.int .i64 0∧Below w.heap.size w wr)
   case atStart=>exact ⟨rfl,Below.refl _ _⟩
   case round =>
    obtain ⟨rfl,hbl⟩:=hrel
    go_wp2
    go_ret
    exact ⟨qaI HF.out.symm,hbl⟩
  ·obtain ⟨g,off,cap,rfl,hc⟩:=qfS h (by omega)
   have hglt:=qoK hc (by omega)
   obtain ⟨n,hnn⟩:∃ n,n=l.length:=⟨_,rfl⟩
   rw [←hnn] at hlen h hmx hnil ⊢
   have HN:=hid hnn
   have HC:=hid hc
   have HF:=hid (show checkQ l=okLQ l by rw [hF,←hnn,decide_eq_true hlen];rfl)
   have p1:¬(64:Int)<(n:Int):=by omega
   clear hnn hc h hF
   go_enter Tryz.func39,Tryz.ntmps39
   go_wp2
   go_loopg [3] n (fun m i wr=>∃ (k:Nat),k≤n∧n - k≤m∧i=.int .i64 k∧(∀ j,j<k→okAtQ l j=true)∧Below w.heap.size w wr)
   case atStart=>exact ⟨0,by omega,by omega,rfl,fun j hj=>absurd hj (by omega),Below.refl _ _⟩
   case round =>
    obtain ⟨k,hk,hm,rfl,hok,hbl⟩:=hrel
    have HOK:=hid hok
    have HB0:=hid hbl
    have hsz:=hbl.size
    clear hok hbl
    by_cases hlt:k<n
    ·obtain ⟨x,hx⟩:∃ x,l[k]?=some x:=⟨l[k]'(by rw [←HN.out];exact hlt),by simp [←HN.out,hlt]⟩
     obtain ⟨c0,c1,c2⟩:=(HC.out k x hx).below HB0.out
     have HX:=hid hx
     clear hx
     go_upto_region 7 with fail
     obtain ⟨W1,hW1⟩:∃ W1,W1=wr.alloc (.cells #[.string x.key,.int .i64 x.units,.int .i64 x.value] 48):=⟨_,rfl⟩
     have hbW:Below wr.heap.size wr W1:=by rw [hW1];exact (Below.refl _ _).alloc (Nat.le_refl _) _
     obtain ⟨X,hX⟩:∃ X,X=wr.heap.size:=⟨_,rfl⟩
     have x0:W1.cell? ⟨X,0,none⟩=some (.string x.key):=by rw [hW1,hX];go_cell
     have x1:W1.cell? ⟨X,1,none⟩=some (.int .i64 x.units):=by rw [hW1,hX];go_cell
     have x2:W1.cell? ⟨X,2,none⟩=some (.int .i64 x.value):=by rw [hW1,hX];go_cell
     rw [←hW1,←hX]
     have HBW:=hid (HB0.out.trans (hbW.mono HB0.out.size))
     clear hW1 hbW c0 c1 c2 hX
     have FR:=hid (Fr.start W1)
     have FR0:=hid FR.out.le
     cases h1:nameB x.key with
     | false =>
      have H1:=hid (qxH x.key false h1)
      have HNO:=hid (show okAtQ l k=false by simp [okAtQ,HX.out,okQ,h1])
      refine wfn [] [(19,.pointer (some ⟨X,0,none⟩)),(20,.string x.key),(21,.bool false),(22,.bool true),(23,.bool true),(24,undef),(25,undef),(26,undef),(27,.bool true),(28,.bool true),(29,undef),(30,undef),(31,undef),(32,.bool true),(33,.bool true),(34,undef),(35,undef),(36,undef),(37,.bool true),(38,.bool true),(39,undef),(40,undef),(41,undef),(42,.bool true)] _ (by simp only [zz4,zz5,zq];rfl) (by kernel_rfl) (by kernel_rfl) rfl ?_ ?_ ?_ ?_
      ·intro W' hW'
       have z0:=qcU x0 hW'
       refine fxo ?_ ?_;(go_big_quiet_step (fail);(try simp only [zq]);exact wqn rfl)
       refine fxo (wcg (by rfl) rfl rfl (fun W h=>by simp [loadVar,h,go_sem]) z0 (wqn (by simp only [zq]))) ?_
       refine fxo ?_ ?_;(go_big_quiet_step ((go_at_call 70;exact qaA (H1.out _)));(try simp only [zq]);exact wqn rfl)
       iterate 21 (refine fxo ?_ ?_;(go_big_quiet_step (fail);(try simp only [zq]);exact wqn rfl))
       exact fxn
      ·exact oN
      ·exact oN
      intro β wx1 E
      replace FR:=hid (FR.out.fnw E rfl)
      have hE:=E.below rfl
      simp only [nP,zr,zq]
      replace FR0:=hid FR.out.le
      clear E
      go_wp2
      go_ret
      exact ⟨qaI (by rw [HF.out,qcI (by rw [←HN.out];exact hlt) HNO.out]),HBW.out.trans (FR.out.below.mono HBW.out.size)⟩
     | true =>
      have H1:=hid (qxH x.key true h1)
      cases h2:inR x.units 1 1000000000000000 with
      | false =>
       have hno:=qoU h2
       by_cases q1:x.units<1
       ·clear hno
        have HNO:=hid (show okAtQ l k=false by simp [okAtQ,HX.out,okQ,h1,h2])
        refine wfn [] [(19,.pointer (some ⟨X,0,none⟩)),(20,.string x.key),(21,.bool true),(22,.bool false),(23,.bool false),(24,.pointer (some ⟨X,1,none⟩)),(25,.int .i64 x.units),(26,.bool true),(27,.bool true),(28,.bool true),(29,undef),(30,undef),(31,undef),(32,.bool true),(33,.bool true),(34,undef),(35,undef),(36,undef),(37,.bool true),(38,.bool true),(39,undef),(40,undef),(41,undef),(42,.bool true)] _ (by simp only [zz4,zz5,zq];rfl) (by kernel_rfl) (by kernel_rfl) rfl ?_ ?_ ?_ ?_
        ·intro W' hW'
         have z0:=qcU x0 hW'
         have z1:=qcU x1 hW'
         refine fxo ?_ ?_;(go_big_quiet_step (fail);(try simp only [zq]);exact wqn rfl)
         refine fxo (wcg (by rfl) rfl rfl (fun W h=>by simp [loadVar,h,go_sem]) z0 (wqn (by simp only [zq]))) ?_
         refine fxo ?_ ?_;(go_big_quiet_step ((go_at_call 70;exact qaA (H1.out _)));(try simp only [zq]);exact wqn rfl)
         iterate 3 (refine fxo ?_ ?_;(go_big_quiet_step (fail);(try simp only [zq]);exact wqn rfl))
         refine fxo (wcg (by rfl) rfl rfl (fun W h=>by simp [loadVar,h,go_sem]) z1 (wqn (by simp only [zq]))) ?_
         iterate 17 (refine fxo ?_ ?_;(go_big_quiet_step (fail);(try simp only [zq]);exact wqn rfl))
         exact fxn
        ·exact oN
        ·exact oN
        intro β wx1 E
        replace FR:=hid (FR.out.fnw E rfl)
        have hE:=E.below rfl
        simp only [nP,zr,zq]
        replace FR0:=hid FR.out.le
        clear E
        go_wp2
        go_ret
        exact ⟨qaI (by rw [HF.out,qcI (by rw [←HN.out];exact hlt) HNO.out]),HBW.out.trans (FR.out.below.mono HBW.out.size)⟩
       ·have q2:(1000000000000000:Int)<x.units:=by omega
        clear hno
        have HNO:=hid (show okAtQ l k=false by simp [okAtQ,HX.out,okQ,h1,h2])
        refine wfn [] [(19,.pointer (some ⟨X,0,none⟩)),(20,.string x.key),(21,.bool true),(22,.bool false),(23,.bool false),(24,.pointer (some ⟨X,1,none⟩)),(25,.int .i64 x.units),(26,.bool false),(27,.bool false),(28,.bool false),(29,.pointer (some ⟨X,1,none⟩)),(30,.int .i64 x.units),(31,.bool true),(32,.bool true),(33,.bool true),(34,undef),(35,undef),(36,undef),(37,.bool true),(38,.bool true),(39,undef),(40,undef),(41,undef),(42,.bool true)] _ (by simp only [zz4,zz5,zq];rfl) (by kernel_rfl) (by kernel_rfl) rfl ?_ ?_ ?_ ?_
        ·intro W' hW'
         have z0:=qcU x0 hW'
         have z1:=qcU x1 hW'
         refine fxo ?_ ?_;(go_big_quiet_step (fail);(try simp only [zq]);exact wqn rfl)
         refine fxo (wcg (by rfl) rfl rfl (fun W h=>by simp [loadVar,h,go_sem]) z0 (wqn (by simp only [zq]))) ?_
         refine fxo ?_ ?_;(go_big_quiet_step ((go_at_call 70;exact qaA (H1.out _)));(try simp only [zq]);exact wqn rfl)
         iterate 3 (refine fxo ?_ ?_;(go_big_quiet_step (fail);(try simp only [zq]);exact wqn rfl))
         refine fxo (wcg (by rfl) rfl rfl (fun W h=>by simp [loadVar,h,go_sem]) z1 (wqn (by simp only [zq]))) ?_
         iterate 4 (refine fxo ?_ ?_;(go_big_quiet_step (fail);(try simp only [zq]);exact wqn rfl))
         refine fxo (wcg (by rfl) rfl rfl (fun W h=>by simp [loadVar,h,go_sem]) z1 (wqn (by simp only [zq]))) ?_
         iterate 12 (refine fxo ?_ ?_;(go_big_quiet_step (fail);(try simp only [zq]);exact wqn rfl))
         exact fxn
        ·exact oN
        ·exact oN
        intro β wx1 E
        replace FR:=hid (FR.out.fnw E rfl)
        have hE:=E.below rfl
        simp only [nP,zr,zq]
        replace FR0:=hid FR.out.le
        clear E
        go_wp2
        go_ret
        exact ⟨qaI (by rw [HF.out,qcI (by rw [←HN.out];exact hlt) HNO.out]),HBW.out.trans (FR.out.below.mono HBW.out.size)⟩
      | true =>
       have bh2:=qgO h2
       have nh2:¬x.units<1:=by omega
       have mh2:¬(1000000000000000:Int)<x.units:=by omega
       cases h3:inR x.value 0 1000000000000000 with
       | false =>
        have hno:=qoU h3
        by_cases q1:x.value<0
        ·clear hno
         have HNO:=hid (show okAtQ l k=false by simp [okAtQ,HX.out,okQ,h1,h2,h3])
         refine wfn [] [(19,.pointer (some ⟨X,0,none⟩)),(20,.string x.key),(21,.bool true),(22,.bool false),(23,.bool false),(24,.pointer (some ⟨X,1,none⟩)),(25,.int .i64 x.units),(26,.bool false),(27,.bool false),(28,.bool false),(29,.pointer (some ⟨X,1,none⟩)),(30,.int .i64 x.units),(31,.bool false),(32,.bool false),(33,.bool false),(34,.pointer (some ⟨X,2,none⟩)),(35,.int .i64 x.value),(36,.bool true),(37,.bool true),(38,.bool true),(39,undef),(40,undef),(41,undef),(42,.bool true)] _ (by simp only [zz4,zz5,zq];rfl) (by kernel_rfl) (by kernel_rfl) rfl ?_ ?_ ?_ ?_
         ·intro W' hW'
          have z0:=qcU x0 hW'
          have z1:=qcU x1 hW'
          have z2:=qcU x2 hW'
          refine fxo ?_ ?_;(go_big_quiet_step (fail);(try simp only [zq]);exact wqn rfl)
          refine fxo (wcg (by rfl) rfl rfl (fun W h=>by simp [loadVar,h,go_sem]) z0 (wqn (by simp only [zq]))) ?_
          refine fxo ?_ ?_;(go_big_quiet_step ((go_at_call 70;exact qaA (H1.out _)));(try simp only [zq]);exact wqn rfl)
          iterate 3 (refine fxo ?_ ?_;(go_big_quiet_step (fail);(try simp only [zq]);exact wqn rfl))
          refine fxo (wcg (by rfl) rfl rfl (fun W h=>by simp [loadVar,h,go_sem]) z1 (wqn (by simp only [zq]))) ?_
          iterate 4 (refine fxo ?_ ?_;(go_big_quiet_step (fail);(try simp only [zq]);exact wqn rfl))
          refine fxo (wcg (by rfl) rfl rfl (fun W h=>by simp [loadVar,h,go_sem]) z1 (wqn (by simp only [zq]))) ?_
          iterate 4 (refine fxo ?_ ?_;(go_big_quiet_step (fail);(try simp only [zq]);exact wqn rfl))
          refine fxo (wcg (by rfl) rfl rfl (fun W h=>by simp [loadVar,h,go_sem]) z2 (wqn (by simp only [zq]))) ?_
          iterate 7 (refine fxo ?_ ?_;(go_big_quiet_step (fail);(try simp only [zq]);exact wqn rfl))
          exact fxn
         ·exact oN
         ·exact oN
         intro β wx1 E
         replace FR:=hid (FR.out.fnw E rfl)
         have hE:=E.below rfl
         simp only [nP,zr,zq]
         replace FR0:=hid FR.out.le
         clear E
         go_wp2
         go_ret
         exact ⟨qaI (by rw [HF.out,qcI (by rw [←HN.out];exact hlt) HNO.out]),HBW.out.trans (FR.out.below.mono HBW.out.size)⟩
        ·have q2:(1000000000000000:Int)<x.value:=by omega
         clear hno
         have HNO:=hid (show okAtQ l k=false by simp [okAtQ,HX.out,okQ,h1,h2,h3])
         refine wfn [] [(19,.pointer (some ⟨X,0,none⟩)),(20,.string x.key),(21,.bool true),(22,.bool false),(23,.bool false),(24,.pointer (some ⟨X,1,none⟩)),(25,.int .i64 x.units),(26,.bool false),(27,.bool false),(28,.bool false),(29,.pointer (some ⟨X,1,none⟩)),(30,.int .i64 x.units),(31,.bool false),(32,.bool false),(33,.bool false),(34,.pointer (some ⟨X,2,none⟩)),(35,.int .i64 x.value),(36,.bool false),(37,.bool false),(38,.bool false),(39,.pointer (some ⟨X,2,none⟩)),(40,.int .i64 x.value),(41,.bool true),(42,.bool true)] _ (by simp only [zz4,zz5,zq];rfl) (by kernel_rfl) (by kernel_rfl) rfl ?_ ?_ ?_ ?_
         ·intro W' hW'
          have z0:=qcU x0 hW'
          have z1:=qcU x1 hW'
          have z2:=qcU x2 hW'
          refine fxo ?_ ?_;(go_big_quiet_step (fail);(try simp only [zq]);exact wqn rfl)
          refine fxo (wcg (by rfl) rfl rfl (fun W h=>by simp [loadVar,h,go_sem]) z0 (wqn (by simp only [zq]))) ?_
          refine fxo ?_ ?_;(go_big_quiet_step ((go_at_call 70;exact qaA (H1.out _)));(try simp only [zq]);exact wqn rfl)
          iterate 3 (refine fxo ?_ ?_;(go_big_quiet_step (fail);(try simp only [zq]);exact wqn rfl))
          refine fxo (wcg (by rfl) rfl rfl (fun W h=>by simp [loadVar,h,go_sem]) z1 (wqn (by simp only [zq]))) ?_
          iterate 4 (refine fxo ?_ ?_;(go_big_quiet_step (fail);(try simp only [zq]);exact wqn rfl))
          refine fxo (wcg (by rfl) rfl rfl (fun W h=>by simp [loadVar,h,go_sem]) z1 (wqn (by simp only [zq]))) ?_
          iterate 4 (refine fxo ?_ ?_;(go_big_quiet_step (fail);(try simp only [zq]);exact wqn rfl))
          refine fxo (wcg (by rfl) rfl rfl (fun W h=>by simp [loadVar,h,go_sem]) z2 (wqn (by simp only [zq]))) ?_
          iterate 4 (refine fxo ?_ ?_;(go_big_quiet_step (fail);(try simp only [zq]);exact wqn rfl))
          refine fxo (wcg (by rfl) rfl rfl (fun W h=>by simp [loadVar,h,go_sem]) z2 (wqn (by simp only [zq]))) ?_
          iterate 2 (refine fxo ?_ ?_;(go_big_quiet_step (fail);(try simp only [zq]);exact wqn rfl))
          exact fxn
         ·exact oN
         ·exact oN
         intro β wx1 E
         replace FR:=hid (FR.out.fnw E rfl)
         have hE:=E.below rfl
         simp only [nP,zr,zq]
         replace FR0:=hid FR.out.le
         clear E
         go_wp2
         go_ret
         exact ⟨qaI (by rw [HF.out,qcI (by rw [←HN.out];exact hlt) HNO.out]),HBW.out.trans (FR.out.below.mono HBW.out.size)⟩
       | true =>
        have bh3:=qgO h3
        have nh3:¬x.value<0:=by omega
        have mh3:¬(1000000000000000:Int)<x.value:=by omega
        have HEQ:=hid (show okAtQ l k=!((l.take k).any fun c=>decide (c.key=x.key)) by simp [okAtQ,HX.out,okQ,h1,h2,h3])
        clear h1
        refine wfn [] [(19,.pointer (some ⟨X,0,none⟩)),(20,.string x.key),(21,.bool true),(22,.bool false),(23,.bool false),(24,.pointer (some ⟨X,1,none⟩)),(25,.int .i64 x.units),(26,.bool false),(27,.bool false),(28,.bool false),(29,.pointer (some ⟨X,1,none⟩)),(30,.int .i64 x.units),(31,.bool false),(32,.bool false),(33,.bool false),(34,.pointer (some ⟨X,2,none⟩)),(35,.int .i64 x.value),(36,.bool false),(37,.bool false),(38,.bool false),(39,.pointer (some ⟨X,2,none⟩)),(40,.int .i64 x.value),(41,.bool false),(42,.bool false)] _ (by simp only [zz4,zz5,zq];rfl) (by kernel_rfl) (by kernel_rfl) rfl ?_ ?_ ?_ ?_
        ·intro W' hW'
         have z0:=qcU x0 hW'
         have z1:=qcU x1 hW'
         have z2:=qcU x2 hW'
         refine fxo ?_ ?_;(go_big_quiet_step (fail);(try simp only [zq]);exact wqn rfl)
         refine fxo (wcg (by rfl) rfl rfl (fun W h=>by simp [loadVar,h,go_sem]) z0 (wqn (by simp only [zq]))) ?_
         refine fxo ?_ ?_;(go_big_quiet_step ((go_at_call 70;exact qaA (H1.out _)));(try simp only [zq]);exact wqn rfl)
         iterate 3 (refine fxo ?_ ?_;(go_big_quiet_step (fail);(try simp only [zq]);exact wqn rfl))
         refine fxo (wcg (by rfl) rfl rfl (fun W h=>by simp [loadVar,h,go_sem]) z1 (wqn (by simp only [zq]))) ?_
         iterate 4 (refine fxo ?_ ?_;(go_big_quiet_step (fail);(try simp only [zq]);exact wqn rfl))
         refine fxo (wcg (by rfl) rfl rfl (fun W h=>by simp [loadVar,h,go_sem]) z1 (wqn (by simp only [zq]))) ?_
         iterate 4 (refine fxo ?_ ?_;(go_big_quiet_step (fail);(try simp only [zq]);exact wqn rfl))
         refine fxo (wcg (by rfl) rfl rfl (fun W h=>by simp [loadVar,h,go_sem]) z2 (wqn (by simp only [zq]))) ?_
         iterate 4 (refine fxo ?_ ?_;(go_big_quiet_step (fail);(try simp only [zq]);exact wqn rfl))
         refine fxo (wcg (by rfl) rfl rfl (fun W h=>by simp [loadVar,h,go_sem]) z2 (wqn (by simp only [zq]))) ?_
         iterate 2 (refine fxo ?_ ?_;(go_big_quiet_step (fail);(try simp only [zq]);exact wqn rfl))
         exact fxn
        ·exact oN
        ·exact oN
        intro β wx1 E
        replace FR:=hid (FR.out.fnw E rfl)
        have hE:=E.below rfl
        simp only [nP,zr,zq]
        replace FR0:=hid FR.out.le
        clear E
        have z0:=qcU x0 FR.out.below
        have HBN:=hid (HBW.out.trans (FR.out.below.mono HBW.out.size))
        obtain ⟨W2,hW2⟩:∃ W,W=wx1:=⟨_,rfl⟩
        rw [←hW2] at z0 HBN ⊢
        clear hW2 FR FR0
        go_upto_region 10 with fail
        clear bh2 bh3 nh2 nh3 mh2 mh3 x0 x1 x2
        obtain ⟨gk0,rfl⟩:∃ q,q=gk:=⟨gk,rfl⟩
        have HMM:=hid (And.intro hm hlt)
        clear hm
        go_loopg [5] k (fun m jv wq=>∃ j:Nat,jv=.int .i64 (j:Int)∧j≤k∧k≤m+j∧(∀ i y,i<j→l[i]?=some y→y.key≠x.key)∧Below W2.heap.size W2 wq)
        case atStart=>exact ⟨0,rfl,by omega,by omega,fun i y hi=>absurd hi (by omega),Below.refl _ _⟩
        case round =>
         obtain ⟨j,rfl,hj,hmj,hall,hbw⟩:=hrel
         have HALL:=hid hall
         clear hall
         have hbq:=hid (HBN.out.trans (hbw.mono HBN.out.size))
         have y0:=qcU z0 hbw
         have HBW2:=hid hbw
         clear hbw
         by_cases hjk:j<k
         ·obtain ⟨y,hy⟩:∃ y,l[j]?=some y:=⟨l[j]'(by rw [←HN.out];omega),by simp [←HN.out,show j<n by omega]⟩
          have c0:=((HC.out j y hy).below hbq.out).1
          have HY:=hid hy
          clear hy
          by_cases he:y.key=x.key
          ·have HNO:=hid (show okAtQ l k=false by rw [HEQ.out,qxA hjk HY.out he];rfl)
           rw [he] at c0
           clear he
           go_upto_region 12 with fail
           go_quiet (fail)
           go_wp2
           go_ret
           exact ⟨qaI (by rw [HF.out,qcI (by rw [←HN.out];exact hlt) HNO.out]),below_drewN hbq.out _⟩
          ·have HNE:=hid he
           have hne:(y.key.toList==x.key.toList)=false:=qqR he
           clear he
           go_upto_region 12 with fail
           go_quiet (fail)
           go_wp2
           go_roundg (gk - 1)
           case measure=>omega
           case rel=>exact ⟨j+1,by go_num,by omega,by omega,fun i z hi hz=>by
            by_cases hij:i=j
            ·subst hij;rw [HY.out] at hz;injection hz with hz;rw [←hz];exact HNE.out
            ·exact HALL.out i z (by omega) hz,below_drewN HBW2.out _⟩
         ·have HYES:=hid (show okAtQ l k=true by rw [HEQ.out,jaD (fun i y hi hy=>HALL.out i y (by omega) hy)];rfl)
          go_wp2
          go_roundg (gk0 - 1)
          case measure=>have:=HMM.out;omega
          case rel=>exact ⟨k+1,by omega,by have:=HMM.out;omega,by go_num,fun i hi=>by
           by_cases hik:i=k
           ·rw [hik,HYES.out]
           ·exact HOK.out i (by omega),hbq.out⟩
    ·go_wp2
     go_ret
     exact ⟨qaI (by rw [HF.out,qjK (l:=l) (fun j hj=>HOK.out j (by rw [←HN.out] at hj;omega))]),HB0.out⟩
 ·have HF:=hid (show checkQ l=false by rw [hF,decide_eq_false hlen];rfl)
  have p1:(64:Int)<(l.length:Int):=by omega
  subst hv
  clear hF h hlen
  go_enter Tryz.func39,Tryz.ntmps39
  go_wp2
  go_ret
  exact ⟨qaI HF.out.symm,Below.refl _ _⟩
end Go.Proofs.YtooeabibhjbkoaaGreat
