import Derived.Test.YtooeabibhjbkoaaGreatGaA
import Derived.Test.YtooeabibhjbkoaaGreatGmA
import Derived.Test.YtooeabibhjbkoaaGreatApE
set_option linter.unusedVariables false
set_option linter.unusedSimpArgs false
set_option maxRecDepth 100000
set_option maxHeartbeats 8000000
namespace Go.Proofs.YtooeabibhjbkoaaGreat
open Go.RowKit Big Reg Al Ap Ga
open Lib (hid)
theorem qqI (t v s:Nat) (w:World) (ht:t≤1000000000000000) (hv:v≤s) (hs:0<s) (hs2:s≤4000000000000000000) :
  Calls Tryz.prog 37 #[.int .i64 t,.int .i64 v,.int .i64 s] w fun e w'=>e=.returned (.int .i64 ((t*v / s:Nat):Int))∧∃ n,w'=w.drewN n:=by
 have hle:t*v≤t*s:=Nat.mul_le_mul_left _ hv
 have hq:t*v / s≤t:=Nat.div_le_of_le_mul (by rw [Nat.mul_comm s t];exact hle)
 have hr:t*v%s<s:=Nat.mod_lt _ hs
 have hhi:t*v / 18446744073709551616<s:=by
  refine Nat.div_lt_of_lt_mul ?_
  have:t*s≤1000000000000000*s:=Nat.mul_le_mul_right _ ht
  omega
 have hsum:t*v / 18446744073709551616*18446744073709551616+t*v%18446744073709551616=t*v:=Nat.div_add_mod' _ _
 obtain ⟨p,hp⟩:∃ p,p=t*v:=⟨_,rfl⟩
 have HD:=qmJ (p / 18446744073709551616) (p%18446744073709551616) s
 rw [←hp] at hq hr hhi hsum ⊢
 rw [hsum] at HD
 obtain ⟨a,ha⟩:∃ a,a=p / 18446744073709551616:=⟨_,rfl⟩
 obtain ⟨b,hb⟩:∃ b,b=p%18446744073709551616:=⟨_,rfl⟩
 have HM:=qkW t v
 rw [←hp,←ha,←hb] at HM
 rw [←ha,←hb] at HD
 rw [←ha] at hhi
 have hb2:b<18446744073709551616:=by omega
 have w1:IntKind.u64.wrap (t:Int)=(t:Int):=qfD _ (by omega)
 have w2:IntKind.u64.wrap (v:Int)=(v:Int):=qfD _ (by omega)
 have w3:IntKind.u64.wrap (s:Int)=(s:Int):=qfD _ (by omega)
 obtain ⟨x,hx⟩:∃ x,x=p / s:=⟨_,rfl⟩
 obtain ⟨y,hy⟩:∃ y,y=p%s:=⟨_,rfl⟩
 rw [←hx] at HD ⊢
 rw [←hy] at HD
 rw [←hx] at hq
 rw [←hy] at hr
 have w4:IntKind.i64.wrap (x:Int)=(x:Int):=IntWalk.i64_in _ (by omega)
 have w5:IntKind.i64.wrap (y:Int)=(y:Int):=IntWalk.i64_in _ (by omega)
 have HH:=hid (And.intro hhi (And.intro hb2 hs2))
 have HT:=hid (show t<18446744073709551616∧v<18446744073709551616 by omega)
 clear hle hp ha hb hx hy hhi hb2 hsum hq hr ht hv hs hs2
 go_enter Tryz.func37,Tryz.ntmps37
 go_wp2_with (go_at_call 66;refine (HM HT.out.1 HT.out.2 _).mono ?_;rintro e w' ⟨rfl,rfl⟩)
 go_wp2_with (go_at_call 67;refine (HD _ HH.out.1 HH.out.2.1 (by have:=HH.out;omega)).mono ?_;rintro e w' ⟨rfl,n,rfl⟩)
 go_ret
 exact ⟨rfl,_,rfl⟩
def gtB (n m:Bool) (p q:Nat):Bool:=decide (p<B480∧q<B480∧n=cs1 n p∧m=false∧q≠0∧Nat.gcd p q=1)&&decide (n=false∧0<p∧p≤q)
theorem qvK {cr:List Value} {n m:Bool} {p q:Nat} (h:cr=rat n p m q) (hp:p<BB^32) (hq:q<BB^32) (w:World) :
  Calls Tryz.prog 30 #[.agg cr.toArray] w fun e w'=>e=.returned (.bool (gtB n m p q))∧Below w.heap.size w w':=by
 have hG:=gtB.eq_1 n m p q
 obtain ⟨ok,hok⟩:∃ b,b=decide (p<B480∧q<B480∧n=cs1 n p∧m=false∧q≠0∧Nat.gcd p q=1):=⟨_,rfl⟩
 rw [←hok] at hG
 obtain ⟨s,hs⟩:∃ s,s=(if ok=true then sgnI n p else 0):=⟨_,rfl⟩
 obtain ⟨code,hc⟩:∃ c:Int,c=(if ok=true then 0 else 20):=⟨_,rfl⟩
 have V_cr:=hid h
 have HS:=hid (quT V_cr.out hok hs hc hp hq)
 cases hok2:ok with
 | false =>
  rw [hok2] at hG hs hc
  have HG:=hid (show gtB n m p q=false by rw [hG];rfl)
  have ec:code=20:=by rw [hc];rfl
  subst ec
  clear hG hs hc hok hok2 hp hq h
  obtain ⟨B0,hB0⟩:∃ B,B=w.heap.size:=⟨_,rfl⟩
  obtain ⟨w0,hw0⟩:∃ w0,w0=(w.alloc (.cells cr.toArray 27)):=⟨_,rfl⟩
  have AB0:=hid (show At w0 B0 0 cr by rw [hw0];exact (show At (w.alloc (.cells cr.toArray 27)) B0 0 cr from At.fresh _ cr _ (by simp [hB0])))
  have FR:=hid (show Fr B0 w w0 by rw [hw0,hB0];exact (Fr.start w).alloc _)
  have FR0:=hid FR.out.le
  have hZB0:B0≤B0:=Nat.le_refl _
  have HB0:=hid hB0
  go_enter Tryz.func30,Tryz.ntmps30
  go_upto_region 1 with fail
  rw [←hw0,←hB0]
  clear hw0 hB0
  refine wfn [] [(8,.agg cr.toArray),(9,.tuple #[.int .i64 s,.int .i64 20]),(7,.tuple #[.int .i64 s,.int .i64 20]),(10,.int .i64 s),(11,.int .i64 20),(3,.int .i64 s),(4,.int .i64 20)] _ (by simp only [zz4,zz5,zq];rfl) (by kernel_rfl) (by kernel_rfl) rfl ?_ ?_ ?_ ?_
  ·intro W' hW'
   have rd0:=AB0.out.below hW'
   refine fxo (wlg (by rfl) rfl rfl rd0 Tryz.underlying27 rfl (qR V_cr.out) (wqn (by simp only [zq]))) ?_
   refine fxo ?_ ?_;(go_big_quiet_step ((go_at_call 54;exact qaA (HS.out _)));(try simp only [zq]);exact wqn rfl)
   iterate 5 (refine fxo ?_ ?_;(go_big_quiet_step (fail);(try simp only [zq]);exact wqn rfl))
   exact fxn
  ·exact oN
  ·exact oN
  intro β wx1 E
  replace FR:=hid (FR.out.fnw E rfl)
  replace AB0:=hid (AB0.out.fnw E rfl)
  have hE:=E.below rfl
  simp only [nP,zr,zq]
  replace FR0:=hid FR.out.le
  clear E
  go_wp2
  go_ret
  exact ⟨qaI HG.out.symm,by rw [HB0.out] at FR;exact FR.out.below⟩
 | true =>
  rw [hok2] at hG hs hc hok
  obtain ⟨b1,b2,b3,b4,b5,b6⟩:=of_decide_eq_true hok.symm
  have ec:code=0:=by rw [hc];rfl
  have es:s=sgnI n p:=by rw [hs];rfl
  subst ec
  by_cases hpos:n=false∧0<p
  ·obtain ⟨hn0,hp0⟩:=hpos
   have es1:s=1:=by rw [es,hn0];unfold sgnI;rw [if_neg (by omega)];rfl
   obtain ⟨z,hz⟩:∃ z,z=cmpZ ((p:Int)*((1:Nat):Int)) (1*(q:Int)):=⟨_,rfl⟩
   have HG:=hid (show gtB n m p q=decide (z≤0) by
    rw [hG,hz,hn0];simp only [Bool.true_and,true_and,hp0]
    unfold cmpZ
    by_cases hle:p≤q
    ·rw [decide_eq_true hle,decide_eq_true];split
     ·decide
     ·rw [if_neg (by omega)];decide
    ·rw [decide_eq_false hle,decide_eq_false];rw [if_neg (by omega),if_pos (by omega)];decide)
   have hcr:cr=ratZ (p:Int) q:=by rw [h,hn0,b4];unfold ratZ;rw [Int.natAbs_natCast];congr 1
   have hVQ:VQ ((p:Int),q):=⟨by rw [Int.natAbs_natCast];exact b1,b2,b5,by rw [Int.natAbs_natCast];exact b6⟩
   have hV1:VQ ((1:Int),1):=⟨by show (1:Nat)<B480;exact Nat.one_lt_pow (by decide) (by unfold BB;decide),by show (1:Nat)<B480;exact Nat.one_lt_pow (by decide) (by unfold BB;decide),by decide,by decide⟩
   obtain ⟨c1,V_c1⟩:∃ c:List Value,Hid (c=rat false 1 false 1):=⟨_,hid rfl⟩
   have HW:=hid (qrX (cr:=c1) (z:=1) V_c1.out (by decide) (by decide))
   have HC:=hid (pcmpQ (a:=((p:Int),q)) (b:=((1:Int),1)) (ca:=cr) (cb:=c1) (z:=z) hcr V_c1.out hVQ hV1 hz)
   subst es1
   clear hG hc hok hok2 hp hq h b1 b2 b3 b4 b5 b6 hs es hn0 hp0 hz hcr hVQ hV1
   obtain ⟨B0,hB0⟩:∃ B,B=w.heap.size:=⟨_,rfl⟩
   obtain ⟨w0,hw0⟩:∃ w0,w0=(w.alloc (.cells cr.toArray 27)):=⟨_,rfl⟩
   have AB0:=hid (show At w0 B0 0 cr by rw [hw0];exact (show At (w.alloc (.cells cr.toArray 27)) B0 0 cr from At.fresh _ cr _ (by simp [hB0])))
   have FR:=hid (show Fr B0 w w0 by rw [hw0,hB0];exact (Fr.start w).alloc _)
   have FR0:=hid FR.out.le
   have hZB0:B0≤B0:=Nat.le_refl _
   have HB0:=hid hB0
   go_enter Tryz.func30,Tryz.ntmps30
   go_upto_region 1 with fail
   rw [←hw0,←hB0]
   clear hw0 hB0
   refine wfn [] [(8,.agg cr.toArray),(9,.tuple #[.int .i64 1,.int .i64 0]),(7,.tuple #[.int .i64 1,.int .i64 0]),(10,.int .i64 1),(11,.int .i64 0),(3,.int .i64 1),(4,.int .i64 0)] _ (by simp only [zz4,zz5,zq];rfl) (by kernel_rfl) (by kernel_rfl) rfl ?_ ?_ ?_ ?_
   ·intro W' hW'
    have rd0:=AB0.out.below hW'
    refine fxo (wlg (by rfl) rfl rfl rd0 Tryz.underlying27 rfl (qR V_cr.out) (wqn (by simp only [zq]))) ?_
    refine fxo ?_ ?_;(go_big_quiet_step ((go_at_call 54;exact qaA (HS.out _)));(try simp only [zq]);exact wqn rfl)
    iterate 5 (refine fxo ?_ ?_;(go_big_quiet_step (fail);(try simp only [zq]);exact wqn rfl))
    exact fxn
   ·exact oN
   ·exact oN
   intro β wx1 E
   replace FR:=hid (FR.out.fnw E rfl)
   replace AB0:=hid (AB0.out.fnw E rfl)
   have hE:=E.below rfl
   simp only [nP,zr,zq]
   replace FR0:=hid FR.out.le
   clear E
   go_upto_region 4 with fail
   refine wfn [] [(19,.agg cr.toArray),(20,.agg c1.toArray),(21,.tuple #[.int .i64 z,.int .i64 0]),(18,.tuple #[.int .i64 z,.int .i64 0]),(22,.int .i64 z),(23,.int .i64 0),(5,.int .i64 z),(6,.int .i64 0)] _ (by simp only [zz4,zz5,zq];rfl) (by kernel_rfl) (by kernel_rfl) rfl ?_ ?_ ?_ ?_
   ·intro W' hW'
    have rd0:=AB0.out.below hW'
    refine fxo (wlg (by rfl) rfl rfl rd0 Tryz.underlying27 rfl (qR V_cr.out) (wqn (by simp only [zq]))) ?_
    refine fxo ?_ ?_;(go_big_quiet_step ((go_at_call 33;exact qaA (HW.out _)));(try simp only [zq]);exact wqn rfl)
    refine fxo ?_ ?_;(go_big_quiet_step ((go_at_call 55;exact qaA (HC.out _)));(try simp only [zq]);exact wqn rfl)
    iterate 5 (refine fxo ?_ ?_;(go_big_quiet_step (fail);(try simp only [zq]);exact wqn rfl))
    exact fxn
   ·exact oN
   ·exact oN
   intro β wx2 E
   replace FR:=hid (FR.out.fnw E rfl)
   replace AB0:=hid (AB0.out.fnw E rfl)
   have hE:=E.below rfl
   simp only [nP,zr,zq]
   replace FR0:=hid FR.out.le
   clear E
   go_wp2
   go_ret
   exact ⟨qaI HG.out.symm,by rw [HB0.out] at FR;exact FR.out.below⟩
  ·have hs0:s≤0:=by
    rw [es];unfold sgnI
    by_cases hp0:p=0
    ·rw [if_pos hp0];decide
    ·rw [if_neg hp0]
     have:n=true:=by
      cases n
      ·exact absurd ⟨rfl,Nat.pos_of_ne_zero hp0⟩ hpos
      ·rfl
     rw [this];decide
   have HG:=hid (show gtB n m p q=false by
    rw [hG,Bool.true_and,decide_eq_false];intro hh;exact hpos ⟨hh.1,hh.2.1⟩)
   clear hG hc hok hok2 hp hq h b1 b2 b3 b4 b5 b6 hs es hpos
   obtain ⟨B0,hB0⟩:∃ B,B=w.heap.size:=⟨_,rfl⟩
   obtain ⟨w0,hw0⟩:∃ w0,w0=(w.alloc (.cells cr.toArray 27)):=⟨_,rfl⟩
   have AB0:=hid (show At w0 B0 0 cr by rw [hw0];exact (show At (w.alloc (.cells cr.toArray 27)) B0 0 cr from At.fresh _ cr _ (by simp [hB0])))
   have FR:=hid (show Fr B0 w w0 by rw [hw0,hB0];exact (Fr.start w).alloc _)
   have FR0:=hid FR.out.le
   have hZB0:B0≤B0:=Nat.le_refl _
   have HB0:=hid hB0
   go_enter Tryz.func30,Tryz.ntmps30
   go_upto_region 1 with fail
   rw [←hw0,←hB0]
   clear hw0 hB0
   refine wfn [] [(8,.agg cr.toArray),(9,.tuple #[.int .i64 s,.int .i64 0]),(7,.tuple #[.int .i64 s,.int .i64 0]),(10,.int .i64 s),(11,.int .i64 0),(3,.int .i64 s),(4,.int .i64 0)] _ (by simp only [zz4,zz5,zq];rfl) (by kernel_rfl) (by kernel_rfl) rfl ?_ ?_ ?_ ?_
   ·intro W' hW'
    have rd0:=AB0.out.below hW'
    refine fxo (wlg (by rfl) rfl rfl rd0 Tryz.underlying27 rfl (qR V_cr.out) (wqn (by simp only [zq]))) ?_
    refine fxo ?_ ?_;(go_big_quiet_step ((go_at_call 54;exact qaA (HS.out _)));(try simp only [zq]);exact wqn rfl)
    iterate 5 (refine fxo ?_ ?_;(go_big_quiet_step (fail);(try simp only [zq]);exact wqn rfl))
    exact fxn
   ·exact oN
   ·exact oN
   intro β wx1 E
   replace FR:=hid (FR.out.fnw E rfl)
   replace AB0:=hid (AB0.out.fnw E rfl)
   have hE:=E.below rfl
   simp only [nP,zr,zq]
   replace FR0:=hid FR.out.le
   clear E
   go_wp2
   go_ret
   exact ⟨qaI HG.out.symm,by rw [HB0.out] at FR;exact FR.out.below⟩
theorem qiO (v:Value) (l:List Rq) (w:World) (h:RqsAt w v l) :
  Calls Tryz.prog 31 #[v] w (OutE (checkQ l) 270 w):=by
 have hF:=checkQ.eq_1 l
 obtain ⟨A,cap,hv⟩:=Rd.form h
 have hmx:=h.2.1
 by_cases hlen:l.length≤64
 ·by_cases hnil:l.length=0
  ·have HF:=hid (show checkQ l=true by rw [hF,List.eq_nil_of_length_eq_zero hnil];rfl)
   subst hv
   rw [hnil]
   clear hF hlen h hmx hnil
   have hmm:=@run_makeMap Tryz.prog
   go_enter Tryz.func31,Tryz.ntmps31
   go_wp2
   go_loopg [12] 0 (fun m i wr=>i=.int .i64 0∧Below w.heap.size w wr)
   case atStart=>exact ⟨rfl,(Below.refl _ _).alloc (Nat.le_refl _) _⟩
   case round =>
    obtain ⟨rfl,hbl⟩:=hrel
    go_wp2
    go_ret
    exact ⟨by rw [HF.out];rfl,hbl⟩
  ·obtain ⟨g,off,cap,rfl,hc⟩:=qfS h (by omega)
   have hglt:=qoK hc (by omega)
   obtain ⟨n,hnn⟩:∃ n,n=l.length:=⟨_,rfl⟩
   rw [←hnn] at hlen h hmx hnil ⊢
   have HN:=hid hnn
   have HC:=hid hc
   have HF:=hid (show checkQ l=okLQ l by rw [hF,←hnn,decide_eq_true hlen];rfl)
   have p1:¬(64:Int)<(n:Int):=by omega
   clear hnn hc h hF
   obtain ⟨M,hM⟩:∃ M,M=w.heap.size:=⟨_,rfl⟩
   have HMM:=hid hM
   have hmm:=@run_makeMap Tryz.prog
   go_enter Tryz.func31,Tryz.ntmps31
   go_wp2
   rw [←hM]
   clear hM hmm
   go_loopg [12] n (fun m i wr=>∃ (k:Nat),k≤n∧n - k≤m∧i=.int .i64 k∧(∀ j,j<k→okAtQ l j=true)∧SetB wr M ((l.take k).map Rq.key)∧Below w.heap.size w wr)
   case atStart=>exact ⟨0,by omega,by omega,rfl,fun j hj=>absurd hj (by omega),by rw [HMM.out];exact SetB.made w,(Below.refl _ _).alloc (Nat.le_refl _) _⟩
   case round =>
    obtain ⟨k,hk,hm,rfl,hok,hset,hbl⟩:=hrel
    have HOK:=hid hok
    have HS:=hid hset
    have HB0:=hid hbl
    have hsz:=hbl.size
    have hMlt:=hset.lt
    clear hok hset hbl
    by_cases hlt:k<n
    ·obtain ⟨x,hx⟩:∃ x,l[k]?=some x:=⟨l[k]'(by rw [←HN.out];exact hlt),by simp [←HN.out,hlt]⟩
     obtain ⟨c0,c1,c2⟩:=(HC.out k x hx).below HB0.out
     have HX:=hid hx
     clear hx
     go_upto_region 7 with fail
     obtain ⟨W1,hW1⟩:∃ W1,W1=wr.alloc (.cells #[.string x.key,.int .i64 x.units,.int .i64 x.value] 48):=⟨_,rfl⟩
     have hbW:Below wr.heap.size wr W1:=by rw [hW1];exact (Below.refl _ _).alloc (Nat.le_refl _) _
     obtain ⟨X,hX⟩:∃ X,X=wr.heap.size:=⟨_,rfl⟩
     have x0:W1.cell? ⟨X,0,none⟩=some (.string x.key):=by rw [hW1,hX];go_cell
     have x1:W1.cell? ⟨X,1,none⟩=some (.int .i64 x.units):=by rw [hW1,hX];go_cell
     have x2:W1.cell? ⟨X,2,none⟩=some (.int .i64 x.value):=by rw [hW1,hX];go_cell
     have HS1:=hid (HS.out.below hbW)
     rw [←hW1,←hX]
     have HBW:=hid (HB0.out.trans (hbW.mono HB0.out.size))
     have HXM:=hid (show M<X by rw [hX];exact hMlt)
     clear hW1 hbW c0 c1 c2 hX
     have FR:=hid (Fr.start W1)
     have FR0:=hid FR.out.le
     cases h1:nameB x.key with
     | false =>
      have H1:=hid (qxL x.key false h1)
      have HNO:=hid (show okAtQ l k=false by simp [okAtQ,HX.out,okQ,h1])
      refine wfn [] [(16,.pointer (some ⟨X,0,none⟩)),(17,.string x.key),(18,.bool false),(19,.bool true),(20,.bool true),(21,undef),(22,undef),(23,undef),(24,.bool true),(25,.bool true),(26,undef),(27,undef),(28,undef),(29,.bool true),(30,.bool true),(31,undef),(32,undef),(33,undef),(34,.bool true),(35,.bool true),(36,undef),(37,undef),(38,undef),(39,.bool true),(40,.bool true),(41,undef),(42,undef),(43,undef),(44,undef),(45,.bool true)] _ (by simp only [zz4,zz5,zq];rfl) (by kernel_rfl) (by kernel_rfl) rfl ?_ ?_ ?_ ?_
      ·intro W' hW'
       have z0:=qcU x0 hW'
       refine fxo ?_ ?_;(go_big_quiet_step (fail);(try simp only [zq]);exact wqn rfl)
       refine fxo (wcg (by rfl) rfl rfl (fun W h=>by simp [loadVar,h,go_sem]) z0 (wqn (by simp only [zq]))) ?_
       refine fxo ?_ ?_;(go_big_quiet_step ((go_at_call 56;exact qaA (H1.out _)));(try simp only [zq]);exact wqn rfl)
       iterate 27 (refine fxo ?_ ?_;(go_big_quiet_step (fail);(try simp only [zq]);exact wqn rfl))
       exact fxn
      ·exact oN
      ·exact oN
      intro β wx1 E
      replace FR:=hid (FR.out.fnw E rfl)
      have hE:=E.below rfl
      simp only [nP,zr,zq]
      replace FR0:=hid FR.out.le
      clear E
      go_wp2
      go_ret
      exact ⟨by rw [HF.out,qcI (by rw [←HN.out];exact hlt) HNO.out];rfl,HBW.out.trans (FR.out.below.mono HBW.out.size)⟩
     | true =>
      have H1:=hid (qxL x.key true h1)
      have HSM:=hid (show x.key.size≤maxLen by have:=qjL h1;unfold maxLen;omega)
      cases h2:inR x.units 1 1000000000000000 with
      | false =>
       have hno:=qoU h2
       by_cases q1:x.units<1
       ·clear hno
        have HNO:=hid (show okAtQ l k=false by simp [okAtQ,HX.out,okQ,h1,h2])
        refine wfn [] [(16,.pointer (some ⟨X,0,none⟩)),(17,.string x.key),(18,.bool true),(19,.bool false),(20,.bool false),(21,.pointer (some ⟨X,1,none⟩)),(22,.int .i64 x.units),(23,.bool true),(24,.bool true),(25,.bool true),(26,undef),(27,undef),(28,undef),(29,.bool true),(30,.bool true),(31,undef),(32,undef),(33,undef),(34,.bool true),(35,.bool true),(36,undef),(37,undef),(38,undef),(39,.bool true),(40,.bool true),(41,undef),(42,undef),(43,undef),(44,undef),(45,.bool true)] _ (by simp only [zz4,zz5,zq];rfl) (by kernel_rfl) (by kernel_rfl) rfl ?_ ?_ ?_ ?_
        ·intro W' hW'
         have z0:=qcU x0 hW'
         have z1:=qcU x1 hW'
         refine fxo ?_ ?_;(go_big_quiet_step (fail);(try simp only [zq]);exact wqn rfl)
         refine fxo (wcg (by rfl) rfl rfl (fun W h=>by simp [loadVar,h,go_sem]) z0 (wqn (by simp only [zq]))) ?_
         refine fxo ?_ ?_;(go_big_quiet_step ((go_at_call 56;exact qaA (H1.out _)));(try simp only [zq]);exact wqn rfl)
         iterate 3 (refine fxo ?_ ?_;(go_big_quiet_step (fail);(try simp only [zq]);exact wqn rfl))
         refine fxo (wcg (by rfl) rfl rfl (fun W h=>by simp [loadVar,h,go_sem]) z1 (wqn (by simp only [zq]))) ?_
         iterate 23 (refine fxo ?_ ?_;(go_big_quiet_step (fail);(try simp only [zq]);exact wqn rfl))
         exact fxn
        ·exact oN
        ·exact oN
        intro β wx1 E
        replace FR:=hid (FR.out.fnw E rfl)
        have hE:=E.below rfl
        simp only [nP,zr,zq]
        replace FR0:=hid FR.out.le
        clear E
        go_wp2
        go_ret
        exact ⟨by rw [HF.out,qcI (by rw [←HN.out];exact hlt) HNO.out];rfl,HBW.out.trans (FR.out.below.mono HBW.out.size)⟩
       ·have q2:(1000000000000000:Int)<x.units:=by omega
        clear hno
        have HNO:=hid (show okAtQ l k=false by simp [okAtQ,HX.out,okQ,h1,h2])
        refine wfn [] [(16,.pointer (some ⟨X,0,none⟩)),(17,.string x.key),(18,.bool true),(19,.bool false),(20,.bool false),(21,.pointer (some ⟨X,1,none⟩)),(22,.int .i64 x.units),(23,.bool false),(24,.bool false),(25,.bool false),(26,.pointer (some ⟨X,1,none⟩)),(27,.int .i64 x.units),(28,.bool true),(29,.bool true),(30,.bool true),(31,undef),(32,undef),(33,undef),(34,.bool true),(35,.bool true),(36,undef),(37,undef),(38,undef),(39,.bool true),(40,.bool true),(41,undef),(42,undef),(43,undef),(44,undef),(45,.bool true)] _ (by simp only [zz4,zz5,zq];rfl) (by kernel_rfl) (by kernel_rfl) rfl ?_ ?_ ?_ ?_
        ·intro W' hW'
         have z0:=qcU x0 hW'
         have z1:=qcU x1 hW'
         refine fxo ?_ ?_;(go_big_quiet_step (fail);(try simp only [zq]);exact wqn rfl)
         refine fxo (wcg (by rfl) rfl rfl (fun W h=>by simp [loadVar,h,go_sem]) z0 (wqn (by simp only [zq]))) ?_
         refine fxo ?_ ?_;(go_big_quiet_step ((go_at_call 56;exact qaA (H1.out _)));(try simp only [zq]);exact wqn rfl)
         iterate 3 (refine fxo ?_ ?_;(go_big_quiet_step (fail);(try simp only [zq]);exact wqn rfl))
         refine fxo (wcg (by rfl) rfl rfl (fun W h=>by simp [loadVar,h,go_sem]) z1 (wqn (by simp only [zq]))) ?_
         iterate 4 (refine fxo ?_ ?_;(go_big_quiet_step (fail);(try simp only [zq]);exact wqn rfl))
         refine fxo (wcg (by rfl) rfl rfl (fun W h=>by simp [loadVar,h,go_sem]) z1 (wqn (by simp only [zq]))) ?_
         iterate 18 (refine fxo ?_ ?_;(go_big_quiet_step (fail);(try simp only [zq]);exact wqn rfl))
         exact fxn
        ·exact oN
        ·exact oN
        intro β wx1 E
        replace FR:=hid (FR.out.fnw E rfl)
        have hE:=E.below rfl
        simp only [nP,zr,zq]
        replace FR0:=hid FR.out.le
        clear E
        go_wp2
        go_ret
        exact ⟨by rw [HF.out,qcI (by rw [←HN.out];exact hlt) HNO.out];rfl,HBW.out.trans (FR.out.below.mono HBW.out.size)⟩
      | true =>
       have bh2:=qgO h2
       have nh2:¬x.units<1:=by omega
       have mh2:¬(1000000000000000:Int)<x.units:=by omega
       cases h3:inR x.value 0 1000000000000000 with
       | false =>
        have hno:=qoU h3
        by_cases q1:x.value<0
        ·clear hno
         have HNO:=hid (show okAtQ l k=false by simp [okAtQ,HX.out,okQ,h1,h2,h3])
         refine wfn [] [(16,.pointer (some ⟨X,0,none⟩)),(17,.string x.key),(18,.bool true),(19,.bool false),(20,.bool false),(21,.pointer (some ⟨X,1,none⟩)),(22,.int .i64 x.units),(23,.bool false),(24,.bool false),(25,.bool false),(26,.pointer (some ⟨X,1,none⟩)),(27,.int .i64 x.units),(28,.bool false),(29,.bool false),(30,.bool false),(31,.pointer (some ⟨X,2,none⟩)),(32,.int .i64 x.value),(33,.bool true),(34,.bool true),(35,.bool true),(36,undef),(37,undef),(38,undef),(39,.bool true),(40,.bool true),(41,undef),(42,undef),(43,undef),(44,undef),(45,.bool true)] _ (by simp only [zz4,zz5,zq];rfl) (by kernel_rfl) (by kernel_rfl) rfl ?_ ?_ ?_ ?_
         ·intro W' hW'
          have z0:=qcU x0 hW'
          have z1:=qcU x1 hW'
          have z2:=qcU x2 hW'
          refine fxo ?_ ?_;(go_big_quiet_step (fail);(try simp only [zq]);exact wqn rfl)
          refine fxo (wcg (by rfl) rfl rfl (fun W h=>by simp [loadVar,h,go_sem]) z0 (wqn (by simp only [zq]))) ?_
          refine fxo ?_ ?_;(go_big_quiet_step ((go_at_call 56;exact qaA (H1.out _)));(try simp only [zq]);exact wqn rfl)
          iterate 3 (refine fxo ?_ ?_;(go_big_quiet_step (fail);(try simp only [zq]);exact wqn rfl))
          refine fxo (wcg (by rfl) rfl rfl (fun W h=>by simp [loadVar,h,go_sem]) z1 (wqn (by simp only [zq]))) ?_
          iterate 4 (refine fxo ?_ ?_;(go_big_quiet_step (fail);(try simp only [zq]);exact wqn rfl))
          refine fxo (wcg (by rfl) rfl rfl (fun W h=>by simp [loadVar,h,go_sem]) z1 (wqn (by simp only [zq]))) ?_
          iterate 4 (refine fxo ?_ ?_;(go_big_quiet_step (fail);(try simp only [zq]);exact wqn rfl))
          refine fxo (wcg (by rfl) rfl rfl (fun W h=>by simp [loadVar,h,go_sem]) z2 (wqn (by simp only [zq]))) ?_
          iterate 13 (refine fxo ?_ ?_;(go_big_quiet_step (fail);(try simp only [zq]);exact wqn rfl))
          exact fxn
         ·exact oN
         ·exact oN
         intro β wx1 E
         replace FR:=hid (FR.out.fnw E rfl)
         have hE:=E.below rfl
         simp only [nP,zr,zq]
         replace FR0:=hid FR.out.le
         clear E
         go_wp2
         go_ret
         exact ⟨by rw [HF.out,qcI (by rw [←HN.out];exact hlt) HNO.out];rfl,HBW.out.trans (FR.out.below.mono HBW.out.size)⟩
        ·have q2:(1000000000000000:Int)<x.value:=by omega
         clear hno
         have HNO:=hid (show okAtQ l k=false by simp [okAtQ,HX.out,okQ,h1,h2,h3])
         refine wfn [] [(16,.pointer (some ⟨X,0,none⟩)),(17,.string x.key),(18,.bool true),(19,.bool false),(20,.bool false),(21,.pointer (some ⟨X,1,none⟩)),(22,.int .i64 x.units),(23,.bool false),(24,.bool false),(25,.bool false),(26,.pointer (some ⟨X,1,none⟩)),(27,.int .i64 x.units),(28,.bool false),(29,.bool false),(30,.bool false),(31,.pointer (some ⟨X,2,none⟩)),(32,.int .i64 x.value),(33,.bool false),(34,.bool false),(35,.bool false),(36,.pointer (some ⟨X,2,none⟩)),(37,.int .i64 x.value),(38,.bool true),(39,.bool true),(40,.bool true),(41,undef),(42,undef),(43,undef),(44,undef),(45,.bool true)] _ (by simp only [zz4,zz5,zq];rfl) (by kernel_rfl) (by kernel_rfl) rfl ?_ ?_ ?_ ?_
         ·intro W' hW'
          have z0:=qcU x0 hW'
          have z1:=qcU x1 hW'
          have z2:=qcU x2 hW'
          refine fxo ?_ ?_;(go_big_quiet_step (fail);(try simp only [zq]);exact wqn rfl)
          refine fxo (wcg (by rfl) rfl rfl (fun W h=>by simp [loadVar,h,go_sem]) z0 (wqn (by simp only [zq]))) ?_
          refine fxo ?_ ?_;(go_big_quiet_step ((go_at_call 56;exact qaA (H1.out _)));(try simp only [zq]);exact wqn rfl)
          iterate 3 (refine fxo ?_ ?_;(go_big_quiet_step (fail);(try simp only [zq]);exact wqn rfl))
          refine fxo (wcg (by rfl) rfl rfl (fun W h=>by simp [loadVar,h,go_sem]) z1 (wqn (by simp only [zq]))) ?_
          iterate 4 (refine fxo ?_ ?_;(go_big_quiet_step (fail);(try simp only [zq]);exact wqn rfl))
          refine fxo (wcg (by rfl) rfl rfl (fun W h=>by simp [loadVar,h,go_sem]) z1 (wqn (by simp only [zq]))) ?_
          iterate 4 (refine fxo ?_ ?_;(go_big_quiet_step (fail);(try simp only [zq]);exact wqn rfl))
          refine fxo (wcg (by rfl) rfl rfl (fun W h=>by simp [loadVar,h,go_sem]) z2 (wqn (by simp only [zq]))) ?_
          iterate 4 (refine fxo ?_ ?_;(go_big_quiet_step (fail);(try simp only [zq]);exact wqn rfl))
          refine fxo (wcg (by rfl) rfl rfl (fun W h=>by simp [loadVar,h,go_sem]) z2 (wqn (by simp only [zq]))) ?_
          iterate 8 (refine fxo ?_ ?_;(go_big_quiet_step (fail);(try simp only [zq]);exact wqn rfl))
          exact fxn
         ·exact oN
         ·exact oN
         intro β wx1 E
         replace FR:=hid (FR.out.fnw E rfl)
         have hE:=E.below rfl
         simp only [nP,zr,zq]
         replace FR0:=hid FR.out.le
         clear E
         go_wp2
         go_ret
         exact ⟨by rw [HF.out,qcI (by rw [←HN.out];exact hlt) HNO.out];rfl,HBW.out.trans (FR.out.below.mono HBW.out.size)⟩
       | true =>
        have bh3:=qgO h3
        have nh3:¬x.value<0:=by omega
        have mh3:¬(1000000000000000:Int)<x.value:=by omega
        cases h6:((l.take k).any fun c=>decide (c.key=x.key)) with
        | true =>
         have HNO:=hid (show okAtQ l k=false by simp [okAtQ,HX.out,okQ,h1,h2,h3,h6])
         replace h6:=hid h6
         refine wfn [] [(16,.pointer (some ⟨X,0,none⟩)),(17,.string x.key),(18,.bool true),(19,.bool false),(20,.bool false),(21,.pointer (some ⟨X,1,none⟩)),(22,.int .i64 x.units),(23,.bool false),(24,.bool false),(25,.bool false),(26,.pointer (some ⟨X,1,none⟩)),(27,.int .i64 x.units),(28,.bool false),(29,.bool false),(30,.bool false),(31,.pointer (some ⟨X,2,none⟩)),(32,.int .i64 x.value),(33,.bool false),(34,.bool false),(35,.bool false),(36,.pointer (some ⟨X,2,none⟩)),(37,.int .i64 x.value),(38,.bool false),(39,.bool false),(40,.bool false),(41,.map (some M)),(42,.pointer (some ⟨X,0,none⟩)),(43,.string x.key),(44,.bool true),(45,.bool true)] _ (by simp only [zz4,zz5,zq];rfl) (by kernel_rfl) (by kernel_rfl) rfl ?_ ?_ ?_ ?_
         ·intro W' hW'
          have z0:=qcU x0 hW'
          have z1:=qcU x1 hW'
          have z2:=qcU x2 hW'
          have hlk:=fun (W:World) (hb:Below W'.heap.size W' W)=>(show (Instr.lookup 91 (.map (some M)) (.string x.key) false).run Tryz.prog W=.ok (.bool true) W by have h:=((HS1.out.below hW').below hb).look x.key HSM.out;rwa [qmT,h6.out] at h)
          refine fxo ?_ ?_;(go_big_quiet_step (fail);(try simp only [zq]);exact wqn rfl)
          refine fxo (wcg (by rfl) rfl rfl (fun W h=>by simp [loadVar,h,go_sem]) z0 (wqn (by simp only [zq]))) ?_
          refine fxo ?_ ?_;(go_big_quiet_step ((go_at_call 56;exact qaA (H1.out _)));(try simp only [zq]);exact wqn rfl)
          iterate 3 (refine fxo ?_ ?_;(go_big_quiet_step (fail);(try simp only [zq]);exact wqn rfl))
          refine fxo (wcg (by rfl) rfl rfl (fun W h=>by simp [loadVar,h,go_sem]) z1 (wqn (by simp only [zq]))) ?_
          iterate 4 (refine fxo ?_ ?_;(go_big_quiet_step (fail);(try simp only [zq]);exact wqn rfl))
          refine fxo (wcg (by rfl) rfl rfl (fun W h=>by simp [loadVar,h,go_sem]) z1 (wqn (by simp only [zq]))) ?_
          iterate 4 (refine fxo ?_ ?_;(go_big_quiet_step (fail);(try simp only [zq]);exact wqn rfl))
          refine fxo (wcg (by rfl) rfl rfl (fun W h=>by simp [loadVar,h,go_sem]) z2 (wqn (by simp only [zq]))) ?_
          iterate 4 (refine fxo ?_ ?_;(go_big_quiet_step (fail);(try simp only [zq]);exact wqn rfl))
          refine fxo (wcg (by rfl) rfl rfl (fun W h=>by simp [loadVar,h,go_sem]) z2 (wqn (by simp only [zq]))) ?_
          iterate 5 (refine fxo ?_ ?_;(go_big_quiet_step (fail);(try simp only [zq]);exact wqn rfl))
          refine fxo (wcg (by rfl) rfl rfl (fun W h=>by simp [loadVar,h,go_sem]) z0 (wqn (by simp only [zq]))) ?_
          refine fxo (qeZ (by rfl) rfl rfl rfl (fun W hb=>hlk W hb) (wqn (by simp only [zq]))) ?_
          refine fxo ?_ ?_;(go_big_quiet_step (fail);(try simp only [zq]);exact wqn rfl)
          exact fxn
         ·exact oN
         ·exact oN
         intro β wx1 E
         replace FR:=hid (FR.out.fnw E rfl)
         have hE:=E.below rfl
         simp only [nP,zr,zq]
         replace FR0:=hid FR.out.le
         clear E
         go_wp2
         go_ret
         exact ⟨by rw [HF.out,qcI (by rw [←HN.out];exact hlt) HNO.out];rfl,HBW.out.trans (FR.out.below.mono HBW.out.size)⟩
        | false =>
         have HYES:=hid (show okAtQ l k=true by simp [okAtQ,HX.out,okQ,h1,h2,h3,h6])
         replace h6:=hid h6
         refine wfn [] [(16,.pointer (some ⟨X,0,none⟩)),(17,.string x.key),(18,.bool true),(19,.bool false),(20,.bool false),(21,.pointer (some ⟨X,1,none⟩)),(22,.int .i64 x.units),(23,.bool false),(24,.bool false),(25,.bool false),(26,.pointer (some ⟨X,1,none⟩)),(27,.int .i64 x.units),(28,.bool false),(29,.bool false),(30,.bool false),(31,.pointer (some ⟨X,2,none⟩)),(32,.int .i64 x.value),(33,.bool false),(34,.bool false),(35,.bool false),(36,.pointer (some ⟨X,2,none⟩)),(37,.int .i64 x.value),(38,.bool false),(39,.bool false),(40,.bool false),(41,.map (some M)),(42,.pointer (some ⟨X,0,none⟩)),(43,.string x.key),(44,.bool false),(45,.bool false)] _ (by simp only [zz4,zz5,zq];rfl) (by kernel_rfl) (by kernel_rfl) rfl ?_ ?_ ?_ ?_
         ·intro W' hW'
          have z0:=qcU x0 hW'
          have z1:=qcU x1 hW'
          have z2:=qcU x2 hW'
          have hlk:=fun (W:World) (hb:Below W'.heap.size W' W)=>(show (Instr.lookup 91 (.map (some M)) (.string x.key) false).run Tryz.prog W=.ok (.bool false) W by have h:=((HS1.out.below hW').below hb).look x.key HSM.out;rwa [qmT,h6.out] at h)
          refine fxo ?_ ?_;(go_big_quiet_step (fail);(try simp only [zq]);exact wqn rfl)
          refine fxo (wcg (by rfl) rfl rfl (fun W h=>by simp [loadVar,h,go_sem]) z0 (wqn (by simp only [zq]))) ?_
          refine fxo ?_ ?_;(go_big_quiet_step ((go_at_call 56;exact qaA (H1.out _)));(try simp only [zq]);exact wqn rfl)
          iterate 3 (refine fxo ?_ ?_;(go_big_quiet_step (fail);(try simp only [zq]);exact wqn rfl))
          refine fxo (wcg (by rfl) rfl rfl (fun W h=>by simp [loadVar,h,go_sem]) z1 (wqn (by simp only [zq]))) ?_
          iterate 4 (refine fxo ?_ ?_;(go_big_quiet_step (fail);(try simp only [zq]);exact wqn rfl))
          refine fxo (wcg (by rfl) rfl rfl (fun W h=>by simp [loadVar,h,go_sem]) z1 (wqn (by simp only [zq]))) ?_
          iterate 4 (refine fxo ?_ ?_;(go_big_quiet_step (fail);(try simp only [zq]);exact wqn rfl))
          refine fxo (wcg (by rfl) rfl rfl (fun W h=>by simp [loadVar,h,go_sem]) z2 (wqn (by simp only [zq]))) ?_
          iterate 4 (refine fxo ?_ ?_;(go_big_quiet_step (fail);(try simp only [zq]);exact wqn rfl))
          refine fxo (wcg (by rfl) rfl rfl (fun W h=>by simp [loadVar,h,go_sem]) z2 (wqn (by simp only [zq]))) ?_
          iterate 5 (refine fxo ?_ ?_;(go_big_quiet_step (fail);(try simp only [zq]);exact wqn rfl))
          refine fxo (wcg (by rfl) rfl rfl (fun W h=>by simp [loadVar,h,go_sem]) z0 (wqn (by simp only [zq]))) ?_
          refine fxo (qeZ (by rfl) rfl rfl rfl (fun W hb=>hlk W hb) (wqn (by simp only [zq]))) ?_
          refine fxo ?_ ?_;(go_big_quiet_step (fail);(try simp only [zq]);exact wqn rfl)
          exact fxn
         ·exact oN
         ·exact oN
         intro β wx1 E
         replace FR:=hid (FR.out.fnw E rfl)
         have hE:=E.below rfl
         simp only [nP,zr,zq]
         replace FR0:=hid FR.out.le
         clear E
         have z0:=qcU x0 FR.out.below
         have HBN:=hid (HBW.out.trans (FR.out.below.mono HBW.out.size))
         have HS2:=hid (HS1.out.below FR.out.below)
         have hlk2:((l.take k).map Rq.key).length<maxLen:=by rw [List.length_map,List.length_take];unfold maxLen;omega
         obtain ⟨W2,hW2⟩:∃ W,W=wx1:=⟨_,rfl⟩
         rw [←hW2] at z0 HBN HS2 ⊢
         clear hW2 FR FR0 x0 x1 x2 bh2 bh3 nh2 nh3 mh2 mh3 h1
         go_wp2_with (at_mapUpdate;refine qmX _ rfl _ _ _ rfl M _ x.key rfl HS2.out HSM.out hlk2 rfl rfl ?_;intro W3 hset hgrow;have HS3:=hid (show SetB W3 M ((l.take (k+1)).map Rq.key) by (rw [List.take_add_one,HX.out,List.map_append];exact hset));have HB3:=hid (show Below w.heap.size w W3 from HBN.out.grown hgrow HBN.out.size (by intro r hr;injection hr with hr;rw [←hr,HMM.out];exact Nat.le_refl _));clear hset hgrow)
         go_roundg (gk - 1)
         case measure=>omega
         case rel=>exact ⟨k+1,by omega,by omega,by go_num,fun j hj=>by
          by_cases hjk:j=k
          ·rw [hjk,HYES.out]
          ·exact HOK.out j (by omega),HS3.out,HB3.out⟩
    ·go_wp2
     go_ret
     exact ⟨by rw [HF.out,qjK (l:=l) (fun j hj=>HOK.out j (by rw [←HN.out] at hj;omega))];rfl,HB0.out⟩
 ·have HF:=hid (show checkQ l=false by rw [hF,decide_eq_false hlen];rfl)
  have p1:(64:Int)<(l.length:Int):=by omega
  subst hv
  clear hF h hlen
  go_enter Tryz.func31,Tryz.ntmps31
  go_wp2
  go_ret
  exact ⟨by rw [HF.out];rfl,Below.refl _ _⟩
end Go.Proofs.YtooeabibhjbkoaaGreat
