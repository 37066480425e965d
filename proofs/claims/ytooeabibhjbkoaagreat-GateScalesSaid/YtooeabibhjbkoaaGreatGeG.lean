import Derived.Test.YtooeabibhjbkoaaGreatGeF
import Derived.Test.YtooeabibhjbkoaaGreatCpA
set_option linter.unusedVariables false
set_option linter.unusedSimpArgs false
set_option maxRecDepth 100000
set_option maxHeartbeats 8000000
namespace Go.Proofs.YtooeabibhjbkoaaGreat
open Go.RowKit Big Reg Al Ap Ga
open Lib (hid)
set_option maxRecDepth 1000000 in
theorem Tryz.alN {cs:List Value} (h:(Tryz.prog.info? 44).map (·.size)=some cs.length):∃ z,LaysAs Tryz.prog 44 z∧cs.length≤z.size:=by
  refine ⟨(nm false 0 false 0 0).toArray,?_,by rw [Tryz.infoN] at h;injection h with h;rw [←h,List.size_toArray,qxM];exact Nat.le_refl _⟩
  unfold nm rat
  rw [qbJ]
  intro o ho b w
  unfold execOp
  simp only [ho]
  rfl
theorem Tryz.infoZ:(Tryz.prog.info? 3).map (·.size)=some 1:=by kernel_rfl
def cI (l:List Int):List Value:=l.map (Value.int .i64)
theorem Row.at {w:World} {O:Nat} {l:List Int} (h:Row w O 0 l) (hlt:O<w.heap.size):At w O 0 (cI l):=by
  refine ⟨fun j v hj=>?_,fun j hj=>?_,hlt⟩
  · unfold cI at hj
    rw [List.getElem?_map] at hj
    cases hx:l[j]? with
    | none=>rw [hx] at hj;cases hj
    | some x=>rw [hx] at hj;injection hj with hj;subst hj;exact h.1 j x hx
  · unfold cI at hj
    rw [List.length_map] at hj
    rw [h.1 j _ (List.getElem?_eq_getElem hj)]
    exact ⟨rfl,h.2 _⟩
theorem At.set1 {w:World} {O k:Nat} {cs:List Value} {v:Value} (h:At w O 0 cs) (hk:k<cs.length):At (w.setCell ⟨O,k,none⟩ v) O 0 (cs.set k v):=by
  have hc:∀ j u,(cs.set k v)[j]?=some u→(w.setCell ⟨O,k,none⟩ v).cell? ⟨O,0+j,none⟩=some u:=by
    intro j u hj
    rw [Nat.zero_add]
    by_cases e:j=k
    · subst e
      rw [List.getElem?_set_self hk] at hj
      injection hj with hj
      subst hj
      have:=h.range j _ (List.getElem?_eq_getElem hk)
      rw [Nat.zero_add] at this
      exact World.cell?_setCell_same _ _ _ this
    · rw [List.getElem?_set_ne (fun e2=>e e2.symm)] at hj
      rw [World.cell?_setCell_other _ _ _ _ (fun e2=>by injection e2 with e3 e4;omega)]
      have:=h.range j u hj
      rwa [Nat.zero_add] at this
  refine ⟨hc,fun j hj=>?_,by simpa [World.setCell] using h.lt⟩
  rw [hc j _ (List.getElem?_eq_getElem hj)]
  refine ⟨rfl,?_⟩
  rw [World.frozen?_setCell]
  rw [List.length_set] at hj
  exact (h.there j hj).2
theorem At.get0 {w:World} {O k:Nat} {l:List Int} {x:Int} (h:At w O 0 (cI l)) (hk:l[k]?=some x):w.cell? ⟨O,k,none⟩=some (.int .i64 x):=by
  have:=h.range k (.int .i64 x) (by unfold cI;rw [List.getElem?_map,hk];rfl)
  rwa [Nat.zero_add] at this
theorem At.fz {w:World} {O k:Nat} {cs:List Value} (h:At w O 0 cs) (hk:k<cs.length):w.frozen? ⟨O,k,none⟩=false:=by
  have:=(h.there k hk).2
  rwa [Nat.zero_add] at this
theorem qtX (l:List Int) (k:Nat) (x:Int):(cI l).set k (.int .i64 x)=cI (l.set k x):=by unfold cI;rw [List.map_set]
theorem qiS (l:List Int):(cI l).length=l.length:=List.length_map ..
theorem Fr.cellB {Z:Nat} {a b:World} (h:Fr Z a b) {p:Addr} {v:Value} (hc:a.cell? p=some v) (hp:p.block<Z):b.cell? p=some v:=by rw [h.below.cell hp];exact hc
theorem FlowK.cellK {pl:List Pl} {W w:World} (h:FlowK pl W w) {p:Addr} {v:Value} (hc:W.cell? p=some v) (hne:∀ q∈pl,q.new=false→q.b≠p.block):w.cell? p=some v:=by
  rw [World.cell?_of_block (w:=W) (h.keep _ (World.block_lt_of_cell? W _ hc) hne)];exact hc
theorem Fr.setC {Z:Nat} {a b:World} (h:Fr Z a b) (p:Addr) (v:Value) (hp:Z≤p.block):Fr Z a (b.setCell p v) :=
  ⟨qbB h.below p v hp,by simpa [World.setCell] using h.le⟩
theorem qtV (T n:Nat) (ws:List Nat) (v:Value) (w:World) (h:Valid w v n ws) (hz:sumL ws=0) (hT:T≤1000000000000000) :
    Calls Tryz.prog 41 #[.int .i64 (T:Int),v] w (OutR n (ws.map Int.ofNat) w):=by
  have hCK:=qmP n ws v w h
  rw [hz] at hCK
  have HCK:=hid hCK
  have HF:=hid (fun W=>qxS (T:Int) W (by omega) (by omega))
  have q1:¬(T:Int)<0:=by omega
  have h1:=h.pos
  have h2:=h.small
  obtain ⟨gv,off,cap,rfl,_⟩:=h.reads.some (by omega)
  have hmk:=run_make_row' (P:=Tryz.prog) 30 3 (.int .i64 0) 8 Tryz.underlying30 Tryz.info3 rfl .i64 .i64 n (by omega) (by omega)
  have hw:ws.map Int.ofNat=List.replicate n 0:=by
    apply List.ext_getElem?
    intro j
    rw [List.getElem?_map,List.getElem?_replicate]
    by_cases hj:j<n
    · rw [if_pos hj]
      have hjl:j<ws.length:=by rw [h.len];exact hj
      rw [List.getElem?_eq_getElem hjl]
      have:=qeP (List.getElem_mem hjl)
      rw [hz] at this
      show some (Int.ofNat ws[j])=some 0
      rw [show ws[j]=0 by omega];rfl
    · rw [if_neg hj,List.getElem?_eq_none (by rw [h.len];omega)];rfl
  have HW:=hid hw
  clear hCK hw h hz hT
  go_enter Tryz.func41,Tryz.ntmps41
  go_wp2_with fail
  refine HCK.out.mono ?_
  rintro e w' ⟨rfl,rfl⟩
  go_wp2_with fail
  refine (HF.out _).mono ?_
  rintro e w' ⟨rfl,rfl⟩
  go_wp2
  go_ret2
  exact ⟨_,Nat.le_refl _,by simp,rfl,by rw [HW.out];exact qaX _ _ _ _ rfl,(Below.refl _ _).alloc (Nat.le_refl _) _⟩
theorem qvC (T n:Nat) (ws p:List Nat) (v:Value) (w:World) (h:Valid w v n ws) (hT:T≤1000000000000000) (hp:CapsP T ws p) :
    Calls Tryz.prog 41 #[.int .i64 (T:Int),v] w (OutR n (p.map Int.ofNat) w):=by
  by_cases hz:sumL ws=0
  · have:p=ws:=by rcases hp.2 with ⟨_,h⟩|⟨h,_⟩<;>first|exact h|omega
    rw [this]
    exact qtV T n ws v w h hz hT
  · exact qwQ T n ws p v w h (by omega) hT hp.2
def AllowQ (net:Int) (n m:Bool) (p q:Nat) (l:List Rq) (outs:List Int) (w:World) (e:Ending) (w':World):Prop:=Below w.heap.size w w' ∧
  ((∃ code,allowE net n m p q l=some code∧e=.returned (.tuple #[.slice none 0 0,.int .i64 code])) ∨
   (allowE net n m p q l=none∧∃ g,e=.returned (.tuple #[.slice (some ⟨g,0,none⟩) l.length l.length,.int .i64 0])∧At w' g 0 (cI outs)))
theorem qnC {u p v:Nat} {r s:Qn} (hv:v≠0) (h1:mkQ (p:Int) v=some r) (h2:mulQ ((u:Int),1) r=some s):s.1 / (s.2:Int)=((u*p / v:Nat):Int):=by
  have hr:=qbS hv h1
  unfold mulQ at h2
  rw [qhS h2 (by have:=hr.pos;simpa using this)]
  unfold mkQ at h1
  split at h1
  · injection h1 with h1
    subst h1
    have hg:=qdL (N:=(p:Int)) hv
    have e1:(p:Int)=((p:Int).sign*(((p:Int).natAbs / Nat.gcd (p:Int).natAbs v:Nat):Int))*(Nat.gcd (p:Int).natAbs v:Int):=by
      rw [Int.mul_assoc,←Int.natCast_mul,Nat.div_mul_cancel (Nat.gcd_dvd_left _ _),Int.sign_mul_natAbs]
    have e2:(v:Int)=((v / Nat.gcd (p:Int).natAbs v:Nat):Int)*(Nat.gcd (p:Int).natAbs v:Int):=by
      rw [←Int.natCast_mul,Nat.div_mul_cancel (Nat.gcd_dvd_right _ _)]
    rw [show ((u*p / v:Nat):Int)=(u:Int)*(p:Int) / (v:Int) by rw [Int.natCast_ediv,Int.natCast_mul]]
    conv=>rhs;rw [e1,e2,←Int.mul_assoc]
    rw [Int.mul_ediv_mul_of_pos_left _ _ (by omega)]
    simp
  · cases h1
theorem qpV (net:Int) {cr:List Value} {gn gm:Bool} {p q:Nat} (hcr:cr=rat gn p gm q) (hp:p<BB^32) (hq:q<BB^32) (v:Value) (l:List Rq) (outs:List Int) (w:World) (h:RqsAt w v l) (hl:l.length≤19∨64<l.length) (hO:allowE net gn gm p q l=none→Outs (roomZ net p q) l outs) :
    Calls Tryz.prog 11 #[.int .i64 net,.agg cr.toArray,v] w (AllowQ net gn gm p q l outs w):=by
  have hAE:=allowE.eq_1 net gn gm p q l
  obtain ⟨A,cap,hv⟩:=Rd.form h
  have hmx:=h.2.1
  obtain ⟨n,hn⟩:∃ n,n=l.length:=⟨_,rfl⟩
  rw [←hn] at hv hl hAE hmx
  have HN:=hid hn
  have V_cr:=hid hcr
  have HR:=hid h
  obtain ⟨G,hG⟩:∃ G,G=gtB gn gm p q:=⟨_,rfl⟩
  have HOP:=hid (qrQ hcr hp hq)
  rw [←hG] at HOP hAE
  have HG:=hid hG
  have HO:=hid hO
  clear h hcr hp hq hG hn hO
  obtain ⟨B0,hB0⟩:∃ B,B=w.heap.size:=⟨_,rfl⟩
  obtain ⟨w0,hw0⟩:∃ w0,w0=(w.alloc (.cells cr.toArray 27)):=⟨_,rfl⟩
  have AB0:=hid (show At w0 B0 0 cr by rw [hw0];exact At.fresh _ cr _ hB0)
  have FR:=hid (show Fr B0 w w0 by rw [hw0,hB0];exact (Fr.start w).alloc _)
  have FR0:=hid FR.out.le
  have hZB0:B0≤B0:=Nat.le_refl _
  have HB0:=hid hB0
  subst hv
  by_cases hr:net < -1000000000000000∨1000000000000000<net
  · have HE:=hid (show allowE net gn gm p q l=some 33 by rw [hAE,if_pos hr])
    clear hAE hl
    go_enter Tryz.func11,Tryz.ntmps11
    by_cases hr1:net < -1000000000000000
    · clear hr
      go_wp2
      go_ret2
      exact ⟨by rw [hw0] at FR;rw [HB0.out] at FR;exact FR.out.below,.inl ⟨_,HE.out,rfl⟩⟩
    · have hr2:1000000000000000<net:=by omega
      clear hr
      go_wp2
      go_ret2
      exact ⟨by rw [hw0] at FR;rw [HB0.out] at FR;exact FR.out.below,.inl ⟨_,HE.out,rfl⟩⟩
  have n1:¬net < -1000000000000000:=by omega
  have n2:¬1000000000000000<net:=by omega
  rw [if_neg hr] at hAE
  clear hr
  go_enter Tryz.func11,Tryz.ntmps11
  go_upto_region 3 with fail
  rw [←hw0,←hB0]
  clear hw0 hB0
  have HNB:=hid (And.intro n1 n2)
  clear n1 n2
  cases G with
  | false =>
    have HE:=hid (show allowE net gn gm p q l=some 271 by rw [hAE,if_pos rfl])
    clear hAE hl
    refine wfn [] [(23,.agg cr.toArray),(24,.bool false),(25,.bool true),(22,.bool true)] _ (by simp only [zz4,zz5,zq];rfl) (by kernel_rfl) (by kernel_rfl) rfl ?_ ?_ ?_ ?_
    · intro W' hW'
      have rd0:=AB0.out.below hW'
      refine fxo (wlg (by rfl) rfl rfl rd0 Tryz.underlying27 rfl (qR V_cr.out) (wqn (by simp only [zq]))) ?_
      refine fxo ?_ ?_;(go_big_quiet_step ((go_at_call 38;exact qaA (HOP.out _)));(try simp only [zq]);exact wqn rfl)
      iterate 2 (refine fxo ?_ ?_;(go_big_quiet_step (fail);(try simp only [zq]);exact wqn rfl))
      exact fxn
    · exact oN
    · exact oN
    intro β wx1 E
    replace FR:=hid (FR.out.fnw E rfl)
    replace AB0:=hid (AB0.out.fnw E rfl)
    have hE:=E.below rfl
    simp only [nP,zr,zq]
    replace FR0:=hid FR.out.le
    clear E
    go_wp2
    go_ret2
    exact ⟨by rw [HB0.out] at FR;exact FR.out.below,.inl ⟨_,HE.out,rfl⟩⟩
  | true =>
    rw [if_neg (by simp)] at hAE
    have hgp:=qgR HG.out.symm
    refine wfn [] [(23,.agg cr.toArray),(24,.bool true),(25,.bool false),(22,.bool false)] _ (by simp only [zz4,zz5,zq];rfl) (by kernel_rfl) (by kernel_rfl) rfl ?_ ?_ ?_ ?_
    · intro W' hW'
      have rd0:=AB0.out.below hW'
      refine fxo (wlg (by rfl) rfl rfl rd0 Tryz.underlying27 rfl (qR V_cr.out) (wqn (by simp only [zq]))) ?_
      refine fxo ?_ ?_;(go_big_quiet_step ((go_at_call 38;exact qaA (HOP.out _)));(try simp only [zq]);exact wqn rfl)
      iterate 2 (refine fxo ?_ ?_;(go_big_quiet_step (fail);(try simp only [zq]);exact wqn rfl))
      exact fxn
    · exact oN
    · exact oN
    intro β wx1 E
    replace FR:=hid (FR.out.fnw E rfl)
    replace AB0:=hid (AB0.out.fnw E rfl)
    have hE:=E.below rfl
    simp only [nP,zr,zq]
    replace FR0:=hid FR.out.le
    clear E
    go_upto_region 5 with fail
    have HRW:=hid (HR.out.below (show Below w.heap.size w wx1 by have:=FR.out.below;rwa [HB0.out] at this))
    cases hck:checkQ l with
    | false =>
      have HE:=hid (show allowE net gn gm p q l=some 270 by rw [hAE,if_pos hck])
      have HCK:=hid (fun W (hb:RqsAt W (.slice A n cap) l)=>(show Calls Tryz.prog 39 #[.slice A n cap] W (fun e w'=>e=.returned (.bool false)∧Below W.heap.size W w') by have:=qoJ _ l W hb;rw [hck] at this;exact this))
      clear hAE hl hgp hck
      refine wfn [] [(27,.slice A n cap),(28,.bool false),(29,.bool true),(26,.bool true)] _ (by simp only [zz4,zz5,zq];rfl) (by kernel_rfl) (by kernel_rfl) rfl ?_ ?_ ?_ ?_
      · intro W' hW'
        refine fxo ?_ ?_;(go_big_quiet_step (fail);(try simp only [zq]);exact wqn rfl)
        refine fxo ?_ ?_;(go_big_quiet_step ((go_at_call 39;exact qaA (HCK.out _ ((HRW.out.below hW').below (qbG _ _ _)))));(try simp only [zq]);exact wqn rfl)
        iterate 2 (refine fxo ?_ ?_;(go_big_quiet_step (fail);(try simp only [zq]);exact wqn rfl))
        exact fxn
      · exact oN
      · exact oN
      intro β wx2 E
      replace FR:=hid (FR.out.fnw E rfl)
      replace AB0:=hid (AB0.out.fnw E rfl)
      have hE:=E.below rfl
      simp only [nP,zr,zq]
      replace FR0:=hid FR.out.le
      clear E
      go_wp2
      go_ret2
      exact ⟨by rw [HB0.out] at FR;exact FR.out.below,.inl ⟨_,HE.out,rfl⟩⟩
    | true =>
      have hmem:=fun x hx=>qmN (x:=x) hck hx
      have hn19:n≤19:=by have:=qmO hck;rw [←HN.out] at this;omega
      have HCK:=hid (fun W (hb:RqsAt W (.slice A n cap) l)=>(show Calls Tryz.prog 39 #[.slice A n cap] W (fun e w'=>e=.returned (.bool true)∧Below W.heap.size W w') by have:=qoJ _ l W hb;rw [hck] at this;exact this))
      rw [if_neg (by rw [hck];simp)] at hAE
      have HMEM:=hid hmem
      clear hl hck hmem
      refine wfn [] [(27,.slice A n cap),(28,.bool true),(29,.bool false),(26,.bool false)] _ (by simp only [zz4,zz5,zq];rfl) (by kernel_rfl) (by kernel_rfl) rfl ?_ ?_ ?_ ?_
      · intro W' hW'
        refine fxo ?_ ?_;(go_big_quiet_step (fail);(try simp only [zq]);exact wqn rfl)
        refine fxo ?_ ?_;(go_big_quiet_step ((go_at_call 39;exact qaA (HCK.out _ ((HRW.out.below hW').below (qbG _ _ _)))));(try simp only [zq]);exact wqn rfl)
        iterate 2 (refine fxo ?_ ?_;(go_big_quiet_step (fail);(try simp only [zq]);exact wqn rfl))
        exact fxn
      · exact oN
      · exact oN
      intro β wx2 E
      replace FR:=hid (FR.out.fnw E rfl)
      replace AB0:=hid (AB0.out.fnw E rfl)
      have hE:=E.below rfl
      simp only [nP,zr,zq]
      replace FR0:=hid FR.out.le
      clear E
      go_upto_region 7 with fail
      have hpq:cr=ratZ (p:Int) q:=by rw [V_cr.out,hgp.1,hgp.2.1];unfold ratZ;rw [Int.natAbs_natCast,decide_eq_false (Int.not_lt.2 (Int.natCast_nonneg _))]
      have hVP:VQ ((p:Int),q):=⟨by rw [Int.natAbs_natCast];exact hgp.2.2.2.2.1,hgp.2.2.2.2.2.1,by have:=hgp.2.2.1;have:=hgp.2.2.2.1;show q≠0;omega,by rw [Int.natAbs_natCast];exact hgp.2.2.2.2.2.2⟩
      have hVN:VQ (net,1):=qiG (by have:=HNB.out;omega)
      obtain ⟨cN,V_cN⟩:∃ c:List Value,Hid (c=nm (decide ((p:Int)<0)) ((p:Int):Int).natAbs false q 0):=⟨_,hid rfl⟩
      obtain ⟨cw,V_cw⟩:∃ c:List Value,Hid (c=nm (decide (net<0)) (net:Int).natAbs false 1 0):=⟨_,hid rfl⟩
      have HOF:=hid (eOf (cr:=cr) (cN:=cN) V_cr.out (by rw [V_cN.out,hgp.1,hgp.2.1,Int.natAbs_natCast,decide_eq_false (Int.not_lt.2 (Int.natCast_nonneg _))]))
      have HIN:=hid (qxU (cN:=cw) (z:=net) V_cw.out (by have:=HNB.out;omega) (by have:=HNB.out;omega))
      have HML:=fun (cP:List Value) (h1:cP=resN (mulQ ((p:Int),q) (net,1)))=>jbH (ca:=cN) (cb:=cw) (cN:=cP) (a:=some ((p:Int),q)) (b:=some (net,1)) V_cN.out V_cw.out (fun x hx=>by cases hx;exact hVP) (fun x hx=>by cases hx;exact hVN) h1
      have hqpos:0<q:=by have:=hgp.2.2.1;have:=hgp.2.2.2.1;omega
      have hpleq:=hgp.2.2.2.1
      clear hVN hgp
      cases hm:mulQ ((p:Int),q) (net,1) with
      | none =>
        have HE:=hid (show allowE net gn gm p q l=some 10 by rw [hAE,if_pos hm])
        obtain ⟨cP,V_cP⟩:∃ c:List Value,Hid (c=nm false 0 false 0 10):=⟨_,hid rfl⟩
        have HMU:=hid (HML cP (by rw [V_cP.out,hm];rfl))
        clear hAE HML hm hqpos hpleq hpq hVP
        refine wfn [⟨true,5,8,6,0,0,44,34,cP,0,cP,[]⟩] [(30,.agg cr.toArray),(31,.agg cN.toArray),(32,.int .i64 net),(33,.agg cw.toArray),(34,.agg cP.toArray)] _ (by simp only [zz4,zz5,zq];rfl) (by kernel_rfl) (by kernel_rfl) rfl ?_ ?_ ?_ ?_
        · intro W' hW'
          have rd0:=AB0.out.below hW'
          refine fxo (wlg (by rfl) rfl rfl rd0 Tryz.underlying27 rfl (qR V_cr.out) (wqn (by simp only [zq]))) ?_
          refine fxo ?_ ?_;(go_big_quiet_step ((go_at_call 40;exact qaA (HOF.out _)));(try simp only [zq]);exact wqn rfl)
          refine fxo ?_ ?_;(go_big_quiet_step (fail);(try simp only [zq]);exact wqn rfl)
          refine fxo ?_ ?_;(go_big_quiet_step ((go_at_call 19;exact qaA (HIN.out _)));(try simp only [zq]);exact wqn rfl)
          refine fxo ?_ ?_;(go_big_quiet_step ((go_at_call 21;exact qaA (HMU.out _)));(try simp only [zq]);exact wqn rfl)
          iterate 2 (refine fxs (by rfl) ?_)
          exact fxn
        · exact oP _ _ (Tryz.alN (qaY V_cP.out)) (oN)
        · exact oP _ _ (stw rfl (qaY V_cP.out) (qsE V_cP.out) (fun _=>rfl)) (oN)
        intro β wx3 E
        replace FR:=hid (FR.out.fnw E rfl)
        obtain ⟨b8,hb8⟩:∃ b,b=β 5:=⟨_,rfl⟩
        have eb8:=E.atNew mms rfl
        simp only at eb8
        rw [←hb8] at eb8
        have lB0_b8:B0<b8:=by have h1:=eb8.1;have h2:=AB0.out.lt;omega
        have hZb8:B0≤b8:=by have h1:=eb8.1;have h2:=FR0.out;omega
        replace AB0:=hid (AB0.out.fnw E rfl)
        have Ab8:=hid eb8.2
        simp only [nP,zr,zq]
        rw [←hb8]
        replace FR0:=hid FR.out.le
        clear E eb8 hb8
        have e8:=Ab8.out.err V_cP.out
        go_upto_region 9 with fail
        go_quiet (fail)
        go_wp2
        go_ret2
        exact ⟨below_drewN (by rw [HB0.out] at FR;exact FR.out.below) _,.inl ⟨_,HE.out,rfl⟩⟩
      | some r =>
        rw [if_neg (by rw [hm];simp)] at hAE
        obtain ⟨cP,V_cP⟩:∃ c:List Value,Hid (c=nm (decide (r.1<0)) r.1.natAbs false r.2 0):=⟨_,hid rfl⟩
        have HMU:=hid (HML cP (by rw [V_cP.out,hm];rfl))
        have HRO:=hid (fun W=>qkO (cr:=cr) (net:=net) (p:=p) (q:=q) (r:=r) hpq hVP hpleq (by have:=HNB.out;omega) (by have:=HNB.out;omega) hm W)
        have hbd:=qjF (net:=net) (p:=p) (q:=q) (by have:=HNB.out;omega) (by have:=HNB.out;omega) hpleq hqpos
        obtain ⟨T,hT⟩:∃ T,T=(roomZ net p q).toNat:=⟨_,rfl⟩
        rw [←hT] at HRO
        have hTb:T≤1000000000000000:=by omega
        have HT:=hid hT
        clear HML hm hqpos hpleq hpq hVP hT hbd
        refine wfn [⟨true,5,8,6,0,0,44,34,cP,0,cP,[]⟩] [(30,.agg cr.toArray),(31,.agg cN.toArray),(32,.int .i64 net),(33,.agg cw.toArray),(34,.agg cP.toArray)] _ (by simp only [zz4,zz5,zq];rfl) (by kernel_rfl) (by kernel_rfl) rfl ?_ ?_ ?_ ?_
        · intro W' hW'
          have rd0:=AB0.out.below hW'
          refine fxo (wlg (by rfl) rfl rfl rd0 Tryz.underlying27 rfl (qR V_cr.out) (wqn (by simp only [zq]))) ?_
          refine fxo ?_ ?_;(go_big_quiet_step ((go_at_call 40;exact qaA (HOF.out _)));(try simp only [zq]);exact wqn rfl)
          refine fxo ?_ ?_;(go_big_quiet_step (fail);(try simp only [zq]);exact wqn rfl)
          refine fxo ?_ ?_;(go_big_quiet_step ((go_at_call 19;exact qaA (HIN.out _)));(try simp only [zq]);exact wqn rfl)
          refine fxo ?_ ?_;(go_big_quiet_step ((go_at_call 21;exact qaA (HMU.out _)));(try simp only [zq]);exact wqn rfl)
          iterate 2 (refine fxs (by rfl) ?_)
          exact fxn
        · exact oP _ _ (Tryz.alN (qaY V_cP.out)) (oN)
        · exact oP _ _ (stw rfl (qaY V_cP.out) (qsE V_cP.out) (fun _=>rfl)) (oN)
        intro β wx3 E
        replace FR:=hid (FR.out.fnw E rfl)
        obtain ⟨b8,hb8⟩:∃ b,b=β 5:=⟨_,rfl⟩
        have eb8:=E.atNew mms rfl
        simp only at eb8
        rw [←hb8] at eb8
        have lB0_b8:B0<b8:=by have h1:=eb8.1;have h2:=AB0.out.lt;omega
        have hZb8:B0≤b8:=by have h1:=eb8.1;have h2:=FR0.out;omega
        replace AB0:=hid (AB0.out.fnw E rfl)
        have Ab8:=hid eb8.2
        simp only [nP,zr,zq]
        rw [←hb8]
        replace FR0:=hid FR.out.le
        clear E eb8 hb8
        have e8:=Ab8.out.err V_cP.out
        by_cases hn0:n=0
        · have HE:=hid (show allowE net gn gm p q l=some 0 by rw [hAE,if_pos hn0])
          subst hn0
          clear hAE
          go_wp2
          go_ret2
          exact ⟨by rw [HB0.out] at FR;exact FR.out.below,.inl ⟨_,HE.out,rfl⟩⟩
        have hnone:allowE net gn gm p q l=none:=by rw [hAE,if_neg hn0]
        have HE:=hid hnone
        obtain ⟨ps,hps,hou⟩:=HO.out hnone
        rw [←HT.out] at hps
        have HPS:=hid hps
        have HOU:=hid hou
        clear hAE hnone hps hou
        have hnz:((n:Int)==0)=false:=beq_eq_false_iff_ne.2 (by omega)
        obtain ⟨g,off,cap',hsl,hc⟩:=qfS HR.out (by rw [←HN.out];omega)
        rw [←HN.out] at hsl
        injection hsl with e1 _ e2
        subst e1
        subst e2
        have hglt:=qoK hc (by rw [←HN.out];omega)
        have HC:=hid hc
        have hmk:=run_make_row' (P:=Tryz.prog) 30 3 (.int .i64 0) 8 Tryz.underlying30 Tryz.info3 rfl .i64 .i64 n (by omega) (by omega)
        clear hc
        obtain ⟨vs,hvs⟩:∃ vs:List Int,vs=l.map Rq.value:=⟨_,rfl⟩
        have hvl:vs.length=n:=by rw [hvs,List.length_map,HN.out]
        have HVS:=hid hvs
        clear hvs
        go_upto_region 13 with fail
        obtain ⟨V,hV⟩:∃ V,V=wx3.heap.size:=⟨_,rfl⟩
        obtain ⟨wa,hwa⟩:∃ wa,wa=wx3.alloc (.cells (madeCells #[.int .i64 0] n) 3):=⟨_,rfl⟩
        rw [←hV,←hwa]
        have hrow:Row wa V 0 (fillT vs 0):=by rw [qeV,hvl,hwa];exact qaX _ _ _ _ hV
        have hbw:Below wx3.heap.size wx3 wa:=by rw [hwa];exact (Below.refl _ _).alloc (Nat.le_refl _) _
        have hVlt:V<wa.heap.size:=by rw [hwa,hV];simp
        have HA0:=hid (AB0.out.below hbw)
        have HFA:=hid (FR.out.step hbw)
        have lB0V:B0<V:=by rw [hV];exact AB0.out.lt
        have hgV:g<V:=by rw [hV];have:=FR0.out;have:=HB0.out;omega
        have HAT:=hid (hrow.at hVlt)
        have HFV:=hid (show Fr V wa wa from ⟨Below.refl _ _,by omega⟩)
        clear hV hwa hrow hbw e8
        go_wp2
        go_loopg [10] n (fun m iv wr=>∃ k:Nat,iv=.int .i64 k∧k≤n∧n≤m+k∧At wr V 0 (cI (fillT vs k))∧Fr V wa wr)
        case atStart=>exact ⟨0,rfl,by omega,by omega,HAT.out,HFV.out⟩
        case round =>
          obtain ⟨k,rfl,hk,hm,hat,hfr⟩:=hrel
          have HAK:=hid hat
          have HFK:=hid hfr
          by_cases hkn:k<n
          · obtain ⟨x,hx⟩:∃ x,l[k]?=some x:=⟨l[k]'(by rw [←HN.out];exact hkn),by simp [←HN.out,hkn]⟩
            have hq2:QAt wa g (off+k*3) x:=(HC.out k x hx).below (show Below w.heap.size w wa by have:=HFA.out.below;rwa [HB0.out] at this)
            have c3:wr.cell? ⟨g,off+k*3+2,none⟩=some (.int .i64 x.value):=hfr.cellB hq2.2.2 hgV
            have cv:=hat.get0 (qhH vs k (by omega))
            have fv:=hat.fz (k:=k) (by rw [qiS,qfX _ _ (by omega)];omega)
            have hvx:vs[k]?=some x.value:=by rw [HVS.out,List.getElem?_map,hx];rfl
            have HVX:=hid hvx
            clear hx hq2 hvx hat hfr
            go_wp2
            go_roundg (gk - 1)
            case measure=>omega
            case rel =>
              refine ⟨k+1,by go_num,by omega,by omega,?_,HFK.out.setC _ _ (Nat.le_refl _)⟩
              have h:=HAK.out.set1 (k:=k) (v:=.int .i64 x.value) (by rw [qiS,qfX _ _ (by omega)];omega)
              rw [qtX,qeJ vs k x.value HVX.out] at h
              exact h
          · have hkn:k=n:=by omega
            subst hkn
            rw [←hvl,qeW] at HAK
            rw [←hvl] at hk hm
            rw [hvl] at hk hm
            obtain ⟨wz,hwz⟩:∃ wz,wz=wr:=⟨_,rfl⟩
            subst hwz
            obtain ⟨ws,hws⟩:∃ ws,ws=valsN l:=⟨_,rfl⟩
            have hwl:ws.length=k:=by rw [hws,valsN,List.length_map,HN.out]
            have hvw:vs=ws.map Int.ofNat:=by
              rw [hws,HVS.out,valsN,List.map_map]
              refine List.map_congr_left fun x hx=>?_
              have:=HMEM.out x hx
              show x.value=Int.ofNat x.value.toNat
              rw [Int.ofNat_eq_natCast,Int.toNat_of_nonneg (by omega)]
            have hVr:V<wz.heap.size:=HAK.out.lt
            have HVA:=hid (fun (W:World) (hA:At W V 0 (cI vs))=>(show Valid W (.slice (some ⟨V,0,none⟩) k k) k ws from ⟨⟨by rw [List.length_map,hwl,Nat.mul_one],by omega,.inr ⟨V,0,k,rfl,fun j u hu=>by
                have hu':(cI vs)[j]?=some u:=by rw [hvw];unfold cI;rw [List.map_map];exact hu
                exact hA.range j u hu'⟩⟩,hwl,by omega,hn19,fun x hx=>by
              rw [hws] at hx
              obtain ⟨y,hy,rfl⟩:=List.mem_map.1 hx
              have:=HMEM.out y hy
              omega⟩))
            have HWS:=hid hws
            have hpsw:CapsP T ws ps:=by rw [hws];exact HPS.out
            have hpl:ps.length=k:=by rw [hpsw.1,hwl]
            have HCAP:=hid (fun W (hA:At W V 0 (cI vs))=>qvC T k ws ps _ W (HVA.out W hA) hTb hpsw)
            have HPW:=hid hpsw
            have A0z:=hid (HA0.out.below (show Below wa.heap.size wa wa from Below.refl _ _))
            have HBZ:=hid (show At wz B0 0 cr from ⟨fun j u hj=>HFK.out.cellB (HA0.out.range j u hj) lB0V,fun j hj=>by
              have hh:=HA0.out.there j hj
              rw [HFK.out.below.cell (p:=⟨B0,0+j,none⟩) lB0V,HFK.out.below.frozen (p:=⟨B0,0+j,none⟩) lB0V]
              exact hh,by have:=HFK.out.le;omega⟩)
            clear hws hat hfr hvw hpsw A0z
            go_upto_region 18 with (first|(refine wpList_load_mid rfl _ _ rfl B0 0 rfl cr _ HBZ.out.range Tryz.underlying27 rfl (qR V_cr.out) ?_)|(go_at_call 18;refine (HRO.out _).mono ?_;rintro e w2 ⟨rfl,hb2⟩;have HB2:=hid hb2;clear hb2)|(go_at_call 41;refine (HCAP.out _ (HAK.out.below HB2.out)).mono ?_;rintro e w3 ⟨g2,hg1,hg2,rfl,hrp,hb3⟩;have HB3:=hid hb3;have HG2:=hid (And.intro hg1 (And.intro hg2 hrp));clear hb3 hg1 hg2 hrp))
            have hbz3:Below wz.heap.size wz w3:=HB2.out.trans (HB3.out.mono HB2.out.size)
            have HZ3:=hid hbz3
            have hP3:=HG2.out.2.1
            have hP3':=HG2.out.1
            have hz2:=HB2.out.size
            clear hbz3
            go_upto_region 19 with fail
            obtain ⟨O,hO⟩:∃ O,O=w3.heap.size:=⟨_,rfl⟩
            obtain ⟨wb,hwb⟩:∃ wb,wb=w3.alloc (.cells (madeCells #[.int .i64 0] k) 3):=⟨_,rfl⟩
            rw [←hO,←hwb]
            have hol:outs.length=k:=by rw [HOU.out,scaleL,List.length_zipWith,hpl,←HN.out,Nat.min_self]
            have hb3b:Below w3.heap.size w3 wb:=by rw [hwb];exact (Below.refl _ _).alloc (Nat.le_refl _) _
            have hOlt:O<wb.heap.size:=by rw [hwb,hO];simp
            have hrow:Row wb O 0 (fillT outs 0):=by rw [qeV,hol,hwb];exact qaX _ _ _ _ hO
            have HAT2:=hid (hrow.at hOlt)
            have HFO:=hid (show Fr O wb wb from ⟨Below.refl _ _,by omega⟩)
            have HZB:=hid (show Below wz.heap.size wz wb from HZ3.out.trans (hb3b.mono HZ3.out.size))
            have HAP:=hid (show At wb g2 0 (cI (ps.map Int.ofNat)) from (HG2.out.2.2.at HG2.out.2.1).below hb3b)
            have HAV:=hid (show At wb V 0 (cI vs) from HAK.out.below HZB.out)
            have hg2O:g2<O:=by omega
            have hz3:=HZ3.out.size
            have hVO:V<O:=by omega
            have HO3:=hid hO
            clear hO hwb hrow hb3b hmk
            go_wp2
            go_loopg [14] k (fun m iv wr=>∃ j:Nat,iv=.int .i64 j∧j≤k∧k≤m+j∧At wr O 0 (cI (fillT outs j))∧Fr O wb wr)
            case atStart=>exact ⟨0,rfl,by omega,by omega,HAT2.out,HFO.out⟩
            case round =>
              obtain ⟨j,rfl,hj,hm2,hat,hfr⟩:=hrel
              have HAJ:=hid hat
              have HFJ:=hid hfr
              by_cases hjk:j<k
              · obtain ⟨x,hx⟩:∃ x,l[j]?=some x:=⟨l[j]'(by rw [←HN.out];exact hjk),by simp [←HN.out,hjk]⟩
                obtain ⟨p0,hp0⟩:∃ p0,ps[j]?=some p0:=⟨ps[j]'(by omega),by simp [hpl,hjk]⟩
                have hxo:outs[j]?=some (scI x p0):=by rw [HOU.out,scaleL,List.getElem?_zipWith,hx,hp0]
                have hmx:=HMEM.out x (List.mem_of_getElem? hx)
                have hple:(p0:Int)≤x.value:=by
                  have:=qnS HPW.out (i:=j) (by omega)
                  rw [HWS.out] at this
                  simp only [List.getD,hp0,valsN,List.getElem?_map,hx,Option.map_some,Option.getD_some] at this
                  omega
                have hqb:QAt wb g (off+j*3) x:=by
                  have h1:QAt wa g (off+j*3) x:=(HC.out j x hx).below (show Below w.heap.size w wa by have:=HFA.out.below;rwa [HB0.out] at this)
                  have h2:QAt wz g (off+j*3) x:=⟨HFK.out.cellB h1.1 hgV,HFK.out.cellB h1.2.1 hgV,HFK.out.cellB h1.2.2 hgV⟩
                  exact h2.below HZB.out
                have hgO:g<O:=by omega
                have c1:wr.cell? ⟨g,off+j*3+1,none⟩=some (.int .i64 x.units):=hfr.cellB hqb.2.1 hgO
                have hvx:vs[j]?=some x.value:=by rw [HVS.out,List.getElem?_map,hx];rfl
                have cp0:=HAP.out.get0 (k:=j) (x:=(p0:Int)) (by rw [List.getElem?_map,hp0];rfl)
                have cv0:=HAV.out.get0 hvx
                have cO:=hat.get0 (qhH outs j (by omega))
                have hjl:j<(cI (fillT outs j)).length:=by rw [qiS,qfX _ _ (by omega)];omega
                have fO:=hat.fz hjl
                have HXO:=hid hxo
                have HF:=hid (scI.eq_1 x p0)
                clear hx hp0 hxo hvx hat hfr
                go_upto_region 23 with fail
                obtain ⟨W2,hW2⟩:∃ W2,W2=wr.setCell ⟨O,j,none⟩ (.int .i64 x.units):=⟨_,rfl⟩
                rw [←hW2]
                have hF2:Fr O wb W2:=by rw [hW2];exact HFJ.out.setC _ _ (Nat.le_refl _)
                obtain ⟨pc,hpc⟩:∃ pc,pc=cI ((fillT outs j).set j x.units):=⟨_,rfl⟩
                have AO:=hid (show At W2 O 0 pc by rw [hpc,←qtX,hW2];exact HAJ.out.set1 hjl)
                have y1:W2.cell? ⟨g,off+j*3+1,none⟩=some (.int .i64 x.units):=hF2.cellB hqb.2.1 hgO
                have y2:W2.cell? ⟨g2,j,none⟩=some (.int .i64 (p0:Int)):=hF2.cellB cp0 hg2O
                have y3:W2.cell? ⟨V,j,none⟩=some (.int .i64 x.value):=hF2.cellB cv0 hVO
                have HF2:=hid hF2
                have HPC:=hid hpc
                have FR:=hid (show Fr O W2 W2 from ⟨Below.refl _ _,by have:=AO.out.lt;omega⟩)
                have FR0:=hid FR.out.le
                clear c1 cO fO hW2 hF2 hpc
                have hjI:(j:Int)<k:=by omega
                by_cases he:(p0:Int)=x.value
                · have HSC:=hid (show scI x p0=x.units by rw [HF.out,if_pos he])
                  rw [←he] at y3
                  clear he
                  refine wfn [] [(85,.slice (some ⟨g2,0,none⟩) k k),(86,.int .i64 (j:Int)),(87,.pointer (some ⟨g2,j,none⟩)),(88,.int .i64 (p0:Int)),(89,.slice (some ⟨V,0,none⟩) k k),(90,.int .i64 (j:Int)),(91,.pointer (some ⟨V,j,none⟩)),(92,.int .i64 (p0:Int)),(93,.bool false)] _ (by simp only [zz4,zz5,zq];rfl) (by kernel_rfl) (by kernel_rfl) rfl ?_ ?_ ?_ ?_
                  · intro W' hW'
                    have k2:=qcU y2 hW'
                    have k3:=qcU y3 hW'
                    iterate 3 (refine fxo ?_ ?_;(go_big_quiet_step (fail);(try simp only [zq]);exact wqn rfl))
                    refine fxo (wcg (by rfl) rfl rfl (fun W h=>by simp [loadVar,h,go_sem]) k2 (wqn (by simp only [zq]))) ?_
                    iterate 3 (refine fxo ?_ ?_;(go_big_quiet_step (fail);(try simp only [zq]);exact wqn rfl))
                    refine fxo (wcg (by rfl) rfl rfl (fun W h=>by simp [loadVar,h,go_sem]) k3 (wqn (by simp only [zq]))) ?_
                    refine fxo ?_ ?_;(go_big_quiet_step (fail);(try simp only [zq]);exact wqn rfl)
                    exact fxn
                  · exact oN
                  · exact oN
                  intro β wx1 E
                  replace FR:=hid (FR.out.fnw E rfl)
                  replace AO:=hid (AO.out.fnw E rfl)
                  have hE:=E.below rfl
                  simp only [nP,zr,zq]
                  replace FR0:=hid FR.out.le
                  clear E
                  go_wp2
                  go_roundg (gk - 1)
                  case measure=>omega
                  case rel =>
                    refine ⟨j+1,by go_num,by omega,by omega,?_,⟨HF2.out.below.trans (FR.out.below),FR.out.le⟩⟩
                    have h:=AO.out
                    rw [HPC.out,←HSC.out,qeJ outs j _ HXO.out] at h
                    exact h
                · obtain ⟨U,hU⟩:∃ U:Nat,x.units=U:=⟨x.units.toNat,by omega⟩
                  obtain ⟨Y,hY⟩:∃ Y:Nat,x.value=Y:=⟨x.value.toNat,by omega⟩
                  have HSC:=hid (show scI x p0=((U*p0 / Y:Nat):Int) by rw [HF.out,if_neg he,hU,hY];rfl)
                  have hY0:Y≠0:=by omega
                  obtain ⟨r1,hr1⟩:=qdY (N:=(p0:Int)) (D:=Y) (by have:=qbU;omega) (by have:=qbU;omega)
                  have hv1:=qbS hY0 hr1
                  have hr1b:r1.1.natAbs≤1000000000000000∧r1.2≤1000000000000000:=by
                    unfold mkQ at hr1
                    split at hr1
                    · injection hr1 with hr1
                      subst hr1
                      have hs:=(qeR (p0:Int) ((p0:Int).natAbs / Nat.gcd (p0:Int).natAbs Y) (fun h0=>by rw [h0];simp)).1
                      refine ⟨by simp only;rw [hs];exact Nat.le_trans (Nat.div_le_self _ _) (by omega),Nat.le_trans (Nat.div_le_self _ _) (by omega)⟩
                    · cases hr1
                  obtain ⟨r2,hr2⟩:∃ r2,mulQ ((U:Int),1) r1=some r2:=by
                    unfold mulQ
                    refine qdY ?_ ?_
                    · simp only [Int.natAbs_mul,Int.natAbs_natCast]
                      have:U*r1.1.natAbs≤1000000000000000*1000000000000000:=Nat.mul_le_mul (by omega) hr1b.1
                      have:=qbU
                      omega
                    · have:=qbU;have:=hr1b.2;simp only [Nat.one_mul];omega
                  have hfl:=qnC hY0 hr1 hr2
                  have hv2:VQ r2:=qbS (N:=(U:Int)*r1.1) (D:=1*r1.2) (by have:=hv1.pos;simpa using this) hr2
                  obtain ⟨S,hS⟩:∃ S,S=U*p0 / Y:=⟨_,rfl⟩
                  rw [←hS] at HSC hfl
                  have hSb:S≤1000000000000000:=by
                    rw [hS]
                    refine Nat.le_trans (Nat.div_le_of_le_mul (n:=U) ?_) (by omega)
                    rw [Nat.mul_comm Y U]
                    exact Nat.mul_le_mul_left U (by omega)
                  rw [hU] at y1
                  rw [hY] at y3 he
                  have hne:((p0:Int)==(Y:Int))=false:=beq_eq_false_iff_ne.2 he
                  have hne2:((p0:Int) != (Y:Int))=true:=by rw [bne,hne];rfl
                  obtain ⟨cu,V_cu⟩:∃ c:List Value,Hid (c=nm (decide ((U:Int)<0)) ((U:Int):Int).natAbs false 1 0):=⟨_,hid rfl⟩
                  obtain ⟨co,V_co⟩:∃ c:List Value,Hid (c=resN (some r1)):=⟨_,hid rfl⟩
                  obtain ⟨cm,V_cm⟩:∃ c:List Value,Hid (c=resN (some r2)):=⟨_,hid rfl⟩
                  have HEI:=hid (qxU (cN:=cu) (z:=(U:Int)) V_cu.out (by omega) (by omega))
                  have HEO:=hid (qzP (cN:=co) (x:=(p0:Int)) (y:=(Y:Int)) (d:=Y) rfl hY0 (by rw [V_co.out,hr1]) (by omega) (by omega) (by omega))
                  have HEM:=hid (jbH (ca:=cu) (cb:=co) (cN:=cm) (a:=some ((U:Int),1)) (b:=some r1) V_cu.out V_co.out (fun x hx=>by cases hx;exact qiG (by omega)) (fun x hx=>by cases hx;exact hv1) (by rw [V_cm.out];exact congrArg resN hr2.symm))
                  have HER:=hid (qxT (ca:=cm) (a:=r2) (n:=(S:Int)) (most:=1000000000000000) V_cm.out hv2 hfl.symm (by omega) (by omega) (by decide))
                  obtain ⟨nc,hnc⟩:∃ nc,nc=pc.set j (.int .i64 (S:Int)):=⟨_,rfl⟩
                  have HNC:=hid hnc
                  have hpcl:j<pc.length:=by rw [HPC.out,qiS,List.length_set,qfX _ _ (by omega)];omega
                  have HPL:=hid hpcl
                  clear he hU hY hY0 hr1 hv1 hr1b hr2 hfl hv2 hS hSb hnc hpcl
                  refine wfn [] [(85,.slice (some ⟨g2,0,none⟩) k k),(86,.int .i64 (j:Int)),(87,.pointer (some ⟨g2,j,none⟩)),(88,.int .i64 (p0:Int)),(89,.slice (some ⟨V,0,none⟩) k k),(90,.int .i64 (j:Int)),(91,.pointer (some ⟨V,j,none⟩)),(92,.int .i64 (Y:Int)),(93,.bool true)] _ (by simp only [zz4,zz5,zq];rfl) (by kernel_rfl) (by kernel_rfl) rfl ?_ ?_ ?_ ?_
                  · intro W' hW'
                    have k2:=qcU y2 hW'
                    have k3:=qcU y3 hW'
                    iterate 3 (refine fxo ?_ ?_;(go_big_quiet_step (fail);(try simp only [zq]);exact wqn rfl))
                    refine fxo (wcg (by rfl) rfl rfl (fun W h=>by simp [loadVar,h,go_sem]) k2 (wqn (by simp only [zq]))) ?_
                    iterate 3 (refine fxo ?_ ?_;(go_big_quiet_step (fail);(try simp only [zq]);exact wqn rfl))
                    refine fxo (wcg (by rfl) rfl rfl (fun W h=>by simp [loadVar,h,go_sem]) k3 (wqn (by simp only [zq]))) ?_
                    refine fxo ?_ ?_;(go_big_quiet_step (fail);(try simp only [zq]);exact wqn rfl)
                    exact fxn
                  · exact oN
                  · exact oN
                  intro β wx1 E
                  replace FR:=hid (FR.out.fnw E rfl)
                  replace AO:=hid (AO.out.fnw E rfl)
                  have hE:=E.below rfl
                  simp only [nP,zr,zq]
                  replace FR0:=hid FR.out.le
                  clear E
                  go_upto_region 24 with fail
                  replace y1:=FR.out.cellB y1 (by simp;omega)
                  replace y2:=FR.out.cellB y2 (by simp;omega)
                  replace y3:=FR.out.cellB y3 (by simp;omega)
                  refine qwf [⟨false,0,116,23,O,0,3,114,nc,j,[.int .i64 (S:Int)],pc⟩] [(95,.slice (some ⟨O,0,none⟩) k k),(96,.int .i64 (j:Int)),(97,.slice (some ⟨g,off,none⟩) k cap),(98,.int .i64 (j:Int)),(99,.pointer (some ⟨g,off+j*3,none⟩)),(100,.pointer (some ⟨g,off+j*3+1,none⟩)),(101,.int .i64 (U:Int)),(102,.agg cu.toArray),(103,.slice (some ⟨g2,0,none⟩) k k),(104,.int .i64 (j:Int)),(105,.pointer (some ⟨g2,j,none⟩)),(106,.int .i64 (p0:Int)),(107,.slice (some ⟨V,0,none⟩) k k),(108,.int .i64 (j:Int)),(109,.pointer (some ⟨V,j,none⟩)),(110,.int .i64 (Y:Int)),(111,.agg co.toArray),(112,.agg cm.toArray),(113,.tuple #[.int .i64 (S:Int),.bool true]),(94,.tuple #[.int .i64 (S:Int),.bool true]),(114,.int .i64 (S:Int)),(115,.bool true),(116,.pointer (some ⟨O,j,none⟩))] _ (by simp only [zz4,zz5,zq];rfl) (by kernel_rfl) (by kernel_rfl) ?_ ?_ ?_ ?_ ?_ ?_ ?_
                  · intro W' hW'
                    have k1:=qcU y1 hW'
                    have k2:=qcU y2 hW'
                    have k3:=qcU y3 hW'
                    iterate 6 (refine fxo ?_ ?_;(go_big_quiet_step (fail);(try simp only [zq]);exact wqn rfl))
                    refine fxo (wcg (by rfl) rfl rfl (fun W h=>by simp [loadVar,h,go_sem]) k1 (wqn (by simp only [zq]))) ?_
                    refine fxo ?_ ?_;(go_big_quiet_step ((go_at_call 19;exact qaA (HEI.out _)));(try simp only [zq]);exact wqn rfl)
                    iterate 3 (refine fxo ?_ ?_;(go_big_quiet_step (fail);(try simp only [zq]);exact wqn rfl))
                    refine fxo (wcg (by rfl) rfl rfl (fun W h=>by simp [loadVar,h,go_sem]) k2 (wqn (by simp only [zq]))) ?_
                    iterate 3 (refine fxo ?_ ?_;(go_big_quiet_step (fail);(try simp only [zq]);exact wqn rfl))
                    refine fxo (wcg (by rfl) rfl rfl (fun W h=>by simp [loadVar,h,go_sem]) k3 (wqn (by simp only [zq]))) ?_
                    refine fxo ?_ ?_;(go_big_quiet_step ((go_at_call 22;exact qaA (HEO.out _)));(try simp only [zq]);exact wqn rfl)
                    refine fxo ?_ ?_;(go_big_quiet_step ((go_at_call 21;exact qaA (HEM.out _)));(try simp only [zq]);exact wqn rfl)
                    refine fxo ?_ ?_;(go_big_quiet_step ((go_at_call 42;exact qaA (HER.out _)));(try simp only [zq]);exact wqn rfl)
                    iterate 4 (refine fxo ?_ ?_;(go_big_quiet_step (fail);(try simp only [zq]);exact wqn rfl))
                    refine fxs (by rfl) ?_
                    exact fxn
                  · intro W' hK'
                    have k1:=hK'.cellK y1 (oP _ _ (fun _=>(by show O≠g;omega)) oN)
                    have k2:=hK'.cellK y2 (oP _ _ (fun _=>(by show O≠g2;omega)) oN)
                    have k3:=hK'.cellK y3 (oP _ _ (fun _=>(by show O≠V;omega)) oN)
                    iterate 6 (first|(refine fxo ?_ ?_;(go_big_quiet_step (fail);(try simp only [zq]);exact wqn rfl))|(refine fxs (by kernel_rfl) ?_))
                    refine fxo (wcg (by rfl) rfl rfl (fun W h=>by simp [loadVar,h,go_sem]) k1 (wqn (by simp only [zq]))) ?_
                    refine fxs (by kernel_rfl) ?_
                    iterate 3 (first|(refine fxo ?_ ?_;(go_big_quiet_step (fail);(try simp only [zq]);exact wqn rfl))|(refine fxs (by kernel_rfl) ?_))
                    refine fxo (wcg (by rfl) rfl rfl (fun W h=>by simp [loadVar,h,go_sem]) k2 (wqn (by simp only [zq]))) ?_
                    iterate 3 (first|(refine fxo ?_ ?_;(go_big_quiet_step (fail);(try simp only [zq]);exact wqn rfl))|(refine fxs (by kernel_rfl) ?_))
                    refine fxo (wcg (by rfl) rfl rfl (fun W h=>by simp [loadVar,h,go_sem]) k3 (wqn (by simp only [zq]))) ?_
                    iterate 3 (refine fxs (by kernel_rfl) ?_)
                    iterate 4 (first|(refine fxo ?_ ?_;(go_big_quiet_step (fail);(try simp only [zq]);exact wqn rfl))|(refine fxs (by kernel_rfl) ?_))
                    refine fxs (by kernel_rfl) ?_
                    exact fxn
                  · exact oP _ _ (bnc) (oN)
                  · exact oP _ _ (fun _=>⟨AO.out.lt,rfl,At.roomC AO.out (HNC.out)⟩) (oN)
                  · exact uno
                  · exact oP _ _ (qdU rfl rfl Tryz.infoZ rfl HPL.out HNC.out) (oN)
                  intro β wx2 E
                  replace FR:=hid (FR.out.flow E (oP _ _ (fun _=>(by show O≤O;omega)) (oN)))
                  replace AO:=hid (show At wx2 O 0 nc from E.atOld mms rfl AO.out.lt)
                  simp only [nP,zr,zq]
                  replace FR0:=hid FR.out.le
                  clear E
                  go_wp2
                  go_roundg (gk - 1)
                  case measure=>omega
                  case rel =>
                    refine ⟨j+1,by go_num,by omega,by omega,?_,⟨HF2.out.below.trans (FR.out.below),FR.out.le⟩⟩
                    have h:=AO.out
                    rw [HNC.out,HPC.out,qtX,List.set_set,←HSC.out,qeJ outs j _ HXO.out] at h
                    exact h
              · have hjk:j=k:=by omega
                subst hjk
                rw [←hol,qeW] at HAJ
                have hfin:Below w.heap.size w wr:=by
                  have h0:Below w.heap.size w wa:=by have:=HFA.out.below;rwa [HB0.out] at this
                  have h1:Below w.heap.size w wz:=h0.trans (HFK.out.below.mono (by have:=HB0.out;omega))
                  have h2:Below w.heap.size w wb:=h1.trans (HZB.out.mono h1.size)
                  exact h2.trans (HFJ.out.below.mono (by have:=HB0.out;omega))
                have HFIN:=hid hfin
                clear hfin hat hfr
                go_wp2
                go_ret2
                exact ⟨HFIN.out,.inr ⟨HE.out,O,qkQ HN.out,HAJ.out⟩⟩
end Go.Proofs.YtooeabibhjbkoaaGreat
