import Derived.Test.YtooeabibhjbkoaaGreatGeG
import Derived.ProofKit
import Derived.OpenShut
import Derived.Deep.Slices
import Derived.Deep.Strs
import Derived.Lib.SmallJoins
import Derived.DataShut
import Derived.Test.YtooeabibhjbkoaaGreatGmB
import Derived.Test.YtooeabibhjbkoaaGreatGnQ
import Derived.Test.YtooeabibhjbkoaaGreatScN
set_option linter.unusedVariables false
set_option linter.unusedSimpArgs false
set_option maxRecDepth 100000
namespace Go.Proofs.YtooeabibhjbkoaaGreat
open Go.RowKit Big Reg Al Ap Ga Go.ChangeShapes Go.WideShapes Go.ChangeAt Go.Joins Go.Deep
instance:Inhabited Rq:=⟨⟨⟨#[]⟩,0,0⟩⟩
theorem lv_get {n i:Nat} (v:Nat) (h:i<n):(lv n v)[i]?=some (.int .u32 (lim v i:Nat)):=by
 unfold lv cells
 rw [List.getElem?_map,qgD v h];rfl
set_option maxRecDepth 100000
section
variable {H:Type} {enc:TypeId × Value→H} {w:World} {base:Nat} {spare:Nat→Bool} {held:Bool}
end
theorem Rd.nil (w:World):Rd w 1 (.slice none 0 0) ([]:List Int).length (([]:List Int).map (Value.int .i64)):=⟨rfl,by decide,none,0,rfl,fun h=>absurd h (by decide)⟩
end Go.Proofs.YtooeabibhjbkoaaGreat
set_option maxHeartbeats 8000000
namespace Go.Proofs.YtooeabibhjbkoaaGreat
open Go.RowKit Big Reg Al Ap Ga
open Lib (hid)
theorem qfA {P:Program} {ops:Array Oper} {rest:List Oper} {o1:Oper} {a:Act} {w:World} {Q:Exit→Act→World→Prop} {t:TypeId} {n:Nat} (hL:∃ z,LaysAs P t z∧n≤z.size) (hg1:o1.guard=none) (ho1:o1.op=.alloc t)
  (h:∀ w',Below w.heap.size w w'→w'.there w.heap.size 0 n→w.heap.size<w'.heap.size→wpList P ops Q rest (a.put o1.dst (.pointer (some ⟨w.heap.size,0,none⟩))) w'):wpList P ops Q (o1::rest) a w:=by
 obtain ⟨z,hL,hz⟩:=hL
 refine wpList_plain hg1 fun K hK=>?_
 have hrun:=hL o1 ho1 a w
 unfold Oper.wp
 rw [hrun]
 exact hK _ _ (h _ ((Below.refl _ _).alloc (Nat.le_refl _) _) (qfG _ _ _ hz) (by simp))
theorem At.ofThere {w:World} {b:Nat} {ds:List Value} (h:w.there b 0 ds.length) (hlt:b<w.heap.size):At (w.setCells b 0 ds) b 0 ds :=
 ⟨World.rangeAt_setCells_same _ _ _ _ h,World.there_setCells h _ _ _,by rw [qbC];exact hlt⟩
theorem Rd.ltB {w:World} {size m n cap:Nat} {A:Option Addr} {xs:List Value} (h:Rd w size (.slice A m cap) n xs) (hn:0<n) (hs:0<size):∀ g off,A=some ⟨g,off,none⟩→g<w.heap.size:=fun g off e=>by
 obtain ⟨h1,_,A',c',hv,h3⟩:=h
 injection hv with e1 e2 e3
 obtain ⟨g',o',ha,hc⟩:=h3 hn
 rw [←e1,e] at ha
 injection ha with e
 injection e with e4 e5
 subst e4
 have h0:0<xs.length:=by rw [h1];exact Nat.mul_pos hn hs
 exact World.block_lt_of_cell? _ _ (hc 0 _ (List.getElem?_eq_getElem h0))
theorem jbG (net:Int) {cr:List Value} {p q:Nat} (hcr:cr=rat false p false q) (hp:p<BB^32) (hq:q<BB^32) (v:Value) (l:List Rq) (w:World) (h:RqsAt w v l) (hl:l.length≤19) (hE:allowE net false false p q l=if l.length=0 then some 0 else none) :
  Calls Tryz.prog 10 #[.int .i64 net,.agg cr.toArray,v] w fun e w'=>Below w.heap.size w w'∧∃ vx outs,e=.returned (.tuple #[vx,.int .i64 0])∧Outs (roomZ net p q) l outs∧Rd w' 1 vx outs.length (cI outs):=by
 refine (qmU net hcr hp hq v l w h (.inl hl)).mono ?_
 rintro e w' ⟨hb,⟨c,hc,rfl⟩|⟨hc,g,outs,rfl,h2,h3,h4,h5⟩⟩
 ·rw [hE] at hc
  split at hc
  ·rename_i h0
   injection hc with hc
   subst hc
   have:l=[]:=List.length_eq_zero_iff.1 h0
   exact ⟨hb,_,[],rfl,by subst this;exact ⟨[],⟨rfl,.inl ⟨Nat.zero_le _,rfl⟩⟩,rfl⟩,Rd.nil w'⟩
  ·cases hc
 ·have hol:=(qjJ h5).1
  refine ⟨hb,_,outs,rfl,h5,?_⟩
  rw [←hol]
  exact ⟨by rw [qiS];omega,by omega,_,_,rfl,fun _=>⟨g,0,rfl,fun j u hu=>(h4.at h3).range j u hu⟩⟩
theorem qyL (net:Int) {cr:List Value} {p q:Nat} (hcr:cr=rat false p false q) (hp:p<BB^32) (hq:q<BB^32) (v:Value) (l:List Rq) (outs:List Int) (w:World) (h:RqsAt w v l) (hl:l.length≤19) (hE:allowE net false false p q l=if l.length=0 then some 0 else none) (hO:Outs (roomZ net p q) l outs) :
  Calls Tryz.prog 11 #[.int .i64 net,.agg cr.toArray,v] w fun e w'=>Below w.heap.size w w'∧∃ vx,e=.returned (.tuple #[vx,.int .i64 0])∧Rd w' 1 vx outs.length (cI outs):=by
 have hol:=(qjJ hO).1
 refine (qpV net hcr hp hq v l outs w h (.inl hl) (fun _=>hO)).mono ?_
 rintro e w' ⟨hb,⟨c,hc,rfl⟩|⟨hc,g,rfl,h4⟩⟩
 ·rw [hE] at hc
  split at hc
  ·rename_i h0
   injection hc with hc
   subst hc
   have:outs=[]:=List.length_eq_zero_iff.1 (by omega)
   subst this
   exact ⟨hb,_,rfl,Rd.nil w'⟩
  ·cases hc
 ·refine ⟨hb,_,rfl,?_⟩
  rw [←hol]
  exact ⟨by rw [qiS];omega,by omega,_,_,rfl,fun _=>⟨g,0,rfl,fun j u hu=>h4.range j u hu⟩⟩
theorem scales_any (a:Option Addr) (len cap:Nat) (z:List Int) (net:Int) (w:World) (hr:IsRow .i64 w a len cap z) :
  Calls Tryz.prog 4 #[.slice a len cap,.int .i64 net] w fun e w'=>e=.returned (.bool true)∧Below w.heap.size w w':=by
 have hln:=qyK hr
 have hl9:len≤9223372036854775807:=by unfold maxLen at hln;omega
 obtain ⟨bt,hbt⟩:∃ bt,bt=w.heap.size:=⟨_,rfl⟩
 have hN:=qyT a len cap z w hr hl9
 rw [←hbt] at hN
 have HBT:=hid hbt
 have HN:=hid hN
 clear hN hbt hr hl9 hln
 go_enter Tryz.func4,Tryz.ntmps4
 go_wp2_with fail
 refine HN.out.mono ?_
 rintro e w1 ⟨rfl,ht1,hb1⟩
 have HT1:=hid ht1
 have HB1:=hid hb1
 have hbt1:=ht1.lt
 clear ht1 hb1 HN
 go_wp2_with fail
 refine (qkR bt w1 HT1.out).mono ?_
 rintro e w2 ⟨v0,l,rfl,hM,hO,hD2⟩
 obtain ⟨n,hn⟩:∃ n,n=l.length:=⟨_,rfl⟩
 obtain ⟨_,_,A0,cap0,hv0,_⟩:=Rd.of_own hO
 subst hv0
 have hn8:n≤8:=by rw [hn];exact hM.1
 rw [←hn] at hO ⊢
 have HNL:=hid hn
 have HM:=hid hM
 have HO:=hid hO
 have HD:=hid hD2
 clear hM hO hD2 hn
 go_wp2_with fail
 refine (qsL net 1000000000 w2 (by decide)).mono ?_
 rintro e w3 ⟨rfl,rfl⟩
 have hnb:=qsM net 1000000000 (by decide)
 obtain ⟨nt,hnt⟩:∃ nt,nt=modI net 1000000000:=⟨_,rfl⟩
 rw [←hnt] at hnb ⊢
 obtain ⟨nn,hnn⟩:∃ nn,nn=nt - 1000:=⟨_,rfl⟩
 have wnn:IntKind.i64.wrap (nt - 1000)=nn:=by rw [IntWalk.i64_in _ (by omega)];exact hnn.symm
 have hnb2:-1000≤nn∧nn≤1000000000:=by omega
 clear hnt hnb hnn
 go_wp2_with fail
 refine (qcL bt 100 w2 HD.out.1 (by decide) (by decide)).mono ?_
 rintro e w4 ⟨kk,rfl,hk0,hk1,hd⟩
 replace HO:=hid (HO.out.kept hd.2 (.inr (fun e=>by have:=(HO.out.lt bt e).1;omega)))
 replace HD:=hid (HD.out.trans hd)
 have wk1:IntKind.i64.wrap (1+kk)=1+kk:=IntWalk.i64_in _ (by omega)
 obtain ⟨p,q,hpq,hgt,hp,hq,hq0,hpe⟩:=qtF (k:=1+kk) (by omega) (by omega)
 obtain ⟨cR,V_cR⟩:∃ c:List Value,Hid (c=rat false p false q):=⟨_,hid rfl⟩
 have HSR:=hid (qrC (cR:=cR) (x:=1+kk) (y:=100) (d:=100) rfl (by decide) (by rw [hpq,V_cR.out];exact (qoL p q).symm) (by omega) (by omega) (by decide))
 have HBW:=hid (show Below w.heap.size w w4 by rw [←HBT.out];exact HB1.out.trans (qgG HD.out.2 (Nat.le_refl _) (by omega)))
 have hbb:=qbU
 have hRQ:RqsAt w4 (.slice A0 n cap0) l:=by have h:=Rd.of_own HO.out;unfold RqsAt;rw [←HNL.out];exact h
 have hbs:B480≤BB^32:=by unfold B480;exact Nat.pow_le_pow_right (by unfold BB;decide) (by decide)
 have hae:=qnX (l:=l) hgt hp hq (net:=nn) (by omega) (qqF HM.out)
 have HAL:=hid (fun (W:World) (hb:Below w4.heap.size w4 W)=>jbG nn V_cR.out (by omega) (by omega) (.slice A0 n cap0) l W (hRQ.below hb) (by rw [←HNL.out];omega) hae)
 have HRL:=hid (fun (outs:List Int) (W:World) (hb:Below w4.heap.size w4 W) (hO:Outs (roomZ nn p q) l outs)=>qyL nn V_cR.out (by omega) (by omega) (.slice A0 n cap0) l outs W (hRQ.below hb) (by rw [←HNL.out];omega) hae hO)
 obtain ⟨rr,hrr⟩:=qoP (p:=p) (q:=q) (net:=nn) hp hq (by omega)
 have hple:p≤q:=by have:=qgR hgt;omega
 have hVpq:VQ ((p:Int),q):=qbS (by decide) hpq
 have HRM:=hid (qkO (cr:=cR) (net:=nn) (p:=p) (q:=q) (r:=rr) (by rw [V_cR.out];exact (qoL p q).symm) hVpq hple (by omega) (by omega) hrr)
 obtain ⟨T,hT⟩:∃ T:Nat,T=(roomZ nn p q).toNat:=⟨_,rfl⟩
 rw [←hT] at HRM
 have hTb:T≤1000000000000000:=by
  have:=qjF (net:=nn) (p:=p) (q:=q) (by omega) (by omega) hple (by omega)
  omega
 have HT:=hid hT
 have HRQ:=hid hRQ
 clear hd hpq hgt hp hq hq0 hpe hbb hRQ hbs HO HD HT1 HB1 hae hrr hple hVpq hT
 go_wp2_with fail
 refine (HSR.out w4).mono ?_
 rintro e w5 ⟨rfl,hb5⟩
 have HB5:=hid hb5
 have hb5s:=hb5.size
 clear hb5
 obtain ⟨B7,hB7⟩:∃ B,B=w5.heap.size:=⟨_,rfl⟩
 have SZR:=hid (show (Tryz.prog.info? 27).map (·.size)=some cR.toArray.size by rw [List.size_toArray];exact qR V_cR.out)
 go_upto_region 5 with (first|(refine qfA (Tryz.alR (qR V_cR.out)) rfl rfl ?_;intro Wz hbz hthz hlz;(try simp only [zq]))|(refine wpList_store_mid rfl _ _ _ rfl w5.heap.size 0 cR.toArray rfl rfl (by rw [List.size_toArray];exact hthz) SZR.out (qhE V_cR.out) ?_))
 obtain ⟨W5,hW5⟩:∃ W5,W5=Wz.setCells w5.heap.size 0 cR:=⟨_,rfl⟩
 have A7:=hid (show At W5 B7 0 cR by rw [hW5,hB7];exact At.ofThere hthz hlz)
 have hbz5:Below w5.heap.size w5 W5:=by rw [hW5];exact qaB (Nat.le_refl _) _ _ _ hbz
 rw [←hW5,←hB7]
 have HB5':=hid (HB5.out.trans (hbz5.mono HB5.out.size))
 clear hW5 hthz hlz hbz hbz5 HB5 SZR hB7 hb5s
 go_upto_region 6 with (first|(refine wpList_load_mid rfl _ _ rfl B7 0 rfl cR _ A7.out.range Tryz.underlying27 rfl (qR V_cR.out) ?_)|(go_at_call 10;refine (HAL.out W5 HB5'.out).mono ?_;rintro e w6 ⟨hb6,vx,outs,rfl,hou,hrx⟩;have HB6:=hid (HB5'.out.trans (hb6.mono HB5'.out.size));have A76:=hid (A7.out.below hb6);have HOU:=hid hou;have HRX:=hid hrx;clear hb6 hou hrx))
 go_upto_region 7 with (first|(refine wpList_load_mid rfl _ _ rfl B7 0 rfl cR _ A76.out.range Tryz.underlying27 rfl (qR V_cR.out) ?_)|(go_at_call 11;refine (HRL.out outs w6 HB6.out HOU.out).mono ?_;rintro e w7 ⟨hb7,vy,rfl,hry⟩;have HB7:=hid (HB6.out.trans (hb7.mono HB6.out.size));have A77:=hid (A76.out.below hb7);replace HRX:=hid (Rd.below HRX.out hb7);have HRY:=hid hry;clear hb7 hry))
 have HOL:=hid (show outs.length=n by rw [(qjJ HOU.out).1];exact HNL.out.symm)
 obtain ⟨AX,cx,hvx⟩:=Rd.form HRX.out
 obtain ⟨AY,cy,hvy⟩:=Rd.form HRY.out
 rw [HOL.out] at hvx hvy
 have HSM:=hid (qjE vx vy outs w7 HRX.out HRY.out)
 subst hvx hvy
 go_upto_region 9 with (go_at_call 12;refine HSM.out.mono ?_;rintro e w8 ⟨rfl,hb8⟩;have HB8:=hid (HB7.out.trans (hb8.mono HB7.out.size));have A78:=hid (A77.out.below hb8);replace HRX:=hid (Rd.below HRX.out hb8);clear hb8)
 replace HRQ:=hid (RqsAt.below HRQ.out HB8.out)
 replace HBW:=hid (HBW.out.trans (HB8.out.mono HBW.out.size))
 obtain ⟨c0,V_c0⟩:∃ c:List Value,Hid (c=nm (decide ((0:Int)<0)) (0:Int).natAbs false 1 0):=⟨_,hid rfl⟩
 have HI0:=hid (qxU (cN:=c0) (z:=0) V_c0.out (by decide) (by decide))
 have SZN:=hid (show (Tryz.prog.info? 44).map (·.size)=some c0.toArray.size by rw [List.size_toArray];exact qaY V_c0.out)
 clear HAL HRL HSR HRY HSM HB6 HB7 HB8 HB5' A7 A76 A77
 go_upto_region 10 with (first|(refine wpList_load_mid rfl _ _ rfl B7 0 rfl cR _ A78.out.range Tryz.underlying27 rfl (qR V_cR.out) ?_)|(go_at_call 18;refine (HRM.out w8).mono ?_;rintro e w9 ⟨rfl,hb9⟩;have HB9:=hid hb9;clear hb9)|(go_at_call 19;refine (HI0.out w9).mono ?_;rintro e wa ⟨rfl,hba⟩;have HBA:=hid (HB9.out.trans (hba.mono HB9.out.size));clear hba)|(refine qfA (Tryz.alN (qaY V_c0.out)) rfl rfl ?_;intro Wz hbz hthz hlz;(try simp only [zq]))|(refine wpList_store_mid rfl _ _ _ rfl wa.heap.size 0 c0.toArray rfl rfl (by rw [List.size_toArray];exact hthz) SZN.out (qsE V_c0.out) ?_))
 obtain ⟨BS,hBS⟩:∃ B,B=wa.heap.size:=⟨_,rfl⟩
 obtain ⟨Wb,hWb⟩:∃ Wb,Wb=Wz.setCells wa.heap.size 0 c0:=⟨_,rfl⟩
 have AS0:=hid (show At Wb BS 0 c0 by rw [hWb,hBS];exact At.ofThere hthz hlz)
 have hbzb:Below wa.heap.size wa Wb:=by rw [hWb];exact qaB (Nat.le_refl _) _ _ _ hbz
 rw [←hWb,←hBS]
 have HBB:=hid (HBA.out.trans (hbzb.mono HBA.out.size))
 have hBS8:w8.heap.size≤BS:=by rw [hBS];exact HBA.out.size
 have hwBS:w.heap.size≤BS:=Nat.le_trans HBW.out.size hBS8
 have hgq:0<n→∀ gx ox,A0=some ⟨gx,ox,none⟩→gx<w8.heap.size:=fun hn=>Rd.ltB HRQ.out (by rw [←HNL.out];exact hn) (by decide)
 have HGQ:=hid hgq
 replace HRQ:=hid (RqsAt.below HRQ.out HBB.out)
 have hgb:0<n→∀ gx ox,AX=some ⟨gx,ox,none⟩→gx<w8.heap.size:=fun hn=>Rd.ltB HRX.out (by rw [HOL.out];exact hn) (by decide)
 replace HRX:=hid (Rd.below HRX.out HBB.out)
 have HGB:=hid hgb
 have HBW2:=hid (HBW.out.trans (HBB.out.mono HBW.out.size))
 obtain ⟨ps,hps,hpl,hat⟩:=(qjJ HOU.out).2
 have HPS:=hid hps
 have HAT:=hid hat
 have HPL:=hid (show ps.length=n by rw [hpl];exact HNL.out.symm)
 clear hgb hgq hps hpl hat hWb hthz hlz hbz hbzb HBA HB9 SZN HBW hBS
 go_wp2
 go_loopg [14,15,16] n (fun m av bv iv wr=>∃ (k:Nat) (wb:Bool) (S:Qn) (cS:List Value),iv=.int .i64 k∧k≤n∧n≤m+k∧av=.int .i64 ((sumL ((valsN l).take k):Nat):Int)∧bv=.bool wb∧((∀ j x,j<k→l[j]?=some x→outs[j]?=some x.units)→wb=true)∧cS=nm (decide (S.1<0)) S.1.natAbs false S.2 0∧SumOk k (sumL (ps.take k)) S∧(sumL (ps.take k)≤1000000000*k∧sumL ((valsN l).take k)≤1000000000*k)∧At wr BS 0 cS∧Below BS Wb wr)
 case atStart=>exact ⟨0,true,(0,1),c0,rfl,by omega,by omega,by simp [sumL],rfl,fun _=>rfl,V_c0.out,by simpa [sumL] using quR,⟨by simp [sumL],by simp [sumL]⟩,AS0.out,Below.refl _ _⟩
 case round =>
  obtain ⟨k,wb,S,cS,rfl,hk,hm,rfl,rfl,hwb,hcS,hso,hbd,hatS,hbl⟩:=hrel
  have V_cS:=hid hcS
  have HSO:=hid hso
  have ABS:=hid hatS
  have HBL:=hid hbl
  have HWB:=hid hwb
  have FR:=hid (show Fr BS Wb wr from ⟨hbl,Nat.le_trans (Nat.le_of_lt AS0.out.lt) hbl.size⟩)
  have FR0:=hid FR.out.le
  obtain ⟨al,hal⟩:∃ al,al=sumL ((valsN l).take k):=⟨_,rfl⟩
  rw [←hal] at hbd ⊢
  have HAL:=hid hal
  clear hcS hso hatS hbl hwb hal
  by_cases hlt:k<n
  ·have hkI:(k:Int)<(n:Int):=by omega
   obtain ⟨x,hx⟩:∃ x,l[k]?=some x:=⟨l[k]'(by rw [←HNL.out];exact hlt),by simp [←HNL.out,hlt]⟩
   have hmx:=HM.out.2 k x hx
   have mx1:=hmx.units
   have mx2:=hmx.value
   have hav:=HAT.out k x hx
   have hpk:ps[k]?=some (ps.getD k 0):=by rw [List.getElem?_eq_getElem (by rw [HPL.out];exact hlt)];simp [List.getD,HPL.out,hlt]
   have hvk:(valsN l)[k]?=some x.value.toNat:=by simp [valsN,hx]
   have hcl:=qnS HPS.out (i:=k) (by simp [valsN];rw [←HNL.out];exact hlt)
   rw [qoA hx] at hcl
   obtain ⟨p,hpp⟩:∃ p,p=ps.getD k 0:=⟨_,rfl⟩
   rw [←hpp] at hav hpk hcl
   obtain ⟨s1,s2,s3⟩:=sc_bd (x:=x) (p:=p) mx1.1 mx2.1 (by omega)
   obtain ⟨av,hava⟩:∃ av,av=scI x p:=⟨_,rfl⟩
   rw [←hava] at hav s1 s2 s3
   obtain ⟨u,hu⟩:∃ u:Nat,x.units=(u:Int):=⟨x.units.toNat,by omega⟩
   obtain ⟨v,hv⟩:∃ v:Nat,x.value=(v:Int):=⟨x.value.toNat,by omega⟩
   obtain ⟨Q,M,T2,hQ,hM2,hT2,vQ,vM,hs2⟩:=qpQ (u:=u) (v:=v) (a:=av) (p:=p) HSO.out (by omega) (by omega) (by omega) (by omega) (by omega) (by omega) s1 (by omega) (by rw [←hu,←hv];exact s3)
   have hts:=qjA hpk
   have htv:=qjA hvk
   rw [←hts] at hs2
   have hS2:=hid hs2
   have HTV:=hid (show sumL ((valsN l).take (k+1))=al+x.value.toNat by rw [htv,HAL.out])
   have HBD:=hid (show sumL (ps.take (k+1))≤1000000000*(k+1)∧al+x.value.toNat≤1000000000*(k+1) from ⟨by rw [hts];omega,by omega⟩)
   obtain ⟨cV,V_cV⟩:∃ c:List Value,Hid (c=nm (decide (x.value<0)) x.value.natAbs false 1 0):=⟨_,hid rfl⟩
   obtain ⟨cQ,V_cQ⟩:∃ c:List Value,Hid (c=nm (decide (Q.1<0)) Q.1.natAbs false Q.2 0):=⟨_,hid rfl⟩
   obtain ⟨cM,V_cM⟩:∃ c:List Value,Hid (c=nm (decide (M.1<0)) M.1.natAbs false M.2 0):=⟨_,hid rfl⟩
   obtain ⟨cT,V_cT⟩:∃ c:List Value,Hid (c=nm (decide (T2.1<0)) T2.1.natAbs false T2.2 0):=⟨_,hid rfl⟩
   have HIV:=hid (qxU (cN:=cV) (z:=x.value) V_cV.out (by omega) (by omega))
   have HOV:=hid (qzP (cN:=cQ) (x:=av) (y:=x.units) (d:=u) hu (by omega) (by rw [hQ];exact V_cQ.out) (by omega) (by omega) (by omega))
   have HML:=hid (jbH (ca:=cV) (cb:=cQ) (cN:=cM) (a:=some (x.value,1)) (b:=some Q) V_cV.out V_cQ.out (fun r hr=>by cases hr;exact qiG (by omega)) (fun r hr=>by cases hr;exact vQ) (by rw [V_cM.out,hv];exact congrArg resN hM2.symm))
   have HAD:=hid (eAdd (ca:=cS) (cb:=cM) (cN:=cT) (a:=some S) (b:=some M) V_cS.out V_cM.out (fun r hr=>by cases hr;exact HSO.out.vq) (fun r hr=>by cases hr;exact vM) (by rw [V_cT.out];exact congrArg resN hT2.symm))
   obtain ⟨g,off,capg,hvg,hcg⟩:=qfS HRQ.out (by rw [←HNL.out];omega)
   injection hvg with e1 e2 e3
   have hgB:g<BS:=Nat.lt_of_lt_of_le (HGQ.out (by omega) g off e1) hBS8
   subst e1
   clear e2 e3
   obtain ⟨_,_,AX',cx',hvx,hrx⟩:=HRX.out
   injection hvx with f1 f2 f3
   obtain ⟨gx,ox,hax,hcx⟩:=hrx (by rw [HOL.out];omega)
   rw [←f1] at hax
   have hgxB:gx<BS:=Nat.lt_of_lt_of_le (HGB.out (by omega) gx ox hax) hBS8
   subst hax
   clear f1 f2 f3 hrx
   have qx:=hcg k x hx
   have HCW:=hid (fun (W:World) (hb:Below BS Wb W)=>(show W.cell? ⟨g,off+k*3+1,none⟩=some (.int .i64 x.units)∧W.cell? ⟨g,off+k*3+2,none⟩=some (.int .i64 x.value)∧W.cell? ⟨gx,ox+k,none⟩=some (.int .i64 av) from
    ⟨by rw [hb.cell (p:=⟨g,off+k*3+1,none⟩) hgB];exact qx.2.1,by rw [hb.cell (p:=⟨g,off+k*3+2,none⟩) hgB];exact qx.2.2,by rw [hb.cell (p:=⟨gx,ox+k,none⟩) hgxB];exact hcx k _ (by unfold cI;rw [List.getElem?_map,hav];rfl)⟩))
   have HXK:=hid hx
   have HAV:=hid hav
   have nS1:BS≠g:=Nat.ne_of_gt hgB
   have nS2:BS≠gx:=Nat.ne_of_gt hgxB
   have hval:IntKind.i64.wrap ((al:Int)+x.value)=((al+x.value.toNat:Nat):Int):=by rw [IntWalk.i64_in _ (by omega)];omega
   have s1':¬av<0:=by omega
   have s2':¬x.units<av:=by omega
   obtain ⟨c1,c2,c3⟩:=HCW.out wr HBL.out
   clear hcg hcx qx hx hav hpk hvk hcl hpp s3 hu hv hQ hM2 hT2 vQ vM hs2 hts htv hmx hava hbd
   go_upto_region 13 with fail
   refine qwf [⟨false,0,13,19,BS,0,44,89,cT,0,cT,[]⟩] [(71,.agg cS.toArray),(72,.slice (some ⟨g,off,none⟩) n cap0),(73,.int .i64 (k:Int)),(74,.pointer (some ⟨g,off+k*3,none⟩)),(75,.pointer (some ⟨g,off+k*3+2,none⟩)),(76,.int .i64 x.value),(77,.agg cV.toArray),(78,.slice (some ⟨gx,ox,none⟩) n cx),(79,.int .i64 (k:Int)),(80,.pointer (some ⟨gx,ox+k,none⟩)),(81,.int .i64 av),(82,.slice (some ⟨g,off,none⟩) n cap0),(83,.int .i64 (k:Int)),(84,.pointer (some ⟨g,off+k*3,none⟩)),(85,.pointer (some ⟨g,off+k*3+1,none⟩)),(86,.int .i64 x.units),(87,.agg cQ.toArray),(88,.agg cM.toArray),(89,.agg cT.toArray)] _ (by simp only [zz4,zz5,zq];rfl) (by kernel_rfl) (by kernel_rfl) ?_ ?_ ?_ ?_ ?_ ?_ ?_
   ·intro W' hW'
    have rd0:=ABS.out.below hW'
    have y1:=qcU c1 hW'
    have y2:=qcU c2 hW'
    have y3:=qcU c3 hW'
    refine fxo (wlg (by rfl) rfl rfl rd0 Tryz.underlying44 rfl (qaY V_cS.out) (wqn (by simp only [zq]))) ?_
    iterate 4 (refine fxo ?_ ?_;(go_big_quiet_step (fail);(try simp only [zq]);exact wqn rfl))
    refine fxo (wcg (by rfl) rfl rfl (fun W h=>by simp [loadVar,h,go_sem]) y2 (wqn (by simp only [zq]))) ?_
    refine fxo ?_ ?_;(go_big_quiet_step ((go_at_call 19;exact qaA (HIV.out _)));(try simp only [zq]);exact wqn rfl)
    iterate 3 (refine fxo ?_ ?_;(go_big_quiet_step (fail);(try simp only [zq]);exact wqn rfl))
    refine fxo (wcg (by rfl) rfl rfl (fun W h=>by simp [loadVar,h,go_sem]) y3 (wqn (by simp only [zq]))) ?_
    iterate 4 (refine fxo ?_ ?_;(go_big_quiet_step (fail);(try simp only [zq]);exact wqn rfl))
    refine fxo (wcg (by rfl) rfl rfl (fun W h=>by simp [loadVar,h,go_sem]) y1 (wqn (by simp only [zq]))) ?_
    refine fxo ?_ ?_;(go_big_quiet_step ((go_at_call 22;exact qaA (HOV.out _)));(try simp only [zq]);exact wqn rfl)
    refine fxo ?_ ?_;(go_big_quiet_step ((go_at_call 21;exact qaA (HML.out _)));(try simp only [zq]);exact wqn rfl)
    refine fxo ?_ ?_;(go_big_quiet_step ((go_at_call 20;exact qaA (HAD.out _)));(try simp only [zq]);exact wqn rfl)
    refine fxs (by rfl) ?_
    exact fxn
   ·intro W' hK'
    have y1:=hK'.cellK c1 (oP _ _ (fun _=>(by show BS≠g;omega)) (oN))
    have y2:=hK'.cellK c2 (oP _ _ (fun _=>(by show BS≠g;omega)) (oN))
    have y3:=hK'.cellK c3 (oP _ _ (fun _=>(by show BS≠gx;omega)) (oN))
    refine fxs (by kernel_rfl) ?_
    iterate 4 (first|(refine fxo ?_ ?_;(go_big_quiet_step (fail);(try simp only [zq]);exact wqn rfl))|(refine fxs (by kernel_rfl) ?_))
    refine fxo (wcg (by rfl) rfl rfl (fun W h=>by simp [loadVar,h,go_sem]) y2 (wqn (by simp only [zq]))) ?_
    refine fxs (by kernel_rfl) ?_
    iterate 3 (first|(refine fxo ?_ ?_;(go_big_quiet_step (fail);(try simp only [zq]);exact wqn rfl))|(refine fxs (by kernel_rfl) ?_))
    refine fxo (wcg (by rfl) rfl rfl (fun W h=>by simp [loadVar,h,go_sem]) y3 (wqn (by simp only [zq]))) ?_
    iterate 4 (first|(refine fxo ?_ ?_;(go_big_quiet_step (fail);(try simp only [zq]);exact wqn rfl))|(refine fxs (by kernel_rfl) ?_))
    refine fxo (wcg (by rfl) rfl rfl (fun W h=>by simp [loadVar,h,go_sem]) y1 (wqn (by simp only [zq]))) ?_
    iterate 4 (refine fxs (by kernel_rfl) ?_)
    exact fxn
   ·exact oP _ _ (bnc) (oN)
   ·exact oP _ _ (fun _=>⟨ABS.out.lt,rfl,At.room ABS.out (qaY V_cS.out) (qaY V_cT.out)⟩) (oN)
   ·exact uno
   ·exact oP _ _ (stw rfl (qaY V_cT.out) (qsE V_cT.out) (fun _=>rfl)) (oN)
   intro β wx1 E
   replace FR:=hid (FR.out.flow E (oP _ _ (fun _=>(by show BS≤BS;omega)) (oN)))
   replace ABS:=hid (show At wx1 BS 0 cT from E.atOld mms rfl ABS.out.lt)
   simp only [nP,zr,zq]
   replace FR0:=hid FR.out.le
   clear E
   obtain ⟨W6,hW6⟩:∃ W6,W6=wx1:=⟨_,rfl⟩
   rw [←hW6] at ABS FR ⊢
   clear hW6 c1 c2 c3
   obtain ⟨c1,c2,c3⟩:=HCW.out W6 FR.out.below
   go_upto_region 15 with fail
   go_cut [15] from 65 to 126 (fun p15 wx=>p15=.bool (wb&&(av==x.units))∧Below W6.heap.size W6 wx)
   case first =>
    have FR9:=FR
    clear FR FR0
    have FR:=hid (Fr.start W6)
    have FR0:=hid FR.out.le
    have ex1:=c1
    cases wb with
    | false =>
     refine qcW [] [(97,.bool false),(98,.bool false),(99,undef),(100,undef),(101,undef),(102,undef),(103,undef),(104,undef),(105,undef),(106,undef),(107,undef),(108,undef),(109,.bool false),(15,.bool false)] [(15,.bool false)] _ _ (by simp only [zz4,zz5,zq];rfl) (by simp only [zz4,zz5,zq];rfl) (qzM _ _ rfl (qnN)) (by kernel_rfl) (by kernel_rfl) ?_ ?_ ?_ ?_ ?_ ?_ ?_
     ·intro W' hW'
      have y1:=qcU c1 hW'
      have y3:=qcU c3 hW'
      refine qoW (by kernel_rfl) ?_ ?_;(go_big_quiet_step (fail);(try simp only [zq]);exact wqn rfl)
      iterate 13 (refine qcG (by kernel_rfl) ?_ ?_;(go_big_quiet_step (fail);(try simp only [zq]);exact wqn rfl))
      exact qaU
     ·intro W' hK'
      have y1:=hK'.cellK c1 (oN)
      have y3:=hK'.cellK c3 (oN)
      first|(refine qoW (by kernel_rfl) ?_ ?_;(go_big_quiet_step (fail);(try simp only [zq]);exact wqn rfl))|(refine qeB (by kernel_rfl) ?_)
      iterate 13 (first|(refine qcG (by kernel_rfl) ?_ ?_;(go_big_quiet_step (fail);(try simp only [zq]);exact wqn rfl))|(refine qeB (by kernel_rfl) ?_))
      exact qaU
     ·exact oN
     ·exact oN
     ·intro q hq r hr hqn hrn e
      cases hq
     ·exact oN
     intro β wx1 E
     replace FR:=hid (FR.out.fnw E rfl)
     have hE:=E.below rfl
     simp only [nP,zr,zq]
     replace FR0:=hid FR.out.le
     clear E
     (try go_wp2_with fail)
     go_meet
     exact ⟨rfl,hE⟩
    | true =>
     by_cases ceq:av=x.units
     ·have cb:(av==x.units)=true:=beq_iff_eq.2 ceq
      clear ceq
      refine qcW [] [(97,.bool true),(98,.bool true),(99,.slice (some ⟨gx,ox,none⟩) n cx),(100,.int .i64 (k:Int)),(101,.pointer (some ⟨gx,ox+k,none⟩)),(102,.int .i64 av),(103,.slice (some ⟨g,off,none⟩) n cap0),(104,.int .i64 (k:Int)),(105,.pointer (some ⟨g,off+k*3,none⟩)),(106,.pointer (some ⟨g,off+k*3+1,none⟩)),(107,.int .i64 x.units),(108,.bool true),(109,.bool true),(15,.bool true)] [(15,.bool true)] _ _ (by simp only [zz4,zz5,zq];rfl) (by simp only [zz4,zz5,zq];rfl) (qzM _ _ rfl (qnN)) (by kernel_rfl) (by kernel_rfl) ?_ ?_ ?_ ?_ ?_ ?_ ?_
      ·intro W' hW'
       have y1:=qcU c1 hW'
       have y3:=qcU c3 hW'
       refine qoW (by kernel_rfl) ?_ ?_;(go_big_quiet_step (fail);(try simp only [zq]);exact wqn rfl)
       iterate 4 (refine qcG (by kernel_rfl) ?_ ?_;(go_big_quiet_step (fail);(try simp only [zq]);exact wqn rfl))
       refine qcG (by kernel_rfl) (wcg (by rfl) rfl rfl (fun W h=>by simp [loadVar,h,go_sem]) y3 (wqn (by simp only [zq]))) ?_
       iterate 4 (refine qcG (by kernel_rfl) ?_ ?_;(go_big_quiet_step (fail);(try simp only [zq]);exact wqn rfl))
       refine qcG (by kernel_rfl) (wcg (by rfl) rfl rfl (fun W h=>by simp [loadVar,h,go_sem]) y1 (wqn (by simp only [zq]))) ?_
       iterate 3 (refine qcG (by kernel_rfl) ?_ ?_;(go_big_quiet_step (fail);(try simp only [zq]);exact wqn rfl))
       exact qaU
      ·intro W' hK'
       have y1:=hK'.cellK c1 (oN)
       have y3:=hK'.cellK c3 (oN)
       first|(refine qoW (by kernel_rfl) ?_ ?_;(go_big_quiet_step (fail);(try simp only [zq]);exact wqn rfl))|(refine qeB (by kernel_rfl) ?_)
       iterate 4 (first|(refine qcG (by kernel_rfl) ?_ ?_;(go_big_quiet_step (fail);(try simp only [zq]);exact wqn rfl))|(refine qeB (by kernel_rfl) ?_))
       refine qcG (by kernel_rfl) (wcg (by rfl) rfl rfl (fun W h=>by simp [loadVar,h,go_sem]) y3 (wqn (by simp only [zq]))) ?_
       iterate 4 (first|(refine qcG (by kernel_rfl) ?_ ?_;(go_big_quiet_step (fail);(try simp only [zq]);exact wqn rfl))|(refine qeB (by kernel_rfl) ?_))
       refine qcG (by kernel_rfl) (wcg (by rfl) rfl rfl (fun W h=>by simp [loadVar,h,go_sem]) y1 (wqn (by simp only [zq]))) ?_
       iterate 3 (first|(refine qcG (by kernel_rfl) ?_ ?_;(go_big_quiet_step (fail);(try simp only [zq]);exact wqn rfl))|(refine qeB (by kernel_rfl) ?_))
       exact qaU
      ·exact oN
      ·exact oN
      ·intro q hq r hr hqn hrn e
       cases hq
      ·exact oN
      intro β wx1 E
      replace FR:=hid (FR.out.fnw E rfl)
      have hE:=E.below rfl
      simp only [nP,zr,zq]
      replace FR0:=hid FR.out.le
      clear E
      (try go_wp2_with fail)
      go_meet
      exact ⟨by rw [cb];rfl,hE⟩
     ·have cb:(av==x.units)=false:=beq_eq_false_iff_ne.2 ceq
      clear ceq
      refine qcW [] [(97,.bool true),(98,.bool true),(99,.slice (some ⟨gx,ox,none⟩) n cx),(100,.int .i64 (k:Int)),(101,.pointer (some ⟨gx,ox+k,none⟩)),(102,.int .i64 av),(103,.slice (some ⟨g,off,none⟩) n cap0),(104,.int .i64 (k:Int)),(105,.pointer (some ⟨g,off+k*3,none⟩)),(106,.pointer (some ⟨g,off+k*3+1,none⟩)),(107,.int .i64 x.units),(108,.bool false),(109,.bool false),(15,.bool false)] [(15,.bool true)] _ _ (by simp only [zz4,zz5,zq];rfl) (by simp only [zz4,zz5,zq];rfl) (qzM _ _ rfl (qnN)) (by kernel_rfl) (by kernel_rfl) ?_ ?_ ?_ ?_ ?_ ?_ ?_
      ·intro W' hW'
       have y1:=qcU c1 hW'
       have y3:=qcU c3 hW'
       refine qoW (by kernel_rfl) ?_ ?_;(go_big_quiet_step (fail);(try simp only [zq]);exact wqn rfl)
       iterate 4 (refine qcG (by kernel_rfl) ?_ ?_;(go_big_quiet_step (fail);(try simp only [zq]);exact wqn rfl))
       refine qcG (by kernel_rfl) (wcg (by rfl) rfl rfl (fun W h=>by simp [loadVar,h,go_sem]) y3 (wqn (by simp only [zq]))) ?_
       iterate 4 (refine qcG (by kernel_rfl) ?_ ?_;(go_big_quiet_step (fail);(try simp only [zq]);exact wqn rfl))
       refine qcG (by kernel_rfl) (wcg (by rfl) rfl rfl (fun W h=>by simp [loadVar,h,go_sem]) y1 (wqn (by simp only [zq]))) ?_
       iterate 3 (refine qcG (by kernel_rfl) ?_ ?_;(go_big_quiet_step (fail);(try simp only [zq]);exact wqn rfl))
       exact qaU
      ·intro W' hK'
       have y1:=hK'.cellK c1 (oN)
       have y3:=hK'.cellK c3 (oN)
       first|(refine qoW (by kernel_rfl) ?_ ?_;(go_big_quiet_step (fail);(try simp only [zq]);exact wqn rfl))|(refine qeB (by kernel_rfl) ?_)
       iterate 4 (first|(refine qcG (by kernel_rfl) ?_ ?_;(go_big_quiet_step (fail);(try simp only [zq]);exact wqn rfl))|(refine qeB (by kernel_rfl) ?_))
       refine qcG (by kernel_rfl) (wcg (by rfl) rfl rfl (fun W h=>by simp [loadVar,h,go_sem]) y3 (wqn (by simp only [zq]))) ?_
       iterate 4 (first|(refine qcG (by kernel_rfl) ?_ ?_;(go_big_quiet_step (fail);(try simp only [zq]);exact wqn rfl))|(refine qeB (by kernel_rfl) ?_))
       refine qcG (by kernel_rfl) (wcg (by rfl) rfl rfl (fun W h=>by simp [loadVar,h,go_sem]) y1 (wqn (by simp only [zq]))) ?_
       iterate 3 (first|(refine qcG (by kernel_rfl) ?_ ?_;(go_big_quiet_step (fail);(try simp only [zq]);exact wqn rfl))|(refine qeB (by kernel_rfl) ?_))
       exact qaU
      ·exact oN
      ·exact oN
      ·intro q hq r hr hqn hrn e
       cases hq
      ·exact oN
      intro β wx1 E
      replace FR:=hid (FR.out.fnw E rfl)
      have hE:=E.below rfl
      simp only [nP,zr,zq]
      replace FR0:=hid FR.out.le
      clear E
      (try go_wp2_with fail)
      go_meet
      exact ⟨by rw [cb];rfl,hE⟩
   case rest =>
   obtain ⟨rfl,hb15⟩:=hcut
   obtain ⟨W9,hW9⟩:∃ W9,W9=wc:=⟨_,rfl⟩
   rw [←hW9] at hb15 ⊢
   replace ABS:=hid (ABS.out.below hb15)
   have HB9:=hid (show Below BS Wb W9 from FR.out.below.trans (hb15.mono FR.out.le))
   clear hW9 hb15 c1 c2 c3 FR FR0
   obtain ⟨c1,c2,c3⟩:=HCW.out W9 HB9.out
   go_upto_region 16 with fail
   have FR:=hid (Fr.start W9)
   have FR0:=hid FR.out.le
   refine wfn [] [(110,.slice (some ⟨gx,ox,none⟩) n cx),(111,.int .i64 (k:Int)),(112,.pointer (some ⟨gx,ox+k,none⟩)),(113,.int .i64 av),(114,.bool false),(115,.bool false),(116,.slice (some ⟨gx,ox,none⟩) n cx),(117,.int .i64 (k:Int)),(118,.pointer (some ⟨gx,ox+k,none⟩)),(119,.int .i64 av),(120,.slice (some ⟨g,off,none⟩) n cap0),(121,.int .i64 (k:Int)),(122,.pointer (some ⟨g,off+k*3,none⟩)),(123,.pointer (some ⟨g,off+k*3+1,none⟩)),(124,.int .i64 x.units),(125,.bool false),(126,.bool false)] _ (by simp only [zz4,zz5,zq];rfl) (by kernel_rfl) (by kernel_rfl) rfl ?_ ?_ ?_ ?_
   ·intro W' hW'
    have y1:=qcU c1 hW'
    have y3:=qcU c3 hW'
    iterate 3 (refine fxo ?_ ?_;(go_big_quiet_step (fail);(try simp only [zq]);exact wqn rfl))
    refine fxo (wcg (by rfl) rfl rfl (fun W h=>by simp [loadVar,h,go_sem]) y3 (wqn (by simp only [zq]))) ?_
    iterate 5 (refine fxo ?_ ?_;(go_big_quiet_step (fail);(try simp only [zq]);exact wqn rfl))
    refine fxo (wcg (by rfl) rfl rfl (fun W h=>by simp [loadVar,h,go_sem]) y3 (wqn (by simp only [zq]))) ?_
    iterate 4 (refine fxo ?_ ?_;(go_big_quiet_step (fail);(try simp only [zq]);exact wqn rfl))
    refine fxo (wcg (by rfl) rfl rfl (fun W h=>by simp [loadVar,h,go_sem]) y1 (wqn (by simp only [zq]))) ?_
    iterate 2 (refine fxo ?_ ?_;(go_big_quiet_step (fail);(try simp only [zq]);exact wqn rfl))
    exact fxn
   ·exact oN
   ·exact oN
   intro β wx1 E
   replace FR:=hid (FR.out.fnw E rfl)
   have hE:=E.below rfl
   simp only [nP,zr,zq]
   replace FR0:=hid FR.out.le
   clear E
   replace ABS:=hid (ABS.out.below hE)
   have hz9:=HB9.out.size
   replace HB9:=hid (show Below BS Wb wx1 from HB9.out.trans (hE.mono (Nat.le_of_lt (Nat.le_trans AS0.out.lt hz9))))
   clear hE hz9 c1 c2 c3 hval s1' s2'
   go_wp2
   go_roundg (gk - 1)
   case measure=>omega
   case rel =>
    refine ⟨k+1,wb&&(av==x.units),T2,cT,by go_num,by omega,by omega,by rw [HTV.out];exact congrArg (Value.int .i64) (by omega),rfl,fun hall=>?_,V_cT.out,hS2.out,by rw [HTV.out];exact HBD.out,ABS.out,HB9.out⟩
    have h1:=HWB.out (fun j y hj hy=>hall j y (by omega) hy)
    have h2:=hall k x (by omega) HXK.out
    rw [HAV.out] at h2
    injection h2 with h2
    rw [h1,h2]
    simp
  ·obtain rfl:k=n:=by omega
   have hft:(valsN l).take k=valsN l:=List.take_of_length_le (by rw [valsN,List.length_map,←HNL.out];exact Nat.le_refl _)
   have hfp:ps.take k=ps:=List.take_of_length_le (by rw [HPL.out];exact Nat.le_refl _)
   have hso:=HSO.out
   rw [hfp] at hso
   have hsum:=qwP HPS.out
   rw [←HT.out] at hsum
   have hle:S.1≤(T:Int)*(S.2:Int):=by
    have h1:=hso.le
    have h2:((sumL ps:Nat):Int)*(S.2:Int)≤(T:Int)*(S.2:Int):=Int.mul_le_mul_of_nonneg_right (by omega) (by omega)
    omega
   obtain ⟨cI0,V_cI0⟩:∃ c:List Value,Hid (c=nm (decide ((T:Int)<0)) (T:Int).natAbs false 1 0):=⟨_,hid rfl⟩
   have HIT:=hid (qxU (cN:=cI0) (z:=(T:Int)) V_cI0.out (by omega) (by omega))
   have HLS:=hid (qzQ (ca:=cI0) (cb:=cS) (a:=((T:Int),1)) (b:=S) (t:=false) V_cI0.out V_cS.out (qiG (by omega)) hso.vq (by
    symm
    rw [decide_eq_false_iff_not]
    show ¬(T:Int)*(S.2:Int)<S.1*((1:Nat):Int)
    rw [Int.natCast_one,Int.mul_one];omega))
   have HBX:=hid (HBW2.out.trans (HBL.out.mono hwBS))
   have hal2:al=sumL (valsN l):=by rw [HAL.out,hft]
   have hsz:Wb.heap.size≤wr.heap.size:=HBL.out.size
   have hwz:=HBW2.out.size
   have HWA:=hid (show ¬(T:Int)<(al:Int)→wb=true from fun hn=>HWB.out (fun j x hj hx=>by
    have hpe:ps=valsN l:=by
     rcases HPS.out.2 with ⟨_,h⟩|⟨h,_⟩
     ·exact h
     ·rw [←HT.out,←hal2] at h;omega
    rw [HAT.out j x hx,hpe,qoA hx]
    have:=(HM.out.2 j x hx).value
    unfold scI
    rw [if_pos (by omega)]))
   clear hft hfp hso hsum hle hal2 hbd
   have FR9:=FR
   clear FR FR0
   have FR:=hid (Fr.start wr)
   have FR0:=hid FR.out.le
   by_cases hg:(T:Int)<(al:Int)
   ·go_upto_region 18 with fail
    refine wfn [] [(127,.int .i64 (T:Int)),(128,.agg cI0.toArray),(129,.agg cS.toArray),(130,.bool false),(131,.bool true),(132,.bool true),(133,.int .i64 (al:Int)),(134,.int .i64 (T:Int)),(135,.bool true),(136,.bool true),(137,undef),(138,.bool true),(139,.bool true),(140,.bool true),(141,.bool true),(142,.bool true),(4,.bool true)] _ (by simp only [zz4,zz5,zq];rfl) (by kernel_rfl) (by kernel_rfl) rfl ?_ ?_ ?_ ?_
    ·intro W' hW'
     have rd0:=ABS.out.below hW'
     refine fxo ?_ ?_;(go_big_quiet_step (fail);(try simp only [zq]);exact wqn rfl)
     refine fxo ?_ ?_;(go_big_quiet_step ((go_at_call 19;exact qaA (HIT.out _)));(try simp only [zq]);exact wqn rfl)
     refine fxo (wlg (by rfl) rfl rfl rd0 Tryz.underlying44 rfl (qaY V_cS.out) (wqn (by simp only [zq]))) ?_
     refine fxo ?_ ?_;(go_big_quiet_step ((go_at_call 23;exact qaA (HLS.out _)));(try simp only [zq]);exact wqn rfl)
     iterate 10 (refine fxo ?_ ?_;(go_big_quiet_step (fail);(try simp only [zq]);exact wqn rfl))
     refine fxo ?_ ?_;(go_big_quiet_step ((go_at_call 9;exact qaA (qmS _)));(try simp only [zq]);exact wqn rfl)
     iterate 2 (refine fxo ?_ ?_;(go_big_quiet_step (fail);(try simp only [zq]);exact wqn rfl))
     exact fxn
    ·exact oN
    ·exact oN
    intro β wx1 E
    replace FR:=hid (FR.out.fnw E rfl)
    replace ABS:=hid (ABS.out.fnw E rfl)
    have hE:=E.below rfl
    simp only [nP,zr,zq]
    replace FR0:=hid FR.out.le
    clear E
    replace HBX:=hid (HBX.out.trans (hE.mono (by omega)))
    clear hE
    go_wp2
    go_ret
    exact ⟨rfl,HBX.out⟩
   ·have hwt:=HWA.out hg
    subst hwt
    go_upto_region 18 with fail
    refine wfn [] [(127,.int .i64 (T:Int)),(128,.agg cI0.toArray),(129,.agg cS.toArray),(130,.bool false),(131,.bool true),(132,.bool true),(133,.int .i64 (al:Int)),(134,.int .i64 (T:Int)),(135,.bool false),(136,.bool false),(137,.bool true),(138,.bool true),(139,.bool true),(140,.bool true),(141,.bool true),(142,.bool true),(4,.bool true)] _ (by simp only [zz4,zz5,zq];rfl) (by kernel_rfl) (by kernel_rfl) rfl ?_ ?_ ?_ ?_
    ·intro W' hW'
     have rd0:=ABS.out.below hW'
     refine fxo ?_ ?_;(go_big_quiet_step (fail);(try simp only [zq]);exact wqn rfl)
     refine fxo ?_ ?_;(go_big_quiet_step ((go_at_call 19;exact qaA (HIT.out _)));(try simp only [zq]);exact wqn rfl)
     refine fxo (wlg (by rfl) rfl rfl rd0 Tryz.underlying44 rfl (qaY V_cS.out) (wqn (by simp only [zq]))) ?_
     refine fxo ?_ ?_;(go_big_quiet_step ((go_at_call 23;exact qaA (HLS.out _)));(try simp only [zq]);exact wqn rfl)
     iterate 10 (refine fxo ?_ ?_;(go_big_quiet_step (fail);(try simp only [zq]);exact wqn rfl))
     refine fxo ?_ ?_;(go_big_quiet_step ((go_at_call 9;exact qaA (qmS _)));(try simp only [zq]);exact wqn rfl)
     iterate 2 (refine fxo ?_ ?_;(go_big_quiet_step (fail);(try simp only [zq]);exact wqn rfl))
     exact fxn
    ·exact oN
    ·exact oN
    intro β wx1 E
    replace FR:=hid (FR.out.fnw E rfl)
    replace ABS:=hid (ABS.out.fnw E rfl)
    have hE:=E.below rfl
    simp only [nP,zr,zq]
    replace FR0:=hid FR.out.le
    clear E
    replace HBX:=hid (HBX.out.trans (hE.mono (by omega)))
    clear hE
    go_wp2
    go_ret
    exact ⟨rfl,HBX.out⟩
end Go.Proofs.YtooeabibhjbkoaaGreat
