import Derived.Test.YtooeabibhjbkoaaGreatGmD
import Derived.Test.YtooeabibhjbkoaaGreatGnB
import Derived.Test.YtooeabibhjbkoaaGreatGnS
set_option linter.unusedVariables false
set_option linter.unusedSimpArgs false
set_option maxRecDepth 100000
set_option maxHeartbeats 8000000
namespace Go.Proofs.YtooeabibhjbkoaaGreat
open Go.RowKit Big Reg Al Ap Ga
open Lib (hid)
namespace Ga
def zRq:Rq:=⟨⟨#[]⟩,0,0⟩
theorem made_z0:madeCells #[.string ⟨#[]⟩,.int .i64 0,.int .i64 0] (0*3)=(Ga.cellsQ (List.replicate 0 zRq)).toArray:=by kernel_rfl
theorem made_z1:madeCells #[.string ⟨#[]⟩,.int .i64 0,.int .i64 0] (1*3)=(Ga.cellsQ (List.replicate 1 zRq)).toArray:=by kernel_rfl
theorem made_z2:madeCells #[.string ⟨#[]⟩,.int .i64 0,.int .i64 0] (2*3)=(Ga.cellsQ (List.replicate 2 zRq)).toArray:=by kernel_rfl
theorem made_z3:madeCells #[.string ⟨#[]⟩,.int .i64 0,.int .i64 0] (3*3)=(Ga.cellsQ (List.replicate 3 zRq)).toArray:=by kernel_rfl
theorem made_z4:madeCells #[.string ⟨#[]⟩,.int .i64 0,.int .i64 0] (4*3)=(Ga.cellsQ (List.replicate 4 zRq)).toArray:=by kernel_rfl
theorem made_zRq:∀ n,n≤4→madeCells #[.string ⟨#[]⟩,.int .i64 0,.int .i64 0] (n*3)=(Ga.cellsQ (List.replicate n zRq)).toArray:=by
 intro n hn
 have:n=0∨n=1∨n=2∨n=3∨n=4:=by omega
 rcases this with rfl|rfl|rfl|rfl|rfl
 ·exact made_z0
 ·exact made_z1
 ·exact made_z2
 ·exact made_z3
 ·exact made_z4
theorem cellsQ_set:∀ (l:List Rq) (k:Nat) (x:Rq),k<l.length→(((Ga.cellsQ l).set (k*3) (.string x.key)).set (k*3+1) (.int .i64 x.units)).set (k*3+2) (.int .i64 x.value)=Ga.cellsQ (l.set k x)
 | [],k,x,h=>by simp at h
 | y::l,0,x,_=>by simp [Ga.cellsQ,Rq.cells]
 | y::l,k+1,x,h=>by
  have:=cellsQ_set l k x (by simpa using h)
  simp only [Ga.cellsQ,List.flatMap_cons,Rq.cells,List.cons_append,List.nil_append,List.set_cons_succ] at this ⊢
  rw [show (k+1)*3+2=(k*3+2)+1+1+1 by omega,show (k+1)*3+1=(k*3+1)+1+1+1 by omega,show (k+1)*3=(k*3)+1+1+1 by omega]
  simp only [List.set_cons_succ,this]
def fillQ (l:List Rq) (k:Nat):List Rq:=l.take k++List.replicate (l.length - k) zRq
theorem fillQ_len (l:List Rq) (k:Nat) (h:k≤l.length):(fillQ l k).length=l.length:=by simp [fillQ];omega
theorem fillQ_zero (l:List Rq):fillQ l 0=List.replicate l.length zRq:=by simp [fillQ]
theorem fillQ_full (l:List Rq):fillQ l l.length=l:=by simp [fillQ]
theorem fillQ_set (l:List Rq) (k:Nat) (x:Rq) (h:l[k]?=some x):(fillQ l k).set k x=fillQ l (k+1):=by
 obtain ⟨hk,hx⟩:=List.getElem?_eq_some_iff.1 h
 unfold fillQ
 obtain ⟨m,hm⟩:∃ m,l.length - k=m+1:=⟨l.length - k - 1,by omega⟩
 have hlt:(l.take k).length=k:=by rw [List.length_take];omega
 rw [hm,List.replicate_succ,List.set_append_right _ _ (by omega),hlt,Nat.sub_self,List.set_cons_zero,show l.length - (k+1)=m by omega,List.take_add_one,h]
 simp
theorem nextW_whole:∀ {ws xs:List Nat},leL ws xs→sumL xs=0→(∀ w∈ws,1≤w)→(nextW ws xs).length=ws.length
 | [],[],_,_,_=>rfl
 | w::ws,x::xs,h,h0,hw=>by
  simp only [sumL] at h0
  have h1:=hw w mms
  unfold nextW
  rw [if_pos (by omega),List.length_cons,List.length_cons,nextW_whole h.2 (by omega) (fun w hw'=>hw w (List.mem_cons_of_mem _ hw'))]
 | [],_::_,h,_,_=>h.elim
 | _::_,[],h,_,_=>h.elim
end Ga
theorem At.putQ {w:World} {b k:Nat} {l:List Rq} {x:Rq} (h:At w b 0 (Ga.cellsQ l)) (hk:k<l.length):At (((w.setCell ⟨b,k*3,none⟩ (.string x.key)).setCell ⟨b,k*3+1,none⟩ (.int .i64 x.units)).setCell ⟨b,k*3+2,none⟩ (.int .i64 x.value)) b 0 (Ga.cellsQ (l.set k x)):=by
 rw [←cellsQ_set l k x hk]
 have hl:=Ga.cellsQ_len l
 exact ((h.oneSet (by omega)).oneSet (by rw [List.length_set];omega)).oneSet (by rw [List.length_set,List.length_set];omega)
theorem empties_any (a:Option Addr) (len cap:Nat) (z:List Int) (price part:Int) (w:World) (hr:IsRow .i64 w a len cap z) :
  Calls Tryz.prog 8 #[.slice a len cap,.int .i64 price,.int .i64 part] w fun e w'=>e=.returned (.bool true)∧Below w.heap.size w w':=by
 have hln:=row_len hr
 have hl9:len≤9223372036854775807:=by unfold maxLen at hln;omega
 obtain ⟨bt,hbt⟩:∃ bt,bt=w.heap.size:=⟨_,rfl⟩
 have hN:=new_any a len cap z w hr hl9
 rw [←hbt] at hN
 have HBT:=hid hbt
 have HN:=hid hN
 clear hN hbt hr hl9 hln
 go_enter Tryz.func8,Tryz.ntmps8
 go_wp2_with fail
 refine HN.out.mono ?_
 rintro e w1 ⟨rfl,ht1,hb1⟩
 have HT1:=hid ht1
 have HB1:=hid hb1
 have hbt1:=ht1.lt
 clear ht1 hb1 HN
 have hp1:=modI_bd price 1000 (by decide)
 have hp2:=modI_bd part 91 (by decide)
 obtain ⟨pr,hpr⟩:∃ pr:Nat,100+modI price 1000=(pr:Int):=⟨(100+modI price 1000).toNat,by omega⟩
 obtain ⟨pt,hpt⟩:∃ pt:Int,pt=10+modI part 91:=⟨_,rfl⟩
 have wpr:IntKind.i64.wrap (100+modI price 1000)=(pr:Int):=by rw [IntWalk.i64_in _ (by omega)];exact hpr
 have wpt:IntKind.i64.wrap (10+modI part 91)=pt:=by rw [IntWalk.i64_in _ (by omega)];exact hpt.symm
 have hprb:100≤pr∧pr≤1099:=by omega
 have hptb:10≤pt∧pt≤100:=by omega
 have HPB:=hid hprb
 have HTB:=hid hptb
 clear hpr hpt hp1 hp2 hprb hptb
 go_wp2_with fail
 refine (mod_any price 1000 w1 (by decide)).mono ?_
 rintro e w2 ⟨rfl,rfl⟩
 go_wp2_with fail
 refine (mod_any part 91 w1 (by decide)).mono ?_
 rintro e w2 ⟨rfl,rfl⟩
 go_upto_region 3 with fail
 clear wpr wpt
 go_wp2_with fail
 have hDD:=deals_any bt 4 w1 HT1.out (by decide)
 rw [show ((4:Nat):Int)=4 from rfl] at hDD
 refine hDD.mono ?_
 rintro e w2 ⟨v0,L0,rfl,hM,hO,hD2⟩
 obtain ⟨n,hn⟩:∃ n,n=L0.length:=⟨_,rfl⟩
 obtain ⟨_,_,A0,cap0,hv0,_⟩:=Rd.of_own hO
 subst hv0
 rw [←hn] at hO ⊢
 have hn4:n≤4:=by rw [hn];exact hM.1
 have HNL:=hid hn
 have HM:=hid hM
 have HO:=hid hO
 have HD:=hid hD2
 have hz12:=hD2.size
 have hmk:=run_make_row' (P:=Tryz.prog) 30 3 (.int .i64 0) 8 Tryz.underlying30 Tryz.info3 rfl .i64 .i64 n (by omega) (by omega)
 clear hDD hM hO hD2 hn
 go_upto_region 5 with fail
 obtain ⟨V,hV⟩:∃ V,V=w2.heap.size:=⟨_,rfl⟩
 obtain ⟨w3,hw3⟩:∃ w3,w3=w2.alloc (.cells (madeCells #[.int .i64 0] n) 3):=⟨_,rfl⟩
 have HVT:=hid (show At w3 V 0 (cI (fz [] n)) by rw [hw3,hV,fz_nil];exact (row_made w2 n _ _ rfl).at (by simp))
 have hb23:Below w2.heap.size w2 w3:=by rw [hw3];exact (Below.refl _ _).alloc (Nat.le_refl _) _
 replace HD:=hid (HD.out.below hb23)
 have HO3:=hid (ownsRow_below HO.out hb23)
 have hV1:w1.heap.size≤V:=by omega
 have HVL:=hid (show ∀ q,Value.ownBlock (.slice A0 n cap0)=some q→q<V from fun q hq=>by rw [hV];exact (HO.out.lt q hq).2)
 rw [←hw3,←hV]
 clear hw3 hV hb23 hmk HO
 go_wp2_with fail
 refine (next_any bt 100 w3 HD.out.1 (by decide) (by decide)).mono ?_
 rintro e w4 ⟨u0,rfl,hu0,hu1,hd⟩
 obtain ⟨u0,rfl⟩:∃ k:Nat,u0=k:=⟨u0.toNat,by omega⟩
 replace HVT:=hid (HVT.out.drw hd (by omega))
 replace HO3:=hid (HO3.out.kept hd.2 (.inr (fun e=>by have:=(HO3.out.lt bt e).1;omega)))
 replace HD:=hid (HD.out.trans hd)
 clear hd
 go_wp2
 go_loopg [10,11] n (fun m uv iv wr=>∃ (k:Nat) (wn:List Nat),iv=.int .i64 k∧k≤n∧n≤m+k∧wn.length=k∧(∀ w∈wn,1≤w∧w≤300)∧sumL wn≤300*k∧uv=.int .i64 ((u0+sumL wn:Nat):Int)∧At wr V 0 (cI (fz (ofN wn) n))∧wr.ownsRow w1.heap.size 65 13 (.slice A0 n cap0) n (cellsT L0)∧Drew w1 bt wr)
 case atStart=>exact ⟨0,[],rfl,by omega,by omega,rfl,fun w h=>by simp at h,by simp [sumL],by simp [sumL],HVT.out,HO3.out,HD.out⟩
 case round =>
  obtain ⟨k,wn,rfl,hk,hmm,hwl,hwb,hsb,rfl,hatV,hown,hd⟩:=hrel
  clear HVT HO3 HD
  have HVT:=hid hatV
  have HO4:=hid hown
  have HD4:=hid hd
  have HWL:=hid hwl
  have HWB:=hid hwb
  have HOL:=hid (show (ofN wn).length=k by rw [ofN_len];exact hwl)
  obtain ⟨U,hU⟩:∃ U,U=u0+sumL wn:=⟨_,rfl⟩
  rw [←hU]
  have hUb:U≤99+300*k:=by omega
  have HUU:=hid hU
  have HSB:=hid hsb
  clear hatV hown hd hwl hwb hU hsb
  by_cases hlt:k<n
  ·have hkI:(k:Int)<(n:Int):=by omega
   go_wp2_with fail
   refine (next_any bt 300 wr HD4.out.1 (by decide) (by decide)).mono ?_
   rintro e w5 ⟨v,rfl,hv0,hv1,hd⟩
   replace HVT:=hid (HVT.out.drw hd (by omega))
   replace HO4:=hid (HO4.out.kept hd.2 (.inr (fun e=>by have:=(HO4.out.lt bt e).1;omega)))
   replace HD4:=hid (HD4.out.trans hd)
   have cv:w5.cell? ⟨V,k,none⟩=some (.int .i64 0):=HVT.out.cI0 (by have:=fz_at (ofN wn) n (by rw [HOL.out];exact hlt);rwa [HOL.out] at this)
   have fv:w5.frozen? ⟨V,k,none⟩=false:=HVT.out.frz (by rw [cI_len,fz_len _ _ (by rw [HOL.out];omega)];exact hlt)
   obtain ⟨x,hx⟩:∃ x:Nat,1+v=(x:Int):=⟨(1+v).toNat,by omega⟩
   have wx:IntKind.i64.wrap (1+v)=(x:Int):=by rw [IntWalk.i64_in _ (by omega)];exact hx
   have hxb:1≤x∧x≤300:=by omega
   clear hd hx hv0 hv1
   go_upto_region 10 with fail
   obtain ⟨W4,hW4⟩:∃ W4,W4=w5.setCell ⟨V,k,none⟩ (.int .i64 (x:Int)):=⟨_,rfl⟩
   rw [←hW4]
   replace HVT:=hid (show At W4 V 0 (cI (fz (ofN (wn++[x])) n)) by
    rw [hW4]
    have:=HVT.out.cIset (k:=k) (x:=(x:Int)) (by rw [fz_len _ _ (by rw [HOL.out];omega)];exact hlt)
    have h2:=fz_set (ofN wn) n (x:Int) (by rw [HOL.out];exact hlt)
    rw [HOL.out] at h2
    rw [h2] at this
    rw [show ofN (wn++[x])=ofN wn++[(x:Int)] by simp [ofN]]
    exact this)
   replace HO4:=hid (show W4.ownsRow w1.heap.size 65 13 (.slice A0 n cap0) n (cellsT L0) by
    rw [hW4];exact HO4.out.kept (row:=some V) (grownBy_setCell _ rfl _) (.inr (fun e=>by have:=HVL.out V e;omega)))
   replace HD4:=hid (show Drew w1 bt W4 by rw [hW4];exact HD4.out.setCell hbt1 _ _ hV1)
   have cv2:W4.cell? ⟨V,k,none⟩=some (.int .i64 (x:Int)):=HVT.out.cI0 (by rw [fz_get _ _ _ (by rw [ofN_len,List.length_append,HWL.out];show k<k+1;omega)];exact ofN_at (by rw [List.getElem?_append_right (by rw [HWL.out];exact Nat.le_refl _),HWL.out,Nat.sub_self];rfl))
   have wU:IntKind.i64.wrap ((U:Int)+(x:Int))=((U+x:Nat):Int):=by rw [IntWalk.i64_in _ (by omega)];omega
   clear hW4 cv fv wx
   go_wp2
   have hsm:sumL (wn++[x])=sumL wn+x:=by rw [sumL_app];simp [sumL]
   go_roundg (gk - 1)
   case measure=>omega
   case rel=>exact ⟨k+1,wn++[x],by go_num,by omega,by omega,by rw [List.length_append,HWL.out];rfl,fun w hw=>by
    rcases List.mem_append.1 hw with h|h
    ·exact HWB.out w h
    ·rw [List.mem_singleton.1 h];exact hxb,by rw [hsm];have:=HSB.out;omega,by rw [hsm,HUU.out];exact congrArg (Value.int .i64) (by omega),HVT.out,HO4.out,HD4.out⟩
  ·obtain rfl:k=n:=by omega
   replace HVT:=hid (show At wr V 0 (cI (ofN wn)) by have:=HVT.out;rw [show fz (ofN wn) k=ofN wn by rw [←HOL.out];exact fz_full (ofN wn)] at this;exact this)
   have hTK:TksAt wr (.slice A0 k cap0) L0:=by have:=Rd.of_own HO4.out;rw [HNL.out] at this ⊢;exact this
   have HTK:=hid hTK
   have HRV:=hid (show Rd wr 1 (.slice (some ⟨V,0,none⟩) k k) wn.length (cI (ofN wn)) by have:=HVT.out.row (n:=k) (cap:=k) HOL.out (by omega);rwa [ofN_len] at this)
   have HDY:=hid (made_day HM.out (by rw [HWL.out];exact HNL.out) HWB.out)
   have HBW:=hid (show Below w.heap.size w wr by rw [←HBT.out];exact HB1.out.trans (below_grownBy HD4.out.2 (Nat.le_refl _) (by omega)))
   clear hTK HO4 HD4 HVT HT1 HB1 HWB HVL
   go_wp2
   go_loopg [8,9,10,12,13,14,15,16,17,18,19,20,21] 200 (fun m ov wv uv dv _ _ _ _ _ _ _ _ _ wr=>∃ (L:List Tk) (wn:List Nat) (d:Nat) (A8 A9:Option Addr) (c8 c9:Nat),dv=.int .i64 d∧d+fD (u0+sumL wn)≤200∧200≤m+d∧DayOk L wn∧u0+sumL wn≤1299∧uv=.int .i64 ((u0+sumL wn:Nat):Int)∧ov=.slice A8 L.length c8∧TksAt wr (.slice A8 L.length c8) L∧wv=.slice A9 L.length c9∧Rd wr 1 (.slice A9 L.length c9) L.length (cI (ofN wn))∧Below w.heap.size w wr)
   case atStart=>exact ⟨L0,wn,0,A0,some ⟨V,0,none⟩,cap0,L0.length,rfl,by have:=fD_top (U:=u0+sumL wn) (by have:=HUU.out;omega);omega,by omega,HDY.out,by have:=HUU.out;omega,by rw [HUU.out],by rw [HNL.out],by have:=HTK.out;rw [HNL.out] at this;exact this,by rw [HNL.out],by have:=HRV.out;rw [HWL.out,HNL.out] at this;exact this,HBW.out⟩
   case round =>
    obtain ⟨L,ws,d,A8,A9,c8,c9,rfl,hfd,hm2,hday,hub,rfl,rfl,htk,rfl,hrw,hbl⟩:=hrel
    clear HTK HRV HDY HBW
    obtain ⟨G0,hG0⟩:∃ G,G=gk:=⟨_,rfl⟩
    have HG0:=hid hG0
    have HM2:=hid hm2
    obtain ⟨W0,hW0⟩:∃ W,W=wr:=⟨_,rfl⟩
    subst hW0
    obtain ⟨N,hN⟩:∃ N,N=L.length:=⟨_,rfl⟩
    have hN4:N≤4:=by rw [hN];exact hday.l4
    obtain ⟨U,hU⟩:∃ U,U=u0+sumL ws:=⟨_,rfl⟩
    rw [←hN] at htk hrw ⊢
    rw [←hU] at hfd hub ⊢
    have HUU:=hid hU
    have HNN:=hid hN
    have HFD:=hid hfd
    have HDA:=hid hday
    have HTK:=hid htk
    have HRW:=hid hrw
    have HBL:=hid hbl
    have hd200:d≤200:=by omega
    clear hG0 hm2 hfd hday htk hrw hbl hU hN
    by_cases hN0:N=0
    ·subst hN0
     by_cases hd2:d<200
     ·have hdI:(d:Int)<200:=by omega
      go_wp2_with fail
      refine (awake_any _).mono ?_
      rintro e w9 ⟨rfl,hb9⟩
      have HB9:=hid (HBL.out.trans (hb9.mono HBL.out.size))
      clear hb9
      go_wp2
      go_ret
      exact ⟨rfl,HB9.out⟩
     ·have hdI:¬(d:Int)<200:=by omega
      go_wp2_with fail
      refine (awake_any _).mono ?_
      rintro e w9 ⟨rfl,hb9⟩
      have HB9:=hid (HBL.out.trans (hb9.mono HBL.out.size))
      clear hb9
      go_wp2
      go_ret
      exact ⟨rfl,HB9.out⟩
    ·have hw1:1≤sumL ws:=by
      have h:=HDA.out
      have hl:=HNN.out
      cases ws with
      | nil=>have:=h.len;simp at this;rw [this] at hl;simp at hl;omega
      | cons w ws=>have:=(h.w w mms).1;simp only [sumL];omega
     have hU1:1≤U:=by have:=HUU.out;omega
     have hfp:=fD_pos hU1
     have hdI:(d:Int)<200:=by have:=HFD.out;omega
     have hNI:(0:Int)<(N:Int):=by omega
     have HU1:=hid hU1
     obtain ⟨_,_,A8',c8',hv8,hc8⟩:=HTK.out
     injection hv8 with q1 q2 q3
     obtain ⟨g,off,hA8,hcg⟩:=hc8 (by rw [←HNN.out];omega)
     rw [←q1] at hA8
     subst hA8
     clear q1 q2 q3 hc8
     obtain ⟨_,_,A9',c9',hv9,hc9⟩:=HRW.out
     injection hv9 with q1 q2 q3
     obtain ⟨gv,ov,hA9,hcv⟩:=hc9 (by omega)
     rw [←q1] at hA9
     subst hA9
     clear q1 q2 q3 hc9 hw1 hfp hU1
     have HCG:=hid (show ∀ (k:Nat) (x:Tk),L[k]?=some x→W0.cell? ⟨g,off+k*13,none⟩=some (.string x.o.key) from fun k x hx=>by have:=hcg _ _ (cellsT_get L k x hx 0 _ rfl);rwa [Nat.add_zero] at this)
     have HCV:=hid (show ∀ (k w:Nat),ws[k]?=some w→W0.cell? ⟨gv,ov+k,none⟩=some (.int .i64 (w:Int)) from fun k w hw=>hcv k _ (by unfold cI;rw [List.getElem?_map,ofN_at hw];rfl))
     clear hcg hcv
     have HPB1:=HPB.out.1
     have HPB2:=HPB.out.2
     have hmk:∀ W:World,(Instr.makeSlice 28 (.int .i64 (N:Int)) (.int .i64 (N:Int))).run Tryz.prog W=.ok (.slice (some ⟨W.heap.size,0,none⟩) N N) (W.alloc (.cells (Ga.cellsQ (List.replicate N zRq)).toArray 48)):=fun W=>by
      obtain ⟨i0,hi,hz0,hz1,hz2⟩:=info_parts Tryz.infoQ3
      have h:=run_make (P:=Tryz.prog) W 28 48 i0 _ Tryz.underlying28 hi hz0 .i64 .i64 (N:Int) (N:Int) (by omega) (Int.le_refl _) (by rw [hz2];omega) (by omega)
      rw [hz1,Int.toNat_natCast] at h
      rw [h]
      show Result.ok _ (W.alloc (.cells (madeCells #[.string ⟨#[]⟩,.int .i64 0,.int .i64 0] (N*3)) 48))=_
      rw [made_zRq N hN4]
     go_upto_region 15 with fail
     clear hmk
     obtain ⟨B,hB⟩:∃ B,B=W0.heap.size:=⟨_,rfl⟩
     obtain ⟨WA,hWA⟩:∃ W,W=W0.alloc (.cells (Ga.cellsQ (List.replicate N zRq)).toArray 48):=⟨_,rfl⟩
     obtain ⟨R,hR⟩:∃ R,R=reqL pr L ws:=⟨_,rfl⟩
     have hRl:R.length=N:=by rw [hR,reqL_len HDA.out.len];exact HNN.out.symm
     have HRR:=hid hR
     have HRL:=hid hRl
     have HQ:=hid (show At WA B 0 (Ga.cellsQ (fillQ R 0)) by rw [hWA,hB,fillQ_zero,hRl];exact At.fresh _ _ _ rfl)
     have HBA:=hid (show Below W0.heap.size W0 WA by rw [hWA];exact (Below.refl _ _).alloc (Nat.le_refl _) _)
     rw [←hWA,←hB]
     have HBB:=hid hB
     clear hWA hB hR hRl
     go_wp2
     go_loopg [14] N (fun m iv wr=>∃ k:Nat,iv=.int .i64 k∧k≤N∧N≤m+k∧At wr B 0 (Ga.cellsQ (fillQ R k))∧Below W0.heap.size W0 wr)
     case atStart=>exact ⟨0,rfl,by omega,by omega,HQ.out,HBA.out⟩
     case round =>
      clear HQ HBA
      obtain ⟨k,rfl,hk,hm3,hat,hb⟩:=hrel
      have HAT:=hid hat
      have HBK:=hid hb
      clear hat
      by_cases hlt:k<N
      ·have hkI:(k:Int)<(N:Int):=by omega
       obtain ⟨x,hx⟩:∃ x,L[k]?=some x:=⟨L[k]'(by rw [←HNN.out];exact hlt),by simp [←HNN.out,hlt]⟩
       have hwl:ws.length=N:=by rw [←HDA.out.len];exact HNN.out.symm
       obtain ⟨w',hw'⟩:∃ y,ws[k]?=some y:=⟨ws[k]'(by rw [hwl];exact hlt),by simp [hwl,hlt]⟩
       obtain ⟨b1,b2⟩:=HDA.out.w w' (List.mem_of_getElem? hw')
       have ck:=qcU (HCG.out k x hx) hb
       have cw:=qcU (HCV.out k w' hw') hb
       have lg:g<B:=by rw [HBB.out];exact World.block_lt_of_cell? _ _ (HCG.out k x hx)
       have lgv:gv<B:=by rw [HBB.out];exact World.block_lt_of_cell? _ _ (HCV.out k w' hw')
       have ng:g≠B:=Nat.ne_of_lt lg
       have ngv:gv≠B:=Nat.ne_of_lt lgv
       have hfk:(fillQ R k)[k]?=some zRq:=by
        unfold fillQ
        rw [List.getElem?_append_right (by rw [List.length_take];omega),List.length_take,List.getElem?_replicate,if_pos (by have:=HRL.out;omega)]
       have hfl:=Ga.cellsQ_len (fillQ R k)
       rw [fillQ_len R k (by rw [HRL.out];omega),HRL.out] at hfl
       have t0:wr.cell? ⟨B,k*3,none⟩=some (.string ⟨#[]⟩):=HAT.out.cel (Ga.cellsQ_get _ k _ hfk 0 _ rfl)
       have t1:wr.cell? ⟨B,k*3+1,none⟩=some (.int .i64 0):=HAT.out.cel (Ga.cellsQ_get _ k _ hfk 1 _ rfl)
       have t2:wr.cell? ⟨B,k*3+2,none⟩=some (.int .i64 0):=HAT.out.cel (Ga.cellsQ_get _ k _ hfk 2 _ rfl)
       have f0:wr.frozen? ⟨B,k*3,none⟩=false:=HAT.out.frz (by rw [hfl];omega)
       have f1:wr.frozen? ⟨B,k*3+1,none⟩=false:=HAT.out.frz (by rw [hfl];omega)
       have f2:wr.frozen? ⟨B,k*3+2,none⟩=false:=HAT.out.frz (by rw [hfl];omega)
       have hwp:w'*pr≤300*1099:=Nat.mul_le_mul b2 HPB2
       have wm:IntKind.i64.wrap ((w':Int)*(pr:Int))=(w':Int)*(pr:Int):=IntWalk.i64_in _ (by
        have:(w':Int)*(pr:Int)=((w'*pr:Nat):Int):=by simp
        omega)
       have hnew:=HAT.out.putQ (k:=k) (x:=rqOf pr x w') (by rw [fillQ_len R k (by rw [HRL.out];omega),HRL.out];exact hlt)
       rw [fillQ_set R k _ (by rw [HRR.out];exact reqL_at hx hw')] at hnew
       have HNEW:=hid hnew
       have hBw:W0.heap.size≤B:=by rw [HBB.out];exact Nat.le_refl _
       have HBN:=hid (show Below W0.heap.size W0 (((wr.setCell ⟨B,k*3,none⟩ (.string (rqOf pr x w').key)).setCell ⟨B,k*3+1,none⟩ (.int .i64 (rqOf pr x w').units)).setCell ⟨B,k*3+2,none⟩ (.int .i64 (rqOf pr x w').value)) from below_set1 (below_set1 (below_set1 HBK.out _ _ hBw) _ _ hBw) _ _ hBw)
       clear hx hw' hfk hfl hnew hwp hb hwl lg lgv
       go_upto_region 18 with fail
       go_region
       obtain ⟨W4,hW4⟩:∃ W4,W4=(((wr.setCell ⟨B,k*3,none⟩ (.string x.o.key)).setCell ⟨B,k*3+1,none⟩ (.int .i64 (w':Int))).setCell ⟨B,k*3+2,none⟩ (.int .i64 ((w':Int)*(pr:Int)))).drew:=⟨_,rfl⟩
       rw [←hW4]
       have HAT4:=hid (show At W4 B 0 (Ga.cellsQ (fillQ R (k+1))) by rw [hW4];exact HNEW.out.below (below_drew' (Below.refl _ _)))
       have HB4:=hid (show Below W0.heap.size W0 W4 by rw [hW4];exact below_drew' HBN.out)
       clear hW4
       clear HNEW HBN t0 t1 t2 f0 f1 f2 ck cw
       go_wp2
       go_roundg (gk - 1)
       case measure=>omega
       case rel=>exact ⟨k+1,by go_num,by omega,by omega,HAT4.out,HB4.out⟩
      ·obtain rfl:k=N:=by omega
       have hfu:fillQ R k=R:=by rw [←HRL.out];exact fillQ_full R
       rw [hfu] at HAT
       have HRQ:=hid (show RqsAt wr (.slice (some ⟨B,0,none⟩) k k) R from ⟨Ga.cellsQ_len R,by rw [HRL.out];omega,some ⟨B,0,none⟩,k,by rw [HRL.out],fun _=>⟨B,0,rfl,fun j u hu=>HAT.out.range j u hu⟩⟩)
       obtain ⟨p,q,hpq,hgt,hp,hq,hq0,hpe⟩:=gate_made (k:=pt) (by have:=HTB.out;omega) (by have:=HTB.out;omega)
       obtain ⟨cR,V_cR⟩:∃ c:List Value,Hid (c=rat false p false q):=⟨_,hid rfl⟩
       have hpb1:=HTB.out.1
       have hpb2:=HTB.out.2
       have HSR:=hid (sratio (cR:=cR) (x:=pt) (y:=100) (d:=100) rfl (by decide) (by rw [hpq,V_cR.out];exact (ratZ_nat p q).symm) (by omega) (by omega) (by decide))
       have hbg:=b480_big
       have hbs:B480≤BB^32:=by unfold B480;exact Nat.pow_le_pow_right (by unfold BB;decide) (by decide)
       obtain ⟨UP,hUP⟩:∃ UP,UP=U*pr:=⟨_,rfl⟩
       have hUb:UP≤1299*1099:=by rw [hUP];exact Nat.mul_le_mul hub HPB2
       have wUP:IntKind.i64.wrap ((U:Int)*(pr:Int))=(UP:Int):=by
        have e:(U:Int)*(pr:Int)=(UP:Int):=by rw [hUP];simp
        rw [e];exact IntWalk.i64_in _ (by omega)
       have hae:=allowE_made (l:=R) hgt hp hq (net:=(UP:Int)) (by omega) (by rw [HRR.out];exact day_check HDA.out (by omega) (by omega))
       have HAL:=hid (fun (W:World) (hb:Below wr.heap.size wr W)=>allowM (UP:Int) V_cR.out (by omega) (by omega) _ R W (RqsAt.below HRQ.out hb) (by rw [HRL.out];omega) hae)
       obtain ⟨rr,hrr⟩:=mul_made (p:=p) (q:=q) (net:=(UP:Int)) hp hq (by omega)
       have hple:p≤q:=by have:=gate_parts hgt;omega
       have hVpq:VQ ((p:Int),q):=mkQ_valid (by decide) hpq
       have HRM:=hid (rroom_any (cr:=cR) (net:=(UP:Int)) (p:=p) (q:=q) (r:=rr) (by rw [V_cR.out];exact (ratZ_nat p q).symm) hVpq hple (by omega) (by omega) hrr)
       obtain ⟨T,hT⟩:∃ T:Nat,T=(roomZ (UP:Int) p q).toNat:=⟨_,rfl⟩
       rw [←hT] at HRM
       have HT:=hid hT
       have HST:=hid (fun (xs:List Nat) (outs:List Int) (ho:Outs (roomZ (UP:Int) p q) R outs) (hx:outs=ofN xs)=>day_step (pr:=pr) (U:=U) (u0:=u0) (pt:=pt) (L:=L) (wn:=ws) (xs:=xs) (outs:=outs) HDA.out (by rw [←HNN.out];omega) (by omega) HUU.out (by omega) hq0 hpe hpb1 (by rw [←HRR.out,←hUP];exact ho) hx)
       have HUP:=hid hUP
       clear hpq hgt hp hq hq0 hpe hbg hbs hae hrr hple hVpq hT hUP hpb1 hpb2
       go_upto_region 20 with (first|(go_at_call 16;refine (HSR.out wr).mono ?_;rintro e w5 ⟨rfl,hb5⟩;have HB5:=hid hb5;clear hb5)|(go_at_call 10;refine (HAL.out w5 HB5.out).mono ?_;rintro e w6 ⟨hb6,vx,outs,rfl,hou,hrx⟩;have HB6:=hid (HB5.out.trans (hb6.mono HB5.out.size));have HOU:=hid hou;have HRX:=hid hrx;clear hb6 hou hrx))
       obtain ⟨xs,hxs⟩:∃ xs,outs=ofN xs:=by
        obtain ⟨ps,_,_,h,_⟩:=day_out (pr:=pr) HDA.out (by omega) (by have:=HOU.out;rw [HRR.out] at this;exact this)
        exact ⟨_,h⟩
       obtain ⟨hle,hstuck,hfast⟩:=HST.out xs outs HOU.out hxs
       rw [←HUP.out,←HT.out,←HNN.out] at hstuck
       have hxl:xs.length=k:=by rw [←leL_len hle,←HDA.out.len];exact HNN.out.symm
       have hsx:=nextW_sum hle
       subst hxs
       obtain ⟨_,_,AX,cx,hvx,hcx⟩:=HRX.out
       subst hvx
       obtain ⟨gx,ox,hax,hcy⟩:=hcx (by rw [ofN_len,hxl];omega)
       subst hax
       rw [ofN_len,hxl]
       have HCX:=hid (show ∀ (j x:Nat),xs[j]?=some x→w6.cell? ⟨gx,ox+j,none⟩=some (.int .i64 (x:Int)) from fun j x hx=>hcy j _ (by unfold cI;rw [List.getElem?_map,ofN_at hx];rfl))
       have HRX2:=hid (show Rd w6 1 (.slice (some ⟨gx,ox,none⟩) k cx) (ofN xs).length (cI (ofN xs)) by have:=HRX.out;rw [ofN_len,hxl] at this ⊢;exact this)
       have HB06:=hid (hb.trans (HB6.out.mono hb.size))
       have HXL:=hid hxl
       have HLE:=hid hle
       have HSK:=hid hstuck
       have HFA:=hid hfast
       have hsU:sumL xs≤U:=by have:=HUU.out;omega
       have HSX:=hid hsx
       clear hcx hcy hxl hle hstuck hfast hsx HRX HOU HST HB5 HB6 HAL hb HRQ
       go_wp2
       go_loopg [10,18] k (fun m uv iv wr=>∃ j:Nat,iv=.int .i64 j∧j≤k∧k≤m+j∧uv=.int .i64 ((U - sumL (xs.take j):Nat):Int)∧w6=wr)
       case atStart=>exact ⟨0,rfl,by omega,by omega,by simp [sumL],rfl⟩
       case round =>
        obtain ⟨j,rfl,hj,hm5,rfl,rfl⟩:=hrel
        by_cases hjk:j<k
        ·have hjI:(j:Int)<(k:Int):=by omega
         obtain ⟨xj,hxj⟩:∃ y,xs[j]?=some y:=⟨xs[j]'(by rw [HXL.out];exact hjk),by simp [HXL.out,hjk]⟩
         have cj:=HCX.out j xj hxj
         have hts:=take_sum hxj
         have htl:sumL (xs.take (j+1))≤sumL xs:=sumL_take_le _ _
         obtain ⟨u1,hu1⟩:∃ u,u=U - sumL (xs.take j):=⟨_,rfl⟩
         obtain ⟨u2,hu2⟩:∃ u,u=U - sumL (xs.take (j+1)):=⟨_,rfl⟩
         rw [←hu1]
         have wsu:IntKind.i64.wrap ((u1:Int) - (xj:Int))=(u2:Int):=by rw [IntWalk.i64_in _ (by omega)];omega
         have HU2:=hid hu2
         clear hxj hts htl hu1 hu2
         go_wp2
         go_roundg (gk - 1)
         case measure=>omega
         case rel=>exact ⟨j+1,by go_num,by omega,by omega,by rw [HU2.out],rfl⟩
        ·obtain rfl:j=k:=by omega
         obtain ⟨U2,hU2⟩:∃ u,u=U - sumL xs:=⟨_,rfl⟩
         rw [List.take_of_length_le (by rw [HXL.out];exact Nat.le_refl _),←hU2]
         have HU2:=hid hU2
         have hU2n:¬(U2:Int)<0:=by omega
         have HTK6:=hid (show TksAt w6 (.slice (some ⟨g,off,none⟩) j c8) L from TksAt.below HTK.out HB06.out)
         have HRW6:=hid (show Rd w6 1 (.slice (some ⟨gv,ov,none⟩) j c9) (ofN ws).length (cI (ofN ws)) by
          have:=Rd.below HRW.out HB06.out
          rw [ofN_len,←HDA.out.len,←HNN.out];exact this)
         have HCE:=hid (day_carry HDA.out HLE.out (day:=(d:Int)) (by omega))
         clear hU2
         go_wp2_with fail
         refine (carry_any L (ofN ws) (ofN xs) (d:Int) _ _ _ w6 HTK6.out HRW6.out HRX2.out).mono ?_
         rintro e w7 ⟨hb7,h7|⟨_,v7,rfl,ht7⟩⟩
         ·obtain ⟨c,hc,_⟩:=h7
          rw [HCE.out] at hc;cases hc
         obtain ⟨C,hC⟩:∃ C,C=carryL (d:Int) L (ofN ws) (ofN xs):=⟨_,rfl⟩
         obtain ⟨nx,hnx⟩:∃ nx,nx=nextW ws xs:=⟨_,rfl⟩
         have hdn:=day_next HDA.out HLE.out (d:Int)
         have hcu:=carry_units (d:Int) HDA.out.len HLE.out
         rw [←hC,←hnx] at hdn hcu
         rw [←hC] at ht7
         obtain ⟨M,hM⟩:∃ M,M=C.length:=⟨_,rfl⟩
         obtain ⟨ht0,ht1,A7,c7,hv7,hc7⟩:=ht7
         subst hv7
         have ht7:TksAt w7 (.slice A7 C.length c7) C:=⟨ht0,ht1,A7,c7,rfl,hc7⟩
         rw [←hM] at ht7 hc7 ⊢
         have hM4:M≤4:=by rw [hM];exact hdn.l4
         have hnl:nx.length=M:=by rw [hM];exact hdn.len.symm
         have HT7:=hid ht7
         have HC7:=hid hc7
         have HDN:=hid hdn
         have HCU:=hid hcu
         have HMM:=hid hM
         have HNX:=hid hnx
         have HNL2:=hid hnl
         have HBW7:=hid (show Below w.heap.size w w7 from by
          have h1:=HBL.out.trans (HB06.out.mono HBL.out.size)
          exact h1.trans (hb7.mono h1.size))
         have hmk:=run_make_row' (P:=Tryz.prog) 30 3 (.int .i64 0) 8 Tryz.underlying30 Tryz.info3 rfl .i64 .i64 M (by omega) (by omega)
         clear hb7 ht0 ht1 ht7 hc7 hdn hcu hM hnx hnl hC HTK6 HRW6 HCE
         go_upto_region 31 with fail
         clear hmk
         obtain ⟨V2,hV2⟩:∃ V,V=w7.heap.size:=⟨_,rfl⟩
         obtain ⟨w8,hw8⟩:∃ w8,w8=w7.alloc (.cells (madeCells #[.int .i64 0] M) 3):=⟨_,rfl⟩
         have HV2:=hid (show At w8 V2 0 (cI (fz (ofN (nx.take 0)) M)) by rw [hw8,hV2,List.take_zero,show ofN []=[] from rfl,fz_nil];exact (row_made w7 M _ _ rfl).at (by simp))
         have HB8:=hid (show Below w7.heap.size w7 w8 by rw [hw8];exact (Below.refl _ _).alloc (Nat.le_refl _) _)
         rw [←hw8,←hV2]
         have HV2E:=hid hV2
         clear hw8 hV2
         go_wp2
         go_loopg [21] M (fun m iv wr=>∃ i:Nat,iv=.int .i64 i∧i≤M∧M≤m+i∧At wr V2 0 (cI (fz (ofN (nx.take i)) M))∧Below w7.heap.size w7 wr)
         case atStart=>exact ⟨0,rfl,by omega,by omega,HV2.out,HB8.out⟩
         case round =>
          clear HV2 HB8
          obtain ⟨i,rfl,hi,hm6,hat,hbz⟩:=hrel
          have HAT:=hid hat
          have HBZ:=hid hbz
          clear hat
          by_cases hiM:i<M
          ·have hiI:(i:Int)<(M:Int):=by omega
           obtain ⟨g2,o2,hA7,hc2⟩:=HC7.out (by omega)
           subst hA7
           obtain ⟨y,hy⟩:∃ y,C[i]?=some y:=⟨C[i]'(by rw [←HMM.out];exact hiM),by simp [←HMM.out,hiM]⟩
           obtain ⟨v,hv⟩:∃ v,nx[i]?=some v:=⟨nx[i]'(by rw [HNL2.out];exact hiM),by simp [HNL2.out,hiM]⟩
           have hyv:y.o.units=(v:Int):=by
            have h1:=congrArg (fun l=>l[i]?) HCU.out
            simp only [List.getElem?_map,hy,Option.map_some] at h1
            rw [ofN_at hv] at h1
            exact Option.some.inj h1
           have cy:wr.cell? ⟨g2,o2+i*13+7,none⟩=some (.int .i64 (v:Int)):=by
            have:=qcU (hc2 _ _ (cellsT_get C i y hy 7 _ rfl)) hbz
            rw [hyv] at this
            rwa [←Nat.add_assoc] at this
           have htl:(ofN (nx.take i)).length=i:=by rw [ofN_len,List.length_take,HNL2.out];omega
           have cv:wr.cell? ⟨V2,i,none⟩=some (.int .i64 0):=HAT.out.cI0 (by have:=fz_at (ofN (nx.take i)) M (by rw [htl];exact hiM);rwa [htl] at this)
           have fv:wr.frozen? ⟨V2,i,none⟩=false:=HAT.out.frz (by rw [cI_len,fz_len _ _ (by rw [htl];omega)];exact hiM)
           have hnew:=HAT.out.cIset (k:=i) (x:=(v:Int)) (by rw [fz_len _ _ (by rw [htl];omega)];exact hiM)
           have h2:=fz_set (ofN (nx.take i)) M (v:Int) (by rw [htl];exact hiM)
           rw [htl] at h2
           rw [h2,show ofN (nx.take i)++[(v:Int)]=ofN (nx.take (i+1)) by rw [List.take_add_one,hv];simp [ofN]] at hnew
           have HNEW:=hid hnew
           have HBN:=hid (show Below w7.heap.size w7 (wr.setCell ⟨V2,i,none⟩ (.int .i64 (v:Int))) from below_set1 hbz _ _ (by rw [HV2E.out];exact Nat.le_refl _))
           clear hc2 hy hv hyv htl h2 hnew hbz
           go_wp2
           go_roundg (gk - 1)
           case measure=>omega
           case rel=>exact ⟨i+1,by go_num,by omega,by omega,HNEW.out,HBN.out⟩
          ·obtain rfl:i=M:=by omega
           have hfu:fz (ofN (nx.take i)) i=ofN nx:=by
            rw [List.take_of_length_le (by rw [HNL2.out];exact Nat.le_refl _)]
            have:=fz_full (ofN nx)
            rwa [ofN_len,HNL2.out] at this
           rw [hfu] at HAT
           have HRW9:=hid (show Rd wr 1 (.slice (some ⟨V2,0,none⟩) i i) C.length (cI (ofN nx)) by have:=HAT.out.row (n:=i) (cap:=i) (by rw [ofN_len];exact HNL2.out) (by omega);rw [ofN_len,HNL2.out,HMM.out] at this;rw [←HMM.out] at this ⊢;exact this)
           have HTK9:=hid (TksAt.below HT7.out HBZ.out)
           have HB9:=hid (HBW7.out.trans (HBZ.out.mono HBW7.out.size))
           clear hfu hbz
           by_cases hX:sumL xs=0
           ·obtain rfl:U2=U:=by have:=HU2.out;omega
            have hij:i=j:=by
             have h1:=nextW_whole HLE.out hX (fun w hw=>(HDA.out.w w hw).1)
             rw [←HNX.out,HNL2.out,←HDA.out.len,←HNN.out] at h1
             exact h1
            subst hij
            have hi0:(0:Int)<(i:Int):=by omega
            obtain ⟨NP,hNP⟩:∃ NP,NP=i*pr:=⟨_,rfl⟩
            have hNPb:NP≤4*1099:=by rw [hNP];exact Nat.mul_le_mul hN4 HPB2
            have wNP:IntKind.i64.wrap ((i:Int)*(pr:Int))=(NP:Int):=by
             have e:(i:Int)*(pr:Int)=(NP:Int):=by rw [hNP];simp
             rw [e];exact IntWalk.i64_in _ (by omega)
            have hst:(T:Int)<(NP:Int):=by have:=HSK.out hX;omega
            clear hNP hX
            go_upto_region 36 with fail
            go_wp2_with (first|(go_at_call 16;refine (HSR.out wr).mono ?_;rintro e wa ⟨rfl,hba⟩;have HBA:=hid (HB9.out.trans (hba.mono HB9.out.size));clear hba)|(go_at_call 18;refine (HRM.out wa).mono ?_;rintro e wb ⟨rfl,hbb⟩;have HBB2:=hid (HBA.out.trans (hbb.mono HBA.out.size));clear hbb)|(go_at_call 9;refine (awake_any wb).mono ?_;rintro e we ⟨rfl,hbe⟩;have HBE:=hid (HBB2.out.trans (hbe.mono HBB2.out.size));clear hbe))
            go_ret
            exact ⟨rfl,HBE.out⟩
           ·have hne:((U2:Int)==(U:Int))=false:=beq_eq_false_iff_ne.2 (by have:=HU2.out;omega)
            have hstp:=fD_step (U:=U) (X:=sumL xs) (by omega) hsU HFA.out
            have hsn:u0+sumL nx=U2:=by have h1:=HSX.out;have h2:=HUU.out;have h3:=HU2.out;rw [←HNX.out] at h1;omega
            rw [←HU2.out] at hstp
            have HSTP:=hid hstp
            have HSN:=hid hsn
            clear hstp hsn hX
            go_wp2
            go_roundg (G0 - 1)
            case measure=>have:=HG0.out;have:=HM2.out;omega
            case rel=>exact ⟨C,nx,d+1,A7,some ⟨V2,0,none⟩,c7,C.length,by go_num,by rw [HSN.out];have:=HSTP.out;have:=HFD.out;omega,by have:=HG0.out;have:=HM2.out;omega,HDN.out,by rw [HSN.out];have:=HU2.out;omega,by rw [HSN.out],by rw [HMM.out],by have:=HTK9.out;rw [HMM.out] at this;exact this,by rw [HMM.out],by have:=HRW9.out;rw [HMM.out] at this;exact this,HB9.out⟩
end Go.Proofs.YtooeabibhjbkoaaGreat
