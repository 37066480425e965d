import Derived.Test.YtmcekgapelanhaaGreatRcA
import Derived.Test.YtmcekgapelanhaaGreatSpA
import Derived.Test.YtmcekgapelanhaaGreatAlH
import Derived.Deep.AppendLies
import Derived.Deep.RegionLaw
set_option linter.unusedVariables false
set_option linter.unusedSimpArgs false
set_option maxRecDepth 100000
set_option maxHeartbeats 8000000
namespace Go.Proofs.YtmcekgapelanhaaGreat
open Go.RowKit Big Al Tok Ap
open Lib (hid)
theorem far_no {n:Int} (h:inM n=true):inR n (-1000000000000000) 1000000000000000=!false:=h
theorem far_yes {n:Int} (h:inM n=false):inR n (-1000000000000000) 1000000000000000=!true:=h
theorem Row.of_own {w:World} {b g n cap:Nat} {t:TypeId} {ws:List Nat} (h:w.ownsRow b t 1 (.slice (some ⟨g,0,none⟩) n cap) n (cellsN ws)) (k x:Nat) (hk:ws[k]?=some x):w.cell? ⟨g,k,none⟩=some (.int .i64 (x:Int)):=by
 have h1:=h.cells rfl k (.int .i64 (x:Int)) (by unfold cellsN;rw [List.getElem?_map,hk];rfl)
 have hadd:(⟨g,0,none⟩:Addr).add k=⟨g,0+k,none⟩:=by unfold Addr.add;split<;>simp_all
 rwa [hadd,Nat.zero_add] at h1
theorem cellsS_snoc (l:List Sh) (s:Sh):cellsS (l++[s])=cellsS l++s.cells:=by simp [cellsS]
theorem ralloc_any (total:Int) (l:List Bk) (v:Value) (w:World) (h:BksAt w v l) (hC:checkB l=true)
  (hEx:inM total=true→¬(sumO l=0∧comm total l≠0)→inM (comm total l)=true→∃ rs,Res (comm total l) (l.map Bk.op) rs) :
  Calls Tryz.prog 8 #[.int .i64 total,v] w (AllocP total l w):=by
 have HEX:=hid hEx
 clear hEx
 have hO:=check_oks hC
 have hS:=sumO_bd hO
 have hT:=ownS_le hO
 have HCK:=hid (fun W (h:BksAt W v l)=>show Calls Tryz.prog 13 #[v] W (fun e w'=>e=.returned (.int .i64 0)∧Below W.heap.size W w') by have:=rcheck_any v l W h;rw [hC] at this;exact this)
 obtain ⟨S,hSS⟩:∃ S,S=sumO l:=⟨_,rfl⟩
 obtain ⟨T,hTT⟩:∃ T,T=ownS l:=⟨_,rfl⟩
 have HSU:=hid (fun W (h:BksAt W v l)=>show Calls Tryz.prog 33 #[v] W (fun e w'=>e=.returned (.tuple #[.int .i64 (S:Int),.int .i64 T])∧Below W.heap.size W w') by rw [hSS,hTT];exact rsums_any v l W h hO)
 have HBK:=hid h
 obtain ⟨hl1,hl4⟩:=hO.len
 obtain ⟨n,hnn⟩:∃ n,n=l.length:=⟨_,rfl⟩
 have HN:=hid hnn
 rw [←hnn] at hl1 hl4
 have HOK:=hid hO.all
 obtain ⟨A,cap,hv⟩:=Rd.form h
 rw [←hnn] at hv
 obtain ⟨B0,hB0⟩:∃ B,B=w.heap.size:=⟨_,rfl⟩
 have HB0:=hid hB0
 have HFB:=hid (show ∀ W,Fr B0 w W→BksAt W v l from fun W hF=>HBK.out.below (by have:=hF.below;rwa [HB0.out] at this))
 have FR:=hid (show Fr B0 w w by rw [hB0];exact Fr.start w)
 have HST:=hid (And.intro hSS hTT)
 rw [←hSS] at hS
 rw [←hTT] at hT
 obtain ⟨c,hc⟩:∃ c,c=comm total l:=⟨_,rfl⟩
 have HC:=hid hc
 have hc':total - (S:Int) - T=c:=by rw [hc,hSS,hTT];rfl
 clear hC h hO hnn hSS hTT hB0 hc
 subst hv
 cases hin:inM total with
 | false =>
  have HA:=hid (AllocR.tot (l:=l) hin)
  have HW:=hid (rfar_any total true (far_yes hin))
  clear hin hc'
  go_enter Tryz.func8,Tryz.ntmps8
  go_wp2_with (first|(go_at_call 13;refine (HCK.out _ (HFB.out _ FR.out)).mono ?_;rintro e wa ⟨rfl,hb⟩;replace FR:=hid (FR.out.step hb);clear hb)|(go_at_call 32;refine (HW.out _).mono ?_;rintro e w' ⟨rfl,rfl⟩))
  go_ret2
  exact ⟨.slice none 0 0,_,HA.out,(by rfl),rd_nil _ _,by have:=FR.out.below;rwa [HB0.out] at this⟩
 | true =>
  have hb:=inR_yes hin
  have HIN:=hid hin
  have HW:=hid (rfar_any total false (far_no hin))
  have w1:IntKind.i64.wrap (total - (S:Int))=total - (S:Int):=IntWalk.i64_in _ (by omega)
  have w2:IntKind.i64.wrap (total - (S:Int) - T)=c:=by rw [IntWalk.i64_in _ (by omega)];exact hc'
  clear hin
  go_enter Tryz.func8,Tryz.ntmps8
  go_upto_region 8 with (first|(go_at_call 13;refine (HCK.out _ (HFB.out _ FR.out)).mono ?_;rintro e wa ⟨rfl,hb⟩;replace FR:=hid (FR.out.step hb);clear hb)|(go_at_call 32;refine (HW.out _).mono ?_;rintro e w' ⟨rfl,rfl⟩)|(go_at_call 33;refine (HSU.out _ (HFB.out _ FR.out)).mono ?_;rintro e wb ⟨rfl,hb⟩;replace FR:=hid (FR.out.step hb);clear hb))
  clear w1 w2
  by_cases hcap:S=0∧c≠0
  ·have HA:=hid (AllocR.cap (total:=total) (l:=l) HIN.out (by rw [←HST.out.1];exact hcap.1) (by rw [←HC.out];exact hcap.2))
   obtain ⟨h0,hc0⟩:=hcap
   have hcn:(c != 0)=true:=by simpa using hc0
   subst h0
   clear hc0
   go_wp2
   go_ret2
   exact ⟨.slice none 0 0,_,HA.out,(by rfl),rd_nil _ _,by have:=FR.out.below;rwa [HB0.out] at this⟩
  ·have HNC:=hid (show ¬(sumO l=0∧comm total l≠0) by rw [←HST.out.1,←HC.out];exact hcap)
   cases hcr:inM c with
   | false =>
    have hS0:((S:Int)==0)=false:=by
     rw [beq_eq_false_iff_ne]
     intro h0
     by_cases hc0:c=0
     ·rw [hc0] at hcr;exact absurd hcr (by decide)
     ·exact hcap ⟨by omega,hc0⟩
    have HA:=hid (AllocR.far (total:=total) (l:=l) HIN.out HNC.out (by rw [←HC.out];exact hcr))
    have HWC:=hid (rfar_any c true (far_yes hcr))
    clear hcap hcr
    go_wp2_with (go_at_call 32;refine (HWC.out _).mono ?_;rintro e w' ⟨rfl,rfl⟩)
    go_ret2
    exact ⟨.slice none 0 0,_,HA.out,(by rfl),rd_nil _ _,by have:=FR.out.below;rwa [HB0.out] at this⟩
   | true =>
    have hcb:=inR_yes hcr
    have HCR:=hid hcr
    have HWC:=hid (rfar_any c false (far_no hcr))
    clear hcr
    go_cut [38] from 33 to 38 (fun t wx=>t=.bool false∧Fr B0 w wx)
    case first =>
     by_cases hS0:S=0
     ·have hc0:c=0:=by
       by_cases h:c=0
       ·exact h
       ·exact absurd ⟨hS0,h⟩ hcap
      have hSb:((S:Int)==0)=true:=by rw [beq_iff_eq];omega
      have hcn:(c != 0)=false:=by rw [hc0];rfl
      clear hcap hc0 hS0
      go_wp2
      go_meet
      exact ⟨rfl,FR.out⟩
     ·have hSb:((S:Int)==0)=false:=by rw [beq_eq_false_iff_ne];omega
      clear hcap hS0
      go_wp2
      go_meet
      exact ⟨rfl,FR.out⟩
    case rest =>
     clear FR
     obtain ⟨rfl,hcut⟩:=hcut
     have FR:=hid hcut
     have hZc:=hcut.le
     clear hcut
     obtain ⟨Bw,hBw⟩:∃ b,b=wc.heap.size:=⟨_,rfl⟩
     have HBw:=hid hBw
     rw [←hBw] at hZc
     clear hBw
     go_wp2_with (go_at_call 32;refine (HWC.out _).mono ?_;rintro e w' ⟨rfl,rfl⟩)
     go_loopg [10,11] n (fun m vo iv wr=>∃ k:Nat,k≤n∧n - k≤m∧iv=.int .i64 k∧wr.ownsRow Bw 3 1 vo k (cellsN ((l.take k).map Bk.op))∧Fr B0 w wr∧Bw≤wr.heap.size)
     case atStart=>exact ⟨0,by omega,by omega,rfl,⟨by simp [cellsN],.inl ⟨rfl,rfl⟩⟩,FR.out,by rw [HBw.out];exact Nat.le_refl _⟩
     case round =>
      clear FR
      obtain ⟨k,hk,hm,rfl,hown,hF,hsz⟩:=hrel
      have HO:=hid hown
      have FR:=hid hF
      have hle:=hF.le
      clear hown hF
      by_cases hlt:k<n
      ·obtain ⟨x,hx⟩:∃ x,l[k]?=some x:=⟨l[k]'(by rw [←HN.out];exact hlt),by simp [←HN.out,hlt]⟩
       have hok:=HOK.out x (List.mem_of_getElem? hx)
       have hop:=hok.op_eq
       have hopl:=hok.op_le
       obtain ⟨q0,q1,hv0,hcB⟩:∃ g off,A=some ⟨g,off,none⟩∧∀ k x,l[k]?=some x→CellsAt wr g (off+k*5) x:=by
        obtain ⟨g,off,cap2,h1,h2⟩:=bks_some (HFB.out _ FR.out) (by have:=HN.out;omega)
        refine ⟨g,off,?_,h2⟩
        injection h1
       obtain ⟨c0,c1,c2,c3,c4⟩:=hcB k x hx
       have HX:=hid hx
       obtain ⟨z,hz⟩:∃ z,z=x.op:=⟨_,rfl⟩
       rw [←hz] at hop hopl
       have HZ:=hid hz
       have w5:IntKind.i64.wrap (x.net+x.flows)=(z:Int):=by rw [IntWalk.i64_in _ (by have:=hok.net;have:=hok.flows;omega)];exact hop
       have b3:=hok.net
       have b4:=hok.flows
       clear hcB hx hok hz hop
       subst hv0
       go_upto_region 16 with fail
       obtain ⟨i0,hi,hz0,hz1,hz2⟩:=info_parts Tryz.info3
       obtain ⟨ob,hob⟩:∃ ob,ob=Obj.cells #[.int .i64 (z:Int)] 3:=⟨_,rfl⟩
       have HOD:=hid (ownsRow_below HO.out (show Below wr.heap.size wr ((wr.alloc (.cells #[.int .i64 (z:Int)] 3)).drew) from below_drew ((Below.refl _ _).alloc (Nat.le_refl _) _)))
       have HFD:=hid (FR.out.step (show Below wr.heap.size wr ((wr.alloc (.cells #[.int .i64 (z:Int)] 3)).drew) from below_drew ((Below.refl _ _).alloc (Nat.le_refl _) _)))
       have HNW:=hid (show ∀ j u,[Value.int .i64 (z:Int)][j]?=some u→((wr.alloc (.cells #[.int .i64 (z:Int)] 3)).drew).cell? ((⟨wr.heap.size,0,none⟩:Addr).add j)=some u from fun j u hu=>by
        have:=cells_new wr [.int .i64 (z:Int)] 3 j u hu
        simpa using this)
       have hs1:Bw≤((wr.alloc (.cells #[.int .i64 (z:Int)] 3)).drew).heap.size:=by simp;omega
       have HBQ:=hid (fun q hq=>(HOD.out.lt q hq).1)
       clear hob
       go_region_law (refine step_append_lies _ rfl (.tmp 47) (.tmp 59) 41 rfl Bw 3 i0 _ 1 8 Tryz.underlying41 hi hz0 hz1 hz2 rfl (by decide) u10 k _ (by simp [Act.eval]) HOD.out ⟨wr.heap.size,0,none⟩ 1 1 [.int .i64 (z:Int)] (by simp [Act.eval]) rfl HNW.out (by simp [Value.oneCell']) (by decide) (small_maxLen (by omega)) (by omega) hs1 _ rfl ?_;intro g cp Wa hown' hgrow hat hlt2)
       all_goals
        have HO6:=hid (show Wa.ownsRow Bw 3 1 (.slice (some ⟨g,0,none⟩) (k+1) cp) (k+1) (cellsN ((l.take (k+1)).map Bk.op)) by
         have e:(l.take (k+1)).map Bk.op=(l.take k).map Bk.op++[z]:=by rw [List.take_add_one,HX.out,List.map_append,HZ.out];rfl
         rw [e];unfold cellsN;rw [List.map_append];exact hown')
        have HF6:=hid (show Fr B0 w Wa from ⟨HFD.out.below.grown hgrow HFD.out.le (fun q hq=>by have:=HBQ.out q hq;omega),Nat.le_trans HFD.out.le hgrow.size⟩)
        have hs6:Bw≤Wa.heap.size:=Nat.le_trans hs1 hgrow.size
        clear hown' hgrow hi hz0 hz1 hz2 HOD HFD HNW HBQ hs1 c0 c1 c2 c3 c4 w5 hat hlt2
        go_wp2
        go_roundg (gk - 1)
        case measure=>omega
        case rel=>exact ⟨k+1,by omega,by omega,by go_num,HO6.out,HF6.out,hs6⟩
      ·obtain rfl:k=n:=by omega
       obtain ⟨rs,hrs⟩:=HEX.out HIN.out HNC.out (by rw [←HC.out];exact HCR.out)
       rw [←HC.out] at hrs
       have e:l.take k=l:=List.take_of_length_le (by rw [←HN.out];exact Nat.le_refl _)
       rw [e] at HO
       obtain ⟨og,ocap,hog,hog1,hog2⟩:=HO.out.form (by omega)
       subst hog
       have HRS:=hid hrs
       have HLN:=hid (show rs.length=k by rw [res_len hrs];simp [HN.out])
       have HRB:=hid (res_bd hrs)
       have hmk:=run_make_row' (P:=Tryz.prog) 41 3 (.int .i64 0) 8 Tryz.underlying41 Tryz.info3 rfl .i64 .i64 k (by omega) (by omega)
       clear hrs e
       go_upto_region 18 with fail
       obtain ⟨b12,hb12⟩:∃ b,b=wr.heap.size:=⟨_,rfl⟩
       obtain ⟨W12,hW12⟩:∃ W,W=wr.alloc (.cells (madeCells #[.int .i64 0] k) 3):=⟨_,rfl⟩
       have hb9:Below wr.heap.size wr W12:=by rw [hW12];exact (Below.refl _ _).alloc (Nat.le_refl _) _
       have HRW:=hid (show Row W12 b12 0 (List.replicate k 0) by rw [hW12];exact row_made _ _ _ _ hb12)
       have hl12:b12<W12.heap.size:=by rw [hW12,hb12];simp
       replace HO:=hid (ownsRow_below HO.out hb9)
       replace FR:=hid (FR.out.step hb9)
       have hsz2:Bw≤W12.heap.size:=Nat.le_trans hsz hb9.size
       rw [←hW12,←hb12]
       clear hb9 hW12 hb12 hmk
       go_upto_if 65 with fail
       go_cut [12] from 64 to 71 (fun pv wx=>∃ gp,pv=.slice (some ⟨gp,0,none⟩) k k∧Row wx gp 0 rs∧gp<wx.heap.size∧wx.ownsRow Bw 3 1 (.slice (some ⟨og,0,none⟩) k ocap) k (cellsN (l.map Bk.op))∧Fr B0 w wx∧Bw≤wx.heap.size)
       case first =>
        by_cases hS0:S=0
        ·have HSZ:=hid (show sumL (l.map Bk.op)=0 by have:=HST.out.1;unfold sumO at this;omega)
         have hSn:¬(0:Int)<(S:Int):=by omega
         have HRZ:=hid (show rs=List.replicate k 0 by
          have h:=HRS.out
          unfold Res at h
          rw [if_pos HSZ.out] at h
          rw [h]
          apply List.ext_getElem
          ·simp [HN.out]
          ·intro i h1 h2;simp)
         clear hS0
         go_wp2
         go_meet
         exact ⟨_,rfl,by rw [HRZ.out];exact HRW.out,hl12,HO.out,FR.out,hsz2⟩
        ·have hSp:(0:Int)<(S:Int):=by omega
         have HSPOS:=hid (show sumL (l.map Bk.op)≠0 by have:=HST.out.1;unfold sumO at this;omega)
         obtain ⟨p,hp,hrp⟩:∃ p,Parts c.natAbs (l.map Bk.op) p∧rs=if c<0 then (p.map Int.ofNat).map (- ·) else p.map Int.ofNat:=by
          have h:=HRS.out
          unfold Res at h
          rwa [if_neg HSPOS.out] at h
         have HVA:=hid (show Valid W12 (.slice (some ⟨og,0,none⟩) k ocap) k (l.map Bk.op) from ⟨Reads.of_own HO.out,by simp [HN.out],hl1,by omega,fun x hx=>by obtain ⟨b,hb,rfl⟩:=List.mem_map.1 hx;exact (HOK.out b hb).op_le⟩)
         have HSP:=hid (split4_any c k (l.map Bk.op) p rs _ W12 hrp HVA.out (by have:=HSPOS.out;omega) hcb.1 hcb.2 hp)
         clear hS0 hp hrp
         go_wp2_with (go_at_call 34;refine HSP.out.mono ?_;rintro e ws ⟨gp,hp1,hp2,rfl,hp4,hp5⟩;have HP:=hid (And.intro hp2 (And.intro hp4 hp5));clear hp1 hp2 hp4 hp5)
         go_meet
         exact ⟨gp,rfl,HP.out.2.1,HP.out.1,ownsRow_below HO.out HP.out.2.2,FR.out.step HP.out.2.2,Nat.le_trans hsz2 HP.out.2.2.size⟩
       case rest =>
        clear HRW hl12 HO FR hsz2
        obtain ⟨gp,rfl,hRW,hgp,hown,hF,hszx⟩:=hcut
        have HRW:=hid hRW
        have HOG:=hid hown
        have HFZ:=hid hF
        have hFle:=hF.le
        have hoglt:=(hown.lt og rfl).2
        obtain ⟨L,hL⟩:∃ L,L=shL l rs:=⟨_,rfl⟩
        have HLL:=hid (show L.length=k by rw [hL,shL_len (by rw [HLN.out];exact HN.out)];exact HN.out.symm)
        have HL:=hid hL
        obtain ⟨wz,hwz⟩:∃ x,x=wc:=⟨_,rfl⟩
        rw [←hwz] at HRW HOG HFZ hgp hFle hoglt hszx ⊢
        have HBZ:=hid (HFB.out wz HFZ.out)
        obtain ⟨n,hnk⟩:∃ n,n=k:=⟨_,rfl⟩
        subst hnk
        clear hRW hown hF hL hwz hm hlt hk hle hsz
        go_wp2
        go_loopg [13,14] n (fun m vo iv wr=>∃ k:Nat,k≤n∧n - k≤m∧iv=.int .i64 k∧wr.ownsRow wz.heap.size 37 5 vo k (cellsS (L.take k))∧(∀ s∈L.take k,inM s.net=true)∧Fr wz.heap.size wz wr)
        case atStart=>exact ⟨0,by omega,by omega,rfl,⟨by simp [cellsS],.inl ⟨rfl,rfl⟩⟩,fun s hs=>by simp at hs,Fr.start wz⟩
        case round =>
         obtain ⟨k,hk,hm,rfl,hown,hnets,hF⟩:=hrel
         have HO:=hid hown
         have HNT:=hid hnets
         have FR:=hid hF
         have FR0:=hid hF.le
         clear hown hnets hF
         by_cases hlt:k<n
         ·obtain ⟨x,hx⟩:∃ x,l[k]?=some x:=⟨l[k]'(by rw [←HN.out];exact hlt),by simp [←HN.out,hlt]⟩
          obtain ⟨r,hr⟩:∃ r,rs[k]?=some r:=⟨rs[k]'(by rw [HLN.out];exact hlt),by simp [HLN.out,hlt]⟩
          have hok:=HOK.out x (List.mem_of_getElem? hx)
          have hopl:=hok.op_le
          have hxo:=hok.own
          have hrb:=HRB.out r (List.mem_of_getElem? hr)
          obtain ⟨o,ho⟩:∃ o,o=x.op:=⟨_,rfl⟩
          rw [←ho] at hopl
          obtain ⟨y,hy⟩:∃ y,y=(o:Int)+x.own:=⟨_,rfl⟩
          obtain ⟨z,hz⟩:∃ z,z=y+r:=⟨_,rfl⟩
          have wy:IntKind.i64.wrap ((o:Int)+x.own)=y:=by rw [IntWalk.i64_in _ (by omega)];exact hy.symm
          have hyb:-2000000000000000≤y∧y≤2000000000000000:=by omega
          have wz':IntKind.i64.wrap (y+r)=z:=by rw [IntWalk.i64_in _ (by omega)];exact hz.symm
          obtain ⟨sh,hsh⟩:∃ s:Sh,s=⟨x.name,o,x.own,r,z⟩:=⟨_,rfl⟩
          have HSL:=hid (show L[k]?=some sh by rw [HL.out,shL_get hx hr,hsh,hz,hy,ho];rfl)
          have HSH:=hid hsh
          obtain ⟨q0,q1,hv0,hcB⟩:∃ g off,A=some ⟨g,off,none⟩∧∀ k x,l[k]?=some x→CellsAt wz g (off+k*5) x:=by
           obtain ⟨g,off,cap2,h1,h2⟩:=bks_some HBZ.out (by have:=HN.out;omega)
           refine ⟨g,off,?_,h2⟩
           injection h1
          obtain ⟨c0,c1,c2,c3,c4⟩:=hcB k x hx
          subst hv0
          have hoc:=Row.of_own HOG.out k o (by rw [List.getElem?_map,hx,ho];rfl)
          have hrc:wz.cell? ⟨gp,k,none⟩=some (.int .i64 r):=by have:=HRW.out.1 k r hr;rwa [Nat.zero_add] at this
          have C0:=hid (cU c0 FR.out.below)
          have C3:=hid (cU c3 FR.out.below)
          have CO:=hid (cU hoc FR.out.below)
          have CR:=hid (cU hrc FR.out.below)
          clear hcB hx hr hok ho hy hz hsh c0 c1 c2 c3 c4 hoc hrc hrb
          obtain ⟨cs,V_cs⟩:∃ c:List Value,Hid (c=Sh.cells ⟨x.name,o,x.own,r,z⟩):=⟨_,hid rfl⟩
          go_upto_region 24 with fail
          refine wfn [⟨true,34,15,35,0,0,37,111,cs,0,cs,[]⟩] [(78,.slice (some ⟨q0,q1,none⟩) n cap),(79,.int .i64 (k:Int)),(80,.pointer (some ⟨q0,q1+k*5,none⟩)),(81,.pointer (some ⟨q0,q1+k*5,none⟩)),(82,.string x.name),(83,.slice (some ⟨og,0,none⟩) n ocap),(84,.int .i64 (k:Int)),(85,.pointer (some ⟨og,k,none⟩)),(86,.int .i64 (o:Int)),(87,.slice (some ⟨q0,q1,none⟩) n cap),(88,.int .i64 (k:Int)),(89,.pointer (some ⟨q0,q1+k*5,none⟩)),(90,.pointer (some ⟨q0,q1+k*5+3,none⟩)),(91,.int .i64 x.own),(92,.slice (some ⟨gp,0,none⟩) n n),(93,.int .i64 (k:Int)),(94,.pointer (some ⟨gp,k,none⟩)),(95,.int .i64 r),(96,.slice (some ⟨og,0,none⟩) n ocap),(97,.int .i64 (k:Int)),(98,.pointer (some ⟨og,k,none⟩)),(99,.int .i64 (o:Int)),(100,.slice (some ⟨q0,q1,none⟩) n cap),(101,.int .i64 (k:Int)),(102,.pointer (some ⟨q0,q1+k*5,none⟩)),(103,.pointer (some ⟨q0,q1+k*5+3,none⟩)),(104,.int .i64 x.own),(105,.int .i64 y),(106,.slice (some ⟨gp,0,none⟩) n n),(107,.int .i64 (k:Int)),(108,.pointer (some ⟨gp,k,none⟩)),(109,.int .i64 r),(110,.int .i64 z),(111,.agg cs.toArray)] _ (by simp only [zz4,zz5,zq];rfl) (by kernel_rfl) (by kernel_rfl) rfl ?_ ?_ ?_ ?_
          ·intro W' hW'
           have c0:=cU C0.out hW'
           have c3:=cU C3.out hW'
           have co:=cU CO.out hW'
           have cr:=cU CR.out hW'
           iterate 4 (refine fxo ?_ ?_;(go_big_quiet_step (fail);(try simp only [zq]);exact wqn rfl))
           refine fxo (wcg (by rfl) rfl rfl (fun W h=>by simp [loadVar,h,go_sem]) c0 (wqn (by simp only [zq]))) ?_
           iterate 3 (refine fxo ?_ ?_;(go_big_quiet_step (fail);(try simp only [zq]);exact wqn rfl))
           refine fxo (wcg (by rfl) rfl rfl (fun W h=>by simp [loadVar,h,go_sem]) co (wqn (by simp only [zq]))) ?_
           iterate 4 (refine fxo ?_ ?_;(go_big_quiet_step (fail);(try simp only [zq]);exact wqn rfl))
           refine fxo (wcg (by rfl) rfl rfl (fun W h=>by simp [loadVar,h,go_sem]) c3 (wqn (by simp only [zq]))) ?_
           iterate 3 (refine fxo ?_ ?_;(go_big_quiet_step (fail);(try simp only [zq]);exact wqn rfl))
           refine fxo (wcg (by rfl) rfl rfl (fun W h=>by simp [loadVar,h,go_sem]) cr (wqn (by simp only [zq]))) ?_
           iterate 3 (refine fxo ?_ ?_;(go_big_quiet_step (fail);(try simp only [zq]);exact wqn rfl))
           refine fxo (wcg (by rfl) rfl rfl (fun W h=>by simp [loadVar,h,go_sem]) co (wqn (by simp only [zq]))) ?_
           iterate 4 (refine fxo ?_ ?_;(go_big_quiet_step (fail);(try simp only [zq]);exact wqn rfl))
           refine fxo (wcg (by rfl) rfl rfl (fun W h=>by simp [loadVar,h,go_sem]) c3 (wqn (by simp only [zq]))) ?_
           iterate 4 (refine fxo ?_ ?_;(go_big_quiet_step (fail);(try simp only [zq]);exact wqn rfl))
           refine fxo (wcg (by rfl) rfl rfl (fun W h=>by simp [loadVar,h,go_sem]) cr (wqn (by simp only [zq]))) ?_
           refine fxo ?_ ?_;(go_big_quiet_step (fail);(try simp only [zq]);exact wqn rfl)
           refine fxo (wqB rfl _ _ rfl _ rfl _ (built_Sh V_cs.out) (wqn (by simp only [zq]))) ?_
           iterate 2 (refine fxs (by rfl) ?_)
           exact fxn
          ·exact oP _ _ (Tryz.alSh (sizeSh V_cs.out)) (oN)
          ·exact oP _ _ (stw rfl (sizeSh V_cs.out) (oneSh V_cs.out) (fun _=>rfl)) (oN)
          intro β wx1 E
          have HBE:=hid (E.below rfl)
          replace FR:=hid (FR.out.fnw E rfl)
          obtain ⟨b15,hb15⟩:∃ b,b=β 34:=⟨_,rfl⟩
          have eb15:=E.atNew mms rfl
          simp only at eb15
          rw [←hb15] at eb15
          have hZb15:wz.heap.size≤b15:=by have h1:=eb15.1;have h2:=FR0.out;omega
          have Ab15:=hid eb15.2
          simp only [nP,zr,zq]
          rw [←hb15]
          replace FR0:=hid FR.out.le
          clear E eb15 hb15
          have d0:=cellB (k:=0) (v:=.string x.name) Ab15.out (by rw [V_cs.out];rfl)
          have d1:=cellB (k:=1) (v:=.int .i64 (o:Int)) Ab15.out (by rw [V_cs.out];rfl)
          have d2:=cellB (k:=2) (v:=.int .i64 x.own) Ab15.out (by rw [V_cs.out];rfl)
          have d3:=cellB (k:=3) (v:=.int .i64 r) Ab15.out (by rw [V_cs.out];rfl)
          have d4:=cellB (k:=4) (v:=.int .i64 z) Ab15.out (by rw [V_cs.out];rfl)
          replace HO:=hid (ownsRow_below HO.out HBE.out)
          cases hnet:inM z with
          | false =>
           have HA:=hid (AllocR.net (total:=total) (l:=l) rs sh HIN.out HNC.out (by rw [←HC.out];exact HCR.out) (by rw [←HC.out];exact HRS.out) (by rw [←HL.out];exact List.mem_of_getElem? HSL.out) (by rw [HSH.out];exact hnet))
           have HWN:=hid (rfar_any z true (far_yes hnet))
           clear hnet
           go_wp2_with (go_at_call 32;refine (HWN.out _).mono ?_;rintro e w' ⟨rfl,rfl⟩)
           go_ret2
           exact ⟨.slice none 0 0,_,HA.out,(by rfl),rd_nil _ _,by have:=HFZ.out.below.trans (FR.out.below.mono hFle);rwa [HB0.out] at this⟩
          | true =>
           have HWN:=hid (rfar_any z false (far_no hnet))
           have HNN:=hid (show inM sh.net=true by rw [HSH.out];exact hnet)
           obtain ⟨i0,hi,hz0,hz1,hz2⟩:=info_parts Tryz.infoSh5
           clear hnet
           go_upto_region 27 with (go_at_call 32;refine (HWN.out _).mono ?_;rintro e w' ⟨rfl,rfl⟩)
           have hszw:=FR0.out
           go_wp2_with (first|(refine wpList_buildRow1 rfl (s:=5) (Sh.cells ⟨x.name,o,x.own,r,z⟩) rfl (by simp [Act.eval,Act.put,Sh.cells]) (by decide) rfl (by decide) Tryz.underlying29 (by kernel_rfl) (by kernel_rfl) ?_)|(at_builtin;refine wpList_append_own _ rfl _ _ 29 rfl wz.heap.size 37 i0 _ 5 48 Tryz.underlying29 hi hz0 hz1 hz2 rfl (by decide) _ _ _ rfl (World.ownsRow.alloc HO.out _) ⟨wx1.heap.size,0,none⟩ 1 1 (Sh.cells ⟨x.name,o,x.own,r,z⟩) rfl rfl ?_ ?_ ?_ ?_ ?_ ?_;exact cells_new _ _ _;(simp [Value.oneCell',Sh.cells]);exact small_maxLen (by omega);omega;(simp;omega);intro v' w6 hown' hgrow _))
           have HTK:=hid (show L.take (k+1)=L.take k++[sh] by rw [List.take_add_one,HSL.out];rfl)
           have HO6:=hid (show w6.ownsRow wz.heap.size 37 5 v' (k+1) (cellsS (L.take (k+1))) by rw [HTK.out,cellsS_snoc,HSH.out];exact hown')
           have HN6:=hid (show ∀ s∈L.take (k+1),inM s.net=true by
            rw [HTK.out]
            intro s hs
            rcases List.mem_append.1 hs with h|h
            ·exact HNT.out s h
            ·rw [List.mem_singleton.1 h];exact HNN.out)
           have HF6:=hid (show Fr wz.heap.size wz w6 from ⟨(FR.out.below.alloc (by omega) _).grown hgrow (by simp;omega) (fun q hq=>(HO.out.lt q hq).1),by have:=hgrow.size;simp at this;omega⟩)
           clear hown' hgrow
           go_roundg (gk - 1)
           case measure=>omega
           case rel=>exact ⟨k+1,by omega,by omega,by go_num,HO6.out,HN6.out,HF6.out⟩
         ·obtain rfl:k=n:=by omega
          have e:L.take k=L:=List.take_of_length_le (by rw [HLL.out];exact Nat.le_refl _)
          rw [e] at HNT HO
          have HA:=hid (AllocR.ok (total:=total) (l:=l) rs HIN.out HNC.out (by rw [←HC.out];exact HCR.out) (by rw [←HC.out];exact HRS.out) (by rw [←HL.out];exact HNT.out))
          go_wp2
          go_ret2
          refine ⟨_,_,HA.out,rfl,?_,by have:=HFZ.out.below.trans (FR.out.below.mono hFle);rwa [HB0.out] at this⟩
          rw [←HL.out,HLL.out]
          exact Rd.of_own HO.out
end Go.Proofs.YtmcekgapelanhaaGreat
