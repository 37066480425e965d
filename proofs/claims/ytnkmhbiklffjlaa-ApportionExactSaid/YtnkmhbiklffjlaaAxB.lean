import Derived.Test.YtnkmhbiklffjlaaApN
import Derived.Test.YtnkmhbiklffjlaaBiQ
import Derived.Test.YtnkmhbiklffjlaaBiH
set_option linter.unusedVariables false
set_option linter.unusedSimpArgs false
set_option maxRecDepth 100000
set_option maxHeartbeats 8000000
namespace Go.Proofs.Ytnkmhbiklffjlaa
open Go.RowKit Ap
open Lib (hid)
theorem Row.below {w w':World} {d off:Nat} {l:List Int} (h:Row w d off l) (hb:Below w.heap.size w w') (hd:d<w.heap.size):Row w' d off l :=
 ⟨fun k x hk=>qcU (h.1 k x hk) hb,fun o=>by rw [hb.frozen (by simpa using hd)];exact h.2 o⟩
def partJ (t:Nat) (ws o:List Nat) (j i:Nat):Nat:=quo t ws i+if i∈o.take j then 1 else 0
def restJ (t:Nat) (ws o:List Nat) (j i:Nat):Int:=if i∈o.take j then -1 else (Ap.rest t ws i:Int)
def partsJ (n t:Nat) (ws o:List Nat) (j:Nat):List Int:=(List.range n).map fun i=>(partJ t ws o j i:Int)
def restsJ (n t:Nat) (ws o:List Nat) (j:Nat):List Int:=(List.range n).map fun i=>restJ t ws o j i
theorem partsJ_get {n t i:Nat} {ws o:List Nat} {j:Nat} (h:i<n):(partsJ n t ws o j)[i]?=some (partJ t ws o j i:Int):=by unfold partsJ;simp [h]
theorem restsJ_get {n t i:Nat} {ws o:List Nat} {j:Nat} (h:i<n):(restsJ n t ws o j)[i]?=some (restJ t ws o j i):=by unfold restsJ;simp [h]
theorem partsJ_zero (n t:Nat) (ws o:List Nat):partsJ n t ws o 0=fillL n (quo t ws) n:=by
 unfold partsJ fillL
 apply List.map_congr_left
 intro i hi
 have:=List.mem_range.1 hi
 simp [partJ,this]
theorem restsJ_zero (n t:Nat) (ws o:List Nat):restsJ n t ws o 0=fillL n (Ap.rest t ws) n:=by
 unfold restsJ fillL
 apply List.map_congr_left
 intro i hi
 have:=List.mem_range.1 hi
 simp [restJ,this]
theorem mem_take_succ {o:List Nat} {j x i:Nat} (hx:o[j]?=some x):i∈o.take (j+1)↔i∈o.take j∨i=x:=by
 rw [List.take_add_one,hx];simp
theorem not_in_take {o:List Nat} (hn:o.Nodup) {j x:Nat} (hx:o[j]?=some x):x∉o.take j:=by
 intro h
 obtain ⟨k,hk,he⟩:=List.getElem_of_mem h
 have hkj:k<j:=by simp at hk;omega
 have hj:=(List.getElem?_eq_some_iff.1 hx).1
 rw [List.getElem_take] at he
 have:=(List.getElem?_eq_some_iff.1 hx).2
 exact List.pairwise_iff_getElem.1 hn k j (by omega) hj hkj (by rw [he,this])
theorem partJ_at {t:Nat} {ws o:List Nat} (hn:o.Nodup) {j x:Nat} (hx:o[j]?=some x):partJ t ws o j x=quo t ws x:=by
 unfold partJ;rw [if_neg (not_in_take hn hx)];rfl
theorem partsJ_set {n t:Nat} {ws o:List Nat} (hn:o.Nodup) {j x:Nat} (hx:o[j]?=some x):(partsJ n t ws o j).set x ((quo t ws x:Int)+1)=partsJ n t ws o (j+1):=by
 apply List.ext_getElem?
 intro i
 by_cases hi:i<n
 ·rw [partsJ_get hi]
  by_cases e:x=i
  ·subst e
   rw [List.getElem?_set_self (by unfold partsJ;simpa using hi)]
   unfold partJ;rw [if_pos ((mem_take_succ hx).2 (.inr rfl))];simp
  ·rw [List.getElem?_set_ne e,partsJ_get hi]
   unfold partJ
   congr 3
   simp only [mem_take_succ hx,eq_iff_iff]
   by_cases h:i∈o.take j<;>simp [h];omega
 ·rw [List.getElem?_eq_none (by unfold partsJ;simp;omega),List.getElem?_eq_none (by unfold partsJ;simp;omega)]
theorem restsJ_set {n t:Nat} {ws o:List Nat} {j x:Nat} (hx:o[j]?=some x):(restsJ n t ws o j).set x (-1)=restsJ n t ws o (j+1):=by
 apply List.ext_getElem?
 intro i
 by_cases hi:i<n
 ·rw [restsJ_get hi]
  by_cases e:x=i
  ·subst e
   rw [List.getElem?_set_self (by unfold restsJ;simpa using hi)]
   unfold restJ;rw [if_pos ((mem_take_succ hx).2 (.inr rfl))]
  ·rw [List.getElem?_set_ne e,restsJ_get hi]
   unfold restJ
   have:(i∈o.take (j+1))=(i∈o.take j):=by
    simp only [mem_take_succ hx,eq_iff_iff]
    exact ⟨fun h=>h.resolve_right (fun h=>e h.symm),.inl⟩
   simp only [this]
 ·rw [List.getElem?_eq_none (by unfold restsJ;simp;omega),List.getElem?_eq_none (by unfold restsJ;simp;omega)]
theorem best_is {n t:Nat} {ws o:List Nat} (hp:o.Perm (List.range n)) (ho:o.Pairwise (R (Ap.rest t ws))) {j x b:Nat} (hx:o[j]?=some x) (hb:b<n) (h1:∀ i,i<n→restJ t ws o j i≤restJ t ws o j b) (h2:∀ i,i<b→restJ t ws o j i<restJ t ws o j b):b=x:=by
 have hn:o.Nodup:=hp.nodup_iff.2 List.nodup_range
 have hxn:x<n:=List.mem_range.1 (hp.mem_iff.1 (List.mem_of_getElem? hx))
 have hxr:restJ t ws o j x=(Ap.rest t ws x:Int):=by unfold restJ;rw [if_neg (not_in_take hn hx)]
 have hbt:b∉o.take j:=fun hc=>by
  have:=h1 x hxn
  rw [hxr] at this
  unfold restJ at this
  rw [if_pos hc] at this
  omega
 have hbr:restJ t ws o j b=(Ap.rest t ws b:Int):=by unfold restJ;rw [if_neg hbt]
 have hbo:b∈o:=hp.mem_iff.2 (List.mem_range.2 hb)
 obtain ⟨k,hk,hke⟩:=List.getElem_of_mem hbo
 have hj:=(List.getElem?_eq_some_iff.1 hx).1
 have hjx:=(List.getElem?_eq_some_iff.1 hx).2
 have hkj:j≤k:=by
  rcases Nat.lt_or_ge k j with h|h
  ·exact absurd (by rw [←hke];exact List.mem_take_iff_getElem.2 ⟨k,by omega,rfl⟩) hbt
  ·exact h
 rcases Nat.lt_or_ge j k with h|h
 ·have hR:=List.pairwise_iff_getElem.1 ho j k hj hk h
  rw [hjx,hke] at hR
  have e1:=h1 x hxn
  rw [hxr,hbr] at e1
  rcases hR with hR|⟨hR1,hR2⟩
  ·omega
  ·have:=h2 x hR2
   rw [hxr,hbr] at this
   omega
 ·have:j=k:=by omega
  subst this
  rw [←hke,hjx]
theorem partsJ_full {n t:Nat} {ws o p:List Nat} (hl:p.length=n) (hv:∀ i,i<n→p.getD i 0=quo t ws i+if i∈o.take (miss t ws) then 1 else 0):partsJ n t ws o (miss t ws)=p.map Int.ofNat:=by
 apply List.ext_getElem?
 intro i
 by_cases hi:i<n
 ·rw [partsJ_get hi,List.getElem?_map,List.getElem?_eq_getElem (by omega)]
  have:=hv i hi
  unfold partJ
  rw [←this]
  simp [List.getD,List.getElem?_eq_getElem (show i<p.length by omega)]
 ·rw [List.getElem?_eq_none (by unfold partsJ;simp;omega),List.getElem?_eq_none (by simp;omega)]
def Laid2 (w wx:World) (b7 bR:Nat) (l7 lR:List Int):Prop:=Row wx b7 0 l7∧Row wx bR 0 lR∧b7≠bR∧w.heap.size≤b7∧w.heap.size≤bR∧b7<wx.heap.size∧bR<wx.heap.size∧Below w.heap.size w wx
section
variable {w wx:World} {b7 bR:Nat} {l7 lR:List Int}
theorem Laid2.set7 (h:Laid2 w wx b7 bR l7 lR) (k:Nat) (x:Int):Laid2 w (wx.setCell ⟨b7,k,none⟩ (.int .i64 x)) b7 bR (l7.set k x) lR:=by
 obtain ⟨h1,h2,h3,h4,h5,h6,h7,h8⟩:=h
 exact ⟨h1.set0 k x,h2.setOther _ _ (by simpa using h3),h3,h4,h5,by simpa using h6,by simpa using h7,below_set h8 _ _ (by simpa using h4)⟩
theorem Laid2.setR (h:Laid2 w wx b7 bR l7 lR) (k:Nat) (x:Int):Laid2 w (wx.setCell ⟨bR,k,none⟩ (.int .i64 x)) b7 bR l7 (lR.set k x):=by
 obtain ⟨h1,h2,h3,h4,h5,h6,h7,h8⟩:=h
 exact ⟨h1.setOther _ _ (by simpa using Ne.symm h3),h2.set0 k x,h3,h4,h5,by simpa using h6,by simpa using h7,below_set h8 _ _ (by simpa using h5)⟩
theorem Laid2.below {wy:World} (h:Laid2 w wx b7 bR l7 lR) (hb:Below wx.heap.size wx wy):Laid2 w wy b7 bR l7 lR:=by
 obtain ⟨h1,h2,h3,h4,h5,h6,h7,h8⟩:=h
 exact ⟨h1.below hb h6,h2.below hb h7,h3,h4,h5,Nat.lt_of_lt_of_le h6 hb.size,Nat.lt_of_lt_of_le h7 hb.size,h8.trans (hb.mono h8.size)⟩
theorem Laid2.drewN (h:Laid2 w wx b7 bR l7 lR) (q:Nat):Laid2 w (wx.drewN q) b7 bR l7 lR:=h.below (below_drewN (Below.refl _ _) q)
end
theorem divide4_any (t s n:Nat) (ws p:List Nat) (v:Value) (w:World) (hv:Reads w 1 v n (cellsN ws)) (hn:ws.length=n) (h0:1≤n) (hbig:n≤512) (hs:s=sumL ws) (hpos:0<s) (hs2:s≤4000000000000000000) (ht:t≤4000000000000000000) (hp:Parts t ws p) :
  Calls Try.prog 31 #[.int .i64 t,v,.int .i64 s] w fun e w'=>∃ g,w.heap.size≤g∧g<w'.heap.size∧e=.returned (.slice (some ⟨g,0,none⟩) n n)∧Row w' g 0 (p.map Int.ofNat)∧Below w.heap.size w w':=by
 obtain ⟨gv,off,cap,rfl,hc⟩:=hv.some (by omega)
 obtain ⟨o,hperm,hord,hpl,hpv⟩:=hp
 have hmk:=run_make_row' (P:=Try.prog) 22 3 (.int .i64 0) 8 Try.underlying22 Try.info3 rfl .i64 .i64 n (by omega) (by omega)
 have HC:=hid hc
 have HS:=hid (And.intro hs (And.intro hpos (And.intro hs2 ht)))
 have HN:=hid hn
 have HP:=hid (And.intro hperm (And.intro hord (And.intro hpl hpv)))
 clear hv hc hs hpos hs2 ht hn hperm hord hpl hpv
 obtain ⟨B0,hB0⟩:∃ B,B=w.heap.size:=⟨_,rfl⟩
 obtain ⟨B1,hB1⟩:∃ B,B=w.heap.size+1:=⟨_,rfl⟩
 obtain ⟨w0,hw0⟩:∃ w0,w0=(w.alloc (.cells (madeCells #[.int .i64 0] n) 3)).alloc (.cells (madeCells #[.int .i64 0] n) 3):=⟨_,rfl⟩
 have HL0:=hid (show Laid2 w w0 B0 B1 (List.replicate n 0) (List.replicate n 0) by
  rw [hw0]
  refine ⟨(row_made _ _ _ _ hB0).alloc _ (by rw [hB0];simp),row_made _ _ _ _ (by simp [hB1]),by omega,by omega,by omega,by simp;omega,by simp;omega,((Below.refl _ _).alloc (Nat.le_refl _) _).alloc (by simp) _⟩)
 go_enter Try.func31,Try.ntmps31
 go_wp2
 rw [←hw0,←hB1,←hB0]
 have HBE:=hid (And.intro hB0 hB1)
 clear hw0 hB0 hB1
 go_loopg [9,10] n (fun m mv kv wr=>∃ k:Nat,kv=.int .i64 k∧k≤n∧n≤m+k∧mv=.int .i64 ((t - sumL ((List.range k).map (quo t ws)):Nat):Int)∧Laid2 w wr B0 B1 (fillL n (quo t ws) k) (fillL n (Ap.rest t ws) k))
 case atStart=>exact ⟨0,rfl,by omega,by omega,by simp [sumL],by rw [fillL_zero,fillL_zero];exact HL0.out⟩
 case round =>
  obtain ⟨k,rfl,hk,hm,rfl,hlaid⟩:=hrel
  have HL:=hid hlaid
  clear hlaid
  by_cases hkn:k<n
  ·obtain ⟨x,hx⟩:∃ x,x=ws.getD k 0:=⟨_,rfl⟩
   have hxl:ws[k]?=some x:=by rw [hx];have:=HN.out;simp [List.getD,this,hkn]
   have hgv:gv<w.heap.size:=World.block_lt_of_cell? w _ (HC.out k (.int .i64 (x:Int)) (by simp [cellsN,hxl]))
   have hcx:wr.cell? ⟨gv,off+k,none⟩=some (.int .i64 (x:Int)):=by
    rw [HL.out.2.2.2.2.2.2.2.cell (p:=⟨gv,off+k,none⟩) hgv]
    exact HC.out k _ (by simp [cellsN,hxl])
   have hxs:x≤s:=by have:=HS.out.1;rw [this];exact sumL_mem (List.mem_of_getElem? hxl)
   obtain ⟨qk,hqk⟩:∃ qk,qk=quo t ws k:=⟨_,rfl⟩
   obtain ⟨rk,hrk⟩:∃ rk,rk=Ap.rest t ws k:=⟨_,rfl⟩
   have eq1:qk=t*x / s:=by rw [hqk];unfold quo;rw [HS.out.1,hx]
   have eq2:rk=t*x%s:=by rw [hrk];unfold Ap.rest;rw [HS.out.1,hx]
   have hqt:qk≤t:=by rw [eq1];exact Nat.div_le_of_le_mul (by rw [Nat.mul_comm s];exact Nat.mul_le_mul_left _ hxs)
   have HSH:=hid (fun W=>quota4_is t x s qk rk W (by have:=HS.out;omega) (by have:=HS.out;omega) (by have:=HS.out;omega) (by have:=HS.out;omega) (by have:=HS.out;omega) eq1 eq2)
   have HQ:=hid (And.intro hqk (And.intro hrk hqt))
   clear hx hxl hgv hxs hqk hrk eq1 eq2 hqt
   go_wp2_with fail
   refine (HSH.out _).mono ?_
   rintro e w5 ⟨rfl,hb5⟩
   have HL5:=hid (HL.out.below hb5)
   have c7:w5.cell? ⟨B0,k,none⟩=some (.int .i64 0):=by have:=HL5.out.1.1 k 0 (by rw [fillL_get _ _ _ _ hkn];simp);simpa using this
   have cR:w5.cell? ⟨B1,k,none⟩=some (.int .i64 0):=by have:=HL5.out.2.1.1 k 0 (by rw [fillL_get _ _ _ _ hkn];simp);simpa using this
   have f7:=HL5.out.1.2
   have fR:=HL5.out.2.1.2
   have n7R:¬B0=B1:=HL5.out.2.2.1
   obtain ⟨M,hM⟩:∃ M,M=t - sumL ((List.range k).map (quo t ws)):=⟨_,rfl⟩
   obtain ⟨M2,hM2⟩:∃ M2,M2=t - sumL ((List.range (k+1)).map (quo t ws)):=⟨_,rfl⟩
   have hMM:M=M2+qk∧M≤4000000000000000000:=by
    have h1:=sum_range_succ (quo t ws) k
    have h2:=sum_range_le (quo t ws) n (k+1) (by omega)
    have h3:=(miss_eq t ws (by have:=HS.out;omega)).1
    rw [HN.out] at h3
    have:=HQ.out.1
    have:=HS.out
    omega
   rw [←hM]
   have w1:IntKind.i64.wrap ((M:Int) - (qk:Int))=(M2:Int):=by rw [IntWalk.i64_in _ (by omega)];omega
   have HMM:=hid (And.intro hM2 hMM)
   have HNX:=hid (show Laid2 w ((w5.setCell ⟨B0,k,none⟩ (.int .i64 (qk:Int))).setCell ⟨B1,k,none⟩ (.int .i64 (rk:Int))) B0 B1 (fillL n (quo t ws) (k+1)) (fillL n (Ap.rest t ws) (k+1)) by
    have h:=(HL5.out.set7 k (qk:Int)).setR k (rk:Int)
    rw [HQ.out.1,HQ.out.2.1,fillL_set,fillL_set] at h
    rw [HQ.out.1,HQ.out.2.1]
    exact h)
   clear hb5 hcx hM hM2 hMM
   go_wp2
   go_roundg (gk - 1)
   case measure=>omega
   case rel=>exact ⟨k+1,by go_num,by omega,by omega,by rw [←HMM.out.1],HNX.out⟩
  ·have hk2:k=n:=by omega
   subst hk2
   obtain ⟨M,hM⟩:∃ M,M=t - sumL ((List.range k).map (quo t ws)):=⟨_,rfl⟩
   have hM1:M=miss t ws∧M≤k:=by
    have e:M=miss t ws:=by rw [hM];unfold miss;rw [HN.out]
    refine ⟨e,?_⟩
    have:=miss_le t ws (by have:=HS.out;omega)
    rw [HN.out] at this;omega
   rw [←hM]
   have HM:=hid hM1
   have hMk:=hM1.2
   clear hM hM1
   rw [←partsJ_zero k t ws o,←restsJ_zero k t ws o] at HL
   go_wp2
   have HNE:=hid (show o.length=k by rw [HP.out.1.length_eq,List.length_range];exact HN.out)
   have HND:=hid (show o.Nodup from HP.out.1.nodup_iff.2 List.nodup_range)
   go_loopg [9] M (fun m mv wq=>∃ j:Nat,j≤M∧M≤m+j∧mv=.int .i64 ((M - j:Nat):Int)∧Laid2 w wq B0 B1 (partsJ k t ws o j) (restsJ k t ws o j))
   case atStart=>exact ⟨0,by omega,by omega,rfl,HL.out⟩
   case round =>
    obtain ⟨j,hj,hmj,rfl,hlaid⟩:=hrel
    have HJ:=hid hlaid
    clear hlaid
    by_cases hjM:j<M
    ·obtain ⟨x,hx⟩:∃ x,o[j]?=some x:=⟨o[j]'(by have:=HNE.out;omega),List.getElem?_eq_getElem _⟩
     have HX:=hid hx
     have hxk:x<k:=by
      have:=List.mem_range.1 (HP.out.1.mem_iff.1 (List.mem_of_getElem? hx));rw [HN.out] at this;exact this
     obtain ⟨D,hD⟩:∃ D,D=M - j:=⟨_,rfl⟩
     have hD0:0<D:=by omega
     have HD:=hid hD
     rw [←hD]
     clear hx hD
     go_wp2
     obtain ⟨gk0,rfl⟩:∃ g,g=gk:=⟨gk,rfl⟩
     obtain ⟨w2,hw2⟩:∃ w2,w2=wr:=⟨_,rfl⟩
     rw [←hw2] at HJ ⊢
     clear hw2
     have HDD:=hid (And.intro hD0 (And.intro hmj hjM))
     clear hD0 hmj hjM hj
     go_loopg [11,12] k (fun m bv iv wq=>∃ (b i:Nat),bv=.int .i64 (b:Int)∧iv=.int .i64 (i:Int)∧1≤i∧i≤k∧k≤m+i∧b<i∧(∀ a,a<i→restJ t ws o j a≤restJ t ws o j b)∧(∀ a,a<b→restJ t ws o j a<restJ t ws o j b)∧∃ q,wq=w2.drewN q)
     case atStart=>exact ⟨0,1,rfl,rfl,by omega,by omega,by omega,by omega,fun a ha=>by rw [show a=0 by omega];exact Int.le_refl _,fun a ha=>by omega,0,by cases w2;rfl⟩
     case round =>
      obtain ⟨b,i,rfl,rfl,hi1,hik,hmi,hbi,hb1,hb2,q,rfl⟩:=hrel
      have HBB:=hid (And.intro hb1 hb2)
      clear hb1 hb2
      by_cases hin:i<k
      ·obtain ⟨rb,hrb⟩:∃ r,r=restJ t ws o j b:=⟨_,rfl⟩
       obtain ⟨ri,hri⟩:∃ r,r=restJ t ws o j i:=⟨_,rfl⟩
       have cb:w2.cell? ⟨B1,b,none⟩=some (.int .i64 rb):=by have:=HJ.out.2.1.1 b rb (by rw [restsJ_get (by omega),hrb]);simpa using this
       have ci:w2.cell? ⟨B1,i,none⟩=some (.int .i64 ri):=by have:=HJ.out.2.1.1 i ri (by rw [restsJ_get hin,hri]);simpa using this
       have HRR:=hid (And.intro hrb hri)
       clear hrb hri
       have hbk:b<k:=by omega
       by_cases hlt:rb<ri
       ·have HLT:=hid hlt
        go_wp2
        go_quiet (fail)
        go_wp2
        go_roundg (gk - 1)
        case measure=>omega
        case rel =>
         refine ⟨i,i+1,rfl,by go_num,by omega,by omega,by omega,by omega,fun a ha=>?_,fun a ha=>?_,_,rfl⟩
         ·rcases Nat.lt_or_ge a i with h|h
          ·have h1:=HBB.out.1 a h
           have h2:=HLT.out
           rw [HRR.out.1,HRR.out.2] at h2
           omega
          ·rw [show a=i by omega];exact Int.le_refl _
         ·have h1:=HBB.out.1 a ha
          have h2:=HLT.out
          rw [HRR.out.1,HRR.out.2] at h2
          omega
       ·have HLT:=hid hlt
        go_wp2
        go_quiet (fail)
        go_wp2
        go_roundg (gk - 1)
        case measure=>omega
        case rel =>
         refine ⟨b,i+1,rfl,by go_num,by omega,by omega,by omega,by omega,fun a ha=>?_,HBB.out.2,_,rfl⟩
         rcases Nat.lt_or_ge a i with h|h
         ·exact HBB.out.1 a h
         ·rw [show a=i by omega]
          have h2:=HLT.out
          rw [HRR.out.1,HRR.out.2] at h2
          omega
      ·have hik2:i=k:=by omega
       have hbx:b=x:=best_is (by have:=HP.out.1;rwa [HN.out] at this) HP.out.2.1 HX.out (by omega) (fun a ha=>HBB.out.1 a (by omega)) HBB.out.2
       subst hbx
       clear hik2 hi1 hik hmi hbi
       obtain ⟨qx,hqx⟩:∃ q,q=quo t ws b:=⟨_,rfl⟩
       have c7:w2.cell? ⟨B0,b,none⟩=some (.int .i64 (qx:Int)):=by
        have:=HJ.out.1.1 b (qx:Int) (by rw [partsJ_get hxk,partJ_at HND.out HX.out,hqx]);simpa using this
       have cR:w2.cell? ⟨B1,b,none⟩=some (.int .i64 (restJ t ws o j b)):=by
        have:=HJ.out.2.1.1 b _ (restsJ_get hxk);simpa using this
       have f7:=HJ.out.1.2
       have fR:=HJ.out.2.1.2
       have n7R:¬B0=B1:=HJ.out.2.2.1
       have hqb:qx≤4000000000000000000:=by
        have hb:quo t ws b≤t:=by
         unfold quo
         refine Nat.div_le_of_le_mul ?_
         rw [Nat.mul_comm (sumL ws)]
         exact Nat.mul_le_mul_left _ (sumL_mem (getD_mem (by rw [HN.out];exact hxk)))
        have:=HS.out
        omega
       have wq1:IntKind.i64.wrap ((qx:Int)+1)=(qx:Int)+1:=IntWalk.i64_in _ (by omega)
       obtain ⟨D2,hD2⟩:∃ D2,D=D2+1:=⟨D - 1,by have:=HDD.out;omega⟩
       have HD2:=hid hD2
       have hDb:D≤512:=by have:=HD.out;omega
       have wd:IntKind.i64.wrap ((D:Int) - 1)=(D2:Int):=by rw [IntWalk.i64_in _ (by omega)];omega
       have HNX:=hid (show Laid2 w (((w2.drewN q).setCell ⟨B0,b,none⟩ (.int .i64 ((qx:Int)+1))).setCell ⟨B1,b,none⟩ (.int .i64 (-1))) B0 B1 (partsJ k t ws o (j+1)) (restsJ k t ws o (j+1)) by
        have h:=((HJ.out.drewN q).set7 b ((qx:Int)+1)).setR b (-1)
        rw [hqx,partsJ_set HND.out HX.out,restsJ_set HX.out] at h
        rw [hqx];exact h)
       have HDX:=hid (And.intro hqb hDb)
       clear hqx hqb hDb hD2
       go_wp2
       go_roundg (gk0 - 1)
       case measure=>have:=HDD.out;have:=HD.out;omega
       case rel=>exact ⟨j+1,by have:=HDD.out;omega,by have:=HDD.out;omega,by rw [show M - (j+1)=D2 by have:=HD.out;have:=HD2.out;omega],HNX.out⟩
    ·have hjM2:j=M:=by omega
     subst hjM2
     have h0D:¬(0:Int)<((j - j:Nat):Int):=by simp
     have HF:=hid (show Row wr B0 0 (p.map Int.ofNat) by
      have:=HJ.out.1
      rw [HM.out.1,partsJ_full (by rw [HP.out.2.2.1];exact HN.out) (fun i hi=>HP.out.2.2.2 i (by rw [HN.out];exact hi))] at this
      exact this)
     rw [Nat.sub_self]
     go_wp2
     go_ret
     exact ⟨B0,by have:=HBE.out;omega,HJ.out.2.2.2.2.2.1,rfl,HF.out,HJ.out.2.2.2.2.2.2.2⟩
end Go.Proofs.Ytnkmhbiklffjlaa
set_option maxHeartbeats 4000000
namespace Go.Proofs.Ytnkmhbiklffjlaa
open Go.RowKit Ap
open Lib (hid)
theorem take_sum {ws:List Nat} {k x:Nat} (hx:ws[k]?=some x):sumL (ws.take (k+1))=sumL (ws.take k)+x:=by
 rw [List.take_add_one,hx,sumL_app];simp [sumL]
theorem check4_ok (n:Nat) (ws:List Nat) (v:Value) (w:World) (h:Valid w v n ws) :
  Calls Try.prog 29 #[v] w fun e w'=>e=.returned (.tuple #[.int .i64 (sumL ws:Nat),.int .i64 0])∧w=w':=by
 obtain ⟨g,off,cap,rfl,hc⟩:=h.reads.some (by have:=h.pos;omega)
 have hsb:=h.sum
 have h1:=h.pos
 have h2:=h.small
 have h00:((n:Int)==0)=false:=beq_eq_false_iff_ne.2 (by omega)
 have h1':¬(512:Int)<n:=by omega
 have HV:=hid h
 have HC:=hid hc
 have HSB:=hid hsb
 clear h hc hsb
 go_enter Try.func29,Try.ntmps29
 go_wp2
 go_loopg [4,5] n (fun m sv iv wr=>∃ k:Nat,sv=.int .i64 ((sumL (ws.take k):Nat):Int)∧iv=.int .i64 k∧k≤n∧n≤m+k∧w=wr)
 case atStart=>exact ⟨0,by simp [sumL],rfl,by omega,by omega,rfl⟩
 case round =>
  obtain ⟨k,rfl,rfl,hk,hm,rfl⟩:=hrel
  by_cases hkn:k<n
  ·obtain ⟨x,hx⟩:∃ x,ws[k]?=some x:=⟨ws[k]'(by have:=HV.out.len;omega),List.getElem?_eq_getElem _⟩
   have hcx:w.cell? ⟨g,off+k,none⟩=some (.int .i64 (x:Int)):=HC.out k _ (by simp [hx])
   have hxb:x≤1000000000000000:=HV.out.all x (List.mem_of_getElem? hx)
   have p1:¬(x:Int)<0:=by omega
   have p2:¬(1000000000000000:Int)<(x:Int):=by omega
   obtain ⟨s,hs⟩:∃ s,s=sumL (ws.take k):=⟨_,rfl⟩
   obtain ⟨s2,hs2⟩:∃ s2,s2=sumL (ws.take (k+1)):=⟨_,rfl⟩
   have hss:s2=s+x:=by rw [hs2,hs];exact take_sum hx
   have hle:s2≤512000000000000000:=by rw [hs2];exact Nat.le_trans (sumL_take_le ws (k+1)) HSB.out
   have wq:IntKind.i64.wrap ((s:Int)+(x:Int))=(s2:Int):=by rw [IntWalk.i64_in _ (by omega)];omega
   rw [←hs]
   have HS:=hid hs2
   clear hx hxb hs hs2 hss hle
   go_wp2
   go_roundg (gk - 1)
   case measure=>omega
   case rel=>exact ⟨k+1,by rw [←HS.out],by go_num,by omega,by omega,rfl⟩
  ·have HE:=hid (show sumL (ws.take k)=sumL ws by rw [List.take_of_length_le (by have:=HV.out.len;omega)])
   go_wp2
   go_ret2
   exact ⟨by rw [HE.out];rfl,rfl⟩
theorem far_ok (t:Int) (w:World) (h1:-1000000000000000≤t) (h2:t≤1000000000000000):Calls Try.prog 30 #[.int .i64 t] w fun e w'=>e=.returned (.bool false)∧w=w':=by
 have p1:¬(1000000000000000:Int)<t:=by omega
 have p2:¬t < -1000000000000000:=by omega
 clear h1 h2
 go_enter Try.func30,Try.ntmps30
 go_wp2
 go_ret
 exact ⟨rfl,rfl⟩
def OutR (n:Nat) (l:List Int) (w:World) (e:Ending) (w':World):Prop :=
 ∃ g,w.heap.size≤g∧g<w'.heap.size∧e=.returned (.tuple #[.slice (some ⟨g,0,none⟩) n n,.int .i64 0])∧Row w' g 0 l∧Below w.heap.size w w'
theorem split4_any (t:Int) (n:Nat) (ws p:List Nat) (L:List Int) (v:Value) (w:World) (hL:L=if t<0 then (p.map Int.ofNat).map (- ·) else p.map Int.ofNat) (h:Valid w v n ws) (hpos:0<sumL ws) (ht1:-1000000000000000≤t) (ht2:t≤1000000000000000) (hp:Parts t.natAbs ws p) :
  Calls Try.prog 14 #[.int .i64 t,v] w (OutR n L w):=by
 have HLD:=hid hL
 clear hL
 have hsb:=h.sum
 have hn19:=h.small
 have HV:=hid h
 have HP:=hid hpos
 have hpl:p.length=n:=by obtain ⟨o,_,_,h2,_⟩:=hp;rw [h2];exact h.len
 have hpb:∀ x∈p.map Int.ofNat,-10000000000000000≤x∧x≤10000000000000000:=(GoodD.bd (ws:=ws) (t:=t.natAbs) ⟨p,hp,rfl⟩ hpos (by omega)).2
 obtain ⟨s,hs⟩:∃ s,s=sumL ws:=⟨_,rfl⟩
 have HCK:=hid (check4_ok n ws v w h)
 have HF:=hid (fun W=>far_ok t W ht1 ht2)
 have HD:=hid (fun (T:Nat) (hT:t.natAbs=T)=>divide4_any T s n ws p v w h.reads h.len h.pos h.small hs (by rw [hs];exact hpos) (by rw [hs];omega) (by omega) (hT ▸ hp))
 rw [←hs] at HCK hsb
 have hs0:((s:Int)==0)=false:=beq_eq_false_iff_ne.2 (by have:=HP.out;omega)
 have HPL:=hid hpl
 have HPB:=hid hpb
 clear h hpos hs hp hpl hpb
 by_cases ht:0≤t
 ·obtain ⟨T,rfl⟩:=Int.eq_ofNat_of_zero_le ht
  go_enter Try.func14,Try.ntmps14
  go_wp2_with fail
  refine HCK.out.mono ?_
  rintro e w' ⟨rfl,rfl⟩
  go_wp2_with fail
  refine (HF.out _).mono ?_
  rintro e w' ⟨rfl,rfl⟩
  go_wp2_with fail
  refine (HD.out T (by simp)).mono ?_
  rintro e w' ⟨g,h1,h2,rfl,h4,h5⟩
  have HH:=hid (And.intro h1 (And.intro h2 (And.intro h4 h5)))
  clear h1 h2 h4 h5
  go_wp2
  go_ret2
  exact ⟨g,HH.out.1,HH.out.2.1,rfl,by rw [HLD.out,if_neg (by omega)];exact HH.out.2.2.1,HH.out.2.2.2⟩
 ·obtain ⟨T,hT0⟩:∃ T:Nat,-t=T:=⟨(-t).toNat,by omega⟩
  have hneg:IntKind.i64.wrap (-t)=(T:Int):=by rw [IntWalk.i64_in _ (by omega)];exact hT0
  have HT:=hid (show t.natAbs=T∧t<0 by omega)
  clear hT0
  obtain ⟨l,hl⟩:∃ l,l=p.map Int.ofNat:=⟨_,rfl⟩
  rw [←hl] at HD HPB
  have HLL:=hid (show l.length=n by rw [hl,List.length_map];exact HPL.out)
  have HLE:=hid hl
  clear hl
  go_enter Try.func14,Try.ntmps14
  go_wp2_with fail
  refine HCK.out.mono ?_
  rintro e w' ⟨rfl,rfl⟩
  go_wp2_with fail
  refine (HF.out _).mono ?_
  rintro e w' ⟨rfl,rfl⟩
  go_wp2_with fail
  refine (HD.out T HT.out.1).mono ?_
  rintro e w' ⟨g,h1,h2,rfl,h4,h5⟩
  have HH:=hid (And.intro h1 (And.intro h2 (And.intro h4 h5)))
  clear h1 h2 h4 h5
  go_wp2
  go_loopg [9] n (fun m kv wr=>∃ k:Nat,kv=.int .i64 k∧k≤n∧n≤m+k∧Row wr g 0 ((l.take k).map (- ·)++l.drop k)∧g<wr.heap.size∧Below w.heap.size w wr)
  case atStart=>exact ⟨0,rfl,by omega,by omega,by simpa using HH.out.2.2.1,HH.out.2.1,HH.out.2.2.2⟩
  case round =>
   obtain ⟨k,rfl,hk,hm,hrow,hsz,hbel⟩:=hrel
   have HR:=hid (And.intro hrow (And.intro hsz hbel))
   clear hrow hsz hbel
   by_cases hkn:k<n
   ·obtain ⟨x,hx⟩:∃ x,l[k]?=some x:=⟨l[k]'(by have:=HLL.out;omega),by have:=HLL.out;simp [this,hkn]⟩
    have hdk:l.drop k=x::l.drop (k+1):=by
     have hl:k<l.length:=by have:=HLL.out;omega
     rw [List.drop_eq_getElem_cons hl];congr 1
     rw [List.getElem?_eq_getElem hl] at hx;exact Option.some.inj hx
    have hlk:k=((l.take k).map (- ·)).length:=by rw [List.length_map,List.length_take];have:=HLL.out;omega
    have hrow:=HR.out.1
    rw [hdk] at hrow
    have hcx:wr.cell? ⟨g,k,none⟩=some (.int .i64 x):=by have:=hrow.1 k x (get_mid _ _ _ _ hlk);simpa using this
    have f7:=hrow.2
    have hb:=HPB.out x (List.mem_of_getElem? hx)
    have wn:IntKind.i64.wrap (-x)=-x:=IntWalk.i64_in _ (by omega)
    have hset:=hrow.set0 k (-x)
    rw [set_mid _ _ _ _ _ hlk] at hset
    have HN:=hid (show (l.take (k+1)).map (- ·)++l.drop (k+1)=(l.take k).map (- ·)++(-x)::l.drop (k+1) by
     rw [List.take_add_one,hx];simp)
    have HSET:=hid hset
    clear hx hdk hlk hrow hset hb
    go_wp2
    go_roundg (gk - 1)
    case measure=>omega
    case rel=>exact ⟨k+1,by go_num,by omega,by omega,by rw [HN.out];exact HSET.out,by have:=HR.out.2.1;simpa using this,below_set HR.out.2.2 _ _ HH.out.1⟩
   ·have HK:=hid (show (l.take k).map (- ·)++l.drop k=l.map (- ·) by
     have:=HLL.out
     rw [List.take_of_length_le (by omega),List.drop_eq_nil_of_le (by omega)];simp)
    go_wp2
    go_ret2
    exact ⟨g,HH.out.1,HR.out.2.1,rfl,by rw [HLD.out,if_pos HT.out.2,←HLE.out,←HK.out];exact HR.out.1,HR.out.2.2⟩
theorem parts_self (ws:List Nat) (hpos:0<sumL ws):Parts (sumL ws) ws ws:=by
 have hq:∀ i,quo (sumL ws) ws i=ws.getD i 0:=fun i=>by unfold quo;rw [Nat.mul_div_cancel_left _ hpos]
 have hr:∀ i,Ap.rest (sumL ws) ws i=0:=fun i=>by unfold Ap.rest;rw [Nat.mul_mod_right]
 have hm:miss (sumL ws) ws=0:=by
  have h:=(miss_eq (sumL ws) ws hpos).2
  rw [show (List.range ws.length).map (Ap.rest (sumL ws) ws)=(List.range ws.length).map (fun _=>0) from List.map_congr_left fun i _=>hr i] at h
  have h0:sumL ((List.range ws.length).map fun _=>0)=0:=by
   rw [sumL_const (l:=(List.range ws.length).map fun _=>0) (c:=0) (fun x hx=>by obtain ⟨_,_,rfl⟩:=List.mem_map.1 hx;rfl),Nat.mul_zero]
  rw [h0] at h
  rcases Nat.mul_eq_zero.1 h with h|h
  ·exact h
  ·omega
 refine ⟨List.range ws.length,List.Perm.refl _,?_,rfl,fun i hi=>by rw [hq,hm];simp⟩
 refine List.pairwise_lt_range.imp fun h=>.inr ⟨by rw [hr,hr],h⟩
theorem cap4_any (T n:Nat) (ws p:List Nat) (v:Value) (w:World) (h:Valid w v n ws) (hpos:0<sumL ws) (hT:T≤1000000000000000) (hp:(sumL ws≤T∧p=ws)∨(T<sumL ws∧Parts T ws p)) :
  Calls Try.prog 15 #[.int .i64 (T:Int),v] w (OutR n (p.map Int.ofNat) w):=by
 have hsb:=h.sum
 obtain ⟨s,hs⟩:∃ s,s=sumL ws:=⟨_,rfl⟩
 have HCK:=hid (check4_ok n ws v w h)
 have HF:=hid (fun W=>far_ok (T:Int) W (by omega) (by omega))
 obtain ⟨M,hM⟩:∃ M,M=min T s:=⟨_,rfl⟩
 have hpm:Parts M ws p:=by
  rcases hp with ⟨h1,rfl⟩|⟨h1,h2⟩
  ·rw [hM,hs,Nat.min_eq_right h1];exact parts_self p hpos
  ·rw [hM,hs,Nat.min_eq_left (by omega)];exact h2
 have HD:=hid (divide4_any M s n ws p v w h.reads h.len h.pos h.small hs (by rw [hs];exact hpos) (by rw [hs];omega) (by omega) hpm)
 rw [←hs] at HCK hsb
 have hs0:((s:Int)==0)=false:=beq_eq_false_iff_ne.2 (by omega)
 have hmin:min (T:Int) (s:Int)=(M:Int):=by omega
 have q1:¬(T:Int)<0:=by omega
 have h1:=h.pos
 have h2:=h.small
 clear h hpos hs hp hpm hM
 go_enter Try.func15,Try.ntmps15
 go_wp2_with fail
 refine HCK.out.mono ?_
 rintro e w' ⟨rfl,rfl⟩
 go_wp2_with fail
 refine (HF.out _).mono ?_
 rintro e w' ⟨rfl,rfl⟩
 go_wp2_with fail
 refine HD.out.mono ?_
 rintro e w' ⟨g,h1,h2,rfl,h4,h5⟩
 have HH:=hid (And.intro h1 (And.intro h2 (And.intro h4 h5)))
 clear h1 h2 h4 h5
 go_wp2
 go_ret2
 exact ⟨g,HH.out.1,HH.out.2.1,rfl,HH.out.2.2.1,HH.out.2.2.2⟩
theorem cap4_neg (t:Int) (n:Nat) (ws:List Nat) (v:Value) (w:World) (h:Valid w v n ws) (ht:t<0) :
  Calls Try.prog 15 #[.int .i64 t,v] w fun e w'=>e=.returned (.tuple #[.slice none 0 0,.int .i64 42])∧w=w':=by
 have HCK:=hid (check4_ok n ws v w h)
 clear h
 go_enter Try.func15,Try.ntmps15
 go_wp2_with fail
 refine HCK.out.mono ?_
 rintro e w' ⟨rfl,rfl⟩
 go_wp2
 go_ret2
 exact ⟨rfl,rfl⟩
theorem cap_neg (t:Int) (n:Nat) (ws:List Nat) (v:Value) (w:World) (h:Valid w v n ws) (ht:t<0) :
  Calls Try.prog 11 #[.int .i64 t,v] w fun e w'=>e=.returned (.tuple #[.slice none 0 0,.int .i64 42])∧w=w':=by
 have HCK:=hid (check_ok n ws v w h)
 clear h
 go_enter Try.func11,Try.ntmps11
 go_wp2_with fail
 refine HCK.out.mono ?_
 rintro e w' ⟨rfl,rfl⟩
 go_wp2
 go_ret2
 exact ⟨rfl,rfl⟩
end Go.Proofs.Ytnkmhbiklffjlaa
namespace Go.Proofs.Ytnkmhbiklffjlaa
open Go.RowKit Ap
def hen (x s:Nat):Nat:=if s - x%s<x%s∨(x%s=s - x%s∧x / s%2=1) then x / s+1 else x / s
theorem rnd_hen (t s c:Nat):rnd t s c=hen (t*c) s:=rfl
theorem hen_scale (k x s:Nat) (hk:0<k):hen (k*x) (k*s)=hen x s:=by
 have:=rnd_scale 1 s x k hk
 rwa [rnd_hen,rnd_hen,Nat.one_mul,Nat.one_mul] at this
theorem hen_red {x s g:Nat} (hg:0<g) (h1:g∣x) (h2:g∣s):hen (x / g) (s / g)=hen x s:=by
 rw [←hen_scale g (x / g) (s / g) hg,Nat.mul_div_cancel' h1,Nat.mul_div_cancel' h2]
theorem zI_cs (n:Bool) (m:Nat):zI (cs1 n m) m=zI n m:=by
 unfold zI cs1
 by_cases h:m=0<;>cases n<;>simp [h]
theorem above_even (n:Bool) (a q:Nat) (odd:Bool):aboveB 6 n (cmpZ ((2*a:Nat):Int) (q:Int)) odd=true↔q<2*a∨(2*a=q∧odd=true):=by
 unfold aboveB cmpZ
 simp only [show ¬(6=1) by decide,show ¬(6=2) by decide,show ¬(6=3) by decide,show ¬(6=4) by decide,show ¬(6=5) by decide,if_false]
 by_cases h1:((2*a:Nat):Int)<(q:Int)
 ·rw [if_pos h1,if_pos (by decide)]
  exact ⟨fun h=>absurd (of_decide_eq_true h) (by decide),fun h=>by omega⟩
 ·rw [if_neg h1]
  by_cases h2:(q:Int)<((2*a:Nat):Int)
  ·rw [if_pos h2,if_pos (by decide)]
   exact ⟨fun _=>.inl (by omega),fun _=>by decide⟩
  ·rw [if_neg h2,if_neg (by decide)]
   exact ⟨fun h=>.inr ⟨by omega,h⟩,fun h=>h.elim (fun h=>absurd h (by omega)) And.right⟩
theorem rndI_hen (n:Bool) (p q:Nat) (hq:q≠0):rndI 6 n p q=zI n (hen p q):=by
 have hr:=Nat.mod_lt p (Nat.pos_of_ne_zero hq)
 unfold rndI
 simp only [zI_cs,above_even,decide_eq_true_eq]
 unfold flR flM hen zI
 generalize p%q=r at hr ⊢
 generalize p / q=d
 cases n
 ·simp only [Bool.false_eq_true,false_and,if_false]
  by_cases h0:r=0
  ·rw [if_pos h0,if_neg (by omega)]
  ·rw [if_neg h0]
   by_cases h1:q<2*r∨(2*r=q∧d%2=1)
   ·rw [if_pos h1,if_pos (by omega)];omega
   ·rw [if_neg h1,if_neg (by omega)]
 ·simp only [true_and,if_true]
  by_cases h0:r=0
  ·subst h0
   simp only [ne_eq,not_true,if_false,if_true]
   rw [if_neg (by omega)]
  ·simp only [ne_eq,h0,not_false_eq_true,if_true]
   rw [if_neg (by omega)]
   by_cases h1:q<2*(q - r)∨(2*(q - r)=q∧(d+1)%2=1)
   ·rw [if_pos h1,if_neg (by omega)];omega
   ·rw [if_neg h1,if_pos (by omega)]
theorem hen_zero (s:Nat) (hs:0<s):hen 0 s=0:=by unfold hen;rw [Nat.zero_mod,Nat.zero_div,if_neg (by omega)]
theorem spread_val (T:Int) (so s g p q:Nat) (n:Bool) (hs:0<s) (hg:g=Nat.gcd (T.natAbs*so) s) (hp:p=T.natAbs*so / g) (hq:q=s / g) (hn:n=cs1 (cs1 (decide (T<0)) (T.natAbs*so)) p) :
  sgnd T (rnd T.natAbs s so:Int)=rndI 6 n (p*10^0) q∧n=cs1 n p∧q≠0∧Nat.gcd p q=1:=by
 have hg0:0<g:=by rw [hg];exact Nat.gcd_pos_of_pos_right _ hs
 have d1:g∣T.natAbs*so:=by rw [hg];exact Nat.gcd_dvd_left _ _
 have d2:g∣s:=by rw [hg];exact Nat.gcd_dvd_right _ _
 have hq0:q≠0:=by rw [hq];have:=Nat.div_pos (Nat.le_of_dvd hs d2) hg0;omega
 have hc:Nat.gcd p q=1:=by
  rw [hp,hq,Nat.gcd_div d1 d2,←hg];exact Nat.div_self hg0
 refine ⟨?_,?_,hq0,hc⟩
 ·rw [Nat.pow_zero,Nat.mul_one,rndI_hen _ _ _ hq0,rnd_hen,←hen_red hg0 d1 d2,←hp,←hq]
  by_cases hp0:p=0
  ·rw [hp0,hen_zero q (Nat.pos_of_ne_zero hq0)];unfold sgnd zI;split<;>split<;>rfl
  ·have hx0:T.natAbs*so≠0:=by intro h;apply hp0;rw [hp,h,Nat.zero_div]
   rw [hn];unfold sgnd zI cs1
   by_cases hT:T<0<;>simp [hT,hp0,hx0]
 ·rw [hn];unfold cs1
  by_cases hp0:p=0<;>simp [hp0]
theorem rnd_le_t (t s c:Nat) (hc:c≤s) (hs:0<s):rnd t s c≤t:=by
 have h1:t*c≤t*s:=Nat.mul_le_mul_left _ hc
 have h2:=Nat.div_add_mod (t*c) s
 have h3:=Nat.mod_lt (t*c) hs
 unfold rnd
 generalize t*c%s=r at h2 h3 ⊢
 generalize t*c / s=d at h2 ⊢
 have h4:d≤t:=by
  have:s*d≤s*t:=by rw [Nat.mul_comm s t];omega
  exact Nat.le_of_mul_le_mul_left this hs
 split
 ·rename_i h
  have hr:0<r:=by omega
  rcases Nat.lt_or_ge d t with h5|h5
  ·exact h5
  ·have:d=t:=by omega
   subst this
   rw [Nat.mul_comm d s] at h1
   omega
 ·exact h4
def stepS (T:Int) (t s:Nat) (ws:List Nat) (i:Nat):Int:=sgnd T (rnd t s (sumL (ws.take (i+1))):Int) - sgnd T (rnd t s (sumL (ws.take i)):Int)
def listS (T:Int) (t s:Nat) (ws:List Nat) (k:Nat):List Int:=(List.range k).map (stepS T t s ws)
theorem listS_succ (T:Int) (t s:Nat) (ws:List Nat) (k:Nat):listS T t s ws (k+1)=listS T t s ws k++[stepS T t s ws k]:=by
 unfold listS;rw [List.range_succ,List.map_append];rfl
theorem spreadL_get (t s:Nat):∀ (ws:List Nat) (b c i:Nat),i<ws.length→(spreadL t s b c ws)[i]?=some ((rnd t s (c+sumL (ws.take (i+1))):Int) - (if i=0 then (b:Int) else (rnd t s (c+sumL (ws.take i)):Int)))
 | [],_,_,_,h=>by simp at h
 | w::ws,b,c,0,_=>by simp [spreadL,sumL]
 | w::ws,b,c,i+1,h=>by
  have ih:=spreadL_get t s ws (rnd t s (c+w)) (c+w) i (by simpa using h)
  simp only [spreadL,List.getElem?_cons_succ,ih,List.take_succ_cons,sumL,Nat.add_assoc]
  congr 2
  by_cases h0:i=0
  ·subst h0;simp [sumL]
  ·simp [h0]
theorem rnd_zero (t s:Nat) (hs:0<s):rnd t s 0=0:=by rw [rnd_hen,Nat.mul_zero,hen_zero s hs]
theorem listS_full (T:Int) (s n:Nat) (ws:List Nat) (hs:0<s) (hn:ws.length=n):listS T T.natAbs s ws n=(if T<0 then (spreadL T.natAbs s 0 0 ws).map (- ·) else spreadL T.natAbs s 0 0 ws):=by
 rw [sgnd_map]
 apply List.ext_getElem?
 intro i
 by_cases hi:i<n
 ·rw [List.getElem?_map,spreadL_get _ _ _ _ _ _ (by omega)]
  unfold listS
  rw [List.getElem?_map,List.getElem?_range hi]
  simp only [Option.map_some,Nat.zero_add]
  congr 1
  unfold stepS
  by_cases h0:i=0
  ·subst h0
   rw [List.take_zero,if_pos rfl,show sumL ([]:List Nat)=0 from rfl,rnd_zero _ _ hs]
   unfold sgnd;split<;>simp
  ·rw [if_neg h0]
   unfold sgnd;split<;>omega
 ·rw [List.getElem?_eq_none (by unfold listS;simp;omega),List.getElem?_eq_none (by rw [List.length_map,spread_len];omega)]
end Go.Proofs.Ytnkmhbiklffjlaa
set_option maxHeartbeats 8000000
namespace Go.Proofs.Ytnkmhbiklffjlaa
open Go.RowKit Big Ap
open Lib (hid)
def OutV (n:Nat) (l:List Int) (w:World) (e:Ending) (w':World):Prop :=
 ∃ v,e=.returned (.tuple #[v,.int .i64 0])∧Reads w' 1 v n (l.map (Value.int .i64))∧Below w.heap.size w w'
theorem own_grown {W wr w':World} {v:Value} {n:Nat} {t:TypeId} {xs:List Value} (h:Below W.heap.size W wr) (ho:wr.ownsRow W.heap.size t 1 v n xs) (hg:wr.grownBy w' v.ownBlock):Below W.heap.size W w' :=
 h.trans ⟨hg.os,hg.tape,hg.output,hg.size,fun k hk=>hg.block k (by have:=h.size;omega) (fun e=>by have:=(ho.lt k e.symm).1;omega)⟩
theorem small_b480 {x:Nat} (h:x<BB^4):x<B480:=Nat.lt_of_lt_of_le h (Nat.pow_le_pow_right BB_pos (by omega))
theorem mul_b4 {a b:Nat} (ha:a<9223372036854775808) (hb:b<9223372036854775808):a*b<BB^4:=by
 have h1:a*b<BB^2*BB^2:=Nat.mul_lt_mul'' (two_lt (by omega)) (two_lt (by omega))
 rwa [←Nat.pow_add] at h1
theorem spread4_any (T:Int) (n:Nat) (ws:List Nat) (L:List Int) (v:Value) (w:World) (hL:L=if T<0 then (spreadL T.natAbs (sumL ws) 0 0 ws).map (- ·) else spreadL T.natAbs (sumL ws) 0 0 ws) (h:Valid w v n ws) (hpos:0<sumL ws) (ht1:-1000000000000000≤T) (ht2:T≤1000000000000000) :
  Calls Try.prog 16 #[.int .i64 T,v] w (OutV n L w):=by
 obtain ⟨s,hs⟩:∃ s,s=sumL ws:=⟨_,rfl⟩
 have hsb:=h.sum
 have h1:=h.pos
 have h2:=h.small
 have HCK:=hid (check4_ok n ws v w h)
 have HF:=hid (fun W=>far_ok T W ht1 ht2)
 rw [←hs] at HCK hsb hpos hL
 have HLD:=hid (show L=listS T T.natAbs s ws n by rw [hL];exact (listS_full T s n ws hpos h.len).symm)
 have hs0:((s:Int)==0)=false:=beq_eq_false_iff_ne.2 (by omega)
 obtain ⟨gv,off,cap,rfl,hc⟩:=h.reads.some (by omega)
 have HC:=hid hc
 have HV:=hid h
 have HS:=hid (And.intro hs (And.intro hpos hsb))
 have HT:=hid (And.intro ht1 ht2)
 obtain ⟨ct,V_ct⟩:∃ c:List Value,Hid (c=.bool (decide (T<0))::lv 32 T.natAbs):=⟨_,hid rfl⟩
 obtain ⟨cs,V_cs⟩:∃ c:List Value,Hid (c=.bool false::lv 32 s):=⟨_,hid rfl⟩
 have HFT:=hid (from_op (z:=T) V_ct.out rfl rfl (by omega) (by omega))
 have HFS:=hid (from_op (z:=(s:Int)) V_cs.out (by symm;exact decide_eq_false (by omega)) (by omega) (by omega) (by omega))
 clear hL h hs hc hpos hsb ht1 ht2
 obtain ⟨B0,hB0⟩:∃ B,B=w.heap.size:=⟨_,rfl⟩
 have FR:=hid (show Fr B0 w w by rw [hB0];exact Fr.start w)
 have HB0:=hid hB0
 go_enter Try.func16,Try.ntmps16
 go_wp2_with fail
 refine HCK.out.mono ?_
 rintro e w' ⟨rfl,rfl⟩
 go_wp2_with fail
 refine (HF.out _).mono ?_
 rintro e w' ⟨rfl,rfl⟩
 go_wp2
 clear hB0
 go_loopg [8,9,10,11] n (fun m lv bv sv iv wr=>∃ i:Nat,iv=.int .i64 i∧i≤n∧n≤m+i∧sv=.int .i64 ((sumL (ws.take i):Nat):Int)∧bv=.int .i64 (sgnd T (rnd T.natAbs s (sumL (ws.take i)):Int))∧wr.ownsRow B0 3 1 lv i ((listS T T.natAbs s ws i).map (Value.int .i64))∧Fr B0 w wr)
 case atStart=>exact ⟨0,rfl,by omega,by omega,by simp [sumL],by rw [List.take_zero,show sumL ([]:List Nat)=0 from rfl,rnd_zero _ _ HS.out.2.1];unfold sgnd;split<;>rfl,World.ownsRow_nil _ _ _ _,FR.out⟩
 case round =>
  obtain ⟨i,rfl,hi,hm,rfl,rfl,hown,hfr⟩:=hrel
  have HO:=hid hown
  replace FR:=hid hfr
  clear hown hfr
  by_cases hin:i<n
  ·obtain ⟨x,hx⟩:∃ x,ws[i]?=some x:=⟨ws[i]'(by have:=HV.out.len;omega),List.getElem?_eq_getElem _⟩
   have hgv:gv<w.heap.size:=World.block_lt_of_cell? w _ (HC.out i (.int .i64 (x:Int)) (by simp [hx]))
   have hcx:wr.cell? ⟨gv,off+i,none⟩=some (.int .i64 (x:Int)):=by
    rw [FR.out.below.cell (p:=⟨gv,off+i,none⟩) (by rw [HB0.out];exact hgv)]
    exact HC.out i _ (by simp [hx])
   obtain ⟨s0,hs0'⟩:∃ q,q=sumL (ws.take i):=⟨_,rfl⟩
   obtain ⟨so,hso⟩:∃ q,q=sumL (ws.take (i+1)):=⟨_,rfl⟩
   have hss:so=s0+x:=by rw [hso,hs0'];exact take_sum hx
   have hle:so≤s:=by rw [hso,HS.out.1];exact sumL_take_le ws (i+1)
   have hsb:=HS.out.2.2
   have wq:IntKind.i64.wrap ((s0:Int)+(x:Int))=(so:Int):=by rw [IntWalk.i64_in _ (by omega)];omega
   obtain ⟨bf,hbf⟩:∃ q,q=sgnd T (rnd T.natAbs s s0:Int):=⟨_,rfl⟩
   obtain ⟨z,hz⟩:∃ q,q=sgnd T (rnd T.natAbs s so:Int):=⟨_,rfl⟩
   have sb:∀ c,c≤s→-1000000000000000≤sgnd T (rnd T.natAbs s c:Int)∧sgnd T (rnd T.natAbs s c:Int)≤1000000000000000:=fun c hc=>by
    have:=rnd_le_t T.natAbs s c hc HS.out.2.1
    have:=HT.out
    unfold sgnd;split<;>omega
   have zb:-1000000000000000≤z∧z≤1000000000000000:=by rw [hz];exact sb so hle
   have bb:-1000000000000000≤bf∧bf≤1000000000000000:=by rw [hbf];exact sb s0 (by omega)
   have wd:IntKind.i64.wrap (z - bf)=z - bf:=IntWalk.i64_in _ (by omega)
   rw [←hs0',←hbf]
   obtain ⟨X,hX⟩:∃ X,X=T.natAbs*so:=⟨_,rfl⟩
   obtain ⟨g,hg⟩:∃ g,g=Nat.gcd X s:=⟨_,rfl⟩
   obtain ⟨p,hp⟩:∃ p,p=X / g:=⟨_,rfl⟩
   obtain ⟨q,hq⟩:∃ q,q=s / g:=⟨_,rfl⟩
   obtain ⟨sx,hsx⟩:∃ b,b=cs1 (decide (T<0)) X:=⟨_,rfl⟩
   obtain ⟨sn,hsn⟩:∃ b,b=cs1 sx p:=⟨_,rfl⟩
   have hXb:X<BB^4:=by rw [hX];exact mul_b4 (by have:=HT.out;omega) (by omega)
   have hsB:s<BB^4:=Nat.lt_of_lt_of_le (two_lt (by omega)) (Nat.pow_le_pow_right BB_pos (by omega))
   have hval:=spread_val T so s g p q sn HS.out.2.1 (by rw [hg,hX]) (by rw [hp,hX]) hq (by rw [hsn,hsx,hX])
   have hpb:p<B480:=small_b480 (by rw [hp];exact Nat.lt_of_le_of_lt (Nat.div_le_self _ _) hXb)
   have hqb:q<B480:=small_b480 (by rw [hq];exact Nat.lt_of_le_of_lt (Nat.div_le_self _ _) hsB)
   obtain ⟨co,V_co⟩:∃ c:List Value,Hid (c=.bool false::lv 32 so):=⟨_,hid rfl⟩
   obtain ⟨cx,V_cx⟩:∃ c:List Value,Hid (c=.bool sx::lv 32 X):=⟨_,hid rfl⟩
   obtain ⟨cr,V_cr⟩:∃ c:List Value,Hid (c=rat sn p false q):=⟨_,hid rfl⟩
   have HFO:=hid (from_op (z:=(so:Int)) V_co.out (by symm;exact decide_eq_false (by omega)) (by omega) (by omega) (by omega))
   have HM:=hid (mul_op V_ct.out V_co.out V_cx.out hX (by rw [hsx,show ∀ b:Bool,(b != false)=b from fun b=>by cases b<;>rfl]) (small_bb (by have:=HT.out;omega)) (small_bb (by omega)) (b480_bb (small_b480 hXb)))
   have HMK:=hid (make_op (n:=sn) V_cx.out V_cs.out V_cr.out (by rw [hsn,show (sx != false)=sx by cases sx<;>rfl]) hg hp hq (b480_bb (small_b480 hXb)) (b480_bb (small_b480 hsB)) (by have:=HS.out;omega) hpb hqb)
   have HR:=hid (show ∀ W,Calls Try.prog 35 #[.agg cr.toArray,.int .i64 0,.int .i64 6] W (fun e w'=>e=.returned (.tuple #[.int .i64 z,.int .i64 0])∧Below W.heap.size W w') from rndint_op (k:=0) (mode:=6) V_cr.out hval.2.1 hpb hqb hval.2.2.1 hval.2.2.2 (by omega) (by omega) (by omega) (by rw [hz];exact hval.1) zb.1 zb.2)
   have HNX:=hid (show (listS T T.natAbs s ws (i+1)).map (Value.int .i64)=(listS T T.natAbs s ws i).map (Value.int .i64)++[.int .i64 (z - bf)] by
    rw [listS_succ,List.map_append,hz,hbf,hs0',hso];rfl)
   have HSO:=hid (And.intro hso hz)
   have FR2:=hid (Fr.start wr)
   have FR0:=hid FR.out.le
   clear hx hgv hs0' hso hss hle hsb hbf hz sb zb bb hX hg hp hq hsx hsn hXb hsB hval hpb hqb
   go_upto_region 14 with fail
   refine wfn [⟨true,8,12,9,0,0,51,51,cx,0,cx,[]⟩] [(46,.int .i64 T),(47,.agg ct.toArray),(48,.int .i64 (so:Int)),(49,.agg co.toArray),(50,.tuple #[.agg cx.toArray,.int .i64 0]),(45,.tuple #[.agg cx.toArray,.int .i64 0]),(51,.agg cx.toArray),(52,.int .i64 0),(13,.int .i64 0)] _ (by simp only [zz4,zz5,zq];rfl) (by kernel_rfl) (by kernel_rfl) rfl ?_ ?_ ?_ ?_
   ·intro W' hW'
    refine fxo ?_ ?_;(go_big_quiet_step (fail);(try simp only [zq]);exact wqn rfl)
    refine fxo ?_ ?_;(go_big_quiet_step ((go_at_call 33;exact Calls.below_of (HFT.out _)));(try simp only [zq]);exact wqn rfl)
    refine fxo ?_ ?_;(go_big_quiet_step (fail);(try simp only [zq]);exact wqn rfl)
    refine fxo ?_ ?_;(go_big_quiet_step ((go_at_call 33;exact Calls.below_of (HFO.out _)));(try simp only [zq]);exact wqn rfl)
    refine fxo ?_ ?_;(go_big_quiet_step ((go_at_call 32;exact Calls.below_of (HM.out _)));(try simp only [zq]);exact wqn rfl)
    iterate 3 (refine fxo ?_ ?_;(go_big_quiet_step (fail);(try simp only [zq]);exact wqn rfl))
    iterate 2 (refine fxs (by rfl) ?_)
    refine fxo ?_ ?_;(go_big_quiet_step (fail);(try simp only [zq]);exact wqn rfl)
    exact fxn
   ·exact oP _ _ (Try.alI (qI V_cx.out)) (oN)
   ·exact oP _ _ (stw rfl (qI V_cx.out) (oneI V_cx.out) (fun _=>rfl)) (oN)
   intro β wx1 E
   replace FR:=hid (FR.out.fnw E rfl)
   replace FR2:=hid (FR2.out.fnw E rfl)
   obtain ⟨b12,hb12⟩:∃ b,b=β 8:=⟨_,rfl⟩
   have eb12:=E.atNew mms rfl
   simp only at eb12
   rw [←hb12] at eb12
   have hZb12:B0≤b12:=by have h1:=eb12.1;have h2:=FR0.out;omega
   have Ab12:=hid eb12.2
   simp only [nP,zr,zq]
   rw [←hb12]
   replace FR0:=hid FR.out.le
   clear E eb12 hb12
   go_upto_region 15 with fail
   refine wfn [⟨true,7,14,8,0,0,56,58,cr,0,cr,[]⟩] [(54,.agg cx.toArray),(55,.int .i64 (s:Int)),(56,.agg cs.toArray),(57,.tuple #[.agg cr.toArray,.int .i64 0]),(53,.tuple #[.agg cr.toArray,.int .i64 0]),(58,.agg cr.toArray),(59,.int .i64 0),(15,.int .i64 0)] _ (by simp only [zz4,zz5,zq];rfl) (by kernel_rfl) (by kernel_rfl) rfl ?_ ?_ ?_ ?_
   ·intro W' hW'
    have rd0:=Ab12.out.below hW'
    refine fxo (wlg (by rfl) rfl rfl rd0 Try.underlying51 rfl (qI V_cx.out) (wqn (by simp only [zq]))) ?_
    refine fxo ?_ ?_;(go_big_quiet_step (fail);(try simp only [zq]);exact wqn rfl)
    refine fxo ?_ ?_;(go_big_quiet_step ((go_at_call 33;exact Calls.below_of (HFS.out _)));(try simp only [zq]);exact wqn rfl)
    refine fxo ?_ ?_;(go_big_quiet_step ((go_at_call 34;exact Calls.below_of (HMK.out _)));(try simp only [zq]);exact wqn rfl)
    iterate 3 (refine fxo ?_ ?_;(go_big_quiet_step (fail);(try simp only [zq]);exact wqn rfl))
    iterate 2 (refine fxs (by rfl) ?_)
    refine fxo ?_ ?_;(go_big_quiet_step (fail);(try simp only [zq]);exact wqn rfl)
    exact fxn
   ·exact oP _ _ (Try.alR (qR V_cr.out)) (oN)
   ·exact oP _ _ (stw rfl (qR V_cr.out) (oneR V_cr.out) (fun _=>rfl)) (oN)
   intro β wx2 E
   replace FR:=hid (FR.out.fnw E rfl)
   replace FR2:=hid (FR2.out.fnw E rfl)
   obtain ⟨b14,hb14⟩:∃ b,b=β 7:=⟨_,rfl⟩
   have eb14:=E.atNew mms rfl
   simp only at eb14
   rw [←hb14] at eb14
   have lb12_b14:b12<b14:=by have h1:=eb14.1;have h2:=Ab12.out.lt;omega
   have hZb14:B0≤b14:=by have h1:=eb14.1;have h2:=FR0.out;omega
   replace Ab12:=hid (Ab12.out.fnw E rfl)
   have Ab14:=hid eb14.2
   simp only [nP,zr,zq]
   rw [←hb14]
   replace FR0:=hid FR.out.le
   clear E eb14 hb14
   go_upto_region 16 with fail
   refine wfn [] [(61,.agg cr.toArray),(62,.tuple #[.int .i64 z,.int .i64 0]),(60,.tuple #[.int .i64 z,.int .i64 0]),(63,.int .i64 z),(64,.int .i64 0),(16,.int .i64 z),(17,.int .i64 0)] _ (by simp only [zz4,zz5,zq];rfl) (by kernel_rfl) (by kernel_rfl) rfl ?_ ?_ ?_ ?_
   ·intro W' hW'
    have rd0:=Ab14.out.below hW'
    refine fxo (wlg (by rfl) rfl rfl rd0 Try.underlying56 rfl (qR V_cr.out) (wqn (by simp only [zq]))) ?_
    refine fxo ?_ ?_;(go_big_quiet_step ((go_at_call 35;exact Calls.below_of (HR.out _)));(try simp only [zq]);exact wqn rfl)
    iterate 5 (refine fxo ?_ ?_;(go_big_quiet_step (fail);(try simp only [zq]);exact wqn rfl))
    exact fxn
   ·exact oN
   ·exact oN
   intro β wx3 E
   replace FR:=hid (FR.out.fnw E rfl)
   replace FR2:=hid (FR2.out.fnw E rfl)
   replace Ab12:=hid (Ab12.out.fnw E rfl)
   replace Ab14:=hid (Ab14.out.fnw E rfl)
   have hE:=E.below rfl
   simp only [nP,zr,zq]
   replace FR0:=hid FR.out.le
   clear E
   obtain ⟨wy,hwy⟩:∃ wy,wy=wx3:=⟨_,rfl⟩
   rw [←hwy] at FR FR2 ⊢
   have HOY:=hid (ownsRow_below HO.out FR2.out.below)
   clear HO hwy
   obtain ⟨i0,hi0,hz0,hz1,hz2⟩:=info_parts Try.info3
   go_wp2_with (at_builtin;refine wpList_append_own _ rfl _ _ 22 rfl B0 3 i0 _ 1 8 Try.underlying22 hi0 hz0 hz1 hz2 rfl (by decide) u8 _ _ rfl (HOY.out.alloc _) ⟨wy.heap.size,0,none⟩ 1 1 [.int .i64 (z - bf)] rfl rfl ?_ ?_ ?_ ?_ ?_ ?_;(intro j u hu;exact cells_new wy [.int .i64 (z - bf)] 3 j u hu);(simp [Value.oneCell']);exact small_maxLen (by omega);omega;(simp;have:=FR.out.le;omega);intro v' w6 hown' hgrow _)
   have HW:=hid (show w6.ownsRow B0 3 1 v' (i+1) ((listS T T.natAbs s ws (i+1)).map (Value.int .i64)) by rw [HNX.out];exact hown')
   have hb6:Below w.heap.size w w6:=own_grown (wr:=wy.alloc (.cells #[.int .i64 (z - bf)] 3)) (by have:=(FR.out.alloc (.cells #[.int .i64 (z - bf)] 3)).below;rwa [HB0.out] at this) (by have:=HOY.out.alloc (.cells #[.int .i64 (z - bf)] 3);rwa [HB0.out] at this) hgrow
   have HFR6:=hid (show Fr B0 w w6 from ⟨by rw [HB0.out];exact hb6,by rw [HB0.out];exact hb6.size⟩)
   clear hown' hgrow hb6
   go_roundg (gk - 1)
   case measure=>omega
   case rel=>exact ⟨i+1,by go_num,by omega,by omega,by rw [←HSO.out.1],by rw [←HSO.out.1,←HSO.out.2],HW.out,HFR6.out⟩
  ·have hi2:i=n:=by omega
   subst hi2
   have HLR:=hid (show (listS T T.natAbs s ws i).map (Value.int .i64)=L.map (Value.int .i64) by rw [HLD.out])
   go_wp2
   go_ret2
   exact ⟨_,rfl,by rw [←HLR.out];exact Reads.of_own HO.out,by have:=FR.out.below;rwa [HB0.out] at this⟩
end Go.Proofs.Ytnkmhbiklffjlaa
namespace Go.Proofs.Ytnkmhbiklffjlaa
open Go.RowKit Ap
def Both (f4:FuncId) (T:Int) (v:Value) (n:Nat) (ws:List Nat) (w:World) (e:Ending) (w':World):Prop :=
 ∃ (va:Value) (ex:Int) (nc:Nat) (lc:List Int),e=.returned (.tuple #[va,.int .i64 ex])∧Reads w' 1 va nc (lc.map (Value.int .i64))∧nc≤1000000∧Below w.heap.size w w' ∧
  ∀ W,Valid W v n ws→Calls Try.prog f4 #[.int .i64 T,v] W fun e w'=>∃ vb,e=.returned (.tuple #[vb,.int .i64 ex])∧Reads w' 1 vb nc (lc.map (Value.int .i64))∧Below W.heap.size W w'
theorem split_both (T:Int) (n:Nat) (ws:List Nat) (v:Value) (w:World) (h:Valid w v n ws) (hpos:0<sumL ws) (ht1:-1000000000000000≤T) (ht2:T≤1000000000000000) :
  Calls Try.prog 10 #[.int .i64 T,v] w (Both 14 T v n ws w):=by
 refine (split_any T n ws v w h hpos ht1 ht2).mono ?_
 rintro e w' ⟨g,l,k1,k2,rfl,⟨p,hp,rfl⟩,k5,k6⟩
 have hpl:p.length=n:=by obtain ⟨o,_,_,h2,_⟩:=hp;rw [h2];exact h.len
 obtain ⟨L,hL⟩:∃ L,L=if T<0 then (p.map Int.ofNat).map (- ·) else p.map Int.ofNat:=⟨_,rfl⟩
 have hLl:L.length=n:=by rw [hL];split<;>simp [hpl]
 rw [←hL] at k5
 refine ⟨_,0,n,L,rfl,reads_row k5 hLl (by have:=h.small;omega),by have:=h.small;omega,k6,fun W hW=>?_⟩
 refine (split4_any T n ws p L v W hL hW hpos ht1 ht2 hp).mono ?_
 rintro e w2 ⟨g2,_,_,rfl,hr,hb⟩
 exact ⟨_,rfl,reads_row hr hLl (by have:=h.small;omega),hb⟩
theorem spread_both (T:Int) (n:Nat) (ws:List Nat) (v:Value) (w:World) (h:Valid w v n ws) (hpos:0<sumL ws) (ht1:-1000000000000000≤T) (ht2:T≤1000000000000000) :
  Calls Try.prog 12 #[.int .i64 T,v] w (Both 16 T v n ws w):=by
 refine (spread_any T n ws v w h hpos ht1 ht2).mono ?_
 rintro e w' ⟨g,l,k1,k2,rfl,hgs,k5,k6⟩
 unfold GoodS at hgs
 subst hgs
 obtain ⟨L,hL⟩:∃ L,L=if T<0 then (spreadL T.natAbs (sumL ws) 0 0 ws).map (- ·) else spreadL T.natAbs (sumL ws) 0 0 ws:=⟨_,rfl⟩
 have hLl:L.length=n:=by rw [hL];split<;>simp [spread_len,h.len]
 rw [←hL] at k5
 refine ⟨_,0,n,L,rfl,reads_row k5 hLl (by have:=h.small;omega),by have:=h.small;omega,k6,fun W hW=>?_⟩
 refine (spread4_any T n ws L v W hL hW hpos ht1 ht2).mono ?_
 rintro e w2 ⟨v2,rfl,hr,hb⟩
 exact ⟨_,rfl,hr,hb⟩
theorem cap_both (T:Int) (n:Nat) (ws:List Nat) (v:Value) (w:World) (h:Valid w v n ws) (hpos:0<sumL ws) (ht1:-1000000000000000≤T) (ht2:T≤1000000000000000) :
  Calls Try.prog 11 #[.int .i64 T,v] w (Both 15 T v n ws w):=by
 by_cases ht:T<0
 ·refine (cap_neg T n ws v w h ht).mono ?_
  rintro e w' ⟨rfl,rfl⟩
  have hr0:∀ W,Reads W 1 (.slice none 0 0) 0 (([]:List Int).map (Value.int .i64)):=fun W=>⟨rfl,by omega,.inl ⟨rfl,rfl⟩⟩
  refine ⟨_,42,0,[],rfl,hr0 _,by omega,Below.refl _ _,fun W hW=>?_⟩
  refine (cap4_neg T n ws v W hW ht).mono ?_
  rintro e w2 ⟨rfl,rfl⟩
  exact ⟨_,rfl,hr0 _,Below.refl _ _⟩
 ·obtain ⟨t,rfl⟩:=Int.eq_ofNat_of_zero_le (show 0≤T by omega)
  refine (cap_any t n ws v w h (by omega)).mono ?_
  rintro e w' ⟨va,p,rfl,hr,hb,hpl,hp⟩
  refine ⟨va,0,n,p.map Int.ofNat,rfl,reads_cellsZ hr,by have:=h.small;omega,hb,fun W hW=>?_⟩
  refine (cap4_any t n ws p v W hW hpos (by omega) hp).mono ?_
  rintro e w2 ⟨g2,_,_,rfl,hr2,hb2⟩
  exact ⟨_,rfl,reads_row hr2 (by simp [hpl]) (by have:=h.small;omega),hb2⟩
end Go.Proofs.Ytnkmhbiklffjlaa
set_option maxHeartbeats 2000000
namespace Go.Proofs.Ytnkmhbiklffjlaa
open Go.RowKit Ap
open Lib (hid)
def errS (T:Int) (l:List Int):Int:=if (checkR l).2≠0 then (checkR l).2 else if T < -1000000000000000∨1000000000000000<T then 42 else if (checkR l).1=0 then 43 else 0
def errC (T:Int) (l:List Int):Int:=if (checkR l).2≠0 then (checkR l).2 else if T<0∨1000000000000000<T then 42 else 0
theorem checkL_some:∀ (l:List Int) (a b:Int),checkL l a=some b→∃ ws:List Nat,l=ws.map Int.ofNat∧(∀ x∈ws,x≤1000000000000000)∧b=a+(sumL ws:Nat):=by
 intro l
 induction l with
 | nil=>intro a b h;exact ⟨[],rfl,by simp,by simp [checkL] at h;simp [sumL,h]⟩
 | cons x l ih =>
  intro a b h
  unfold checkL at h
  by_cases hx:x<0∨1000000000000000<x
  ·rw [if_pos hx] at h;cases h
  ·rw [if_neg hx] at h
   obtain ⟨ws,rfl,h2,h3⟩:=ih _ _ h
   refine ⟨x.toNat::ws,?_,?_,?_⟩
   ·rw [List.map_cons];congr 1;show x=((x.toNat:Nat):Int);omega
   ·intro y hy
    rcases List.mem_cons.1 hy with rfl|hy
    ·omega
    ·exact h2 y hy
   ·simp only [sumL];omega
theorem checkR_ok {l:List Int} (h:(checkR l).2=0):∃ ws:List Nat,l=ws.map Int.ofNat∧(∀ x∈ws,x≤1000000000000000)∧(checkR l).1=(sumL ws:Nat)∧1≤l.length∧l.length≤512:=by
 unfold checkR at h ⊢
 by_cases hn:l.length=0∨512<l.length
 ·rw [if_pos hn] at h;cases h
 ·rw [if_neg hn] at h ⊢
  cases hc:checkL l 0 with
  | none=>rw [hc] at h;cases h
  | some b =>
   obtain ⟨ws,h1,h2,h3⟩:=checkL_some l 0 b hc
   exact ⟨ws,h1,h2,by simp only;omega,by omega,by omega⟩
def CkP (l:List Int) (v:Value) (w:World):Prop:=Calls Try.prog 25 #[v] w fun e w'=>e=.returned (.tuple #[.int .i64 (checkR l).1,.int .i64 (checkR l).2])∧w=w'
def Ck4P (l:List Int) (v:Value) (w:World):Prop:=Calls Try.prog 29 #[v] w fun e w'=>e=.returned (.tuple #[.int .i64 (checkR l).1,.int .i64 (checkR l).2])∧w=w'
theorem check_zero (a:Option Addr) (cap:Nat) (w:World):CkP [] (.slice a 0 cap) w:=by
 unfold CkP
 have HE:=hid (show checkR []=(0,40) from rfl)
 go_enter Try.func25,Try.ntmps25
 go_wp2
 go_ret2
 rw [HE.out];exact ⟨rfl,rfl⟩
theorem check4_zero (a:Option Addr) (cap:Nat) (w:World):Ck4P [] (.slice a 0 cap) w:=by
 unfold Ck4P
 have HE:=hid (show checkR []=(0,40) from rfl)
 go_enter Try.func29,Try.ntmps29
 go_wp2
 go_ret2
 rw [HE.out];exact ⟨rfl,rfl⟩
theorem mirE_any (T:Int) (l:List Int) (v fv:Value) (w:World) (h:CkP l v w) (he:errS T l≠0) :
  Calls Try.prog 23 #[.int .i64 T,v,fv] w fun e w'=>e=.returned (.tuple #[.slice none 0 0,.int .i64 (errS T l)])∧w=w':=by
 have HCK:=hid h
 unfold CkP at HCK
 obtain ⟨c1,hc1⟩:∃ c1,c1=(checkR l).1:=⟨_,rfl⟩
 obtain ⟨c2,hc2⟩:∃ c2,c2=(checkR l).2:=⟨_,rfl⟩
 unfold errS at he ⊢
 rw [←hc1,←hc2] at HCK
 rw [←hc1,←hc2] at he ⊢
 clear h hc1 hc2
 by_cases h2:c2=0
 ·subst h2
  rw [if_neg (by simp)] at he ⊢
  by_cases hf:T < -1000000000000000∨1000000000000000<T
  ·rw [if_pos hf]
   clear he
   rcases hf with hf|hf
   ·go_enter Try.func23,Try.ntmps23
    go_wp2_with (go_at_call 25;refine HCK.out.mono ?_;rintro e w' ⟨rfl,rfl⟩)
    go_ret2
    exact ⟨rfl,rfl⟩
   ·have hf2:¬T < -1000000000000000:=by omega
    go_enter Try.func23,Try.ntmps23
    go_wp2_with (go_at_call 25;refine HCK.out.mono ?_;rintro e w' ⟨rfl,rfl⟩)
    go_ret2
    exact ⟨rfl,rfl⟩
  ·rw [if_neg hf] at he ⊢
   have h1:c1=0:=by
    by_cases h1:c1=0
    ·exact h1
    ·rw [if_neg h1] at he;exact absurd rfl he
   subst h1
   rw [if_pos rfl]
   have p1:¬T < -1000000000000000:=by omega
   have p2:¬1000000000000000<T:=by omega
   clear he hf
   go_enter Try.func23,Try.ntmps23
   go_wp2_with (go_at_call 25;refine HCK.out.mono ?_;rintro e w' ⟨rfl,rfl⟩)
   go_ret2
   exact ⟨rfl,rfl⟩
 ·rw [if_pos h2]
  have p1:(c2==0)=false:=beq_eq_false_iff_ne.2 h2
  have p2:decide (c2=0)=false:=decide_eq_false h2
  clear he
  go_enter Try.func23,Try.ntmps23
  go_wp2_with (go_at_call 25;refine HCK.out.mono ?_;rintro e w' ⟨rfl,rfl⟩)
  go_ret2
  exact ⟨rfl,rfl⟩
theorem splitE_any (T:Int) (l:List Int) (v:Value) (w:World) (h:CkP l v w) (he:errS T l≠0) :
  Calls Try.prog 10 #[.int .i64 T,v] w fun e w'=>e=.returned (.tuple #[.slice none 0 0,.int .i64 (errS T l)])∧w=w':=by
 have HM:=hid (fun fv=>mirE_any T l v fv w h he)
 obtain ⟨er,her⟩:∃ er,er=errS T l:=⟨_,rfl⟩
 rw [←her] at HM ⊢
 clear h he her
 go_enter Try.func10,Try.ntmps10
 go_wp2_with fail
 refine (HM.out _).mono ?_
 rintro e w' ⟨rfl,rfl⟩
 go_wp2
 go_ret2
 exact ⟨rfl,rfl⟩
theorem spreadE_any (T:Int) (l:List Int) (v:Value) (w:World) (h:CkP l v w) (he:errS T l≠0) :
  Calls Try.prog 12 #[.int .i64 T,v] w fun e w'=>e=.returned (.tuple #[.slice none 0 0,.int .i64 (errS T l)])∧w=w':=by
 have HM:=hid (fun fv=>mirE_any T l v fv w h he)
 obtain ⟨er,her⟩:∃ er,er=errS T l:=⟨_,rfl⟩
 rw [←her] at HM ⊢
 clear h he her
 go_enter Try.func12,Try.ntmps12
 go_wp2_with fail
 refine (HM.out _).mono ?_
 rintro e w' ⟨rfl,rfl⟩
 go_wp2
 go_ret2
 exact ⟨rfl,rfl⟩
theorem capE_any (T:Int) (l:List Int) (v:Value) (w:World) (h:CkP l v w) (he:errC T l≠0) :
  Calls Try.prog 11 #[.int .i64 T,v] w fun e w'=>e=.returned (.tuple #[.slice none 0 0,.int .i64 (errC T l)])∧w=w':=by
 have HCK:=hid h
 unfold CkP at HCK
 obtain ⟨c1,hc1⟩:∃ c1,c1=(checkR l).1:=⟨_,rfl⟩
 obtain ⟨c2,hc2⟩:∃ c2,c2=(checkR l).2:=⟨_,rfl⟩
 unfold errC at he ⊢
 rw [←hc1,←hc2] at HCK
 rw [←hc2] at he ⊢
 clear h hc1 hc2
 by_cases h2:c2=0
 ·subst h2
  rw [if_neg (by simp)] at he ⊢
  have hf:T<0∨1000000000000000<T:=by
   by_cases hf:T<0∨1000000000000000<T
   ·exact hf
   ·rw [if_neg hf] at he;exact absurd rfl he
  rw [if_pos hf]
  clear he
  rcases hf with hf|hf
  ·go_enter Try.func11,Try.ntmps11
   go_wp2_with (go_at_call 25;refine HCK.out.mono ?_;rintro e w' ⟨rfl,rfl⟩)
   go_ret2
   exact ⟨rfl,rfl⟩
  ·have hf2:¬T<0:=by omega
   go_enter Try.func11,Try.ntmps11
   go_wp2_with (go_at_call 25;refine HCK.out.mono ?_;rintro e w' ⟨rfl,rfl⟩)
   go_ret2
   exact ⟨rfl,rfl⟩
 ·rw [if_pos h2]
  have p1:(c2==0)=false:=beq_eq_false_iff_ne.2 h2
  have p2:decide (c2=0)=false:=decide_eq_false h2
  clear he
  go_enter Try.func11,Try.ntmps11
  go_wp2_with (go_at_call 25;refine HCK.out.mono ?_;rintro e w' ⟨rfl,rfl⟩)
  go_ret2
  exact ⟨rfl,rfl⟩
theorem check4_any (l:List Int) (v:Value) (w:World) (h:Reads w 1 v l.length (l.map (Value.int .i64))) :
  Calls Try.prog 29 #[v] w fun e w'=>e=.returned (.tuple #[.int .i64 (checkR l).1,.int .i64 (checkR l).2])∧w=w':=by
 by_cases h0:l.length=0
 ·obtain ⟨a,cap,rfl⟩:=h.zero h0
  have HE:=hid (show checkR l=(0,40) by unfold checkR;rw [if_pos (.inl h0)])
  clear h
  go_enter Try.func29,Try.ntmps29
  go_wp2
  go_ret2
  rw [HE.out];exact ⟨rfl,rfl⟩
 ·obtain ⟨g,off,cap,rfl,hc⟩:=h.some h0
  have hmx:=h.2.1
  have h00:((l.length:Int)==0)=false:=beq_eq_false_iff_ne.2 (by omega)
  by_cases h1:512<l.length
  ·have h1':(512:Int)<l.length:=by omega
   have HE:=hid (show checkR l=(0,40) by unfold checkR;rw [if_pos (.inr h1)])
   clear h hc h0 h1
   go_enter Try.func29,Try.ntmps29
   go_wp2
   go_ret2
   rw [HE.out];exact ⟨rfl,rfl⟩
  ·have h1':¬(512:Int)<l.length:=by omega
   have HE:=hid (show checkR l=match checkL l 0 with|none=>(0,41)|some a=>(a,0) by unfold checkR;rw [if_neg (by omega)];cases checkL l 0<;>rfl)
   have HC:=hid hc
   have HL:=hid h1
   clear h hc h0 h1
   go_enter Try.func29,Try.ntmps29
   go_wp2
   go_loopg [4,5] l.length (fun n sv iv wr=>∃ (k:Nat) (s:Int),sv=.int .i64 s∧iv=.int .i64 k∧w=wr∧k≤l.length∧l.length - k≤n∧0≤s∧s≤1000000000000000*k∧checkL (l.drop k) s=checkL l 0)
   case atStart=>exact ⟨0,0,rfl,rfl,rfl,by omega,by omega,by omega,by omega,rfl⟩
   case round =>
    obtain ⟨k,s,rfl,rfl,rfl,hk,hm,hs0,hs1,hck⟩:=hrel
    have HK:=hid hck
    clear hck
    have hl512:=HL.out
    by_cases hlt:k<l.length
    ·obtain ⟨x,hx⟩:∃ x,l[k]?=some x:=⟨l[k],by simp [hlt]⟩
     have hcx:w.cell? ⟨g,off+k,none⟩=some (.int .i64 x):=HC.out k _ (by simp [hx])
     have HD:=hid (show l.drop k=x::l.drop (k+1) by
      rw [List.drop_eq_getElem_cons hlt];congr 1
      rw [List.getElem?_eq_getElem hlt] at hx;exact Option.some.inj hx)
     clear hx
     by_cases p1:x<0
     ·have HF:=hid (show checkR l=(0,41) by rw [HE.out,←HK.out,HD.out,checkL,if_pos (.inl p1)])
      go_wp2
      go_ret2
      rw [HF.out];exact ⟨rfl,rfl⟩
     ·by_cases p2:1000000000000000<x
      ·have HF:=hid (show checkR l=(0,41) by rw [HE.out,←HK.out,HD.out,checkL,if_pos (.inr p2)])
       go_wp2
       go_ret2
       rw [HF.out];exact ⟨rfl,rfl⟩
      ·have HF:=hid (show checkL (l.drop (k+1)) (s+x)=checkL l 0 by rw [←HK.out,HD.out,checkL,if_neg (by omega)])
       have w1:IntKind.i64.wrap (s+x)=s+x:=IntWalk.i64_in _ (by omega)
       go_wp2
       go_roundg (gk - 1)
       case measure=>omega
       case rel=>exact ⟨k+1,s+x,by go_num,by go_num,rfl,by omega,by omega,by omega,by omega,HF.out⟩
    ·have HF:=hid (show checkR l=(s,0) by
      have:=HK.out
      rw [List.drop_eq_nil_of_le (by omega),checkL] at this
      rw [HE.out,←this])
     go_wp2
     go_ret2
     rw [HF.out];exact ⟨rfl,rfl⟩
theorem far_any (t:Int) (w:World):Calls Try.prog 30 #[.int .i64 t] w fun e w'=>e=.returned (.bool (decide (t < -1000000000000000∨1000000000000000<t)))∧w=w':=by
 by_cases h1:1000000000000000<t
 ·have hd:decide (t < -1000000000000000∨1000000000000000<t)=true:=decide_eq_true (.inr h1)
  rw [hd]
  clear hd
  go_enter Try.func30,Try.ntmps30
  go_wp2
  go_ret
  exact ⟨rfl,rfl⟩
 ·by_cases h2:t < -1000000000000000
  ·have hd:decide (t < -1000000000000000∨1000000000000000<t)=true:=decide_eq_true (.inl h2)
   rw [hd]
   clear hd
   go_enter Try.func30,Try.ntmps30
   go_wp2
   go_ret
   exact ⟨rfl,rfl⟩
  ·have hd:decide (t < -1000000000000000∨1000000000000000<t)=false:=decide_eq_false (by omega)
   rw [hd]
   clear hd
   go_enter Try.func30,Try.ntmps30
   go_wp2
   go_ret
   exact ⟨rfl,rfl⟩
theorem split4E_any (T:Int) (l:List Int) (v:Value) (w:World) (h:Ck4P l v w) (he:errS T l≠0) :
  Calls Try.prog 14 #[.int .i64 T,v] w fun e w'=>e=.returned (.tuple #[.slice none 0 0,.int .i64 (errS T l)])∧w=w':=by
 have HCK:=hid h
 unfold Ck4P at HCK
 have HFA:=hid (fun W=>far_any T W)
 obtain ⟨c1,hc1⟩:∃ c1,c1=(checkR l).1:=⟨_,rfl⟩
 obtain ⟨c2,hc2⟩:∃ c2,c2=(checkR l).2:=⟨_,rfl⟩
 unfold errS at he ⊢
 rw [←hc1,←hc2] at HCK
 rw [←hc1,←hc2] at he ⊢
 clear h hc1 hc2
 by_cases h2:c2=0
 ·subst h2
  rw [if_neg (by simp)] at he ⊢
  by_cases hf:T < -1000000000000000∨1000000000000000<T
  ·rw [if_pos hf]
   rw [decide_eq_true hf] at HFA
   clear he hf
   go_enter Try.func14,Try.ntmps14
   go_wp2_with fail
   refine HCK.out.mono ?_
   rintro e w' ⟨rfl,rfl⟩
   go_wp2_with fail
   refine (HFA.out _).mono ?_
   rintro e w' ⟨rfl,rfl⟩
   go_wp2
   go_ret2
   exact ⟨rfl,rfl⟩
  ·rw [if_neg hf] at he ⊢
   rw [decide_eq_false hf] at HFA
   have h1:c1=0:=by
    by_cases h1:c1=0
    ·exact h1
    ·rw [if_neg h1] at he;exact absurd rfl he
   subst h1
   rw [if_pos rfl]
   clear he hf
   go_enter Try.func14,Try.ntmps14
   go_wp2_with fail
   refine HCK.out.mono ?_
   rintro e w' ⟨rfl,rfl⟩
   go_wp2_with fail
   refine (HFA.out _).mono ?_
   rintro e w' ⟨rfl,rfl⟩
   go_wp2
   go_ret2
   exact ⟨rfl,rfl⟩
 ·rw [if_pos h2]
  have p1:(c2==0)=false:=beq_eq_false_iff_ne.2 h2
  have p2:decide (c2=0)=false:=decide_eq_false h2
  clear he
  go_enter Try.func14,Try.ntmps14
  go_wp2_with fail
  refine HCK.out.mono ?_
  rintro e w' ⟨rfl,rfl⟩
  go_wp2
  go_ret2
  exact ⟨rfl,rfl⟩
theorem spread4E_any (T:Int) (l:List Int) (v:Value) (w:World) (h:Ck4P l v w) (he:errS T l≠0) :
  Calls Try.prog 16 #[.int .i64 T,v] w fun e w'=>e=.returned (.tuple #[.slice none 0 0,.int .i64 (errS T l)])∧w=w':=by
 have HCK:=hid h
 unfold Ck4P at HCK
 have HFA:=hid (fun W=>far_any T W)
 obtain ⟨c1,hc1⟩:∃ c1,c1=(checkR l).1:=⟨_,rfl⟩
 obtain ⟨c2,hc2⟩:∃ c2,c2=(checkR l).2:=⟨_,rfl⟩
 unfold errS at he ⊢
 rw [←hc1,←hc2] at HCK
 rw [←hc1,←hc2] at he ⊢
 clear h hc1 hc2
 by_cases h2:c2=0
 ·subst h2
  rw [if_neg (by simp)] at he ⊢
  by_cases hf:T < -1000000000000000∨1000000000000000<T
  ·rw [if_pos hf]
   rw [decide_eq_true hf] at HFA
   clear he hf
   go_enter Try.func16,Try.ntmps16
   go_wp2_with fail
   refine HCK.out.mono ?_
   rintro e w' ⟨rfl,rfl⟩
   go_wp2_with fail
   refine (HFA.out _).mono ?_
   rintro e w' ⟨rfl,rfl⟩
   go_wp2
   go_ret2
   exact ⟨rfl,rfl⟩
  ·rw [if_neg hf] at he ⊢
   rw [decide_eq_false hf] at HFA
   have h1:c1=0:=by
    by_cases h1:c1=0
    ·exact h1
    ·rw [if_neg h1] at he;exact absurd rfl he
   subst h1
   rw [if_pos rfl]
   clear he hf
   go_enter Try.func16,Try.ntmps16
   go_wp2_with fail
   refine HCK.out.mono ?_
   rintro e w' ⟨rfl,rfl⟩
   go_wp2_with fail
   refine (HFA.out _).mono ?_
   rintro e w' ⟨rfl,rfl⟩
   go_wp2
   go_ret2
   exact ⟨rfl,rfl⟩
 ·rw [if_pos h2]
  have p1:(c2==0)=false:=beq_eq_false_iff_ne.2 h2
  have p2:decide (c2=0)=false:=decide_eq_false h2
  clear he
  go_enter Try.func16,Try.ntmps16
  go_wp2_with fail
  refine HCK.out.mono ?_
  rintro e w' ⟨rfl,rfl⟩
  go_wp2
  go_ret2
  exact ⟨rfl,rfl⟩
theorem cap4E_any (T:Int) (l:List Int) (v:Value) (w:World) (h:Ck4P l v w) (he:errC T l≠0) :
  Calls Try.prog 15 #[.int .i64 T,v] w fun e w'=>e=.returned (.tuple #[.slice none 0 0,.int .i64 (errC T l)])∧w=w':=by
 have HCK:=hid h
 unfold Ck4P at HCK
 have HFA:=hid (fun W=>far_any T W)
 obtain ⟨c1,hc1⟩:∃ c1,c1=(checkR l).1:=⟨_,rfl⟩
 obtain ⟨c2,hc2⟩:∃ c2,c2=(checkR l).2:=⟨_,rfl⟩
 unfold errC at he ⊢
 rw [←hc1,←hc2] at HCK
 rw [←hc2] at he ⊢
 clear h hc1 hc2
 by_cases h2:c2=0
 ·subst h2
  rw [if_neg (by simp)] at he ⊢
  have hf:T<0∨1000000000000000<T:=by
   by_cases hf:T<0∨1000000000000000<T
   ·exact hf
   ·rw [if_neg hf] at he;exact absurd rfl he
  rw [if_pos hf]
  clear he
  by_cases h0:T<0
  ·clear hf
   go_enter Try.func15,Try.ntmps15
   go_wp2_with fail
   refine HCK.out.mono ?_
   rintro e w' ⟨rfl,rfl⟩
   go_wp2
   go_ret2
   exact ⟨rfl,rfl⟩
  ·rw [decide_eq_true (show T < -1000000000000000∨1000000000000000<T by omega)] at HFA
   clear hf
   go_enter Try.func15,Try.ntmps15
   go_wp2_with fail
   refine HCK.out.mono ?_
   rintro e w' ⟨rfl,rfl⟩
   go_wp2_with fail
   refine (HFA.out _).mono ?_
   rintro e w' ⟨rfl,rfl⟩
   go_wp2
   go_ret2
   exact ⟨rfl,rfl⟩
 ·rw [if_pos h2]
  have p1:(c2==0)=false:=beq_eq_false_iff_ne.2 h2
  have p2:decide (c2=0)=false:=decide_eq_false h2
  clear he
  go_enter Try.func15,Try.ntmps15
  go_wp2_with fail
  refine HCK.out.mono ?_
  rintro e w' ⟨rfl,rfl⟩
  go_wp2
  go_ret2
  exact ⟨rfl,rfl⟩
theorem cap4_zero (T n:Nat) (ws:List Nat) (v:Value) (w:World) (h:Valid w v n ws) (h0:sumL ws=0) (hT:T≤1000000000000000) :
  Calls Try.prog 15 #[.int .i64 T,v] w (OutR n (List.replicate n 0) w):=by
 obtain ⟨gv,off,cap,rfl,hc⟩:=h.reads.some (by have:=h.pos;omega)
 have HCK:=hid (check4_ok n ws (.slice (some ⟨gv,off,none⟩) n cap) w h)
 rw [h0] at HCK
 have hsm:=h.small
 have hpo:=h.pos
 have HFA:=hid (fun W=>far_ok (T:Int) W (by omega) (by omega))
 have q1:¬(T:Int)<0:=by omega
 have hmk:=run_make_row' (P:=Try.prog) 22 3 (.int .i64 0) 8 Try.underlying22 Try.info3 rfl .i64 .i64 n (by omega) (by omega)
 clear h h0 hc
 go_enter Try.func15,Try.ntmps15
 go_wp2_with fail
 refine HCK.out.mono ?_
 rintro e w' ⟨rfl,rfl⟩
 go_wp2_with fail
 refine (HFA.out _).mono ?_
 rintro e w' ⟨rfl,rfl⟩
 go_wp2
 go_ret2
 exact ⟨w.heap.size,Nat.le_refl _,by simp,rfl,row_made _ _ _ _ rfl,(Below.refl _ w).alloc (Nat.le_refl _) _⟩
end Go.Proofs.Ytnkmhbiklffjlaa
set_option maxHeartbeats 8000000
namespace Go.Proofs.Ytnkmhbiklffjlaa
open Go.RowKit Ap
open Lib (hid)
def BothR (f4:FuncId) (T:Int) (v:Value) (Q:World→Prop) (w:World) (e:Ending) (w':World):Prop :=
 ∃ (va:Value) (ex:Int) (nc:Nat) (lc:List Int),e=.returned (.tuple #[va,.int .i64 ex])∧Reads w' 1 va nc (lc.map (Value.int .i64))∧nc≤1000000∧Below w.heap.size w w' ∧
  ∀ W,Q W→Calls Try.prog f4 #[.int .i64 T,v] W fun e w'=>∃ vb,e=.returned (.tuple #[vb,.int .i64 ex])∧Reads w' 1 vb nc (lc.map (Value.int .i64))∧Below W.heap.size W w'
theorem reads_nil (W:World):Reads W 1 (.slice none 0 0) 0 (([]:List Int).map (Value.int .i64)):=⟨rfl,by omega,.inl ⟨rfl,rfl⟩⟩
theorem both_err {f f4:FuncId} {T:Int} {v:Value} {Q:World→Prop} {w:World} {er:Int} (h1:Calls Try.prog f #[.int .i64 T,v] w fun e w'=>e=.returned (.tuple #[.slice none 0 0,.int .i64 er])∧w=w')
  (h2:∀ W,Q W→Calls Try.prog f4 #[.int .i64 T,v] W fun e w'=>e=.returned (.tuple #[.slice none 0 0,.int .i64 er])∧W=w'):Calls Try.prog f #[.int .i64 T,v] w (BothR f4 T v Q w):=by
 refine h1.mono ?_
 rintro e w' ⟨rfl,rfl⟩
 refine ⟨_,er,0,[],rfl,reads_nil _,by omega,Below.refl _ _,fun W hW=>?_⟩
 refine (h2 W hW).mono ?_
 rintro e w2 ⟨rfl,rfl⟩
 exact ⟨_,rfl,reads_nil _,Below.refl _ _⟩
theorem both_good {f f4:FuncId} {T:Int} {v:Value} {n:Nat} {ws:List Nat} {w:World} (hv:∀ W,Reads W 1 v n (cellsN ws)→Valid W v n ws) (h1:Calls Try.prog f #[.int .i64 T,v] w (Both f4 T v n ws w)):Calls Try.prog f #[.int .i64 T,v] w (BothR f4 T v (fun W=>Reads W 1 v n (cellsN ws)) w):=by
 refine h1.mono ?_
 rintro e w' ⟨va,ex,nc,lc,he,hr,hn,hb,h4⟩
 exact ⟨va,ex,nc,lc,he,hr,hn,hb,fun W hW=>h4 W (hv W hW)⟩
theorem exact_law (T:Int) (n:Nat) (a:Option Addr) (cap:Nat) (Q:World→Prop) (hQ:∀ W W',Q W→Below W.heap.size W W'→Q W') (w:World) (h:Q w) (h2:n≤512)
  (HS0:∀ W,Q W→Calls Try.prog 10 #[.int .i64 T,.slice a n cap] W (BothR 14 T (.slice a n cap) Q W))
  (HC0:∀ W,Q W→Calls Try.prog 11 #[.int .i64 T,.slice a n cap] W (BothR 15 T (.slice a n cap) Q W))
  (HP0:∀ W,Q W→Calls Try.prog 12 #[.int .i64 T,.slice a n cap] W (BothR 16 T (.slice a n cap) Q W)) :
  Calls Try.prog 3 #[.int .i64 T,.slice a n cap] w fun e w'=>e=.returned (.bool true)∧Below w.heap.size w w':=by
 have hn512:¬(512:Int)<(n:Int):=by omega
 have HS:=hid HS0
 have HC:=hid HC0
 have HP:=hid HP0
 have HV:=hid h
 clear h HS0 HC0 HP0 h2
 go_enter Try.func3,Try.ntmps3
 go_wp2_with fail
 refine (HS.out _ HV.out).mono ?_
 rintro e w1 ⟨va,ea,na,la,rfl,ra,hna,hb1,H4⟩
 have HA:=hid (And.intro ra (And.intro hna H4))
 have HV1:=hid (hQ _ _ HV.out hb1)
 have HB:=hid hb1
 clear ra hna H4 hb1
 go_wp2_with fail
 refine (HA.out.2.2 _ HV1.out).mono ?_
 rintro e w2 ⟨vb,rfl,rb,hb2⟩
 have HRA:=hid (And.intro (HA.out.1.below hb2) rb)
 have HV2:=hid (hQ _ _ HV1.out hb2)
 replace HB:=hid (HB.out.trans (hb2.mono HB.out.size))
 clear rb hb2
 go_wp2_with fail
 refine (HC.out _ HV2.out).mono ?_
 rintro e w3 ⟨vc,ec,nc,lc,rfl,rc,hnc,hb3,H4⟩
 have HCC:=hid (And.intro rc (And.intro hnc H4))
 have HV3:=hid (hQ _ _ HV2.out hb3)
 replace HRA:=hid (And.intro (HRA.out.1.below hb3) (HRA.out.2.below hb3))
 replace HB:=hid (HB.out.trans (hb3.mono HB.out.size))
 clear rc hnc H4 hb3
 go_wp2_with fail
 refine (HCC.out.2.2 _ HV3.out).mono ?_
 rintro e w4 ⟨vd,rfl,rd,hb4⟩
 have HRC:=hid (And.intro (HCC.out.1.below hb4) rd)
 have HV4:=hid (hQ _ _ HV3.out hb4)
 replace HRA:=hid (And.intro (HRA.out.1.below hb4) (HRA.out.2.below hb4))
 replace HB:=hid (HB.out.trans (hb4.mono HB.out.size))
 clear rd hb4
 go_wp2_with fail
 refine (HP.out _ HV4.out).mono ?_
 rintro e w5 ⟨vx,ex,nx,lx,rfl,rx,hnx,hb5,H4⟩
 have HX:=hid (And.intro rx (And.intro hnx H4))
 have HV5:=hid (hQ _ _ HV4.out hb5)
 replace HRA:=hid (And.intro (HRA.out.1.below hb5) (HRA.out.2.below hb5))
 replace HRC:=hid (And.intro (HRC.out.1.below hb5) (HRC.out.2.below hb5))
 replace HB:=hid (HB.out.trans (hb5.mono HB.out.size))
 clear rx hnx H4 hb5
 go_wp2_with fail
 refine (HX.out.2.2 _ HV5.out).mono ?_
 rintro e w6 ⟨vy,rfl,ry,hb6⟩
 have HRX:=hid (And.intro (HX.out.1.below hb6) ry)
 replace HRA:=hid (And.intro (HRA.out.1.below hb6) (HRA.out.2.below hb6))
 replace HRC:=hid (And.intro (HRC.out.1.below hb6) (HRC.out.2.below hb6))
 replace HB:=hid (HB.out.trans (hb6.mono HB.out.size))
 clear ry hb6
 go_wp2_with fail
 refine (known_any _).mono ?_
 rintro e w7 ⟨rfl,hb7⟩
 replace HRA:=hid (And.intro (HRA.out.1.below hb7) (HRA.out.2.below hb7))
 replace HRC:=hid (And.intro (HRC.out.1.below hb7) (HRC.out.2.below hb7))
 replace HRX:=hid (And.intro (HRX.out.1.below hb7) (HRX.out.2.below hb7))
 replace HB:=hid (HB.out.trans (hb7.mono HB.out.size))
 clear hb7
 go_wp2_with fail
 refine (sameints_eq na la va vb _ HRA.out.1 HRA.out.2 HA.out.2.1).mono ?_
 rintro e w8 ⟨rfl,q1,rfl⟩
 have hd1:=below_drewN (Below.refl w7.heap.size w7) q1
 replace HRC:=hid (And.intro (HRC.out.1.below hd1) (HRC.out.2.below hd1))
 replace HRX:=hid (And.intro (HRX.out.1.below hd1) (HRX.out.2.below hd1))
 replace HB:=hid (HB.out.trans (hd1.mono HB.out.size))
 clear hd1
 obtain ⟨w8,hw8⟩:∃ x,x=w7.drewN q1:=⟨_,rfl⟩
 rw [←hw8] at HRC HRX HB ⊢
 clear hw8
 go_wp2_with fail
 refine (sameints_eq nc lc vc vd _ HRC.out.1 HRC.out.2 HCC.out.2.1).mono ?_
 rintro e w9 ⟨rfl,q2,rfl⟩
 have hd1:=below_drewN (Below.refl w8.heap.size w8) q2
 replace HRX:=hid (And.intro (HRX.out.1.below hd1) (HRX.out.2.below hd1))
 replace HB:=hid (HB.out.trans (hd1.mono HB.out.size))
 clear hd1
 obtain ⟨w9,hw9⟩:∃ x,x=w8.drewN q2:=⟨_,rfl⟩
 rw [←hw9] at HRX HB ⊢
 clear hw9
 go_wp2_with fail
 refine (sameints_eq nx lx vx vy _ HRX.out.1 HRX.out.2 HX.out.2.1).mono ?_
 rintro e w10 ⟨rfl,q3,rfl⟩
 go_wp2
 go_ret
 exact ⟨rfl,below_drewN HB.out q3⟩
theorem exact_big (T:Int) (l:List Int) (a:Option Addr) (cap:Nat) (w:World) (h:Reads w 1 (.slice a l.length cap) l.length (l.map (Value.int .i64))) (h2:512<l.length) :
  Calls Try.prog 3 #[.int .i64 T,.slice a l.length cap] w fun e w'=>e=.returned (.bool true)∧Below w.heap.size w w':=by
 have hc:checkR l=(0,40):=by unfold checkR;rw [if_pos (.inr h2)]
 have e1:errS T l=40:=by unfold errS;rw [hc,if_pos (by simp)]
 have e2:errC T l=40:=by unfold errC;rw [hc,if_pos (by simp)]
 have HS:=hid (splitE_any T l _ w (check_any l _ w h) (by rw [e1];decide))
 have HP:=hid (spreadE_any T l _ w (check_any l _ w h) (by rw [e1];decide))
 have HC:=hid (capE_any T l _ w (check_any l _ w h) (by rw [e2];decide))
 rw [e1] at HS HP
 rw [e2] at HC
 obtain ⟨n,hn⟩:∃ n,n=l.length:=⟨_,rfl⟩
 rw [←hn] at HS HP HC h2 ⊢
 have hn512:(512:Int)<(n:Int):=by omega
 clear h hc e1 e2 hn h2
 go_enter Try.func3,Try.ntmps3
 go_wp2_with fail
 refine HS.out.mono ?_
 rintro e w1 ⟨rfl,rfl⟩
 go_wp2_with fail
 refine HC.out.mono ?_
 rintro e w1 ⟨rfl,rfl⟩
 go_wp2_with fail
 refine HP.out.mono ?_
 rintro e w1 ⟨rfl,rfl⟩
 go_wp2_with fail
 refine (known_any _).mono ?_
 rintro e w7 ⟨rfl,hb7⟩
 have HB:=hid hb7
 clear hb7
 go_wp2
 go_ret
 exact ⟨rfl,HB.out⟩
theorem cells_nat (ws:List Nat):(ws.map Int.ofNat).map (Value.int .i64)=cellsN ws:=by rw [List.map_map];rfl
theorem sum_zero {ws:List Nat} (h:sumL ws=0):ws=List.replicate ws.length 0:=by
 refine List.eq_replicate_iff.2 ⟨rfl,fun x hx=>?_⟩
 have:=sumL_mem hx
 omega
theorem exact_any (T:Int) (l:List Int) (a:Option Addr) (cap:Nat) (w:World) (h:Reads w 1 (.slice a l.length cap) l.length (l.map (Value.int .i64))) :
  Calls Try.prog 3 #[.int .i64 T,.slice a l.length cap] w fun e w'=>e=.returned (.bool true)∧Below w.heap.size w w':=by
 by_cases hbig:512<l.length
 ·exact exact_big T l a cap w h hbig
 ·refine exact_law T l.length a cap (fun W=>Reads W 1 (.slice a l.length cap) l.length (l.map (Value.int .i64))) (fun W W' h hb=>h.below hb) w h (by omega) (fun W hW=>?_) (fun W hW=>?_) (fun W hW=>?_)
  ·by_cases he:errS T l=0
   ·unfold errS at he
    by_cases h2:(checkR l).2=0
    ·rw [if_neg (by simp [h2])] at he
     by_cases hf:T < -1000000000000000∨1000000000000000<T
     ·rw [if_pos hf] at he;cases he
     ·rw [if_neg hf] at he
      obtain ⟨ws,rfl,ha,hs,hl1,hl2⟩:=checkR_ok h2
      rw [hs] at he
      have hpos:0<sumL ws:=by
       rcases Nat.eq_zero_or_pos (sumL ws) with h0|h0
       ·rw [h0] at he;exact absurd he (by decide)
       ·exact h0
      simp only [cells_nat] at hW ⊢
      have hv:∀ W,Reads W 1 (.slice a (ws.map Int.ofNat).length cap) (ws.map Int.ofNat).length (cellsN ws)→Valid W (.slice a (ws.map Int.ofNat).length cap) (ws.map Int.ofNat).length ws:=fun W hW=>⟨hW,by rw [List.length_map],hl1,hl2,ha⟩
      exact both_good hv (split_both T _ ws _ W (hv W hW) hpos (by omega) (by omega))
    ·rw [if_pos h2] at he;exact absurd he h2
   ·exact both_err (splitE_any T l _ W (check_any l _ W hW) he) (fun W hW=>split4E_any T l _ W (check4_any l _ W hW) he)
  ·by_cases he:errC T l=0
   ·unfold errC at he
    by_cases h2:(checkR l).2=0
    ·rw [if_neg (by simp [h2])] at he
     by_cases hf:T<0∨1000000000000000<T
     ·rw [if_pos hf] at he;cases he
     ·obtain ⟨ws,rfl,ha,hs,hl1,hl2⟩:=checkR_ok h2
      simp only [cells_nat] at hW ⊢
      have hv:∀ W,Reads W 1 (.slice a (ws.map Int.ofNat).length cap) (ws.map Int.ofNat).length (cellsN ws)→Valid W (.slice a (ws.map Int.ofNat).length cap) (ws.map Int.ofNat).length ws:=fun W hW=>⟨hW,by rw [List.length_map],hl1,hl2,ha⟩
      rcases Nat.eq_zero_or_pos (sumL ws) with h0|hpos
      ·obtain ⟨t,rfl⟩:=Int.eq_ofNat_of_zero_le (show 0≤T by omega)
       refine both_good hv ?_
       refine (cap_any t _ ws _ W (hv W hW) (by omega)).mono ?_
       rintro e w' ⟨va,p,rfl,hr,hb,hpl,hp⟩
       have hp2:p=ws:=by
        rcases hp with ⟨_,h⟩|⟨h,_⟩
        ·exact h
        ·omega
       subst hp2
       refine ⟨va,0,_,p.map Int.ofNat,rfl,reads_cellsZ hr,by omega,hb,fun W hW=>?_⟩
       refine (cap4_zero t _ p _ W hW h0 (by omega)).mono ?_
       rintro e w2 ⟨g2,_,_,rfl,hr2,hb2⟩
       refine ⟨_,rfl,reads_row ?_ (by simp) (by omega),hb2⟩
       have hz:=sum_zero h0
       rw [hz,List.map_replicate]
       rw [List.length_map] at hr2
       exact hr2
      ·exact both_good hv (cap_both T _ ws _ W (hv W hW) hpos (by omega) (by omega))
    ·rw [if_pos h2] at he;exact absurd he h2
   ·exact both_err (capE_any T l _ W (check_any l _ W hW) he) (fun W hW=>cap4E_any T l _ W (check4_any l _ W hW) he)
  ·by_cases he:errS T l=0
   ·unfold errS at he
    by_cases h2:(checkR l).2=0
    ·rw [if_neg (by simp [h2])] at he
     by_cases hf:T < -1000000000000000∨1000000000000000<T
     ·rw [if_pos hf] at he;cases he
     ·rw [if_neg hf] at he
      obtain ⟨ws,rfl,ha,hs,hl1,hl2⟩:=checkR_ok h2
      rw [hs] at he
      have hpos:0<sumL ws:=by
       rcases Nat.eq_zero_or_pos (sumL ws) with h0|h0
       ·rw [h0] at he;exact absurd he (by decide)
       ·exact h0
      simp only [cells_nat] at hW ⊢
      have hv:∀ W,Reads W 1 (.slice a (ws.map Int.ofNat).length cap) (ws.map Int.ofNat).length (cellsN ws)→Valid W (.slice a (ws.map Int.ofNat).length cap) (ws.map Int.ofNat).length ws:=fun W hW=>⟨hW,by rw [List.length_map],hl1,hl2,ha⟩
      exact both_good hv (spread_both T _ ws _ W (hv W hW) hpos (by omega) (by omega))
    ·rw [if_pos h2] at he;exact absurd he h2
   ·exact both_err (spreadE_any T l _ W (check_any l _ W hW) he) (fun W hW=>spread4E_any T l _ W (check4_any l _ W hW) he)
theorem exact_zero (T:Int) (a:Option Addr) (cap:Nat) (w:World) :
  Calls Try.prog 3 #[.int .i64 T,.slice a 0 cap] w fun e w'=>e=.returned (.bool true)∧Below w.heap.size w w':=by
 have e1:errS T []≠0:=by unfold errS;rw [show checkR []=(0,40) from rfl,if_pos (by simp)];decide
 have e2:errC T []≠0:=by unfold errC;rw [show checkR []=(0,40) from rfl,if_pos (by simp)];decide
 exact exact_law T 0 a cap (fun _=>True) (fun _ _ _ _=>trivial) w trivial (by omega)
  (fun W _=>both_err (splitE_any T [] _ W (check_zero a cap W) e1) (fun W _=>split4E_any T [] _ W (check4_zero a cap W) e1))
  (fun W _=>both_err (capE_any T [] _ W (check_zero a cap W) e2) (fun W _=>cap4E_any T [] _ W (check4_zero a cap W) e2))
  (fun W _=>both_err (spreadE_any T [] _ W (check_zero a cap W) e1) (fun W _=>spread4E_any T [] _ W (check4_zero a cap W) e1))
theorem exact_row (T:Int) (a:Option Addr) (len cap:Nat) (z:List Int) (w:World) (hr:IsRow .i64 w a len cap z) :
  Calls Try.prog 3 #[.int .i64 T,.slice a len cap] w fun e w'=>e=.returned (.bool true)∧Below w.heap.size w w':=by
 rcases Nat.eq_zero_or_pos len with hz0|hz
 ·subst hz0;exact exact_zero T a cap w
 have hl:(z.take len).length=len:=by
  rcases hr with ⟨_,h2,_,h4⟩|⟨x,_,h1,h2,h3,_⟩
  ·rw [h4,h2];rfl
  ·rw [List.length_take];omega
 have hR:Reads w 1 (.slice a (z.take len).length cap) (z.take len).length ((z.take len).map (Value.int .i64)):=by
  rw [hl]
  rcases hr with ⟨h1,h2,h3,h4⟩|⟨x,h0,h1,h2,h3,h4,h5⟩
  ·subst h1;subst h2;subst h3;subst h4
   exact ⟨rfl,by omega,.inl ⟨rfl,rfl⟩⟩
  ·subst h0
   obtain ⟨b,off,spot⟩:=x
   have h0:=h4 0 (by omega)
   have hspot:spot=none:=by simpa [Addr.add] using World.cell?_spot h0
   subst hspot
   refine ⟨by rw [List.length_map,hl,Nat.mul_one],by unfold maxLen at h2;omega,.inr ⟨b,off,cap,rfl,fun j u hu=>?_⟩⟩
   rw [List.getElem?_map] at hu
   cases hx:(z.take len)[j]? with
   | none=>rw [hx] at hu;simp at hu
   | some y =>
    rw [hx] at hu
    have hu2:u=.int .i64 y:=by simpa using hu.symm
    rw [hu2]
    obtain ⟨hj,hy⟩:=List.getElem?_eq_some_iff.1 hx
    rw [List.length_take] at hj
    have:=h4 j (by omega)
    rw [show (⟨b,off,none⟩:Addr).add j=⟨b,off+j,none⟩ from by unfold Addr.add;split<;>simp_all] at this
    rw [this]
    rw [List.getElem_take] at hy
    rw [←hy];simp [List.getD,show j<z.length by omega]
 have:=exact_any T (z.take len) a cap w hR
 rwa [hl] at this
end Go.Proofs.Ytnkmhbiklffjlaa
