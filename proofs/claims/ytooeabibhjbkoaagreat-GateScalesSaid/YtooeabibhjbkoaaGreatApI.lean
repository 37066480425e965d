import Derived.Test.YtooeabibhjbkoaaGreatApQ
import Derived.Test.YtooeabibhjbkoaaGreatQrB
import Derived.Test.YtooeabibhjbkoaaGreatToA
import Derived.Test.YtooeabibhjbkoaaGreatAlC
import Derived.Lib.Slices
set_option linter.unusedVariables false
set_option linter.unusedSimpArgs false
set_option maxRecDepth 100000
set_option maxHeartbeats 8000000
namespace Go.Proofs.YtooeabibhjbkoaaGreat
open Go.RowKit Big
open Lib (hid)
section
open Ap
theorem qkI (ws:List Nat) (k:Nat):sumL (ws.take k)≤sumL ws:=by
 conv=>rhs;rw [←List.take_append_drop k ws]
 rw [qfP];omega
end
theorem qoD {c:List Value} {n:Bool} {v:Nat} {z:Int} (hc:c=.bool n::lv 32 v) (hn:cs1 n v=n) (hv:v<9223372036854775808) (hz:z=zI n v) (W:World) :
  Calls Tryz.prog 75 #[.agg c.toArray] W fun e w'=>e=.returned (.tuple #[.int .i64 z,.bool true])∧Below W.heap.size W w':=by
 subst hc hz;exact qkF n v W hv hn
theorem qjC {v:Nat} (h:v<9223372036854775808):v<BB^32:=Nat.lt_of_lt_of_le (qfO (by omega)) (Nat.pow_le_pow_right qaN (by omega))
theorem qrT (t x s q r:Nat) (w:World) (ht:t<9223372036854775808) (hx:x<9223372036854775808) (hs:s<9223372036854775808) (hs0:s≠0) (hq:q<9223372036854775808) (hqe:q=t*x / s) (hre:r=t*x%s) :
  Calls Tryz.prog 106 #[.int .i64 (t:Int),.int .i64 (x:Int),.int .i64 (s:Int)] w fun e w'=>e=.returned (.tuple #[.int .i64 (q:Int),.int .i64 (r:Int)])∧Below w.heap.size w w':=by
 have hrs:r<s:=by rw [hre];exact Nat.mod_lt _ (by omega)
 have hp:t*x<BB^32:=by
  have h1:t*x<BB^2*BB^2:=Nat.mul_lt_mul'' (qfO (by omega)) (qfO (by omega))
  rw [←Nat.pow_add] at h1
  exact Nat.lt_of_lt_of_le h1 (Nat.pow_le_pow_right qaN (by omega))
 obtain ⟨ct,V_ct⟩:∃ c:List Value,Hid (c=.bool false::lv 32 t):=⟨_,hid rfl⟩
 obtain ⟨cx,V_cx⟩:∃ c:List Value,Hid (c=.bool false::lv 32 x):=⟨_,hid rfl⟩
 obtain ⟨cp,V_cp⟩:∃ c:List Value,Hid (c=.bool false::lv 32 (t*x)):=⟨_,hid rfl⟩
 obtain ⟨cs,V_cs⟩:∃ c:List Value,Hid (c=.bool false::lv 32 s):=⟨_,hid rfl⟩
 obtain ⟨cq,V_cq⟩:∃ c:List Value,Hid (c=.bool false::lv 32 q):=⟨_,hid rfl⟩
 obtain ⟨ce,V_ce⟩:∃ c:List Value,Hid (c=.bool false::lv 32 r):=⟨_,hid rfl⟩
 have HF1:=hid (qeC (z:=(t:Int)) V_ct.out (by symm;exact decide_eq_false (by omega)) (by omega) (by omega) (by omega))
 have HF2:=hid (qeC (z:=(x:Int)) V_cx.out (by symm;exact decide_eq_false (by omega)) (by omega) (by omega) (by omega))
 have HF3:=hid (qeC (z:=(s:Int)) V_cs.out (by symm;exact decide_eq_false (by omega)) (by omega) (by omega) (by omega))
 have HM:=hid (qsI V_ct.out V_cx.out V_cp.out rfl rfl (qjC ht) (qjC hx) hp)
 have HD:=hid (qdP (s:=false) V_cp.out V_cs.out V_cq.out V_ce.out rfl (by rw [if_neg (by simp)];exact hqe) (by rw [if_neg (by simp)];exact hre) hp (qjC hs) hs0)
 have HT:=hid (qoD (z:=(q:Int)) V_cq.out rfl hq rfl)
 have HT2:=hid (qoD (z:=(r:Int)) V_ce.out rfl (by omega) rfl)
 clear ht hx hs hs0 hq hqe hre hrs hp
 obtain ⟨B0,hB0⟩:∃ B,B=w.heap.size:=⟨_,rfl⟩
 have FR:=hid (show Fr B0 w w by rw [hB0];exact Fr.start w)
 have FR0:=hid FR.out.le
 have hZB0:B0≤B0:=Nat.le_refl _
 have HB0:=hid hB0
 go_enter Tryz.func106,Tryz.ntmps106
 go_upto_region 1 with fail
 clear hB0
 refine wfn [⟨true,8,8,9,0,0,25,23,cp,0,cp,[]⟩] [(18,.int .i64 (t:Int)),(19,.agg ct.toArray),(20,.int .i64 (x:Int)),(21,.agg cx.toArray),(22,.tuple #[.agg cp.toArray,.int .i64 0]),(17,.tuple #[.agg cp.toArray,.int .i64 0]),(23,.agg cp.toArray),(24,.int .i64 0),(9,.int .i64 0)] _ (by simp only [zz4,zz5,zq];rfl) (by kernel_rfl) (by kernel_rfl) rfl ?_ ?_ ?_ ?_
 ·intro W' hW'
  refine fxo ?_ ?_;(go_big_quiet_step (fail);(try simp only [zq]);exact wqn rfl)
  refine fxo ?_ ?_;(go_big_quiet_step ((go_at_call 76;exact qaA (HF1.out _)));(try simp only [zq]);exact wqn rfl)
  refine fxo ?_ ?_;(go_big_quiet_step (fail);(try simp only [zq]);exact wqn rfl)
  refine fxo ?_ ?_;(go_big_quiet_step ((go_at_call 76;exact qaA (HF2.out _)));(try simp only [zq]);exact wqn rfl)
  refine fxo ?_ ?_;(go_big_quiet_step ((go_at_call 120;exact qaA (HM.out _)));(try simp only [zq]);exact wqn rfl)
  iterate 3 (refine fxo ?_ ?_;(go_big_quiet_step (fail);(try simp only [zq]);exact wqn rfl))
  iterate 2 (refine fxs (by rfl) ?_)
  refine fxo ?_ ?_;(go_big_quiet_step (fail);(try simp only [zq]);exact wqn rfl)
  exact fxn
 ·exact oP _ _ (Tryz.alI (qI V_cp.out)) (oN)
 ·exact oP _ _ (stw rfl (qI V_cp.out) (qbL V_cp.out) (fun _=>rfl)) (oN)
 intro β wx1 E
 replace FR:=hid (FR.out.fnw E rfl)
 obtain ⟨b8,hb8⟩:∃ b,b=β 8:=⟨_,rfl⟩
 have eb8:=E.atNew mms rfl
 simp only at eb8
 rw [←hb8] at eb8
 have hZb8:B0≤b8:=by have h1:=eb8.1;have h2:=FR0.out;omega
 have Ab8:=hid eb8.2
 simp only [nP,zr,zq]
 rw [←hb8]
 replace FR0:=hid FR.out.le
 clear E eb8 hb8
 go_upto_region 2 with fail
 refine wfn [⟨true,8,10,10,0,0,25,30,cq,0,cq,[]⟩,⟨true,9,11,11,0,0,25,31,ce,0,ce,[]⟩] [(26,.agg cp.toArray),(27,.int .i64 (s:Int)),(28,.agg cs.toArray),(29,.tuple #[.agg cq.toArray,.agg ce.toArray,.int .i64 0]),(25,.tuple #[.agg cq.toArray,.agg ce.toArray,.int .i64 0]),(30,.agg cq.toArray),(31,.agg ce.toArray),(32,.int .i64 0),(12,.int .i64 0)] _ (by simp only [zz4,zz5,zq];rfl) (by kernel_rfl) (by kernel_rfl) rfl ?_ ?_ ?_ ?_
 ·intro W' hW'
  have rd0:=Ab8.out.below hW'
  refine fxo (wlg (by rfl) rfl rfl rd0 Tryz.underlying25 rfl (qI V_cp.out) (wqn (by simp only [zq]))) ?_
  refine fxo ?_ ?_;(go_big_quiet_step (fail);(try simp only [zq]);exact wqn rfl)
  refine fxo ?_ ?_;(go_big_quiet_step ((go_at_call 76;exact qaA (HF3.out _)));(try simp only [zq]);exact wqn rfl)
  refine fxo ?_ ?_;(go_big_quiet_step ((go_at_call 109;exact qaA (HD.out _)));(try simp only [zq]);exact wqn rfl)
  iterate 4 (refine fxo ?_ ?_;(go_big_quiet_step (fail);(try simp only [zq]);exact wqn rfl))
  iterate 4 (refine fxs (by rfl) ?_)
  refine fxo ?_ ?_;(go_big_quiet_step (fail);(try simp only [zq]);exact wqn rfl)
  exact fxn
 ·exact oP _ _ (Tryz.alI (qI V_cq.out)) (oP _ _ (Tryz.alI (qI V_ce.out)) (oN))
 ·exact oP _ _ (stw rfl (qI V_cq.out) (qbL V_cq.out) (fun _=>rfl)) (oP _ _ (stw rfl (qI V_ce.out) (qbL V_ce.out) (fun _=>rfl)) (oN))
 intro β wx2 E
 replace FR:=hid (FR.out.fnw E rfl)
 obtain ⟨b10,hb10⟩:∃ b,b=β 8:=⟨_,rfl⟩
 have eb10:=E.atNew mms rfl
 simp only at eb10
 rw [←hb10] at eb10
 have lb8_b10:b8<b10:=by have h1:=eb10.1;have h2:=Ab8.out.lt;omega
 have hZb10:B0≤b10:=by have h1:=eb10.1;have h2:=FR0.out;omega
 obtain ⟨b11,hb11⟩:∃ b,b=β 9:=⟨_,rfl⟩
 have eb11:=E.atNew (List.mem_cons_of_mem _ mms) rfl
 simp only at eb11
 rw [←hb11] at eb11
 have lb8_b11:b8<b11:=by have h1:=eb11.1;have h2:=Ab8.out.lt;omega
 have hZb11:B0≤b11:=by have h1:=eb11.1;have h2:=FR0.out;omega
 have nb10_b11:b10≠b11:=fun e=>absurd (E.apart _ mms _ (List.mem_cons_of_mem _ mms) rfl rfl (by rw [hb10,hb11] at e;exact e)) (show ¬(8:Nat)=9 by decide)
 replace Ab8:=hid (Ab8.out.fnw E rfl)
 have Ab10:=hid eb10.2
 have Ab11:=hid eb11.2
 simp only [nP,zr,zq]
 rw [←hb10]
 rw [←hb11]
 replace FR0:=hid FR.out.le
 clear E eb10 hb10 eb11 hb11
 go_upto_region 3 with fail
 refine wfn [] [(34,.agg cq.toArray),(35,.tuple #[.int .i64 (q:Int),.bool true]),(33,.tuple #[.int .i64 (q:Int),.bool true]),(36,.int .i64 (q:Int)),(37,.bool true),(13,.int .i64 (q:Int)),(14,.bool true)] _ (by simp only [zz4,zz5,zq];rfl) (by kernel_rfl) (by kernel_rfl) rfl ?_ ?_ ?_ ?_
 ·intro W' hW'
  have rd0:=Ab10.out.below hW'
  refine fxo (wlg (by rfl) rfl rfl rd0 Tryz.underlying25 rfl (qI V_cq.out) (wqn (by simp only [zq]))) ?_
  refine fxo ?_ ?_;(go_big_quiet_step ((go_at_call 75;exact qaA (HT.out _)));(try simp only [zq]);exact wqn rfl)
  iterate 5 (refine fxo ?_ ?_;(go_big_quiet_step (fail);(try simp only [zq]);exact wqn rfl))
  exact fxn
 ·exact oN
 ·exact oN
 intro β wx3 E
 replace FR:=hid (FR.out.fnw E rfl)
 replace Ab8:=hid (Ab8.out.fnw E rfl)
 replace Ab10:=hid (Ab10.out.fnw E rfl)
 replace Ab11:=hid (Ab11.out.fnw E rfl)
 have hE:=E.below rfl
 simp only [nP,zr,zq]
 replace FR0:=hid FR.out.le
 clear E
 go_upto_region 4 with fail
 refine wfn [] [(39,.agg ce.toArray),(40,.tuple #[.int .i64 (r:Int),.bool true]),(38,.tuple #[.int .i64 (r:Int),.bool true]),(41,.int .i64 (r:Int)),(42,.bool true),(15,.int .i64 (r:Int)),(16,.bool true)] _ (by simp only [zz4,zz5,zq];rfl) (by kernel_rfl) (by kernel_rfl) rfl ?_ ?_ ?_ ?_
 ·intro W' hW'
  have rd0:=Ab11.out.below hW'
  refine fxo (wlg (by rfl) rfl rfl rd0 Tryz.underlying25 rfl (qI V_ce.out) (wqn (by simp only [zq]))) ?_
  refine fxo ?_ ?_;(go_big_quiet_step ((go_at_call 75;exact qaA (HT2.out _)));(try simp only [zq]);exact wqn rfl)
  iterate 5 (refine fxo ?_ ?_;(go_big_quiet_step (fail);(try simp only [zq]);exact wqn rfl))
  exact fxn
 ·exact oN
 ·exact oN
 intro β wx4 E
 replace FR:=hid (FR.out.fnw E rfl)
 replace Ab8:=hid (Ab8.out.fnw E rfl)
 replace Ab10:=hid (Ab10.out.fnw E rfl)
 replace Ab11:=hid (Ab11.out.fnw E rfl)
 have hE:=E.below rfl
 simp only [nP,zr,zq]
 replace FR0:=hid FR.out.le
 clear E
 go_wp2
 refine bodyPost_ret (v:=.tuple #[.int .i64 (q:Int),.int .i64 (r:Int)]) (by simp [results,Tryz.results106]) rfl ?_
 exact ⟨rfl,fend HB0 FR⟩
section
open Ap
theorem Row.below {w w':World} {d off:Nat} {l:List Int} (h:Row w d off l) (hb:Below w.heap.size w w') (hd:d<w.heap.size):Row w' d off l :=
 ⟨fun k x hk=>qcU (h.1 k x hk) hb,fun o=>by rw [hb.frozen (by simpa using hd)];exact h.2 o⟩
def partJ (t:Nat) (ws o:List Nat) (j i:Nat):Nat:=quo t ws i+if i∈o.take j then 1 else 0
def restJ (t:Nat) (ws o:List Nat) (j i:Nat):Int:=if i∈o.take j then -1 else (Ap.rest t ws i:Int)
def partsJ (n t:Nat) (ws o:List Nat) (j:Nat):List Int:=(List.range n).map fun i=>(partJ t ws o j i:Int)
def restsJ (n t:Nat) (ws o:List Nat) (j:Nat):List Int:=(List.range n).map fun i=>restJ t ws o j i
theorem qeS {n t i:Nat} {ws o:List Nat} {j:Nat} (h:i<n):(partsJ n t ws o j)[i]?=some (partJ t ws o j i:Int):=by unfold partsJ;simp [h]
theorem qdI {n t i:Nat} {ws o:List Nat} {j:Nat} (h:i<n):(restsJ n t ws o j)[i]?=some (restJ t ws o j i):=by unfold restsJ;simp [h]
theorem qnG (n t:Nat) (ws o:List Nat):partsJ n t ws o 0=fillL n (quo t ws) n:=by
 unfold partsJ fillL
 apply List.map_congr_left
 intro i hi
 have:=List.mem_range.1 hi
 simp [partJ,this]
theorem qnD (n t:Nat) (ws o:List Nat):restsJ n t ws o 0=fillL n (Ap.rest t ws) n:=by
 unfold restsJ fillL
 apply List.map_congr_left
 intro i hi
 have:=List.mem_range.1 hi
 simp [restJ,this]
theorem qcM {o:List Nat} {j x i:Nat} (hx:o[j]?=some x):i∈o.take (j+1)↔i∈o.take j∨i=x:=by
 rw [List.take_add_one,hx];simp
theorem qhQ {o:List Nat} (hn:o.Nodup) {j x:Nat} (hx:o[j]?=some x):x∉o.take j:=by
 intro h
 obtain ⟨k,hk,he⟩:=List.getElem_of_mem h
 have hkj:k<j:=by simp at hk;omega
 have hj:=(List.getElem?_eq_some_iff.1 hx).1
 rw [List.getElem_take] at he
 have:=(List.getElem?_eq_some_iff.1 hx).2
 exact List.pairwise_iff_getElem.1 hn k j (by omega) hj hkj (by rw [he,this])
theorem qvI {t:Nat} {ws o:List Nat} (hn:o.Nodup) {j x:Nat} (hx:o[j]?=some x):partJ t ws o j x=quo t ws x:=by
 unfold partJ;rw [if_neg (qhQ hn hx)];rfl
theorem qqB {n t:Nat} {ws o:List Nat} (hn:o.Nodup) {j x:Nat} (hx:o[j]?=some x):(partsJ n t ws o j).set x ((quo t ws x:Int)+1)=partsJ n t ws o (j+1):=by
 apply List.ext_getElem?
 intro i
 by_cases hi:i<n
 ·rw [qeS hi]
  by_cases e:x=i
  ·subst e
   rw [List.getElem?_set_self (by unfold partsJ;simpa using hi)]
   unfold partJ;rw [if_pos ((qcM hx).2 (.inr rfl))];simp
  ·rw [List.getElem?_set_ne e,qeS hi]
   unfold partJ
   congr 3
   simp only [qcM hx,eq_iff_iff]
   by_cases h:i∈o.take j<;>simp [h];omega
 ·rw [List.getElem?_eq_none (by unfold partsJ;simp;omega),List.getElem?_eq_none (by unfold partsJ;simp;omega)]
theorem qpT {n t:Nat} {ws o:List Nat} {j x:Nat} (hx:o[j]?=some x):(restsJ n t ws o j).set x (-1)=restsJ n t ws o (j+1):=by
 apply List.ext_getElem?
 intro i
 by_cases hi:i<n
 ·rw [qdI hi]
  by_cases e:x=i
  ·subst e
   rw [List.getElem?_set_self (by unfold restsJ;simpa using hi)]
   unfold restJ;rw [if_pos ((qcM hx).2 (.inr rfl))]
  ·rw [List.getElem?_set_ne e,qdI hi]
   unfold restJ
   have:(i∈o.take (j+1))=(i∈o.take j):=by
    simp only [qcM hx,eq_iff_iff]
    exact ⟨fun h=>h.resolve_right (fun h=>e h.symm),.inl⟩
   simp only [this]
 ·rw [List.getElem?_eq_none (by unfold restsJ;simp;omega),List.getElem?_eq_none (by unfold restsJ;simp;omega)]
theorem jaC {n t:Nat} {ws o:List Nat} (hp:o.Perm (List.range n)) (ho:o.Pairwise (R (Ap.rest t ws))) {j x b:Nat} (hx:o[j]?=some x) (hb:b<n) (h1:∀ i,i<n→restJ t ws o j i≤restJ t ws o j b) (h2:∀ i,i<b→restJ t ws o j i<restJ t ws o j b):b=x:=by
 have hn:o.Nodup:=hp.nodup_iff.2 List.nodup_range
 have hxn:x<n:=List.mem_range.1 (hp.mem_iff.1 (List.mem_of_getElem? hx))
 have hxr:restJ t ws o j x=(Ap.rest t ws x:Int):=by unfold restJ;rw [if_neg (qhQ hn hx)]
 have hbt:b∉o.take j:=fun hc=>by
  have:=h1 x hxn
  rw [hxr] at this
  unfold restJ at this
  rw [if_pos hc] at this
  omega
 have hbr:restJ t ws o j b=(Ap.rest t ws b:Int):=by unfold restJ;rw [if_neg hbt]
 have hbo:b∈o:=hp.mem_iff.2 (List.mem_range.2 hb)
 obtain ⟨k,hk,hke⟩:=List.getElem_of_mem hbo
 have hj:=(List.getElem?_eq_some_iff.1 hx).1
 have hjx:=(List.getElem?_eq_some_iff.1 hx).2
 have hkj:j≤k:=by
  rcases Nat.lt_or_ge k j with h|h
  ·exact absurd (by rw [←hke];exact List.mem_take_iff_getElem.2 ⟨k,by omega,rfl⟩) hbt
  ·exact h
 rcases Nat.lt_or_ge j k with h|h
 ·have hR:=List.pairwise_iff_getElem.1 ho j k hj hk h
  rw [hjx,hke] at hR
  have e1:=h1 x hxn
  rw [hxr,hbr] at e1
  rcases hR with hR|⟨hR1,hR2⟩
  ·omega
  ·have:=h2 x hR2
   rw [hxr,hbr] at this
   omega
 ·have:j=k:=by omega
  subst this
  rw [←hke,hjx]
theorem qnH {n t:Nat} {ws o p:List Nat} (hl:p.length=n) (hv:∀ i,i<n→p.getD i 0=quo t ws i+if i∈o.take (miss t ws) then 1 else 0):partsJ n t ws o (miss t ws)=p.map Int.ofNat:=by
 apply List.ext_getElem?
 intro i
 by_cases hi:i<n
 ·rw [qeS hi,List.getElem?_map,List.getElem?_eq_getElem (by omega)]
  have:=hv i hi
  unfold partJ
  rw [←this]
  simp [List.getD,List.getElem?_eq_getElem (show i<p.length by omega)]
 ·rw [List.getElem?_eq_none (by unfold partsJ;simp;omega),List.getElem?_eq_none (by simp;omega)]
def Laid2 (w wx:World) (b7 bR:Nat) (l7 lR:List Int):Prop:=Row wx b7 0 l7∧Row wx bR 0 lR∧b7≠bR∧w.heap.size≤b7∧w.heap.size≤bR∧b7<wx.heap.size∧bR<wx.heap.size∧Below w.heap.size w wx
section
variable {w wx:World} {b7 bR:Nat} {l7 lR:List Int}
theorem Laid2.set7 (h:Laid2 w wx b7 bR l7 lR) (k:Nat) (x:Int):Laid2 w (wx.setCell ⟨b7,k,none⟩ (.int .i64 x)) b7 bR (l7.set k x) lR:=by
 obtain ⟨h1,h2,h3,h4,h5,h6,h7,h8⟩:=h
 exact ⟨h1.set0 k x,h2.setOther _ _ (by simpa using h3),h3,h4,h5,by simpa using h6,by simpa using h7,qeM h8 _ _ (by simpa using h4)⟩
theorem Laid2.setR (h:Laid2 w wx b7 bR l7 lR) (k:Nat) (x:Int):Laid2 w (wx.setCell ⟨bR,k,none⟩ (.int .i64 x)) b7 bR l7 (lR.set k x):=by
 obtain ⟨h1,h2,h3,h4,h5,h6,h7,h8⟩:=h
 exact ⟨h1.setOther _ _ (by simpa using Ne.symm h3),h2.set0 k x,h3,h4,h5,by simpa using h6,by simpa using h7,qeM h8 _ _ (by simpa using h5)⟩
theorem Laid2.below {wy:World} (h:Laid2 w wx b7 bR l7 lR) (hb:Below wx.heap.size wx wy):Laid2 w wy b7 bR l7 lR:=by
 obtain ⟨h1,h2,h3,h4,h5,h6,h7,h8⟩:=h
 exact ⟨h1.below hb h6,h2.below hb h7,h3,h4,h5,Nat.lt_of_lt_of_le h6 hb.size,Nat.lt_of_lt_of_le h7 hb.size,h8.trans (hb.mono h8.size)⟩
theorem Laid2.drewN (h:Laid2 w wx b7 bR l7 lR) (q:Nat):Laid2 w (wx.drewN q) b7 bR l7 lR:=h.below (below_drewN (Below.refl _ _) q)
end
theorem qnQ (t s n:Nat) (ws p:List Nat) (v:Value) (w:World) (hv:Reads w 1 v n (cellsN ws)) (hn:ws.length=n) (h0:1≤n) (hbig:n≤19) (hs:s=sumL ws) (hpos:0<s) (hs2:s≤4000000000000000000) (ht:t≤4000000000000000000) (hp:Parts t ws p) :
  Calls Tryz.prog 73 #[.int .i64 t,v,.int .i64 s] w fun e w'=>∃ g,w.heap.size≤g∧g<w'.heap.size∧e=.returned (.slice (some ⟨g,0,none⟩) n n)∧Row w' g 0 (p.map Int.ofNat)∧Below w.heap.size w w':=by
 obtain ⟨gv,off,cap,rfl,hc⟩:=hv.some (by omega)
 obtain ⟨o,hperm,hord,hpl,hpv⟩:=hp
 have hmk:=run_make_row' (P:=Tryz.prog) 30 3 (.int .i64 0) 8 Tryz.underlying30 Tryz.info3 rfl .i64 .i64 n (by omega) (by omega)
 have HC:=hid hc
 have HS:=hid (And.intro hs (And.intro hpos (And.intro hs2 ht)))
 have HN:=hid hn
 have HP:=hid (And.intro hperm (And.intro hord (And.intro hpl hpv)))
 clear hv hc hs hpos hs2 ht hn hperm hord hpl hpv
 obtain ⟨B0,hB0⟩:∃ B,B=w.heap.size:=⟨_,rfl⟩
 obtain ⟨B1,hB1⟩:∃ B,B=w.heap.size+1:=⟨_,rfl⟩
 obtain ⟨w0,hw0⟩:∃ w0,w0=(w.alloc (.cells (madeCells #[.int .i64 0] n) 3)).alloc (.cells (madeCells #[.int .i64 0] n) 3):=⟨_,rfl⟩
 have HL0:=hid (show Laid2 w w0 B0 B1 (List.replicate n 0) (List.replicate n 0) by
  rw [hw0]
  refine ⟨(qaX _ _ _ _ hB0).alloc _ (by rw [hB0];simp),qaX _ _ _ _ (by simp [hB1]),by omega,by omega,by omega,by simp;omega,by simp;omega,((Below.refl _ _).alloc (Nat.le_refl _) _).alloc (by simp) _⟩)
 go_enter Tryz.func73,Tryz.ntmps73
 go_wp2
 rw [←hw0,←hB1,←hB0]
 have HBE:=hid (And.intro hB0 hB1)
 clear hw0 hB0 hB1
 go_loopg [9,10] n (fun m mv kv wr=>∃ k:Nat,kv=.int .i64 k∧k≤n∧n≤m+k∧mv=.int .i64 ((t - sumL ((List.range k).map (quo t ws)):Nat):Int)∧Laid2 w wr B0 B1 (fillL n (quo t ws) k) (fillL n (Ap.rest t ws) k))
 case atStart=>exact ⟨0,rfl,by omega,by omega,by simp [sumL],by rw [qdO,qdO];exact HL0.out⟩
 case round =>
  obtain ⟨k,rfl,hk,hm,rfl,hlaid⟩:=hrel
  have HL:=hid hlaid
  clear hlaid
  by_cases hkn:k<n
  ·obtain ⟨x,hx⟩:∃ x,x=ws.getD k 0:=⟨_,rfl⟩
   have hxl:ws[k]?=some x:=by rw [hx];have:=HN.out;simp [List.getD,this,hkn]
   have hgv:gv<w.heap.size:=World.block_lt_of_cell? w _ (HC.out k (.int .i64 (x:Int)) (by simp [cellsN,hxl]))
   have hcx:wr.cell? ⟨gv,off+k,none⟩=some (.int .i64 (x:Int)):=by
    rw [HL.out.2.2.2.2.2.2.2.cell (p:=⟨gv,off+k,none⟩) hgv]
    exact HC.out k _ (by simp [cellsN,hxl])
   have hxs:x≤s:=by have:=HS.out.1;rw [this];exact qeP (List.mem_of_getElem? hxl)
   obtain ⟨qk,hqk⟩:∃ qk,qk=quo t ws k:=⟨_,rfl⟩
   obtain ⟨rk,hrk⟩:∃ rk,rk=Ap.rest t ws k:=⟨_,rfl⟩
   have eq1:qk=t*x / s:=by rw [hqk];unfold quo;rw [HS.out.1,hx]
   have eq2:rk=t*x%s:=by rw [hrk];unfold Ap.rest;rw [HS.out.1,hx]
   have hqt:qk≤t:=by rw [eq1];exact Nat.div_le_of_le_mul (by rw [Nat.mul_comm s];exact Nat.mul_le_mul_left _ hxs)
   have HSH:=hid (fun W=>qrT t x s qk rk W (by have:=HS.out;omega) (by have:=HS.out;omega) (by have:=HS.out;omega) (by have:=HS.out;omega) (by have:=HS.out;omega) eq1 eq2)
   have HQ:=hid (And.intro hqk (And.intro hrk hqt))
   clear hx hxl hgv hxs hqk hrk eq1 eq2 hqt
   go_wp2_with fail
   refine (HSH.out _).mono ?_
   rintro e w5 ⟨rfl,hb5⟩
   have HL5:=hid (HL.out.below hb5)
   have c7:w5.cell? ⟨B0,k,none⟩=some (.int .i64 0):=by have:=HL5.out.1.1 k 0 (by rw [qcV _ _ _ _ hkn];simp);simpa using this
   have cR:w5.cell? ⟨B1,k,none⟩=some (.int .i64 0):=by have:=HL5.out.2.1.1 k 0 (by rw [qcV _ _ _ _ hkn];simp);simpa using this
   have f7:=HL5.out.1.2
   have fR:=HL5.out.2.1.2
   have n7R:¬B0=B1:=HL5.out.2.2.1
   obtain ⟨M,hM⟩:∃ M,M=t - sumL ((List.range k).map (quo t ws)):=⟨_,rfl⟩
   obtain ⟨M2,hM2⟩:∃ M2,M2=t - sumL ((List.range (k+1)).map (quo t ws)):=⟨_,rfl⟩
   have hMM:M=M2+qk∧M≤4000000000000000000:=by
    have h1:=qdD (quo t ws) k
    have h2:=qgX (quo t ws) n (k+1) (by omega)
    have h3:=(qfH t ws (by have:=HS.out;omega)).1
    rw [HN.out] at h3
    have:=HQ.out.1
    have:=HS.out
    omega
   rw [←hM]
   have w1:IntKind.i64.wrap ((M:Int) - (qk:Int))=(M2:Int):=by rw [IntWalk.i64_in _ (by omega)];omega
   have HMM:=hid (And.intro hM2 hMM)
   have HNX:=hid (show Laid2 w ((w5.setCell ⟨B0,k,none⟩ (.int .i64 (qk:Int))).setCell ⟨B1,k,none⟩ (.int .i64 (rk:Int))) B0 B1 (fillL n (quo t ws) (k+1)) (fillL n (Ap.rest t ws) (k+1)) by
    have h:=(HL5.out.set7 k (qk:Int)).setR k (rk:Int)
    rw [HQ.out.1,HQ.out.2.1,qeK,qeK] at h
    rw [HQ.out.1,HQ.out.2.1]
    exact h)
   clear hb5 hcx hM hM2 hMM
   go_wp2
   go_roundg (gk - 1)
   case measure=>omega
   case rel=>exact ⟨k+1,by go_num,by omega,by omega,by rw [←HMM.out.1],HNX.out⟩
  ·have hk2:k=n:=by omega
   subst hk2
   obtain ⟨M,hM⟩:∃ M,M=t - sumL ((List.range k).map (quo t ws)):=⟨_,rfl⟩
   have hM1:M=miss t ws∧M≤k:=by
    have e:M=miss t ws:=by rw [hM];unfold miss;rw [HN.out]
    refine ⟨e,?_⟩
    have:=qnJ t ws (by have:=HS.out;omega)
    rw [HN.out] at this;omega
   rw [←hM]
   have HM:=hid hM1
   have hMk:=hM1.2
   clear hM hM1
   rw [←qnG k t ws o,←qnD k t ws o] at HL
   go_wp2
   have HNE:=hid (show o.length=k by rw [HP.out.1.length_eq,List.length_range];exact HN.out)
   have HND:=hid (show o.Nodup from HP.out.1.nodup_iff.2 List.nodup_range)
   go_loopg [9] M (fun m mv wq=>∃ j:Nat,j≤M∧M≤m+j∧mv=.int .i64 ((M - j:Nat):Int)∧Laid2 w wq B0 B1 (partsJ k t ws o j) (restsJ k t ws o j))
   case atStart=>exact ⟨0,by omega,by omega,rfl,HL.out⟩
   case round =>
    obtain ⟨j,hj,hmj,rfl,hlaid⟩:=hrel
    have HJ:=hid hlaid
    clear hlaid
    by_cases hjM:j<M
    ·obtain ⟨x,hx⟩:∃ x,o[j]?=some x:=⟨o[j]'(by have:=HNE.out;omega),List.getElem?_eq_getElem _⟩
     have HX:=hid hx
     have hxk:x<k:=by
      have:=List.mem_range.1 (HP.out.1.mem_iff.1 (List.mem_of_getElem? hx));rw [HN.out] at this;exact this
     obtain ⟨D,hD⟩:∃ D,D=M - j:=⟨_,rfl⟩
     have hD0:0<D:=by omega
     have HD:=hid hD
     rw [←hD]
     clear hx hD
     go_wp2
     obtain ⟨gk0,rfl⟩:∃ g,g=gk:=⟨gk,rfl⟩
     obtain ⟨w2,hw2⟩:∃ w2,w2=wr:=⟨_,rfl⟩
     rw [←hw2] at HJ ⊢
     clear hw2
     have HDD:=hid (And.intro hD0 (And.intro hmj hjM))
     clear hD0 hmj hjM hj
     go_loopg [11,12] k (fun m bv iv wq=>∃ (b i:Nat),bv=.int .i64 (b:Int)∧iv=.int .i64 (i:Int)∧1≤i∧i≤k∧k≤m+i∧b<i∧(∀ a,a<i→restJ t ws o j a≤restJ t ws o j b)∧(∀ a,a<b→restJ t ws o j a<restJ t ws o j b)∧∃ q,wq=w2.drewN q)
     case atStart=>exact ⟨0,1,rfl,rfl,by omega,by omega,by omega,by omega,fun a ha=>by rw [show a=0 by omega];exact Int.le_refl _,fun a ha=>by omega,0,by cases w2;rfl⟩
     case round =>
      obtain ⟨b,i,rfl,rfl,hi1,hik,hmi,hbi,hb1,hb2,q,rfl⟩:=hrel
      have HBB:=hid (And.intro hb1 hb2)
      clear hb1 hb2
      by_cases hin:i<k
      ·obtain ⟨rb,hrb⟩:∃ r,r=restJ t ws o j b:=⟨_,rfl⟩
       obtain ⟨ri,hri⟩:∃ r,r=restJ t ws o j i:=⟨_,rfl⟩
       have cb:w2.cell? ⟨B1,b,none⟩=some (.int .i64 rb):=by have:=HJ.out.2.1.1 b rb (by rw [qdI (by omega),hrb]);simpa using this
       have ci:w2.cell? ⟨B1,i,none⟩=some (.int .i64 ri):=by have:=HJ.out.2.1.1 i ri (by rw [qdI hin,hri]);simpa using this
       have HRR:=hid (And.intro hrb hri)
       clear hrb hri
       have hbk:b<k:=by omega
       by_cases hlt:rb<ri
       ·have HLT:=hid hlt
        go_wp2
        go_quiet (fail)
        go_wp2
        go_roundg (gk - 1)
        case measure=>omega
        case rel =>
         refine ⟨i,i+1,rfl,by go_num,by omega,by omega,by omega,by omega,fun a ha=>?_,fun a ha=>?_,_,rfl⟩
         ·rcases Nat.lt_or_ge a i with h|h
          ·have h1:=HBB.out.1 a h
           have h2:=HLT.out
           rw [HRR.out.1,HRR.out.2] at h2
           omega
          ·rw [show a=i by omega];exact Int.le_refl _
         ·have h1:=HBB.out.1 a ha
          have h2:=HLT.out
          rw [HRR.out.1,HRR.out.2] at h2
          omega
       ·have HLT:=hid hlt
        go_wp2
        go_quiet (fail)
        go_wp2
        go_roundg (gk - 1)
        case measure=>omega
        case rel =>
         refine ⟨b,i+1,rfl,by go_num,by omega,by omega,by omega,by omega,fun a ha=>?_,HBB.out.2,_,rfl⟩
         rcases Nat.lt_or_ge a i with h|h
         ·exact HBB.out.1 a h
         ·rw [show a=i by omega]
          have h2:=HLT.out
          rw [HRR.out.1,HRR.out.2] at h2
          omega
      ·have hik2:i=k:=by omega
       have hbx:b=x:=jaC (by have:=HP.out.1;rwa [HN.out] at this) HP.out.2.1 HX.out (by omega) (fun a ha=>HBB.out.1 a (by omega)) HBB.out.2
       subst hbx
       clear hik2 hi1 hik hmi hbi
       obtain ⟨qx,hqx⟩:∃ q,q=quo t ws b:=⟨_,rfl⟩
       have c7:w2.cell? ⟨B0,b,none⟩=some (.int .i64 (qx:Int)):=by
        have:=HJ.out.1.1 b (qx:Int) (by rw [qeS hxk,qvI HND.out HX.out,hqx]);simpa using this
       have cR:w2.cell? ⟨B1,b,none⟩=some (.int .i64 (restJ t ws o j b)):=by
        have:=HJ.out.2.1.1 b _ (qdI hxk);simpa using this
       have f7:=HJ.out.1.2
       have fR:=HJ.out.2.1.2
       have n7R:¬B0=B1:=HJ.out.2.2.1
       have hqb:qx≤4000000000000000000:=by
        have hb:quo t ws b≤t:=by
         unfold quo
         refine Nat.div_le_of_le_mul ?_
         rw [Nat.mul_comm (sumL ws)]
         exact Nat.mul_le_mul_left _ (qeP (qvX (by rw [HN.out];exact hxk)))
        have:=HS.out
        omega
       have wq1:IntKind.i64.wrap ((qx:Int)+1)=(qx:Int)+1:=IntWalk.i64_in _ (by omega)
       obtain ⟨D2,hD2⟩:∃ D2,D=D2+1:=⟨D - 1,by have:=HDD.out;omega⟩
       have HD2:=hid hD2
       have hDb:D≤19:=by have:=HD.out;omega
       have wd:IntKind.i64.wrap ((D:Int) - 1)=(D2:Int):=by rw [IntWalk.i64_in _ (by omega)];omega
       have HNX:=hid (show Laid2 w (((w2.drewN q).setCell ⟨B0,b,none⟩ (.int .i64 ((qx:Int)+1))).setCell ⟨B1,b,none⟩ (.int .i64 (-1))) B0 B1 (partsJ k t ws o (j+1)) (restsJ k t ws o (j+1)) by
        have h:=((HJ.out.drewN q).set7 b ((qx:Int)+1)).setR b (-1)
        rw [hqx,qqB HND.out HX.out,qpT HX.out] at h
        rw [hqx];exact h)
       have HDX:=hid (And.intro hqb hDb)
       clear hqx hqb hDb hD2
       go_wp2
       go_roundg (gk0 - 1)
       case measure=>have:=HDD.out;have:=HD.out;omega
       case rel=>exact ⟨j+1,by have:=HDD.out;omega,by have:=HDD.out;omega,by rw [show M - (j+1)=D2 by have:=HD.out;have:=HD2.out;omega],HNX.out⟩
    ·have hjM2:j=M:=by omega
     subst hjM2
     have h0D:¬(0:Int)<((j - j:Nat):Int):=by simp
     have HF:=hid (show Row wr B0 0 (p.map Int.ofNat) by
      have:=HJ.out.1
      rw [HM.out.1,qnH (by rw [HP.out.2.2.1];exact HN.out) (fun i hi=>HP.out.2.2.2 i (by rw [HN.out];exact hi))] at this
      exact this)
     rw [Nat.sub_self]
     go_wp2
     go_ret
     exact ⟨B0,by have:=HBE.out;omega,HJ.out.2.2.2.2.2.1,rfl,HF.out,HJ.out.2.2.2.2.2.2.2⟩
theorem qjA {ws:List Nat} {k x:Nat} (hx:ws[k]?=some x):sumL (ws.take (k+1))=sumL (ws.take k)+x:=by
 rw [List.take_add_one,hx,qfP];simp [sumL]
theorem qmP (n:Nat) (ws:List Nat) (v:Value) (w:World) (h:Valid w v n ws) :
  Calls Tryz.prog 71 #[v] w fun e w'=>e=.returned (.tuple #[.int .i64 (sumL ws:Nat),.int .i64 0])∧w=w':=by
 obtain ⟨g,off,cap,rfl,hc⟩:=h.reads.some (by have:=h.pos;omega)
 have hsb:=h.sum
 have h1:=h.pos
 have h2:=h.small
 have h00:((n:Int)==0)=false:=beq_eq_false_iff_ne.2 (by omega)
 have h1':¬(512:Int)<n:=by omega
 have HV:=hid h
 have HC:=hid hc
 have HSB:=hid hsb
 clear h hc hsb
 go_enter Tryz.func71,Tryz.ntmps71
 go_wp2
 go_loopg [4,5] n (fun m sv iv wr=>∃ k:Nat,sv=.int .i64 ((sumL (ws.take k):Nat):Int)∧iv=.int .i64 k∧k≤n∧n≤m+k∧w=wr)
 case atStart=>exact ⟨0,by simp [sumL],rfl,by omega,by omega,rfl⟩
 case round =>
  obtain ⟨k,rfl,rfl,hk,hm,rfl⟩:=hrel
  by_cases hkn:k<n
  ·obtain ⟨x,hx⟩:∃ x,ws[k]?=some x:=⟨ws[k]'(by have:=HV.out.len;omega),List.getElem?_eq_getElem _⟩
   have hcx:w.cell? ⟨g,off+k,none⟩=some (.int .i64 (x:Int)):=HC.out k _ (by simp [hx])
   have hxb:x≤1000000000000000:=HV.out.all x (List.mem_of_getElem? hx)
   have p1:¬(x:Int)<0:=by omega
   have p2:¬(1000000000000000:Int)<(x:Int):=by omega
   obtain ⟨s,hs⟩:∃ s,s=sumL (ws.take k):=⟨_,rfl⟩
   obtain ⟨s2,hs2⟩:∃ s2,s2=sumL (ws.take (k+1)):=⟨_,rfl⟩
   have hss:s2=s+x:=by rw [hs2,hs];exact qjA hx
   have hle:s2≤19000000000000000:=by rw [hs2];exact Nat.le_trans (qkI ws (k+1)) HSB.out
   have wq:IntKind.i64.wrap ((s:Int)+(x:Int))=(s2:Int):=by rw [IntWalk.i64_in _ (by omega)];omega
   rw [←hs]
   have HS:=hid hs2
   clear hx hxb hs hs2 hss hle
   go_wp2
   go_roundg (gk - 1)
   case measure=>omega
   case rel=>exact ⟨k+1,by rw [←HS.out],by go_num,by omega,by omega,rfl⟩
  ·have HE:=hid (show sumL (ws.take k)=sumL ws by rw [List.take_of_length_le (by have:=HV.out.len;omega)])
   go_wp2
   go_ret2
   exact ⟨by rw [HE.out];rfl,rfl⟩
theorem qxS (t:Int) (w:World) (h1:-1000000000000000≤t) (h2:t≤1000000000000000):Calls Tryz.prog 72 #[.int .i64 t] w fun e w'=>e=.returned (.bool false)∧w=w':=by
 have p1:¬(1000000000000000:Int)<t:=by omega
 have p2:¬t < -1000000000000000:=by omega
 clear h1 h2
 go_enter Tryz.func72,Tryz.ntmps72
 go_wp2
 go_ret
 exact ⟨rfl,rfl⟩
def OutR (n:Nat) (l:List Int) (w:World) (e:Ending) (w':World):Prop :=
 ∃ g,w.heap.size≤g∧g<w'.heap.size∧e=.returned (.tuple #[.slice (some ⟨g,0,none⟩) n n,.int .i64 0])∧Row w' g 0 l∧Below w.heap.size w w'
end
end Go.Proofs.YtooeabibhjbkoaaGreat
namespace Go.Proofs.YtooeabibhjbkoaaGreat
open Go.RowKit Ap
end Go.Proofs.YtooeabibhjbkoaaGreat
set_option maxHeartbeats 2000000
namespace Go.Proofs.YtooeabibhjbkoaaGreat
open Go.RowKit Ap
open Lib (hid)
theorem qtR (n:Nat) (xs:List Value) (v:Value) (w:World) (hr:Reads w 1 v n xs) (h0:1≤n) (hbig:n≤1000) (h1:∀ u∈xs,u.oneCell'=true) :
  Calls Tryz.prog 64 #[v] w fun e w'=>∃ v',e=.returned v'∧w'.ownsRow w.heap.size 3 1 v' n xs∧Below w.heap.size w w':=by
 obtain ⟨g,off,cap,rfl,hc⟩:=hr.some (by omega)
 have hlen:xs.length=n:=by have:=hr.1;omega
 obtain ⟨i0,hi,hz0,hz1,hz2⟩:=info_parts Tryz.info3
 have q22:∀ (w:World) (a:Option Addr) (n c n' c':Nat),(binOp .eql 30 (.slice a n c) (.slice none n' c')).run Tryz.prog w=.ok (.bool a.isNone) w:=fun w a n c n' c'=>Lib.run_eql_slice_nil w _ _ a n c n' c' Tryz.underlying30
 have HC:=hid hc
 have HL:=hid hlen
 have H1:=hid h1
 clear hr hc hlen h1
 go_enter Tryz.func64,Tryz.ntmps64
 go_wp2_with (at_builtin;refine wpList_append_own _ rfl _ _ 30 rfl w.heap.size 3 i0 (.int .i64 0) 1 8 Tryz.underlying30 hi hz0 hz1 hz2 rfl (by decide) _ _ _ rfl (World.ownsRow_made w #[] 0 (Nat.le_refl _) (Nat.zero_le _) rfl) ⟨g,off,none⟩ n cap xs rfl ?qc1 ?qc2 ?qc3 ?qc4 ?qc5 ?qc6 ?_)
 case qc1=>rw [HL.out];omega
 case qc2 =>
  intro j u hj
  have hadd:(⟨g,off,none⟩:Addr).add j=⟨g,off+j,none⟩:=by unfold Addr.add;split<;>simp_all
  rw [hadd]
  exact qgV (HC.out j u hj) _
 case qc3=>exact H1.out
 case qc4=>exact qcX (by omega)
 case qc5=>omega
 case qc6=>simp
 intro v' w1 hown hgrow hnil
 have HH:=hid (show w1.ownsRow w.heap.size 3 1 v' n xs by simpa using hown)
 have HG:=hid hgrow
 clear hown hgrow hnil
 go_wp2
 go_ret
 exact ⟨v',rfl,HH.out,((Below.refl _ w).alloc (Nat.le_refl _) _).grown HG.out (by simp) (by intro k hk;simp [Value.ownBlock] at hk;omega)⟩
def CapP (T n:Nat) (ws:List Nat) (w:World) (e:Ending) (w':World):Prop :=
 ∃ (v:Value) (p:List Nat),e=.returned (.tuple #[v,.int .i64 0])∧Reads w' 1 v n (cellsN p)∧Below w.heap.size w w'∧p.length=n∧((sumL ws≤T∧p=ws)∨(T<sumL ws∧Parts T ws p))
theorem qiI {w:World} {g n cap:Nat} {p:List Nat} (h:Row w g 0 (p.map Int.ofNat)) (hl:p.length=n) (hn:n≤1000000):Reads w 1 (.slice (some ⟨g,0,none⟩) n cap) n (cellsN p):=by
 have:=qkS (cap:=cap) h (by rw [List.length_map];exact hl) hn
 rw [List.map_map] at this
 exact this
theorem qzY (T n:Nat) (ws:List Nat) (v:Value) (w:World) (h:Valid w v n ws) (hT:T≤1000000000000000) :
  Calls Tryz.prog 35 #[.int .i64 T,v] w (CapP T n ws w):=by
 have q1:¬(T:Int)<0:=by omega
 have q2:¬(1000000000000000:Int)<T:=by omega
 have hsb:=h.sum
 have hn19:=h.small
 have hn1:=h.pos
 have HV:=hid h
 have HCK:=hid (qwO n ws v w h)
 clear h
 by_cases hle:sumL ws≤T
 ·obtain ⟨s,hs⟩:∃ s,s=sumL ws:=⟨_,rfl⟩
  rw [←hs] at HCK hsb hle
  have hle':(s:Int)≤T:=by omega
  have HS:=hid hs
  clear hs hle
  go_enter Tryz.func35,Tryz.ntmps35
  go_wp2_with (go_at_call 63;refine HCK.out.mono ?_;rintro e w' ⟨rfl,rfl⟩)
  refine (qtR n (cellsN ws) v w HV.out.reads HV.out.pos (by omega) (by intro u hu;obtain ⟨x,_,rfl⟩:=List.mem_map.1 hu;rfl)).mono ?_
  rintro e w' ⟨v',rfl,hown,hb⟩
  have HH:=hid (And.intro hown hb)
  clear hown hb
  go_wp2
  go_ret2
  exact ⟨v',ws,rfl,Reads.of_own HH.out.1,HH.out.2,HV.out.len,.inl ⟨by rw [←HS.out];omega,rfl⟩⟩
 ·have HD:=hid (qnP T n ws v w HV.out (by omega) hT)
  have HLT:=hid (show T<sumL ws by omega)
  obtain ⟨s,hs⟩:∃ s,s=sumL ws:=⟨_,rfl⟩
  rw [←hs] at HCK HD hsb hle
  have hle':¬(s:Int)≤T:=by omega
  clear hs hle
  go_enter Tryz.func35,Tryz.ntmps35
  go_wp2_with (go_at_call 63;refine HCK.out.mono ?_;rintro e w' ⟨rfl,rfl⟩)
  refine HD.out.mono ?_
  rintro e w' ⟨g,l,h1,h2,rfl,h4,⟨p,hp,rfl⟩,h6⟩
  have HH:=hid (And.intro h4 (And.intro hp h6))
  clear h1 h2 h4 hp h6
  go_wp2
  go_ret2
  have hl:p.length=n:=by obtain ⟨o,_,_,h,_⟩:=HH.out.2.1;rw [h];exact HV.out.len
  exact ⟨_,p,rfl,qiI HH.out.1 hl (by omega),HH.out.2.2,hl,.inr ⟨HLT.out,HH.out.2.1⟩⟩
end Go.Proofs.YtooeabibhjbkoaaGreat
