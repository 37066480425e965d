import Derived.Test.YtooeabibhjbkoaaGreatBkD
set_option linter.unusedVariables false
set_option linter.unusedSimpArgs false
set_option maxRecDepth 100000
set_option maxHeartbeats 4000000
namespace Go.Proofs.YtooeabibhjbkoaaGreat
open Go.RowKit Big
open Lib (hid)
def zI (n:Bool) (v:Nat):Int:=if n=true then -(v:Int) else (v:Int)
theorem qeC {c:List Value} {z:Int} {n:Bool} {v:Nat} (h:c=.bool n::lv 32 v) (hn:n=decide (z<0)) (hv:v=z.natAbs) (h1:-9223372036854775808≤z) (h2:z≤9223372036854775807) (W:World) :
  Calls Tryz.prog 76 #[.int .i64 z] W fun e w'=>e=.returned (.agg c.toArray)∧Below W.heap.size W w':=by
 subst h hn hv;exact qzL z W h1 h2
def cmpZ (x y:Int):Int:=if x<y then -1 else if y<x then 1 else 0
theorem qfR (n:Bool) (v:Nat):sgnI n v=-1∨sgnI n v=0∨sgnI n v=1:=by
 unfold sgnI
 (repeat' split)<;>simp
theorem qmL (a b:Nat):cmpI a b=-1∨cmpI a b=0∨cmpI a b=1:=by
 unfold cmpI
 (repeat' split)<;>simp
theorem qmM (na nb:Bool) (a b:Nat):(sgnI na a<sgnI nb b→cmpZ (zI na a) (zI nb b)=-1)∧(sgnI nb b<sgnI na a→cmpZ (zI na a) (zI nb b)=1)∧(sgnI na a=sgnI nb b→cmpZ (zI na a) (zI nb b)=sgnI na a*cmpI a b):=by
 unfold cmpZ zI sgnI cmpI
 cases na<;>cases nb<;>simp only [Bool.false_eq_true,if_false,if_true]<;>(refine ⟨fun h=>?_,fun h=>?_,fun h=>?_⟩)<;>(repeat' split at h)<;>(repeat' split)<;>omega
theorem qbR {c:List Value} {n:Bool} {v:Nat} {s:Int} (h:c=.bool n::lv 32 v) (hs:s=sgnI n v) (hv:v<BB^32) (W:World) :
  Calls Tryz.prog 110 #[.agg c.toArray] W fun e w'=>e=.returned (.int .i64 s)∧Below W.heap.size W w':=by
 subst h hs;exact qyC n v W hv
theorem qgT {c d:List Value} {a b:Nat} {x:Int} (hc:c=lv 32 a) (hd:d=lv 32 b) (hx:x=cmpI a b) (ha:a<BB^32) (hb:b<BB^32) (W:World) :
  Calls Tryz.prog 118 #[.agg c.toArray,.agg d.toArray] W fun e w'=>e=.returned (.int .i64 x)∧Below W.heap.size W w':=by
 subst hc hd hx;exact qgU a b W ha hb
theorem qnZ (z:Int) (n:Bool) (v:Nat) (w:World) (hn:n=decide (z<0)) (hv:v=z.natAbs) (h1:-9223372036854775808≤z) (h2:z≤9223372036854775807) :
  Calls Tryz.prog 44 #[.int .i64 z] w fun e w'=>e=.returned (rV n v false 1)∧Below w.heap.size w w':=by
 obtain ⟨cn,V_cn⟩:∃ c:List Value,Hid (c=.bool n::lv 32 v):=⟨_,hid rfl⟩
 obtain ⟨co,V_co⟩:∃ c:List Value,Hid (c=.bool false::lv 32 1):=⟨_,hid rfl⟩
 obtain ⟨cr,V_cr⟩:∃ c:List Value,Hid (c=rat n v false 1):=⟨_,hid rfl⟩
 obtain ⟨cz,V_cz⟩:∃ c:List Value,Hid (c=rat false 0 false 0):=⟨_,hid rfl⟩
 rw [valR V_cr.out]
 have H1:=hid (qeC V_cn.out hn hv h1 h2)
 have H2:=hid (qeC (z:=1) V_co.out rfl rfl (by decide) (by decide))
 clear hn hv h1 h2
 obtain ⟨B0,hB0⟩:∃ B,B=w.heap.size:=⟨_,rfl⟩
 obtain ⟨w0,hw0⟩:∃ w0,w0=(w.alloc (.cells Tryz.zeroCells27 27)):=⟨_,rfl⟩
 have AB0:=hid (show At w0 B0 0 cz by rw [hw0];exact (show At (w.alloc (.cells Tryz.zeroCells27 27)) B0 0 cz from (by rw [Tryz.zeroR,V_cz.out];exact At.fresh _ (rat false 0 false 0) _ (by simp [hB0]))))
 have FR:=hid (show Fr B0 w w0 by rw [hw0,hB0];exact (Fr.start w).alloc _)
 have FR0:=hid FR.out.le
 have hZB0:B0≤B0:=Nat.le_refl _
 have HB0:=hid hB0
 go_enter Tryz.func44,Tryz.ntmps44
 go_upto_region 1 with fail
 rw [←hw0,←hB0]
 clear hw0 hB0
 refine qwf [⟨false,0,2,4,B0,0,27,6,cr,0,cr,[]⟩] [(3,.int .i64 z),(4,.agg cn.toArray),(5,.agg co.toArray),(6,.agg cr.toArray)] _ (by simp only [zz4,zz5,zq];rfl) (by kernel_rfl) (by kernel_rfl) ?_ ?_ ?_ ?_ ?_ ?_ ?_
 ·intro W' hW'
  refine fxo ?_ ?_;(go_big_quiet_step (fail);(try simp only [zq]);exact wqn rfl)
  refine fxo ?_ ?_;(go_big_quiet_step ((go_at_call 76;exact qaA (H1.out _)));(try simp only [zq]);exact wqn rfl)
  refine fxo ?_ ?_;(go_big_quiet_step ((go_at_call 76;exact qaA (H2.out _)));(try simp only [zq]);exact wqn rfl)
  refine fxo (wqB rfl _ _ rfl _ rfl _ (qdE V_cn.out V_co.out V_cr.out) (wqn (by simp only [zq]))) ?_
  refine fxs (by rfl) ?_
  exact fxn
 ·intro W' hK'
  first|(refine fxo ?_ ?_;(go_big_quiet_step (fail);(try simp only [zq]);exact wqn rfl))|(refine fxs (by kernel_rfl) ?_)
  iterate 2 (refine fxs (by kernel_rfl) ?_)
  refine fxo (wqB rfl _ _ rfl _ rfl _ (qdE V_cn.out V_co.out V_cr.out) (wqn (by simp only [zq]))) ?_
  refine fxs (by kernel_rfl) ?_
  exact fxn
 ·exact oP _ _ (bnc) (oN)
 ·exact oP _ _ (fun _=>⟨AB0.out.lt,rfl,At.room AB0.out (qR V_cz.out) (qR V_cr.out)⟩) (oN)
 ·exact uno
 ·exact oP _ _ (stw rfl (qR V_cr.out) (qhE V_cr.out) (fun _=>rfl)) (oN)
 intro β wx1 E
 replace FR:=hid (FR.out.flow E (oP _ _ (fun _=>(by show B0≤B0;omega)) (oN)))
 replace AB0:=hid (show At wx1 B0 0 cr from E.atOld mms rfl AB0.out.lt)
 simp only [nP,zr,zq]
 replace FR0:=hid FR.out.le
 clear E
 go_wp2_with fail
 have hld:=AB0.out.read (P:=Tryz.prog) Tryz.underlying27 rfl (qR V_cr.out)
 refine bodyPost_ret (v:=.agg cr.toArray) (by simp [results,Tryz.results44,asAddr,hld]) rfl ?_
 exact ⟨rfl,fend HB0 FR⟩
set_option maxHeartbeats 8000000
theorem qpE (na nb:Bool) (a b:Nat) (h:cs1 na a=cs1 nb b):decide (zI na a+zI nb b<0)=cs1 (cs1 na a) (a+b)∧(zI na a+zI nb b).natAbs=a+b:=by
 have h1:na=true→a≠0→cs1 na a=true:=fun h1 h2=>by simp [cs1,h1,h2]
 unfold zI
 by_cases ha:a=0<;>by_cases hb:b=0<;>cases na<;>cases nb<;>simp [cs1,ha,hb] at h ⊢<;>omega
theorem qpG (na nb:Bool) (a b:Nat) (h:cs1 na a≠cs1 nb b) (hl:a<b):decide (zI na a+zI nb b<0)=cs1 (cs1 nb b) (b - a)∧(zI na a+zI nb b).natAbs=b - a:=by
 unfold zI
 have hb:b - a≠0:=by omega
 by_cases ha:a=0<;>by_cases hb2:b=0<;>cases na<;>cases nb<;>simp [cs1,ha,hb,hb2] at h hb ⊢<;>omega
theorem qpF (na nb:Bool) (a b:Nat) (h:cs1 na a≠cs1 nb b) (hl:¬a<b):decide (zI na a+zI nb b<0)=cs1 (cs1 na a) (a - b)∧(zI na a+zI nb b).natAbs=a - b:=by
 unfold zI
 by_cases ha:a=0
 ·have hb0:b=0:=by omega
  exact absurd (by simp [cs1,ha,hb0]) h
 ·have e1:cs1 na a=na:=by simp [cs1,ha]
  rw [e1] at h ⊢
  by_cases hb2:b=0
  ·subst hb2
   cases na<;>cases nb<;>simp [cs1,ha] at h ⊢<;>omega
  ·have e2:cs1 nb b=nb:=by simp [cs1,hb2]
   rw [e2] at h
   by_cases hab:a=b
   ·subst hab
    cases na<;>cases nb<;>simp [cs1] at h ⊢<;>omega
   ·have h3:a - b≠0:=by omega
    have e3:cs1 na (a - b)=na:=by simp only [cs1,h3,decide_false,Bool.not_false,Bool.and_true]
    rw [e3]
    cases na<;>cases nb<;>simp at h ⊢<;>omega
theorem jaH {c d r:List Value} {a b:Nat} (hc:c=lv 32 a) (hd:d=lv 32 b) (hr:r=lv 32 (a+b)) (ha:a<BB^32) (hb:b<BB^32) (hs:a+b<BB^32) (W:World) :
  Calls Tryz.prog 117 #[.agg c.toArray,.agg d.toArray] W fun e w'=>e=.returned (.tuple #[.agg r.toArray,.bool true])∧Below W.heap.size W w':=by
 subst hc hd hr;exact qxF a b (a+b) 0 W ha hb hs (by omega)
theorem qtO {c d r:List Value} {a b:Nat} (hc:c=lv 32 a) (hd:d=lv 32 b) (hr:r=lv 32 (a - b)) (ha:a<BB^32) (hb:b<BB^32) (hle:b≤a) (W:World) :
  Calls Tryz.prog 119 #[.agg c.toArray,.agg d.toArray] W fun e w'=>e=.returned (.agg r.toArray)∧Below W.heap.size W w':=by
 subst hc hd hr;exact qeD a b (a - b) W ha hb (by omega) ⟨0,by omega⟩
theorem qxZ (na nb n:Bool) (a b v:Nat) (w:World) (ha:a<BB^32) (hb:b<BB^32) (hv:v<BB^32) (hn:n=decide (zI na a+zI nb b<0)) (hve:v=(zI na a+zI nb b).natAbs) :
  Calls Tryz.prog 78 #[iV na a,iV nb b] w fun e w'=>e=.returned (.tuple #[iV n v,.int .i64 0])∧Below w.heap.size w w':=by
 obtain ⟨sa,hsa⟩:∃ s,s=cs1 na a:=⟨_,rfl⟩
 obtain ⟨sb,hsb⟩:∃ s,s=cs1 nb b:=⟨_,rfl⟩
 obtain ⟨ca,V_ca⟩:∃ c:List Value,Hid (c=.bool na::lv 32 a):=⟨_,hid rfl⟩
 obtain ⟨cb,V_cb⟩:∃ c:List Value,Hid (c=.bool nb::lv 32 b):=⟨_,hid rfl⟩
 obtain ⟨ma,V_ma⟩:∃ c:List Value,Hid (c=lv 32 a):=⟨_,hid rfl⟩
 obtain ⟨mb,V_mb⟩:∃ c:List Value,Hid (c=lv 32 b):=⟨_,hid rfl⟩
 obtain ⟨cA,V_cA⟩:∃ c:List Value,Hid (c=.bool sa::lv 32 a):=⟨_,hid rfl⟩
 obtain ⟨cB,V_cB⟩:∃ c:List Value,Hid (c=.bool sb::lv 32 b):=⟨_,hid rfl⟩
 obtain ⟨cr,V_cr⟩:∃ c:List Value,Hid (c=.bool n::lv 32 v):=⟨_,hid rfl⟩
 obtain ⟨cz,V_cz⟩:∃ c:List Value,Hid (c=.bool false::lv 32 0):=⟨_,hid rfl⟩
 rw [qxC V_ca.out,qxC V_cb.out,qxC V_cr.out]
 have HA:=hid (qeE V_ma.out V_cA.out hsa ha)
 have HB:=hid (qeE V_mb.out V_cB.out hsb hb)
 have HP:=hid (And.intro hsa (And.intro hsb (And.intro hn hve)))
 have HL:=hid (And.intro ha (And.intro hb hv))
 clear ha hb hv hn hve hsa hsb
 obtain ⟨B0,hB0⟩:∃ B,B=w.heap.size:=⟨_,rfl⟩
 obtain ⟨B1,hB1⟩:∃ B,B=w.heap.size+1:=⟨_,rfl⟩
 obtain ⟨B2,hB2⟩:∃ B,B=w.heap.size+1+1:=⟨_,rfl⟩
 obtain ⟨w0,hw0⟩:∃ w0,w0=(((w.alloc (.cells ca.toArray 25)).alloc (.cells cb.toArray 25)).alloc (.cells zero33 25)):=⟨_,rfl⟩
 have AB0:=hid (show At w0 B0 0 ca by rw [hw0];exact (((show At (w.alloc (.cells ca.toArray 25)) B0 0 ca from At.fresh _ ca _ (by simp [hB0])).alloc _).alloc _))
 have AB1:=hid (show At w0 B1 0 cb by rw [hw0];exact ((show At ((w.alloc (.cells ca.toArray 25)).alloc (.cells cb.toArray 25)) B1 0 cb from At.fresh _ cb _ (by simp [hB1])).alloc _))
 have AB2:=hid (show At w0 B2 0 cz by rw [hw0];exact (show At (((w.alloc (.cells ca.toArray 25)).alloc (.cells cb.toArray 25)).alloc (.cells zero33 25)) B2 0 cz from (by rw [V_cz.out];exact At.zero _ _ (by simp [hB2]))))
 have FR:=hid (show Fr B0 w w0 by rw [hw0,hB0];exact (((Fr.start w).alloc _).alloc _).alloc _)
 have FR0:=hid FR.out.le
 have l01:B0<B1:=by omega
 have hZB1:B0≤B1:=by omega
 have l12:B1<B2:=by omega
 have hZB2:B0≤B2:=by omega
 have hZB0:B0≤B0:=Nat.le_refl _
 unfold zero33 at hw0
 have HB0:=hid hB0
 go_enter Tryz.func78,Tryz.ntmps78
 go_upto_region 1 with fail
 rw [←hw0,←hB2,←hB1,←hB0]
 clear hw0 hB0 hB1 hB2
 have AB0_1:=hid (AB0.out.mag V_ca.out V_ma.out)
 have AB1_1:=hid (AB1.out.mag V_cb.out V_mb.out)
 refine qwf [⟨false,0,2,10,B0,0,25,12,cA,0,cA,[]⟩,⟨false,0,3,11,B1,0,25,17,cB,0,cB,[]⟩] [(8,.pointer (some ⟨B0,0,none⟩)),(9,.bool na),(10,.pointer (some ⟨B0,1,none⟩)),(11,.agg ma.toArray),(12,.agg cA.toArray),(13,.pointer (some ⟨B1,0,none⟩)),(14,.bool nb),(15,.pointer (some ⟨B1,1,none⟩)),(16,.agg mb.toArray),(17,.agg cB.toArray)] _ (by simp only [zz4,zz5,zq];rfl) (by kernel_rfl) (by kernel_rfl) ?_ ?_ ?_ ?_ ?_ ?_ ?_
 ·intro W' hW'
  have cl0:=fun p os=>qaF ((AB0.out.below hW').neg V_ca.out) p os
  have cl1:=fun p os=>qaF ((AB1.out.below hW').neg V_cb.out) p os
  have rd0:=AB0_1.out.below hW'
  have rd1:=AB1_1.out.below hW'
  iterate 3 (refine fxo ?_ ?_;(go_big_quiet_step (fail);(try simp only [zq]);exact wqn rfl))
  refine fxo (wlg (by rfl) rfl rfl rd0 Tryz.underlying23 rfl (qaW V_ma.out) (wqn (by simp only [zq]))) ?_
  refine fxo ?_ ?_;(go_big_quiet_step ((go_at_call 113;exact qaA (HA.out _)));(try simp only [zq]);exact wqn rfl)
  iterate 3 (refine fxo ?_ ?_;(go_big_quiet_step (fail);(try simp only [zq]);exact wqn rfl))
  refine fxo (wlg (by rfl) rfl rfl rd1 Tryz.underlying23 rfl (qaW V_mb.out) (wqn (by simp only [zq]))) ?_
  refine fxo ?_ ?_;(go_big_quiet_step ((go_at_call 113;exact qaA (HB.out _)));(try simp only [zq]);exact wqn rfl)
  iterate 2 (refine fxs (by rfl) ?_)
  exact fxn
 ·intro W' hK'
  iterate 3 (first|(refine fxo ?_ ?_;(go_big_quiet_step (fail);(try simp only [zq]);exact wqn rfl))|(refine fxs (by kernel_rfl) ?_))
  iterate 2 (refine fxs (by kernel_rfl) ?_)
  iterate 3 (first|(refine fxo ?_ ?_;(go_big_quiet_step (fail);(try simp only [zq]);exact wqn rfl))|(refine fxs (by kernel_rfl) ?_))
  iterate 4 (refine fxs (by kernel_rfl) ?_)
  exact fxn
 ·exact oP _ _ (bnc) (oP _ _ (bnc) (oN))
 ·exact oP _ _ (fun _=>⟨AB0.out.lt,rfl,At.room AB0.out (qI V_ca.out) (qI V_cA.out)⟩) (oP _ _ (fun _=>⟨AB1.out.lt,rfl,At.room AB1.out (qI V_cb.out) (qI V_cB.out)⟩) (oN))
 ·intro q hq r hr hqn hrn e
  simp only [List.mem_cons,List.not_mem_nil,or_false] at hq hr
  rcases hq with rfl|rfl<;>rcases hr with rfl|rfl<;>first|rfl|(exact Bool.noConfusion hqn)|(exact Bool.noConfusion hrn)|(exfalso;simp only at e;omega)
 ·exact oP _ _ (stw rfl (qI V_cA.out) (qbL V_cA.out) (fun _=>rfl)) (oP _ _ (stw rfl (qI V_cB.out) (qbL V_cB.out) (fun _=>rfl)) (oN))
 intro β wx1 E
 replace FR:=hid (FR.out.flow E (oP _ _ (fun _=>(by show B0≤B0;omega)) (oP _ _ (fun _=>(by show B0≤B1;omega)) (oN))))
 replace AB0:=hid (show At wx1 B0 0 cA from E.atOld mms rfl AB0.out.lt)
 replace AB1:=hid (show At wx1 B1 0 cB from E.atOld (List.mem_cons_of_mem _ mms) rfl AB1.out.lt)
 replace AB2:=hid (At.flow E AB2.out (oP _ _ (fun _=>(by show B0≠B2;omega)) (oP _ _ (fun _=>(by show B1≠B2;omega)) (oN))))
 clear AB0_1
 clear AB1_1
 simp only [nP,zr,zq]
 replace FR0:=hid FR.out.le
 clear E
 have AB0_1:=hid (AB0.out.mag V_cA.out V_ma.out)
 have AB1_1:=hid (AB1.out.mag V_cB.out V_mb.out)
 go_upto_region 2 with fail
 by_cases hs:sa=sb
 ·have HS:=hid hs
  have he:(sa==sb)=true:=by simp [hs]
  have hsum:v=a+b∧n=cs1 sa (a+b):=by
   have:=qpE na nb a b (by rw [←HP.out.1,←HP.out.2.1];exact hs)
   exact ⟨by rw [HP.out.2.2.2,this.2],by rw [HP.out.2.2.1,this.1,HP.out.1]⟩
  obtain ⟨ms,V_ms⟩:∃ c:List Value,Hid (c=lv 32 (a+b)):=⟨_,hid rfl⟩
  have HSM:=hid (jaH V_ma.out V_mb.out V_ms.out HL.out.1 HL.out.2.1 (by rw [←hsum.1];exact HL.out.2.2))
  have HC:=hid (qeE (neg:=sa) V_ms.out (show cr=.bool n::lv 32 (a+b) by rw [←hsum.1];exact V_cr.out) hsum.2 (by rw [←hsum.1];exact HL.out.2.2))
  clear hsum hs
  refine wfn [] [(18,.pointer (some ⟨B0,0,none⟩)),(19,.bool sa),(20,.pointer (some ⟨B1,0,none⟩)),(21,.bool sb),(22,.bool true)] _ (by simp only [zz4,zz5,zq];rfl) (by kernel_rfl) (by kernel_rfl) rfl ?_ ?_ ?_ ?_
  ·intro W' hW'
   have cl0:=fun p os=>qaF ((AB0.out.below hW').neg V_cA.out) p os
   have cl1:=fun p os=>qaF ((AB1.out.below hW').neg V_cB.out) p os
   iterate 5 (refine fxo ?_ ?_;(go_big_quiet_step (fail);(try simp only [zq]);exact wqn rfl))
   exact fxn
  ·exact oN
  ·exact oN
  intro β wx2 E
  replace FR:=hid (FR.out.fnw E rfl)
  replace AB0:=hid (AB0.out.fnw E rfl)
  replace AB1:=hid (AB1.out.fnw E rfl)
  replace AB2:=hid (AB2.out.fnw E rfl)
  replace AB0_1:=hid (AB0_1.out.fnw E rfl)
  replace AB1_1:=hid (AB1_1.out.fnw E rfl)
  have hE:=E.below rfl
  simp only [nP,zr,zq]
  replace FR0:=hid FR.out.le
  clear E
  clear he
  go_upto_region 3 with fail
  refine wfn [⟨true,8,6,9,0,0,23,29,ms,0,ms,[]⟩] [(24,.pointer (some ⟨B0,1,none⟩)),(25,.agg ma.toArray),(26,.pointer (some ⟨B1,1,none⟩)),(27,.agg mb.toArray),(28,.tuple #[.agg ms.toArray,.bool true]),(23,.tuple #[.agg ms.toArray,.bool true]),(29,.agg ms.toArray),(30,.bool true),(7,.bool true)] _ (by simp only [zz4,zz5,zq];rfl) (by kernel_rfl) (by kernel_rfl) rfl ?_ ?_ ?_ ?_
  ·intro W' hW'
   have rd0:=AB0_1.out.below hW'
   have rd1:=AB1_1.out.below hW'
   refine fxo ?_ ?_;(go_big_quiet_step (fail);(try simp only [zq]);exact wqn rfl)
   refine fxo (wlg (by rfl) rfl rfl rd0 Tryz.underlying23 rfl (qaW V_ma.out) (wqn (by simp only [zq]))) ?_
   refine fxo ?_ ?_;(go_big_quiet_step (fail);(try simp only [zq]);exact wqn rfl)
   refine fxo (wlg (by rfl) rfl rfl rd1 Tryz.underlying23 rfl (qaW V_mb.out) (wqn (by simp only [zq]))) ?_
   refine fxo ?_ ?_;(go_big_quiet_step ((go_at_call 117;exact qaA (HSM.out _)));(try simp only [zq]);exact wqn rfl)
   iterate 3 (refine fxo ?_ ?_;(go_big_quiet_step (fail);(try simp only [zq]);exact wqn rfl))
   iterate 2 (refine fxs (by rfl) ?_)
   refine fxo ?_ ?_;(go_big_quiet_step (fail);(try simp only [zq]);exact wqn rfl)
   exact fxn
  ·exact oP _ _ (Tryz.alM (qaW V_ms.out)) (oN)
  ·exact oP _ _ (stw rfl (qaW V_ms.out) (qxK V_ms.out) (fun _=>rfl)) (oN)
  intro β wx3 E
  replace FR:=hid (FR.out.fnw E rfl)
  obtain ⟨b6,hb6⟩:∃ b,b=β 8:=⟨_,rfl⟩
  have eb6:=E.atNew mms rfl
  simp only at eb6
  rw [←hb6] at eb6
  have lB0_b6:B0<b6:=by have h1:=eb6.1;have h2:=AB0.out.lt;omega
  have lB1_b6:B1<b6:=by have h1:=eb6.1;have h2:=AB1.out.lt;omega
  have lB2_b6:B2<b6:=by have h1:=eb6.1;have h2:=AB2.out.lt;omega
  have hZb6:B0≤b6:=by have h1:=eb6.1;have h2:=FR0.out;omega
  replace AB0:=hid (AB0.out.fnw E rfl)
  replace AB1:=hid (AB1.out.fnw E rfl)
  replace AB2:=hid (AB2.out.fnw E rfl)
  replace AB0_1:=hid (AB0_1.out.fnw E rfl)
  replace AB1_1:=hid (AB1_1.out.fnw E rfl)
  have Ab6:=hid eb6.2
  simp only [nP,zr,zq]
  rw [←hb6]
  replace FR0:=hid FR.out.le
  clear E eb6 hb6
  go_upto_region 6 with fail
  refine qwf [⟨false,0,4,4,B2,0,25,37,cr,0,cr,[]⟩] [(34,.pointer (some ⟨B0,0,none⟩)),(35,.bool sa),(36,.agg ms.toArray),(37,.agg cr.toArray),(5,.int .i64 0)] _ (by simp only [zz4,zz5,zq];rfl) (by kernel_rfl) (by kernel_rfl) ?_ ?_ ?_ ?_ ?_ ?_ ?_
  ·intro W' hW'
   have cl0:=fun p os=>qaF ((AB0.out.below hW').neg V_cA.out) p os
   have rd0:=Ab6.out.below hW'
   iterate 2 (refine fxo ?_ ?_;(go_big_quiet_step (fail);(try simp only [zq]);exact wqn rfl))
   refine fxo (wlg (by rfl) rfl rfl rd0 Tryz.underlying23 rfl (qaW V_ms.out) (wqn (by simp only [zq]))) ?_
   refine fxo ?_ ?_;(go_big_quiet_step ((go_at_call 113;exact qaA (HC.out _)));(try simp only [zq]);exact wqn rfl)
   refine fxs (by rfl) ?_
   refine fxo ?_ ?_;(go_big_quiet_step (fail);(try simp only [zq]);exact wqn rfl)
   exact fxn
  ·intro W' hK'
   have rd0:=At.keep hK' Ab6.out (oP _ _ (fun _=>(by show B2≠b6;omega)) (oN))
   iterate 2 (first|(refine fxo ?_ ?_;(go_big_quiet_step (fail);(try simp only [zq]);exact wqn rfl))|(refine fxs (by kernel_rfl) ?_))
   refine fxo (wlg (by rfl) rfl rfl rd0 Tryz.underlying23 rfl (qaW V_ms.out) (wqn (by simp only [zq]))) ?_
   iterate 2 (refine fxs (by kernel_rfl) ?_)
   first|(refine fxo ?_ ?_;(go_big_quiet_step (fail);(try simp only [zq]);exact wqn rfl))|(refine fxs (by kernel_rfl) ?_)
   exact fxn
  ·exact oP _ _ (bnc) (oN)
  ·exact oP _ _ (fun _=>⟨AB2.out.lt,rfl,At.room AB2.out (qI V_cz.out) (qI V_cr.out)⟩) (oN)
  ·exact uno
  ·exact oP _ _ (stw rfl (qI V_cr.out) (qbL V_cr.out) (fun _=>rfl)) (oN)
  intro β wx4 E
  replace FR:=hid (FR.out.flow E (oP _ _ (fun _=>(by show B0≤B2;omega)) (oN)))
  replace AB0:=hid (At.flow E AB0.out (oP _ _ (fun _=>(by show B2≠B0;omega)) (oN)))
  replace AB1:=hid (At.flow E AB1.out (oP _ _ (fun _=>(by show B2≠B1;omega)) (oN)))
  replace AB2:=hid (show At wx4 B2 0 cr from E.atOld mms rfl AB2.out.lt)
  replace AB0_1:=hid (At.flow E AB0_1.out (oP _ _ (fun _=>(by show B2≠B0;omega)) (oN)))
  replace AB1_1:=hid (At.flow E AB1_1.out (oP _ _ (fun _=>(by show B2≠B1;omega)) (oN)))
  replace Ab6:=hid (At.flow E Ab6.out (oP _ _ (fun _=>(by show B2≠b6;omega)) (oN)))
  simp only [nP,zr,zq]
  replace FR0:=hid FR.out.le
  clear E
  go_wp2_with fail
  have hld:=AB2.out.read (P:=Tryz.prog) Tryz.underlying25 rfl (qI V_cr.out)
  refine bodyPost_ret (v:=.tuple #[.agg cr.toArray,.int .i64 0]) (by simp [results,Tryz.results78,asAddr,hld]) rfl ?_
  exact ⟨rfl,fend HB0 FR⟩
 ·have HS:=hid hs
  have he:(sa==sb)=false:=by simp [hs]
  clear hs
  refine wfn [] [(18,.pointer (some ⟨B0,0,none⟩)),(19,.bool sa),(20,.pointer (some ⟨B1,0,none⟩)),(21,.bool sb),(22,.bool false)] _ (by simp only [zz4,zz5,zq];rfl) (by kernel_rfl) (by kernel_rfl) rfl ?_ ?_ ?_ ?_
  ·intro W' hW'
   have cl0:=fun p os=>qaF ((AB0.out.below hW').neg V_cA.out) p os
   have cl1:=fun p os=>qaF ((AB1.out.below hW').neg V_cB.out) p os
   iterate 5 (refine fxo ?_ ?_;(go_big_quiet_step (fail);(try simp only [zq]);exact wqn rfl))
   exact fxn
  ·exact oN
  ·exact oN
  intro β wx2 E
  replace FR:=hid (FR.out.fnw E rfl)
  replace AB0:=hid (AB0.out.fnw E rfl)
  replace AB1:=hid (AB1.out.fnw E rfl)
  replace AB2:=hid (AB2.out.fnw E rfl)
  replace AB0_1:=hid (AB0_1.out.fnw E rfl)
  replace AB1_1:=hid (AB1_1.out.fnw E rfl)
  have hE:=E.below rfl
  simp only [nP,zr,zq]
  replace FR0:=hid FR.out.le
  clear E
  clear he
  go_upto_region 7 with fail
  by_cases hl:a<b
  ·have hx:cmpI a b=-1:=by unfold cmpI;rw [if_pos hl]
   have HX:=hid (qgT (x:=-1) V_ma.out V_mb.out hx.symm HL.out.1 HL.out.2.1)
   have hd:v=b - a∧n=cs1 sb (b - a):=by
    have:=qpG na nb a b (by rw [←HP.out.1,←HP.out.2.1];exact HS.out) hl
    exact ⟨by rw [HP.out.2.2.2,this.2],by rw [HP.out.2.2.1,this.1,HP.out.2.1]⟩
   obtain ⟨md,V_md⟩:∃ c:List Value,Hid (c=lv 32 (b - a)):=⟨_,hid rfl⟩
   have HDF:=hid (qtO V_mb.out V_ma.out V_md.out HL.out.2.1 HL.out.1 (by omega))
   have HC:=hid (qeE (neg:=sb) V_md.out (show cr=.bool n::lv 32 (b - a) by rw [←hd.1];exact V_cr.out) hd.2 (by rw [←hd.1];exact HL.out.2.2))
   clear hd hx hl
   refine wfn [] [(38,.pointer (some ⟨B0,1,none⟩)),(39,.agg ma.toArray),(40,.pointer (some ⟨B1,1,none⟩)),(41,.agg mb.toArray),(42,.int .i64 (-1)),(43,.bool true)] _ (by simp only [zz4,zz5,zq];rfl) (by kernel_rfl) (by kernel_rfl) rfl ?_ ?_ ?_ ?_
   ·intro W' hW'
    have rd0:=AB0_1.out.below hW'
    have rd1:=AB1_1.out.below hW'
    refine fxo ?_ ?_;(go_big_quiet_step (fail);(try simp only [zq]);exact wqn rfl)
    refine fxo (wlg (by rfl) rfl rfl rd0 Tryz.underlying23 rfl (qaW V_ma.out) (wqn (by simp only [zq]))) ?_
    refine fxo ?_ ?_;(go_big_quiet_step (fail);(try simp only [zq]);exact wqn rfl)
    refine fxo (wlg (by rfl) rfl rfl rd1 Tryz.underlying23 rfl (qaW V_mb.out) (wqn (by simp only [zq]))) ?_
    refine fxo ?_ ?_;(go_big_quiet_step ((go_at_call 118;exact qaA (HX.out _)));(try simp only [zq]);exact wqn rfl)
    refine fxo ?_ ?_;(go_big_quiet_step (fail);(try simp only [zq]);exact wqn rfl)
    exact fxn
   ·exact oN
   ·exact oN
   intro β wx3 E
   replace FR:=hid (FR.out.fnw E rfl)
   replace AB0:=hid (AB0.out.fnw E rfl)
   replace AB1:=hid (AB1.out.fnw E rfl)
   replace AB2:=hid (AB2.out.fnw E rfl)
   replace AB0_1:=hid (AB0_1.out.fnw E rfl)
   replace AB1_1:=hid (AB1_1.out.fnw E rfl)
   have hE:=E.below rfl
   simp only [nP,zr,zq]
   replace FR0:=hid FR.out.le
   clear E
   go_upto_region 8 with fail
   refine qwf [⟨false,0,2,2,B0,0,25,44,cB,0,cB,[]⟩,⟨false,0,3,3,B1,0,25,45,cA,0,cA,[]⟩] [(44,.agg cB.toArray),(45,.agg cA.toArray)] _ (by simp only [zz4,zz5,zq];rfl) (by kernel_rfl) (by kernel_rfl) ?_ ?_ ?_ ?_ ?_ ?_ ?_
   ·intro W' hW'
    have rd0:=AB1.out.below hW'
    have rd1:=AB0.out.below hW'
    refine fxo (wlg (by rfl) rfl rfl rd0 Tryz.underlying25 rfl (qI V_cB.out) (wqn (by simp only [zq]))) ?_
    refine fxo (wlg (by rfl) rfl rfl rd1 Tryz.underlying25 rfl (qI V_cA.out) (wqn (by simp only [zq]))) ?_
    iterate 2 (refine fxs (by rfl) ?_)
    exact fxn
   ·intro W' hK'
    iterate 4 (refine fxs (by kernel_rfl) ?_)
    exact fxn
   ·exact oP _ _ (bnc) (oP _ _ (bnc) (oN))
   ·exact oP _ _ (fun _=>⟨AB0.out.lt,rfl,At.room AB0.out (qI V_cA.out) (qI V_cB.out)⟩) (oP _ _ (fun _=>⟨AB1.out.lt,rfl,At.room AB1.out (qI V_cB.out) (qI V_cA.out)⟩) (oN))
   ·intro q hq r hr hqn hrn e
    simp only [List.mem_cons,List.not_mem_nil,or_false] at hq hr
    rcases hq with rfl|rfl<;>rcases hr with rfl|rfl<;>first|rfl|(exact Bool.noConfusion hqn)|(exact Bool.noConfusion hrn)|(exfalso;simp only at e;omega)
   ·exact oP _ _ (stw rfl (qI V_cB.out) (qbL V_cB.out) (fun _=>rfl)) (oP _ _ (stw rfl (qI V_cA.out) (qbL V_cA.out) (fun _=>rfl)) (oN))
   intro β wx4 E
   replace FR:=hid (FR.out.flow E (oP _ _ (fun _=>(by show B0≤B0;omega)) (oP _ _ (fun _=>(by show B0≤B1;omega)) (oN))))
   replace AB0:=hid (show At wx4 B0 0 cB from E.atOld mms rfl AB0.out.lt)
   replace AB1:=hid (show At wx4 B1 0 cA from E.atOld (List.mem_cons_of_mem _ mms) rfl AB1.out.lt)
   replace AB2:=hid (At.flow E AB2.out (oP _ _ (fun _=>(by show B0≠B2;omega)) (oP _ _ (fun _=>(by show B1≠B2;omega)) (oN))))
   clear AB0_1
   clear AB1_1
   simp only [nP,zr,zq]
   replace FR0:=hid FR.out.le
   clear E
   have AB0_1:=hid (AB0.out.mag V_cB.out V_mb.out)
   have AB1_1:=hid (AB1.out.mag V_cA.out V_ma.out)
   go_upto_region 9 with fail
   refine qwf [⟨false,0,4,8,B2,0,25,53,cr,0,cr,[]⟩] [(46,.pointer (some ⟨B0,0,none⟩)),(47,.bool sb),(48,.pointer (some ⟨B0,1,none⟩)),(49,.agg mb.toArray),(50,.pointer (some ⟨B1,1,none⟩)),(51,.agg ma.toArray),(52,.agg md.toArray),(53,.agg cr.toArray),(5,.int .i64 0)] _ (by simp only [zz4,zz5,zq];rfl) (by kernel_rfl) (by kernel_rfl) ?_ ?_ ?_ ?_ ?_ ?_ ?_
   ·intro W' hW'
    have cl0:=fun p os=>qaF ((AB0.out.below hW').neg V_cB.out) p os
    have rd0:=AB0_1.out.below hW'
    have rd1:=AB1_1.out.below hW'
    iterate 3 (refine fxo ?_ ?_;(go_big_quiet_step (fail);(try simp only [zq]);exact wqn rfl))
    refine fxo (wlg (by rfl) rfl rfl rd0 Tryz.underlying23 rfl (qaW V_mb.out) (wqn (by simp only [zq]))) ?_
    refine fxo ?_ ?_;(go_big_quiet_step (fail);(try simp only [zq]);exact wqn rfl)
    refine fxo (wlg (by rfl) rfl rfl rd1 Tryz.underlying23 rfl (qaW V_ma.out) (wqn (by simp only [zq]))) ?_
    refine fxo ?_ ?_;(go_big_quiet_step ((go_at_call 119;exact qaA (HDF.out _)));(try simp only [zq]);exact wqn rfl)
    refine fxo ?_ ?_;(go_big_quiet_step ((go_at_call 113;exact qaA (HC.out _)));(try simp only [zq]);exact wqn rfl)
    refine fxs (by rfl) ?_
    refine fxo ?_ ?_;(go_big_quiet_step (fail);(try simp only [zq]);exact wqn rfl)
    exact fxn
   ·intro W' hK'
    have rd0:=At.keep hK' AB0_1.out (oP _ _ (fun _=>(by show B2≠B0;omega)) (oN))
    have rd1:=At.keep hK' AB1_1.out (oP _ _ (fun _=>(by show B2≠B1;omega)) (oN))
    iterate 3 (first|(refine fxo ?_ ?_;(go_big_quiet_step (fail);(try simp only [zq]);exact wqn rfl))|(refine fxs (by kernel_rfl) ?_))
    refine fxo (wlg (by rfl) rfl rfl rd0 Tryz.underlying23 rfl (qaW V_mb.out) (wqn (by simp only [zq]))) ?_
    first|(refine fxo ?_ ?_;(go_big_quiet_step (fail);(try simp only [zq]);exact wqn rfl))|(refine fxs (by kernel_rfl) ?_)
    refine fxo (wlg (by rfl) rfl rfl rd1 Tryz.underlying23 rfl (qaW V_ma.out) (wqn (by simp only [zq]))) ?_
    iterate 3 (refine fxs (by kernel_rfl) ?_)
    first|(refine fxo ?_ ?_;(go_big_quiet_step (fail);(try simp only [zq]);exact wqn rfl))|(refine fxs (by kernel_rfl) ?_)
    exact fxn
   ·exact oP _ _ (bnc) (oN)
   ·exact oP _ _ (fun _=>⟨AB2.out.lt,rfl,At.room AB2.out (qI V_cz.out) (qI V_cr.out)⟩) (oN)
   ·exact uno
   ·exact oP _ _ (stw rfl (qI V_cr.out) (qbL V_cr.out) (fun _=>rfl)) (oN)
   intro β wx5 E
   replace FR:=hid (FR.out.flow E (oP _ _ (fun _=>(by show B0≤B2;omega)) (oN)))
   replace AB0:=hid (At.flow E AB0.out (oP _ _ (fun _=>(by show B2≠B0;omega)) (oN)))
   replace AB1:=hid (At.flow E AB1.out (oP _ _ (fun _=>(by show B2≠B1;omega)) (oN)))
   replace AB2:=hid (show At wx5 B2 0 cr from E.atOld mms rfl AB2.out.lt)
   replace AB0_1:=hid (At.flow E AB0_1.out (oP _ _ (fun _=>(by show B2≠B0;omega)) (oN)))
   replace AB1_1:=hid (At.flow E AB1_1.out (oP _ _ (fun _=>(by show B2≠B1;omega)) (oN)))
   simp only [nP,zr,zq]
   replace FR0:=hid FR.out.le
   clear E
   go_wp2_with fail
   have hld:=AB2.out.read (P:=Tryz.prog) Tryz.underlying25 rfl (qI V_cr.out)
   refine bodyPost_ret (v:=.tuple #[.agg cr.toArray,.int .i64 0]) (by simp [results,Tryz.results78,asAddr,hld]) rfl ?_
   exact ⟨rfl,fend HB0 FR⟩
  ·obtain ⟨x,hx⟩:∃ x,x=cmpI a b:=⟨_,rfl⟩
   have hx0:¬x<0:=by rw [hx];unfold cmpI;rw [if_neg hl];split<;>omega
   have HX:=hid (qgT V_ma.out V_mb.out hx HL.out.1 HL.out.2.1)
   have hd:v=a - b∧n=cs1 sa (a - b):=by
    have:=qpF na nb a b (by rw [←HP.out.1,←HP.out.2.1];exact HS.out) hl
    exact ⟨by rw [HP.out.2.2.2,this.2],by rw [HP.out.2.2.1,this.1,HP.out.1]⟩
   obtain ⟨md,V_md⟩:∃ c:List Value,Hid (c=lv 32 (a - b)):=⟨_,hid rfl⟩
   have HDF:=hid (qtO V_ma.out V_mb.out V_md.out HL.out.1 HL.out.2.1 (by omega))
   have HC:=hid (qeE (neg:=sa) V_md.out (show cr=.bool n::lv 32 (a - b) by rw [←hd.1];exact V_cr.out) hd.2 (by rw [←hd.1];exact HL.out.2.2))
   clear hd hx hl
   refine wfn [] [(38,.pointer (some ⟨B0,1,none⟩)),(39,.agg ma.toArray),(40,.pointer (some ⟨B1,1,none⟩)),(41,.agg mb.toArray),(42,.int .i64 x),(43,.bool false)] _ (by simp only [zz4,zz5,zq];rfl) (by kernel_rfl) (by kernel_rfl) rfl ?_ ?_ ?_ ?_
   ·intro W' hW'
    have rd0:=AB0_1.out.below hW'
    have rd1:=AB1_1.out.below hW'
    refine fxo ?_ ?_;(go_big_quiet_step (fail);(try simp only [zq]);exact wqn rfl)
    refine fxo (wlg (by rfl) rfl rfl rd0 Tryz.underlying23 rfl (qaW V_ma.out) (wqn (by simp only [zq]))) ?_
    refine fxo ?_ ?_;(go_big_quiet_step (fail);(try simp only [zq]);exact wqn rfl)
    refine fxo (wlg (by rfl) rfl rfl rd1 Tryz.underlying23 rfl (qaW V_mb.out) (wqn (by simp only [zq]))) ?_
    refine fxo ?_ ?_;(go_big_quiet_step ((go_at_call 118;exact qaA (HX.out _)));(try simp only [zq]);exact wqn rfl)
    refine fxo ?_ ?_;(go_big_quiet_step (fail);(try simp only [zq]);exact wqn rfl)
    exact fxn
   ·exact oN
   ·exact oN
   intro β wx3 E
   replace FR:=hid (FR.out.fnw E rfl)
   replace AB0:=hid (AB0.out.fnw E rfl)
   replace AB1:=hid (AB1.out.fnw E rfl)
   replace AB2:=hid (AB2.out.fnw E rfl)
   replace AB0_1:=hid (AB0_1.out.fnw E rfl)
   replace AB1_1:=hid (AB1_1.out.fnw E rfl)
   have hE:=E.below rfl
   simp only [nP,zr,zq]
   replace FR0:=hid FR.out.le
   clear E
   clear hx0
   go_upto_region 9 with fail
   refine qwf [⟨false,0,4,8,B2,0,25,53,cr,0,cr,[]⟩] [(46,.pointer (some ⟨B0,0,none⟩)),(47,.bool sa),(48,.pointer (some ⟨B0,1,none⟩)),(49,.agg ma.toArray),(50,.pointer (some ⟨B1,1,none⟩)),(51,.agg mb.toArray),(52,.agg md.toArray),(53,.agg cr.toArray),(5,.int .i64 0)] _ (by simp only [zz4,zz5,zq];rfl) (by kernel_rfl) (by kernel_rfl) ?_ ?_ ?_ ?_ ?_ ?_ ?_
   ·intro W' hW'
    have cl0:=fun p os=>qaF ((AB0.out.below hW').neg V_cA.out) p os
    have rd0:=AB0_1.out.below hW'
    have rd1:=AB1_1.out.below hW'
    iterate 3 (refine fxo ?_ ?_;(go_big_quiet_step (fail);(try simp only [zq]);exact wqn rfl))
    refine fxo (wlg (by rfl) rfl rfl rd0 Tryz.underlying23 rfl (qaW V_ma.out) (wqn (by simp only [zq]))) ?_
    refine fxo ?_ ?_;(go_big_quiet_step (fail);(try simp only [zq]);exact wqn rfl)
    refine fxo (wlg (by rfl) rfl rfl rd1 Tryz.underlying23 rfl (qaW V_mb.out) (wqn (by simp only [zq]))) ?_
    refine fxo ?_ ?_;(go_big_quiet_step ((go_at_call 119;exact qaA (HDF.out _)));(try simp only [zq]);exact wqn rfl)
    refine fxo ?_ ?_;(go_big_quiet_step ((go_at_call 113;exact qaA (HC.out _)));(try simp only [zq]);exact wqn rfl)
    refine fxs (by rfl) ?_
    refine fxo ?_ ?_;(go_big_quiet_step (fail);(try simp only [zq]);exact wqn rfl)
    exact fxn
   ·intro W' hK'
    have rd0:=At.keep hK' AB0_1.out (oP _ _ (fun _=>(by show B2≠B0;omega)) (oN))
    have rd1:=At.keep hK' AB1_1.out (oP _ _ (fun _=>(by show B2≠B1;omega)) (oN))
    iterate 3 (first|(refine fxo ?_ ?_;(go_big_quiet_step (fail);(try simp only [zq]);exact wqn rfl))|(refine fxs (by kernel_rfl) ?_))
    refine fxo (wlg (by rfl) rfl rfl rd0 Tryz.underlying23 rfl (qaW V_ma.out) (wqn (by simp only [zq]))) ?_
    first|(refine fxo ?_ ?_;(go_big_quiet_step (fail);(try simp only [zq]);exact wqn rfl))|(refine fxs (by kernel_rfl) ?_)
    refine fxo (wlg (by rfl) rfl rfl rd1 Tryz.underlying23 rfl (qaW V_mb.out) (wqn (by simp only [zq]))) ?_
    iterate 3 (refine fxs (by kernel_rfl) ?_)
    first|(refine fxo ?_ ?_;(go_big_quiet_step (fail);(try simp only [zq]);exact wqn rfl))|(refine fxs (by kernel_rfl) ?_)
    exact fxn
   ·exact oP _ _ (bnc) (oN)
   ·exact oP _ _ (fun _=>⟨AB2.out.lt,rfl,At.room AB2.out (qI V_cz.out) (qI V_cr.out)⟩) (oN)
   ·exact uno
   ·exact oP _ _ (stw rfl (qI V_cr.out) (qbL V_cr.out) (fun _=>rfl)) (oN)
   intro β wx4 E
   replace FR:=hid (FR.out.flow E (oP _ _ (fun _=>(by show B0≤B2;omega)) (oN)))
   replace AB0:=hid (At.flow E AB0.out (oP _ _ (fun _=>(by show B2≠B0;omega)) (oN)))
   replace AB1:=hid (At.flow E AB1.out (oP _ _ (fun _=>(by show B2≠B1;omega)) (oN)))
   replace AB2:=hid (show At wx4 B2 0 cr from E.atOld mms rfl AB2.out.lt)
   replace AB0_1:=hid (At.flow E AB0_1.out (oP _ _ (fun _=>(by show B2≠B0;omega)) (oN)))
   replace AB1_1:=hid (At.flow E AB1_1.out (oP _ _ (fun _=>(by show B2≠B1;omega)) (oN)))
   simp only [nP,zr,zq]
   replace FR0:=hid FR.out.le
   clear E
   go_wp2_with fail
   have hld:=AB2.out.read (P:=Tryz.prog) Tryz.underlying25 rfl (qI V_cr.out)
   refine bodyPost_ret (v:=.tuple #[.agg cr.toArray,.int .i64 0]) (by simp [results,Tryz.results78,asAddr,hld]) rfl ?_
   exact ⟨rfl,fend HB0 FR⟩
end Go.Proofs.YtooeabibhjbkoaaGreat
