import Derived.Test.YtooeabibhjbkoaaGreatAlC
import Derived.Test.YtooeabibhjbkoaaGreatAlD
import Derived.Test.YtooeabibhjbkoaaGreatQrA
set_option linter.unusedVariables false
set_option linter.unusedSimpArgs false
set_option maxRecDepth 100000
namespace Go.Proofs.YtooeabibhjbkoaaGreat
open Go.RowKit Big Al Tok Ap
theorem At.of_own {w:World} {B n g cap:Nat} {e:TypeId} {size:Nat} {xs:List Value} (h:w.ownsRow B e size (.slice (some ⟨g,0,none⟩) n cap) n xs):At w g 0 xs:=by
 have hc:=fun g'=>World.ownsRow.cells h (g:=g')
 rcases h.2 with ⟨h2,_⟩|⟨g',cap',cur,hv,hg,hh,hrest⟩
 ·cases h2
 ·injection hv with h1 h2 h3
  injection h1 with h1
  injection h1 with h1
  subst h1
  refine ⟨fun j u hj=>?_,fun j hj=>?_,(Array.getElem?_eq_some_iff.1 hh).1⟩
  ·have:=hc g rfl j u hj
   have hadd:(⟨g,0,none⟩:Addr).add j=⟨g,0+j,none⟩:=by unfold Addr.add;split<;>simp_all
   rwa [hadd] at this
  ·obtain ⟨u,hu⟩:∃ u,xs[j]?=some u:=⟨xs[j]'hj,List.getElem?_eq_getElem hj⟩
   have:=hc g rfl j u hu
   have hadd:(⟨g,0,none⟩:Addr).add j=⟨g,0+j,none⟩:=by unfold Addr.add;split<;>simp_all
   rw [hadd] at this
   exact ⟨by rw [this];rfl,frozen_of_row _ _ _ _ _ hh⟩
theorem jbF {a b i j:Nat} (ha:a<BB^i) (hb:b<BB^j):a*b<BB^(i+j):=by
 rw [Nat.pow_add];exact Nat.mul_lt_mul'' ha hb
theorem jaA {a i j:Nat} (ha:a<BB^i) (hij:i≤j):a<BB^j:=Nat.lt_of_lt_of_le ha (Nat.pow_le_pow_right qaN hij)
namespace Al
end Al
def cellsQ (rs:List Qn):List Value:=rs.flatMap fun r=>ratZ r.1 r.2
theorem cellB {w:World} {g k:Nat} {cb:List Value} {v:Value} (h:At w g 0 cb) (hk:cb[k]?=some v):w.cell? ⟨g,k,none⟩=some v:=by
 have:=h.range k v hk
 rwa [Nat.zero_add] at this
theorem qhW (n:Nat):iZ (n:Int)=.bool false::lv 32 n:=by unfold iZ;rw [Int.natAbs_natCast,decide_eq_false (by omega)]
theorem At.grown {w w':World} {b o:Nat} {cs:List Value} {row:Option Nat} (h:At w b o cs) (hg:w.grownBy w' row) (hq:∀ q,row=some q→q≠b):At w' b o cs:=by
 have hk:=hg.block b h.lt (fun e=>hq b e.symm rfl)
 refine ⟨fun j v hj=>?_,fun j hj=>?_,Nat.lt_of_lt_of_le h.lt hg.size⟩
 ·rw [World.cell?_of_block (w:=w) hk];exact h.range j v hj
 ·rw [World.cell?_of_block (w:=w) hk,World.frozen?_of_block (w:=w) hk];exact h.there j hj
theorem Tryz.infoI33:(Tryz.prog.info? 25).map (·.size)=some 33:=by kernel_rfl
theorem qpJ {a b:Int} {i j:Nat} (ha:a.natAbs<BB^i) (hb:b.natAbs<BB^j):(a*b).natAbs<BB^(i+j):=by rw [Int.natAbs_mul];exact jbF ha hb
structure ExB (c:Qn) (M o:Nat) (y:Int):Prop where
 n:c.1.natAbs<BB^15
 d:((c.2:Nat):Int).natAbs<BB^15
 m:((M:Nat):Int).natAbs<BB^2
 o:((o:Nat):Int).natAbs<BB^2
 y:y.natAbs<BB^2
 pos:c.2*M≠0
theorem ExB.num {c:Qn} {M o:Nat} {y:Int} (h:ExB c M o y):(c.1*(o:Int)+y*(c.2:Int)*(M:Int)).natAbs<BB^32:=by
 have h1:=jaA (qpJ h.n h.o) (show 15+2≤30 by omega)
 have h2:=jaA (qpJ (qpJ h.y h.d) h.m) (show 2+15+2≤30 by omega)
 have h3:=quK
 omega
theorem ExB.den {c:Qn} {M o:Nat} {y:Int} (h:ExB c M o y):c.2*M<BB^32:=by
 have:=jaA (qpJ h.d h.m) (show 15+2≤32 by omega)
 rwa [←Int.natCast_mul,Int.natAbs_natCast] at this
end Go.Proofs.YtooeabibhjbkoaaGreat
set_option maxHeartbeats 8000000
namespace Go.Proofs.YtooeabibhjbkoaaGreat
open Go.RowKit Big
open Lib (hid)
theorem qyF {n:Bool} {p:Nat} (hn:true=cs1 true p) (h:n=true):-1=sgnI n p:=by
 have h1:p≠0:=by rintro rfl;simp [cs1] at hn
 unfold sgnI
 rw [if_neg h1,if_pos h]
theorem qoB {cr:List Value} {n:Bool} {p q:Nat} (hr:cr=rat n p false q) (hn:n=cs1 n p) (hp:p<B480) (hq:q<B480) (h0:q≠0) (hg:Nat.gcd p q=1) (w:World) :
  Calls Tryz.prog 77 #[.agg cr.toArray] w fun e w'=>e=.returned (.bool true)∧Below w.heap.size w w':=by
 have V_cr:=hid hr
 obtain ⟨x1,hx1⟩:=qaE p
 obtain ⟨x2,hx2⟩:=qaE q
 have hx1b:=qeO hp hx1
 have hx2b:=qeO hq hx2
 obtain ⟨cn,V_cn⟩:∃ c:List Value,Hid (c=.bool n::lv 32 p):=⟨_,hid rfl⟩
 obtain ⟨cd,V_cd⟩:∃ c:List Value,Hid (c=.bool false::lv 32 q):=⟨_,hid rfl⟩
 obtain ⟨co,V_co⟩:∃ c:List Value,Hid (c=.bool false::lv 32 1):=⟨_,hid rfl⟩
 have HSD:=hid (qbR (s:=1) V_cd.out (by unfold sgnI;rw [if_neg h0];rfl) (qaJ hq))
 have HB1:=hid (qdF V_cn.out (qaJ hp) hx1)
 have HB2:=hid (qdF V_cd.out (qaJ hq) hx2)
 have HG:=hid (qoV V_cn.out V_cd.out V_co.out hg.symm (qaJ hp) (qaJ hq))
 have HO:=hid (qeC (z:=1) V_co.out rfl rfl (by decide) (by decide))
 have H1:=hid (show 1<BB^32 from Nat.one_lt_pow (by omega) (by unfold BB;omega))
 have n1:(x1:Int)≤480:=by omega
 have n2:(x2:Int)≤480:=by omega
 have HSN:=hid (fun (h:n=true)=>qbR (s:=-1) V_cn.out (qyF (h ▸ hn) h) (qaJ hp))
 clear hr hn hp hq h0 hg hx1 hx2 hx1b hx2b
 obtain ⟨B0,hB0⟩:∃ B,B=w.heap.size:=⟨_,rfl⟩
 obtain ⟨w0,hw0⟩:∃ w0,w0=(w.alloc (.cells cr.toArray 27)):=⟨_,rfl⟩
 have AB0:=hid (show At w0 B0 0 cr by rw [hw0];exact (show At (w.alloc (.cells cr.toArray 27)) B0 0 cr from At.fresh _ cr _ (by simp [hB0])))
 have FR:=hid (show Fr B0 w w0 by rw [hw0,hB0];exact (Fr.start w).alloc _)
 have FR0:=hid FR.out.le
 have hZB0:B0≤B0:=Nat.le_refl _
 have HB0:=hid hB0
 go_enter Tryz.func77,Tryz.ntmps77
 go_upto_region 1 with fail
 rw [←hw0,←hB0]
 clear hw0 hB0
 have AB0_n:=hid (AB0.out.num V_cr.out V_cn.out)
 have AB0_d:=hid (AB0.out.den V_cr.out V_cd.out)
 cases n with
 | true =>
  refine wfn [] [(3,.pointer (some ⟨B0,0,none⟩)),(4,.pointer (some ⟨B0,0,none⟩)),(5,.bool true),(6,.bool true),(7,.pointer (some ⟨B0,0,none⟩)),(8,.agg cn.toArray),(9,.int .i64 (-1)),(10,.bool false),(11,.bool false),(12,.bool false),(13,.pointer (some ⟨B0,33,none⟩)),(14,.agg cd.toArray),(15,.int .i64 1),(16,.bool false),(17,.bool false)] _ (by simp only [zz4,zz5,zq];rfl) (by kernel_rfl) (by kernel_rfl) rfl ?_ ?_ ?_ ?_
  ·intro W' hW'
   have cl0:=fun p os=>qaF ((AB0_n.out.below hW').neg V_cn.out) p os
   have rd0:=AB0_n.out.below hW'
   have rd1:=AB0_d.out.below hW'
   iterate 5 (refine fxo ?_ ?_;(go_big_quiet_step (fail);(try simp only [zq]);exact wqn rfl))
   refine fxo (wlg (by rfl) rfl rfl rd0 Tryz.underlying25 rfl (qI V_cn.out) (wqn (by simp only [zq]))) ?_
   refine fxo ?_ ?_;(go_big_quiet_step ((go_at_call 110;exact qaA (HSN.out rfl _)));(try simp only [zq]);exact wqn rfl)
   iterate 4 (refine fxo ?_ ?_;(go_big_quiet_step (fail);(try simp only [zq]);exact wqn rfl))
   refine fxo (wlg (by rfl) rfl rfl rd1 Tryz.underlying25 rfl (qI V_cd.out) (wqn (by simp only [zq]))) ?_
   refine fxo ?_ ?_;(go_big_quiet_step ((go_at_call 110;exact qaA (HSD.out _)));(try simp only [zq]);exact wqn rfl)
   iterate 2 (refine fxo ?_ ?_;(go_big_quiet_step (fail);(try simp only [zq]);exact wqn rfl))
   exact fxn
  ·exact oN
  ·exact oN
  intro β wx1 E
  replace FR:=hid (FR.out.fnw E rfl)
  replace AB0:=hid (AB0.out.fnw E rfl)
  replace AB0_n:=hid (AB0_n.out.fnw E rfl)
  replace AB0_d:=hid (AB0_d.out.fnw E rfl)
  have hE:=E.below rfl
  simp only [nP,zr,zq]
  replace FR0:=hid FR.out.le
  clear E
  go_upto_region 3 with fail
  refine wfn [] [(18,.pointer (some ⟨B0,0,none⟩)),(19,.agg cn.toArray),(20,.int .i64 (x1:Int)),(21,.bool true),(22,.bool true),(23,.pointer (some ⟨B0,33,none⟩)),(24,.agg cd.toArray),(25,.int .i64 (x2:Int)),(26,.bool true),(27,.bool true),(28,.bool true),(29,.pointer (some ⟨B0,0,none⟩)),(30,.agg cn.toArray),(31,.pointer (some ⟨B0,33,none⟩)),(32,.agg cd.toArray),(33,.agg co.toArray),(34,.agg co.toArray),(35,.bool true),(36,.bool true),(2,.bool true)] _ (by simp only [zz4,zz5,zq];rfl) (by kernel_rfl) (by kernel_rfl) rfl ?_ ?_ ?_ ?_
  ·intro W' hW'
   have rd0:=AB0_n.out.below hW'
   have rd1:=AB0_d.out.below hW'
   refine fxo ?_ ?_;(go_big_quiet_step (fail);(try simp only [zq]);exact wqn rfl)
   refine fxo (wlg (by rfl) rfl rfl rd0 Tryz.underlying25 rfl (qI V_cn.out) (wqn (by simp only [zq]))) ?_
   refine fxo ?_ ?_;(go_big_quiet_step ((go_at_call 115;exact qaA (HB1.out _)));(try simp only [zq]);exact wqn rfl)
   iterate 3 (refine fxo ?_ ?_;(go_big_quiet_step (fail);(try simp only [zq]);exact wqn rfl))
   refine fxo (wlg (by rfl) rfl rfl rd1 Tryz.underlying25 rfl (qI V_cd.out) (wqn (by simp only [zq]))) ?_
   refine fxo ?_ ?_;(go_big_quiet_step ((go_at_call 115;exact qaA (HB2.out _)));(try simp only [zq]);exact wqn rfl)
   iterate 4 (refine fxo ?_ ?_;(go_big_quiet_step (fail);(try simp only [zq]);exact wqn rfl))
   refine fxo (wlg (by rfl) rfl rfl rd0 Tryz.underlying25 rfl (qI V_cn.out) (wqn (by simp only [zq]))) ?_
   refine fxo ?_ ?_;(go_big_quiet_step (fail);(try simp only [zq]);exact wqn rfl)
   refine fxo (wlg (by rfl) rfl rfl rd1 Tryz.underlying25 rfl (qI V_cd.out) (wqn (by simp only [zq]))) ?_
   refine fxo ?_ ?_;(go_big_quiet_step ((go_at_call 116;exact qaA (HG.out _)));(try simp only [zq]);exact wqn rfl)
   refine fxo ?_ ?_;(go_big_quiet_step ((go_at_call 76;exact qaA (HO.out _)));(try simp only [zq]);exact wqn rfl)
   refine fxo (qdR (r:=true) (by rfl) rfl rfl rfl V_co.out V_co.out H1.out H1.out (by simp) (wqn (by simp only [zq]))) ?_
   iterate 2 (refine fxo ?_ ?_;(go_big_quiet_step (fail);(try simp only [zq]);exact wqn rfl))
   exact fxn
  ·exact oN
  ·exact oN
  intro β wx2 E
  replace FR:=hid (FR.out.fnw E rfl)
  replace AB0:=hid (AB0.out.fnw E rfl)
  replace AB0_n:=hid (AB0_n.out.fnw E rfl)
  replace AB0_d:=hid (AB0_d.out.fnw E rfl)
  have hE:=E.below rfl
  simp only [nP,zr,zq]
  replace FR0:=hid FR.out.le
  clear E
  go_wp2
  go_ret
  exact ⟨rfl,fend HB0 FR⟩
 | false =>
  refine wfn [] [(3,.pointer (some ⟨B0,0,none⟩)),(4,.pointer (some ⟨B0,0,none⟩)),(5,.bool false),(6,.bool false),(7,undef),(8,undef),(9,undef),(10,undef),(11,.bool false),(12,.bool false),(13,.pointer (some ⟨B0,33,none⟩)),(14,.agg cd.toArray),(15,.int .i64 1),(16,.bool false),(17,.bool false)] _ (by simp only [zz4,zz5,zq];rfl) (by kernel_rfl) (by kernel_rfl) rfl ?_ ?_ ?_ ?_
  ·intro W' hW'
   have cl0:=fun p os=>qaF ((AB0_n.out.below hW').neg V_cn.out) p os
   have rd0:=AB0_d.out.below hW'
   iterate 11 (refine fxo ?_ ?_;(go_big_quiet_step (fail);(try simp only [zq]);exact wqn rfl))
   refine fxo (wlg (by rfl) rfl rfl rd0 Tryz.underlying25 rfl (qI V_cd.out) (wqn (by simp only [zq]))) ?_
   refine fxo ?_ ?_;(go_big_quiet_step ((go_at_call 110;exact qaA (HSD.out _)));(try simp only [zq]);exact wqn rfl)
   iterate 2 (refine fxo ?_ ?_;(go_big_quiet_step (fail);(try simp only [zq]);exact wqn rfl))
   exact fxn
  ·exact oN
  ·exact oN
  intro β wx1 E
  replace FR:=hid (FR.out.fnw E rfl)
  replace AB0:=hid (AB0.out.fnw E rfl)
  replace AB0_n:=hid (AB0_n.out.fnw E rfl)
  replace AB0_d:=hid (AB0_d.out.fnw E rfl)
  have hE:=E.below rfl
  simp only [nP,zr,zq]
  replace FR0:=hid FR.out.le
  clear E
  go_upto_region 3 with fail
  refine wfn [] [(18,.pointer (some ⟨B0,0,none⟩)),(19,.agg cn.toArray),(20,.int .i64 (x1:Int)),(21,.bool true),(22,.bool true),(23,.pointer (some ⟨B0,33,none⟩)),(24,.agg cd.toArray),(25,.int .i64 (x2:Int)),(26,.bool true),(27,.bool true),(28,.bool true),(29,.pointer (some ⟨B0,0,none⟩)),(30,.agg cn.toArray),(31,.pointer (some ⟨B0,33,none⟩)),(32,.agg cd.toArray),(33,.agg co.toArray),(34,.agg co.toArray),(35,.bool true),(36,.bool true),(2,.bool true)] _ (by simp only [zz4,zz5,zq];rfl) (by kernel_rfl) (by kernel_rfl) rfl ?_ ?_ ?_ ?_
  ·intro W' hW'
   have rd0:=AB0_n.out.below hW'
   have rd1:=AB0_d.out.below hW'
   refine fxo ?_ ?_;(go_big_quiet_step (fail);(try simp only [zq]);exact wqn rfl)
   refine fxo (wlg (by rfl) rfl rfl rd0 Tryz.underlying25 rfl (qI V_cn.out) (wqn (by simp only [zq]))) ?_
   refine fxo ?_ ?_;(go_big_quiet_step ((go_at_call 115;exact qaA (HB1.out _)));(try simp only [zq]);exact wqn rfl)
   iterate 3 (refine fxo ?_ ?_;(go_big_quiet_step (fail);(try simp only [zq]);exact wqn rfl))
   refine fxo (wlg (by rfl) rfl rfl rd1 Tryz.underlying25 rfl (qI V_cd.out) (wqn (by simp only [zq]))) ?_
   refine fxo ?_ ?_;(go_big_quiet_step ((go_at_call 115;exact qaA (HB2.out _)));(try simp only [zq]);exact wqn rfl)
   iterate 4 (refine fxo ?_ ?_;(go_big_quiet_step (fail);(try simp only [zq]);exact wqn rfl))
   refine fxo (wlg (by rfl) rfl rfl rd0 Tryz.underlying25 rfl (qI V_cn.out) (wqn (by simp only [zq]))) ?_
   refine fxo ?_ ?_;(go_big_quiet_step (fail);(try simp only [zq]);exact wqn rfl)
   refine fxo (wlg (by rfl) rfl rfl rd1 Tryz.underlying25 rfl (qI V_cd.out) (wqn (by simp only [zq]))) ?_
   refine fxo ?_ ?_;(go_big_quiet_step ((go_at_call 116;exact qaA (HG.out _)));(try simp only [zq]);exact wqn rfl)
   refine fxo ?_ ?_;(go_big_quiet_step ((go_at_call 76;exact qaA (HO.out _)));(try simp only [zq]);exact wqn rfl)
   refine fxo (qdR (r:=true) (by rfl) rfl rfl rfl V_co.out V_co.out H1.out H1.out (by simp) (wqn (by simp only [zq]))) ?_
   iterate 2 (refine fxo ?_ ?_;(go_big_quiet_step (fail);(try simp only [zq]);exact wqn rfl))
   exact fxn
  ·exact oN
  ·exact oN
  intro β wx2 E
  replace FR:=hid (FR.out.fnw E rfl)
  replace AB0:=hid (AB0.out.fnw E rfl)
  replace AB0_n:=hid (AB0_n.out.fnw E rfl)
  replace AB0_d:=hid (AB0_d.out.fnw E rfl)
  have hE:=E.below rfl
  simp only [nP,zr,zq]
  replace FR0:=hid FR.out.le
  clear E
  go_wp2
  go_ret
  exact ⟨rfl,fend HB0 FR⟩
theorem qsI {c d r:List Value} {na nb n:Bool} {a b v:Nat} (hc:c=.bool na::lv 32 a) (hd:d=.bool nb::lv 32 b) (hr:r=.bool n::lv 32 v) (hv:v=a*b) (hn:n=cs1 (na != nb) v) (ha:a<BB^32) (hb:b<BB^32) (hvb:v<BB^32) (W:World) :
  Calls Tryz.prog 120 #[.agg c.toArray,.agg d.toArray] W fun e w'=>e=.returned (.tuple #[.agg r.toArray,.int .i64 0])∧Below W.heap.size W w':=by
 subst hn hv hc hd hr;exact qyV na nb a b W ha hb hvb
theorem raddZ {ca cb cr:List Value} {a b:Int} (h1:ca=iZ a) (h2:cb=iZ b) (hr:cr=iZ (a+b)) (ha:a.natAbs<BB^32) (hb:b.natAbs<BB^32) (hv:(a+b).natAbs<BB^32) (w:World) :
  Calls Tryz.prog 78 #[.agg ca.toArray,.agg cb.toArray] w fun e w'=>e=.returned (.tuple #[.agg cr.toArray,.int .i64 0])∧Below w.heap.size w w':=by
 subst h1 h2 hr
 exact qxZ (decide (a<0)) (decide (b<0)) (decide (a+b<0)) a.natAbs b.natAbs (a+b).natAbs w ha hb hv (by rw [qhK,qhK]) (by rw [qhK,qhK])
theorem rmulZ {ca cb cr:List Value} {a b:Int} (h1:ca=iZ a) (h2:cb=iZ b) (hr:cr=iZ (a*b)) (ha:a.natAbs<BB^32) (hb:b.natAbs<BB^32) (hv:(a*b).natAbs<BB^32) (w:World) :
  Calls Tryz.prog 120 #[.agg ca.toArray,.agg cb.toArray] w fun e w'=>e=.returned (.tuple #[.agg cr.toArray,.int .i64 0])∧Below w.heap.size w w' :=
 qsI h1 h2 hr (qkB a b) (by rw [qjD,qkB]) ha hb hv w
theorem qxI {cr:List Value} {z:Int} (h:cr=iZ z) (h1:-9223372036854775808≤z) (h2:z≤9223372036854775807) (w:World) :
  Calls Tryz.prog 76 #[.int .i64 z] w fun e w'=>e=.returned (.agg cr.toArray)∧Below w.heap.size w w' :=
 qeC h rfl rfl h1 h2 w
theorem qyI {cr:List Value} {z:Int} (h:cr=ratZ z 1) (h1:-9223372036854775808≤z) (h2:z≤9223372036854775807) (w:World) :
  Calls Tryz.prog 44 #[.int .i64 z] w fun e w'=>e=.returned (.agg cr.toArray)∧Below w.heap.size w w':=by
 subst h;exact qnZ z _ _ w rfl rfl h1 h2
theorem qdV {c:List Value} {r:Qn} (h:c=ratZ r.1 r.2) (hv:VQ r) (w:World) :
  Calls Tryz.prog 77 #[.agg c.toArray] w fun e w'=>e=.returned (.bool true)∧Below w.heap.size w w' :=
 qoB h (qwM _).symm hv.num hv.den hv.pos hv.low w
theorem qpS {ca cb cR:List Value} {na n:Bool} {a b g p q:Nat} (h1:ca=.bool na::lv 32 a) (h2:cb=.bool false::lv 32 b) (hR:cR=rat false 0 false 0) (hg:g=Nat.gcd a b) (hp:p=a / g) (hq:q=b / g)
  (ha:a<BB^32) (hb:b<BB^32) (h0:b≠0) (hov:¬(p<B480∧q<B480)) (w:World) :
  Calls Tryz.prog 80 #[.agg ca.toArray,.agg cb.toArray] w fun e w'=>e=.returned (.tuple #[.agg cR.toArray,.int .i64 10])∧Below w.heap.size w w':=by
 have V_ca:=hid h1
 have V_cb:=hid h2
 have V_cR:=hid hR
 have hg0:g≠0:=by rw [hg];intro h;exact h0 (Nat.eq_zero_of_gcd_eq_zero_right h)
 have hga:g∣a:=by rw [hg];exact Nat.gcd_dvd_left a b
 have hgb:g∣b:=by rw [hg];exact Nat.gcd_dvd_right a b
 have hq0:q≠0:=by rw [hq];intro h;have:=Nat.div_mul_cancel hgb;rw [h] at this;omega
 have hgB:g<BB^32:=by rw [hg];exact qiP ha hb
 have hpB:p<BB^32:=by rw [hp];exact Nat.lt_of_le_of_lt (Nat.div_le_self _ _) ha
 have hqB:q<BB^32:=by rw [hq];exact Nat.lt_of_le_of_lt (Nat.div_le_self _ _) hb
 obtain ⟨x1,hx1⟩:=qaE p
 obtain ⟨x2,hx2⟩:=qaE q
 have hf1:=qdN hx1
 have hf2:=qdN hx2
 obtain ⟨hs1,hs2,hs3,hs4⟩:=qkX na false p q hq0
 obtain ⟨sn,hsn⟩:∃ s,s=cs1 na p:=⟨_,rfl⟩
 obtain ⟨s,hs⟩:∃ s,s=sgnI false b:=⟨_,rfl⟩
 have hse:(s==0)=false:=by
  rw [hs];unfold sgnI;rw [if_neg h0];rfl
 obtain ⟨cg,V_cg⟩:∃ c:List Value,Hid (c=.bool false::lv 32 g):=⟨_,hid rfl⟩
 obtain ⟨cN,V_cN⟩:∃ c:List Value,Hid (c=.bool sn::lv 32 p):=⟨_,hid rfl⟩
 obtain ⟨cD,V_cD⟩:∃ c:List Value,Hid (c=.bool false::lv 32 q):=⟨_,hid rfl⟩
 obtain ⟨ce,V_ce⟩:∃ c:List Value,Hid (c=.bool false::lv 32 0):=⟨_,hid rfl⟩
 obtain ⟨cz,V_cz⟩:∃ c:List Value,Hid (c=rat false 0 false 0):=⟨_,hid rfl⟩
 have HS:=hid (qbR V_cb.out hs hb)
 have HG:=hid (qoV V_ca.out V_cb.out V_cg.out hg ha hb)
 have HDN:=hid (qdP (s:=sn) V_ca.out V_cg.out V_cN.out V_ce.out (by rw [hsn];cases na<;>rfl) (by rw [hp];exact (qcE na a g hga).1) (qcE na a g hga).2 ha hgB hg0)
 have HDD:=hid (qdP (s:=false) V_cb.out V_cg.out V_cD.out V_ce.out hs1.symm (by rw [hq];exact (qcE false b g hgb).1) (qcE false b g hgb).2 hb hgB hg0)
 have HS2:=hid (qbR (s:=1) V_cD.out hs4.symm hqB)
 have HB1:=hid (qdF V_cN.out hpB hx1)
 have HB2:=hid (qdF V_cD.out hqB hx2)
 have hov2:(480:Int)<(x1:Int)∨(¬(480:Int)<(x1:Int)∧(480:Int)<(x2:Int)):=by
  by_cases h:(x1:Int)≤480
  ·refine .inr ⟨by omega,?_⟩
   by_cases h':(x2:Int)≤480
   ·exact absurd ⟨hf1.1 h,hf2.1 h'⟩ hov
   ·omega
  ·exact .inl (by omega)
 clear h1 h2 hR hg hp hq ha hb h0 hg0 hga hgb hq0 hgB hx1 hx2 hs1 hs2 hs3 hs4 hsn hs hpB hqB hf1 hf2 hov
 obtain ⟨B0,hB0⟩:∃ B,B=w.heap.size:=⟨_,rfl⟩
 obtain ⟨B1,hB1⟩:∃ B,B=w.heap.size+1:=⟨_,rfl⟩
 obtain ⟨B2,hB2⟩:∃ B,B=w.heap.size+1+1:=⟨_,rfl⟩
 obtain ⟨w0,hw0⟩:∃ w0,w0=(((w.alloc (.cells ca.toArray 25)).alloc (.cells cb.toArray 25)).alloc (.cells Tryz.zeroCells27 27)):=⟨_,rfl⟩
 have AB0:=hid (show At w0 B0 0 ca by rw [hw0];exact (((show At (w.alloc (.cells ca.toArray 25)) B0 0 ca from At.fresh _ ca _ (by simp [hB0])).alloc _).alloc _))
 have AB1:=hid (show At w0 B1 0 cb by rw [hw0];exact ((show At ((w.alloc (.cells ca.toArray 25)).alloc (.cells cb.toArray 25)) B1 0 cb from At.fresh _ cb _ (by simp [hB1])).alloc _))
 have AB2:=hid (show At w0 B2 0 cz by rw [hw0];exact (show At (((w.alloc (.cells ca.toArray 25)).alloc (.cells cb.toArray 25)).alloc (.cells Tryz.zeroCells27 27)) B2 0 cz from (by rw [Tryz.zeroR,V_cz.out];exact At.fresh _ (rat false 0 false 0) _ (by simp [hB2]))))
 have FR:=hid (show Fr B0 w w0 by rw [hw0,hB0];exact (((Fr.start w).alloc _).alloc _).alloc _)
 have FR0:=hid FR.out.le
 have l01:B0<B1:=by omega
 have hZB1:B0≤B1:=by omega
 have l12:B1<B2:=by omega
 have hZB2:B0≤B2:=by omega
 have hZB0:B0≤B0:=Nat.le_refl _
 have HB0:=hid hB0
 go_enter Tryz.func80,Tryz.ntmps80
 go_upto_region 1 with fail
 rw [←hw0,←hB2,←hB1,←hB0]
 clear hw0 hB0 hB1 hB2
 refine wfn [] [(13,.agg cb.toArray),(14,.int .i64 s),(15,.bool false)] _ (by simp only [zz4,zz5,zq];rfl) (by kernel_rfl) (by kernel_rfl) rfl ?_ ?_ ?_ ?_
 ·intro W' hW'
  have rd0:=AB1.out.below hW'
  refine fxo (wlg (by rfl) rfl rfl rd0 Tryz.underlying25 rfl (qI V_cb.out) (wqn (by simp only [zq]))) ?_
  refine fxo ?_ ?_;(go_big_quiet_step ((go_at_call 110;exact qaA (HS.out _)));(try simp only [zq]);exact wqn rfl)
  refine fxo ?_ ?_;(go_big_quiet_step (fail);(try simp only [zq]);exact wqn rfl)
  exact fxn
 ·exact oN
 ·exact oN
 intro β wx1 E
 replace FR:=hid (FR.out.fnw E rfl)
 replace AB0:=hid (AB0.out.fnw E rfl)
 replace AB1:=hid (AB1.out.fnw E rfl)
 replace AB2:=hid (AB2.out.fnw E rfl)
 have hE:=E.below rfl
 simp only [nP,zr,zq]
 replace FR0:=hid FR.out.le
 clear E
 clear hse
 go_upto_region 3 with fail
 refine wfn [⟨true,3,6,4,0,0,25,19,cg,0,cg,[]⟩] [(17,.agg ca.toArray),(18,.agg cb.toArray),(19,.agg cg.toArray)] _ (by simp only [zz4,zz5,zq];rfl) (by kernel_rfl) (by kernel_rfl) rfl ?_ ?_ ?_ ?_
 ·intro W' hW'
  have rd0:=AB0.out.below hW'
  have rd1:=AB1.out.below hW'
  refine fxo (wlg (by rfl) rfl rfl rd0 Tryz.underlying25 rfl (qI V_ca.out) (wqn (by simp only [zq]))) ?_
  refine fxo (wlg (by rfl) rfl rfl rd1 Tryz.underlying25 rfl (qI V_cb.out) (wqn (by simp only [zq]))) ?_
  refine fxo ?_ ?_;(go_big_quiet_step ((go_at_call 116;exact qaA (HG.out _)));(try simp only [zq]);exact wqn rfl)
  iterate 2 (refine fxs (by rfl) ?_)
  exact fxn
 ·exact oP _ _ (Tryz.alI (qI V_cg.out)) (oN)
 ·exact oP _ _ (stw rfl (qI V_cg.out) (qbL V_cg.out) (fun _=>rfl)) (oN)
 intro β wx2 E
 replace FR:=hid (FR.out.fnw E rfl)
 obtain ⟨b6,hb6⟩:∃ b,b=β 3:=⟨_,rfl⟩
 have eb6:=E.atNew mms rfl
 simp only at eb6
 rw [←hb6] at eb6
 have lB0_b6:B0<b6:=by have h1:=eb6.1;have h2:=AB0.out.lt;omega
 have lB1_b6:B1<b6:=by have h1:=eb6.1;have h2:=AB1.out.lt;omega
 have lB2_b6:B2<b6:=by have h1:=eb6.1;have h2:=AB2.out.lt;omega
 have hZb6:B0≤b6:=by have h1:=eb6.1;have h2:=FR0.out;omega
 replace AB0:=hid (AB0.out.fnw E rfl)
 replace AB1:=hid (AB1.out.fnw E rfl)
 replace AB2:=hid (AB2.out.fnw E rfl)
 have Ab6:=hid eb6.2
 simp only [nP,zr,zq]
 rw [←hb6]
 replace FR0:=hid FR.out.le
 clear E eb6 hb6
 go_upto_region 4 with fail
 refine wfn [⟨true,7,7,9,0,0,25,24,cN,0,cN,[]⟩,⟨true,8,8,10,0,0,25,25,ce,0,ce,[]⟩] [(21,.agg ca.toArray),(22,.agg cg.toArray),(23,.tuple #[.agg cN.toArray,.agg ce.toArray,.int .i64 0]),(20,.tuple #[.agg cN.toArray,.agg ce.toArray,.int .i64 0]),(24,.agg cN.toArray),(25,.agg ce.toArray),(26,.int .i64 0),(9,.int .i64 0)] _ (by simp only [zz4,zz5,zq];rfl) (by kernel_rfl) (by kernel_rfl) rfl ?_ ?_ ?_ ?_
 ·intro W' hW'
  have rd0:=AB0.out.below hW'
  have rd1:=Ab6.out.below hW'
  refine fxo (wlg (by rfl) rfl rfl rd0 Tryz.underlying25 rfl (qI V_ca.out) (wqn (by simp only [zq]))) ?_
  refine fxo (wlg (by rfl) rfl rfl rd1 Tryz.underlying25 rfl (qI V_cg.out) (wqn (by simp only [zq]))) ?_
  refine fxo ?_ ?_;(go_big_quiet_step ((go_at_call 109;exact qaA (HDN.out _)));(try simp only [zq]);exact wqn rfl)
  iterate 4 (refine fxo ?_ ?_;(go_big_quiet_step (fail);(try simp only [zq]);exact wqn rfl))
  iterate 4 (refine fxs (by rfl) ?_)
  refine fxo ?_ ?_;(go_big_quiet_step (fail);(try simp only [zq]);exact wqn rfl)
  exact fxn
 ·exact oP _ _ (Tryz.alI (qI V_cN.out)) (oP _ _ (Tryz.alI (qI V_ce.out)) (oN))
 ·exact oP _ _ (stw rfl (qI V_cN.out) (qbL V_cN.out) (fun _=>rfl)) (oP _ _ (stw rfl (qI V_ce.out) (qbL V_ce.out) (fun _=>rfl)) (oN))
 intro β wx3 E
 replace FR:=hid (FR.out.fnw E rfl)
 obtain ⟨b7,hb7⟩:∃ b,b=β 7:=⟨_,rfl⟩
 have eb7:=E.atNew mms rfl
 simp only at eb7
 rw [←hb7] at eb7
 have lB0_b7:B0<b7:=by have h1:=eb7.1;have h2:=AB0.out.lt;omega
 have lB1_b7:B1<b7:=by have h1:=eb7.1;have h2:=AB1.out.lt;omega
 have lB2_b7:B2<b7:=by have h1:=eb7.1;have h2:=AB2.out.lt;omega
 have lb6_b7:b6<b7:=by have h1:=eb7.1;have h2:=Ab6.out.lt;omega
 have hZb7:B0≤b7:=by have h1:=eb7.1;have h2:=FR0.out;omega
 obtain ⟨b8,hb8⟩:∃ b,b=β 8:=⟨_,rfl⟩
 have eb8:=E.atNew (List.mem_cons_of_mem _ mms) rfl
 simp only at eb8
 rw [←hb8] at eb8
 have lB0_b8:B0<b8:=by have h1:=eb8.1;have h2:=AB0.out.lt;omega
 have lB1_b8:B1<b8:=by have h1:=eb8.1;have h2:=AB1.out.lt;omega
 have lB2_b8:B2<b8:=by have h1:=eb8.1;have h2:=AB2.out.lt;omega
 have lb6_b8:b6<b8:=by have h1:=eb8.1;have h2:=Ab6.out.lt;omega
 have hZb8:B0≤b8:=by have h1:=eb8.1;have h2:=FR0.out;omega
 have nb7_b8:b7≠b8:=fun e=>absurd (E.apart _ mms _ (List.mem_cons_of_mem _ mms) rfl rfl (by rw [hb7,hb8] at e;exact e)) (show ¬(7:Nat)=8 by decide)
 clear AB0
 replace AB1:=hid (AB1.out.fnw E rfl)
 replace AB2:=hid (AB2.out.fnw E rfl)
 replace Ab6:=hid (Ab6.out.fnw E rfl)
 have Ab7:=hid eb7.2
 have Ab8:=hid eb8.2
 simp only [nP,zr,zq]
 rw [←hb7]
 rw [←hb8]
 replace FR0:=hid FR.out.le
 clear E eb7 hb7 eb8 hb8
 go_upto_region 5 with fail
 refine wfn [⟨true,7,10,9,0,0,25,31,cD,0,cD,[]⟩,⟨true,8,11,10,0,0,25,32,ce,0,ce,[]⟩] [(28,.agg cb.toArray),(29,.agg cg.toArray),(30,.tuple #[.agg cD.toArray,.agg ce.toArray,.int .i64 0]),(27,.tuple #[.agg cD.toArray,.agg ce.toArray,.int .i64 0]),(31,.agg cD.toArray),(32,.agg ce.toArray),(33,.int .i64 0),(12,.int .i64 0)] _ (by simp only [zz4,zz5,zq];rfl) (by kernel_rfl) (by kernel_rfl) rfl ?_ ?_ ?_ ?_
 ·intro W' hW'
  have rd0:=AB1.out.below hW'
  have rd1:=Ab6.out.below hW'
  refine fxo (wlg (by rfl) rfl rfl rd0 Tryz.underlying25 rfl (qI V_cb.out) (wqn (by simp only [zq]))) ?_
  refine fxo (wlg (by rfl) rfl rfl rd1 Tryz.underlying25 rfl (qI V_cg.out) (wqn (by simp only [zq]))) ?_
  refine fxo ?_ ?_;(go_big_quiet_step ((go_at_call 109;exact qaA (HDD.out _)));(try simp only [zq]);exact wqn rfl)
  iterate 4 (refine fxo ?_ ?_;(go_big_quiet_step (fail);(try simp only [zq]);exact wqn rfl))
  iterate 4 (refine fxs (by rfl) ?_)
  refine fxo ?_ ?_;(go_big_quiet_step (fail);(try simp only [zq]);exact wqn rfl)
  exact fxn
 ·exact oP _ _ (Tryz.alI (qI V_cD.out)) (oP _ _ (Tryz.alI (qI V_ce.out)) (oN))
 ·exact oP _ _ (stw rfl (qI V_cD.out) (qbL V_cD.out) (fun _=>rfl)) (oP _ _ (stw rfl (qI V_ce.out) (qbL V_ce.out) (fun _=>rfl)) (oN))
 intro β wx4 E
 replace FR:=hid (FR.out.fnw E rfl)
 obtain ⟨b10,hb10⟩:∃ b,b=β 7:=⟨_,rfl⟩
 have eb10:=E.atNew mms rfl
 simp only at eb10
 rw [←hb10] at eb10
 have lB1_b10:B1<b10:=by have h1:=eb10.1;have h2:=AB1.out.lt;omega
 have lB2_b10:B2<b10:=by have h1:=eb10.1;have h2:=AB2.out.lt;omega
 have lb6_b10:b6<b10:=by have h1:=eb10.1;have h2:=Ab6.out.lt;omega
 have lb7_b10:b7<b10:=by have h1:=eb10.1;have h2:=Ab7.out.lt;omega
 have lb8_b10:b8<b10:=by have h1:=eb10.1;have h2:=Ab8.out.lt;omega
 have hZb10:B0≤b10:=by have h1:=eb10.1;have h2:=FR0.out;omega
 obtain ⟨b11,hb11⟩:∃ b,b=β 8:=⟨_,rfl⟩
 have eb11:=E.atNew (List.mem_cons_of_mem _ mms) rfl
 simp only at eb11
 rw [←hb11] at eb11
 have lB1_b11:B1<b11:=by have h1:=eb11.1;have h2:=AB1.out.lt;omega
 have lB2_b11:B2<b11:=by have h1:=eb11.1;have h2:=AB2.out.lt;omega
 have lb6_b11:b6<b11:=by have h1:=eb11.1;have h2:=Ab6.out.lt;omega
 have lb7_b11:b7<b11:=by have h1:=eb11.1;have h2:=Ab7.out.lt;omega
 have lb8_b11:b8<b11:=by have h1:=eb11.1;have h2:=Ab8.out.lt;omega
 have hZb11:B0≤b11:=by have h1:=eb11.1;have h2:=FR0.out;omega
 have nb10_b11:b10≠b11:=fun e=>absurd (E.apart _ mms _ (List.mem_cons_of_mem _ mms) rfl rfl (by rw [hb10,hb11] at e;exact e)) (show ¬(7:Nat)=8 by decide)
 clear AB1
 replace AB2:=hid (AB2.out.fnw E rfl)
 clear Ab6
 replace Ab7:=hid (Ab7.out.fnw E rfl)
 clear Ab8
 have Ab10:=hid eb10.2
 have Ab11:=hid eb11.2
 simp only [nP,zr,zq]
 rw [←hb10]
 rw [←hb11]
 replace FR0:=hid FR.out.le
 clear E eb10 hb10 eb11 hb11
 go_upto_region 6 with fail
 refine wfn [] [(34,.agg cD.toArray),(35,.int .i64 1),(36,.bool false)] _ (by simp only [zz4,zz5,zq];rfl) (by kernel_rfl) (by kernel_rfl) rfl ?_ ?_ ?_ ?_
 ·intro W' hW'
  have rd0:=Ab10.out.below hW'
  refine fxo (wlg (by rfl) rfl rfl rd0 Tryz.underlying25 rfl (qI V_cD.out) (wqn (by simp only [zq]))) ?_
  refine fxo ?_ ?_;(go_big_quiet_step ((go_at_call 110;exact qaA (HS2.out _)));(try simp only [zq]);exact wqn rfl)
  refine fxo ?_ ?_;(go_big_quiet_step (fail);(try simp only [zq]);exact wqn rfl)
  exact fxn
 ·exact oN
 ·exact oN
 intro β wx5 E
 replace FR:=hid (FR.out.fnw E rfl)
 replace AB2:=hid (AB2.out.fnw E rfl)
 replace Ab7:=hid (Ab7.out.fnw E rfl)
 replace Ab10:=hid (Ab10.out.fnw E rfl)
 replace Ab11:=hid (Ab11.out.fnw E rfl)
 have hE:=E.below rfl
 simp only [nP,zr,zq]
 replace FR0:=hid FR.out.le
 clear E
 go_upto_region 8 with fail
 rcases hov2 with h1|⟨h1,h2⟩
 ·refine wfn [] [(41,.agg cN.toArray),(42,.int .i64 (x1:Int)),(43,.bool true),(44,.bool true),(45,undef),(46,undef),(47,undef),(48,.bool true)] _ (by simp only [zz4,zz5,zq];rfl) (by kernel_rfl) (by kernel_rfl) rfl ?_ ?_ ?_ ?_
  ·intro W' hW'
   have rd0:=Ab7.out.below hW'
   refine fxo (wlg (by rfl) rfl rfl rd0 Tryz.underlying25 rfl (qI V_cN.out) (wqn (by simp only [zq]))) ?_
   refine fxo ?_ ?_;(go_big_quiet_step ((go_at_call 115;exact qaA (HB1.out _)));(try simp only [zq]);exact wqn rfl)
   iterate 6 (refine fxo ?_ ?_;(go_big_quiet_step (fail);(try simp only [zq]);exact wqn rfl))
   exact fxn
  ·exact oN
  ·exact oN
  intro β wx6 E
  replace FR:=hid (FR.out.fnw E rfl)
  replace AB2:=hid (AB2.out.fnw E rfl)
  replace Ab7:=hid (Ab7.out.fnw E rfl)
  replace Ab10:=hid (Ab10.out.fnw E rfl)
  replace Ab11:=hid (Ab11.out.fnw E rfl)
  have hE:=E.below rfl
  simp only [nP,zr,zq]
  replace FR0:=hid FR.out.le
  clear E
  go_upto_region 9 with fail
  refine qwf [⟨false,0,4,1,B2,0,27,49,cR,0,cR,[]⟩] [(49,.agg cR.toArray),(5,.int .i64 10)] _ (by simp only [zz4,zz5,zq];rfl) (by kernel_rfl) (by kernel_rfl) ?_ ?_ ?_ ?_ ?_ ?_ ?_
  ·intro W' hW'
   refine fxo (wqB rfl _ _ rfl _ rfl _ (qdB V_cR.out) (wqn (by simp only [zq]))) ?_
   refine fxs (by rfl) ?_
   refine fxo ?_ ?_;(go_big_quiet_step (fail);(try simp only [zq]);exact wqn rfl)
   exact fxn
  ·intro W' hK'
   refine fxo (wqB rfl _ _ rfl _ rfl _ (qdB V_cR.out) (wqn (by simp only [zq]))) ?_
   refine fxs (by kernel_rfl) ?_
   first|(refine fxo ?_ ?_;(go_big_quiet_step (fail);(try simp only [zq]);exact wqn rfl))|(refine fxs (by kernel_rfl) ?_)
   exact fxn
  ·exact oP _ _ (bnc) (oN)
  ·exact oP _ _ (fun _=>⟨AB2.out.lt,rfl,At.room AB2.out (qR V_cz.out) (qR V_cR.out)⟩) (oN)
  ·exact uno
  ·exact oP _ _ (stw rfl (qR V_cR.out) (qhE V_cR.out) (fun _=>rfl)) (oN)
  intro β wx7 E
  replace FR:=hid (FR.out.flow E (oP _ _ (fun _=>(by show B0≤B2;omega)) (oN)))
  replace AB2:=hid (show At wx7 B2 0 cR from E.atOld mms rfl AB2.out.lt)
  replace Ab7:=hid (At.flow E Ab7.out (oP _ _ (fun _=>(by show B2≠b7;omega)) (oN)))
  replace Ab10:=hid (At.flow E Ab10.out (oP _ _ (fun _=>(by show B2≠b10;omega)) (oN)))
  replace Ab11:=hid (At.flow E Ab11.out (oP _ _ (fun _=>(by show B2≠b11;omega)) (oN)))
  simp only [nP,zr,zq]
  replace FR0:=hid FR.out.le
  clear E
  go_wp2_with fail
  have hld:=AB2.out.read (P:=Tryz.prog) Tryz.underlying27 rfl (qR V_cR.out)
  refine bodyPost_ret (v:=.tuple #[.agg cR.toArray,.int .i64 10]) (by simp [results,Tryz.results80,asAddr,hld]) rfl ?_
  exact ⟨rfl,fend HB0 FR⟩
 ·refine wfn [] [(41,.agg cN.toArray),(42,.int .i64 (x1:Int)),(43,.bool false),(44,.bool false),(45,.agg cD.toArray),(46,.int .i64 (x2:Int)),(47,.bool true),(48,.bool true)] _ (by simp only [zz4,zz5,zq];rfl) (by kernel_rfl) (by kernel_rfl) rfl ?_ ?_ ?_ ?_
  ·intro W' hW'
   have rd0:=Ab7.out.below hW'
   have rd1:=Ab10.out.below hW'
   refine fxo (wlg (by rfl) rfl rfl rd0 Tryz.underlying25 rfl (qI V_cN.out) (wqn (by simp only [zq]))) ?_
   refine fxo ?_ ?_;(go_big_quiet_step ((go_at_call 115;exact qaA (HB1.out _)));(try simp only [zq]);exact wqn rfl)
   iterate 2 (refine fxo ?_ ?_;(go_big_quiet_step (fail);(try simp only [zq]);exact wqn rfl))
   refine fxo (wlg (by rfl) rfl rfl rd1 Tryz.underlying25 rfl (qI V_cD.out) (wqn (by simp only [zq]))) ?_
   refine fxo ?_ ?_;(go_big_quiet_step ((go_at_call 115;exact qaA (HB2.out _)));(try simp only [zq]);exact wqn rfl)
   iterate 2 (refine fxo ?_ ?_;(go_big_quiet_step (fail);(try simp only [zq]);exact wqn rfl))
   exact fxn
  ·exact oN
  ·exact oN
  intro β wx6 E
  replace FR:=hid (FR.out.fnw E rfl)
  replace AB2:=hid (AB2.out.fnw E rfl)
  replace Ab7:=hid (Ab7.out.fnw E rfl)
  replace Ab10:=hid (Ab10.out.fnw E rfl)
  replace Ab11:=hid (Ab11.out.fnw E rfl)
  have hE:=E.below rfl
  simp only [nP,zr,zq]
  replace FR0:=hid FR.out.le
  clear E
  go_upto_region 9 with fail
  refine qwf [⟨false,0,4,1,B2,0,27,49,cR,0,cR,[]⟩] [(49,.agg cR.toArray),(5,.int .i64 10)] _ (by simp only [zz4,zz5,zq];rfl) (by kernel_rfl) (by kernel_rfl) ?_ ?_ ?_ ?_ ?_ ?_ ?_
  ·intro W' hW'
   refine fxo (wqB rfl _ _ rfl _ rfl _ (qdB V_cR.out) (wqn (by simp only [zq]))) ?_
   refine fxs (by rfl) ?_
   refine fxo ?_ ?_;(go_big_quiet_step (fail);(try simp only [zq]);exact wqn rfl)
   exact fxn
  ·intro W' hK'
   refine fxo (wqB rfl _ _ rfl _ rfl _ (qdB V_cR.out) (wqn (by simp only [zq]))) ?_
   refine fxs (by kernel_rfl) ?_
   first|(refine fxo ?_ ?_;(go_big_quiet_step (fail);(try simp only [zq]);exact wqn rfl))|(refine fxs (by kernel_rfl) ?_)
   exact fxn
  ·exact oP _ _ (bnc) (oN)
  ·exact oP _ _ (fun _=>⟨AB2.out.lt,rfl,At.room AB2.out (qR V_cz.out) (qR V_cR.out)⟩) (oN)
  ·exact uno
  ·exact oP _ _ (stw rfl (qR V_cR.out) (qhE V_cR.out) (fun _=>rfl)) (oN)
  intro β wx7 E
  replace FR:=hid (FR.out.flow E (oP _ _ (fun _=>(by show B0≤B2;omega)) (oN)))
  replace AB2:=hid (show At wx7 B2 0 cR from E.atOld mms rfl AB2.out.lt)
  replace Ab7:=hid (At.flow E Ab7.out (oP _ _ (fun _=>(by show B2≠b7;omega)) (oN)))
  replace Ab10:=hid (At.flow E Ab10.out (oP _ _ (fun _=>(by show B2≠b10;omega)) (oN)))
  replace Ab11:=hid (At.flow E Ab11.out (oP _ _ (fun _=>(by show B2≠b11;omega)) (oN)))
  simp only [nP,zr,zq]
  replace FR0:=hid FR.out.le
  clear E
  go_wp2_with fail
  have hld:=AB2.out.read (P:=Tryz.prog) Tryz.underlying27 rfl (qR V_cR.out)
  refine bodyPost_ret (v:=.tuple #[.agg cR.toArray,.int .i64 10]) (by simp [results,Tryz.results80,asAddr,hld]) rfl ?_
  exact ⟨rfl,fend HB0 FR⟩
theorem qrP {ca cb:List Value} {N:Int} {D:Nat} (h1:ca=iZ N) (h2:cb=iZ (D:Int)) {cR:List Value} {code:Int} (hR:cR=resR (mkQ N D)) (hc:code=resE (mkQ N D)) (ha:N.natAbs<BB^32) (hb:D<BB^32) (h0:D≠0) (w:World) :
  Calls Tryz.prog 80 #[.agg ca.toArray,.agg cb.toArray] w fun e w'=>e=.returned (.tuple #[.agg cR.toArray,.int .i64 code])∧Below w.heap.size w w':=by
 have hs:=qeR N (N.natAbs / Nat.gcd N.natAbs D) (fun h0=>by subst h0;simp)
 have h2':cb=.bool false::lv 32 D:=by rw [h2,qhW]
 by_cases hbd:N.natAbs / Nat.gcd N.natAbs D<B480∧D / Nat.gcd N.natAbs D<B480
 ·obtain rfl:code=0:=by rw [hc];unfold mkQ;rw [if_pos hbd];rfl
  refine qzB (na:=decide (N<0)) (nb:=false) (n:=cs1 (decide (N<0)) (N.natAbs / Nat.gcd N.natAbs D)) (a:=N.natAbs) (b:=D) (g:=Nat.gcd N.natAbs D) h1 h2' ?_ (by simp) rfl rfl rfl ha hb h0 hbd.1 hbd.2 w
  rw [hR];unfold mkQ;rw [if_pos hbd]
  simp only [resR,ratZ]
  rw [hs.1,hs.2]
 ·obtain rfl:code=10:=by rw [hc];unfold mkQ;rw [if_neg hbd];rfl
  exact qpS (n:=false) h1 h2' (by rw [hR];unfold mkQ;rw [if_neg hbd];rfl) rfl rfl rfl ha hb h0 hbd w
theorem qhN {ca cb cr:List Value} {a b:Int} (h1:ca=iZ a) (h2:cb=iZ b) (hr:cr=iZ (a*b)) (ha:a.natAbs<BB^32) (hb:b.natAbs<BB^32) (hv:(a*b).natAbs<BB^32) (w:World) :
  Calls Tryz.prog 79 #[.agg ca.toArray,.agg cb.toArray] w fun e w'=>e=.returned (.agg cr.toArray)∧Below w.heap.size w w':=by
 have V_ca:=hid h1
 have V_cb:=hid h2
 have V_cr:=hid hr
 obtain ⟨cz,V_cz⟩:∃ c:List Value,Hid (c=.bool false::lv 32 0):=⟨_,hid rfl⟩
 have HM:=hid (rmulZ V_ca.out V_cb.out V_cr.out ha hb hv)
 clear h1 h2 hr ha hb hv
 obtain ⟨B0,hB0⟩:∃ B,B=w.heap.size:=⟨_,rfl⟩
 obtain ⟨B1,hB1⟩:∃ B,B=w.heap.size+1:=⟨_,rfl⟩
 obtain ⟨B2,hB2⟩:∃ B,B=w.heap.size+1+1:=⟨_,rfl⟩
 obtain ⟨w0,hw0⟩:∃ w0,w0=(((w.alloc (.cells ca.toArray 25)).alloc (.cells cb.toArray 25)).alloc (.cells zero33 25)):=⟨_,rfl⟩
 have AB0:=hid (show At w0 B0 0 ca by rw [hw0];exact (((show At (w.alloc (.cells ca.toArray 25)) B0 0 ca from At.fresh _ ca _ (by simp [hB0])).alloc _).alloc _))
 have AB1:=hid (show At w0 B1 0 cb by rw [hw0];exact ((show At ((w.alloc (.cells ca.toArray 25)).alloc (.cells cb.toArray 25)) B1 0 cb from At.fresh _ cb _ (by simp [hB1])).alloc _))
 have AB2:=hid (show At w0 B2 0 cz by rw [hw0];exact (show At (((w.alloc (.cells ca.toArray 25)).alloc (.cells cb.toArray 25)).alloc (.cells zero33 25)) B2 0 cz from (by rw [V_cz.out];exact At.zero _ _ (by simp [hB2]))))
 have FR:=hid (show Fr B0 w w0 by rw [hw0,hB0];exact (((Fr.start w).alloc _).alloc _).alloc _)
 have FR0:=hid FR.out.le
 have l01:B0<B1:=by omega
 have hZB1:B0≤B1:=by omega
 have l12:B1<B2:=by omega
 have hZB2:B0≤B2:=by omega
 have hZB0:B0≤B0:=Nat.le_refl _
 unfold zero33 at hw0
 have HB0:=hid hB0
 go_enter Tryz.func79,Tryz.ntmps79
 go_upto_region 1 with fail
 rw [←hw0,←hB2,←hB1,←hB0]
 clear hw0 hB0 hB1 hB2
 refine wfn [⟨true,6,5,7,0,0,25,11,cr,0,cr,[]⟩] [(8,.agg ca.toArray),(9,.agg cb.toArray),(10,.tuple #[.agg cr.toArray,.int .i64 0]),(7,.tuple #[.agg cr.toArray,.int .i64 0]),(11,.agg cr.toArray),(12,.int .i64 0),(6,.int .i64 0)] _ (by simp only [zz4,zz5,zq];rfl) (by kernel_rfl) (by kernel_rfl) rfl ?_ ?_ ?_ ?_
 ·intro W' hW'
  have rd0:=AB0.out.below hW'
  have rd1:=AB1.out.below hW'
  refine fxo (wlg (by rfl) rfl rfl rd0 Tryz.underlying25 rfl (qI V_ca.out) (wqn (by simp only [zq]))) ?_
  refine fxo (wlg (by rfl) rfl rfl rd1 Tryz.underlying25 rfl (qI V_cb.out) (wqn (by simp only [zq]))) ?_
  refine fxo ?_ ?_;(go_big_quiet_step ((go_at_call 120;exact qaA (HM.out _)));(try simp only [zq]);exact wqn rfl)
  iterate 3 (refine fxo ?_ ?_;(go_big_quiet_step (fail);(try simp only [zq]);exact wqn rfl))
  iterate 2 (refine fxs (by rfl) ?_)
  refine fxo ?_ ?_;(go_big_quiet_step (fail);(try simp only [zq]);exact wqn rfl)
  exact fxn
 ·exact oP _ _ (Tryz.alI (qI V_cr.out)) (oN)
 ·exact oP _ _ (stw rfl (qI V_cr.out) (qbL V_cr.out) (fun _=>rfl)) (oN)
 intro β wx1 E
 replace FR:=hid (FR.out.fnw E rfl)
 obtain ⟨b5,hb5⟩:∃ b,b=β 6:=⟨_,rfl⟩
 have eb5:=E.atNew mms rfl
 simp only at eb5
 rw [←hb5] at eb5
 have lB0_b5:B0<b5:=by have h1:=eb5.1;have h2:=AB0.out.lt;omega
 have lB1_b5:B1<b5:=by have h1:=eb5.1;have h2:=AB1.out.lt;omega
 have lB2_b5:B2<b5:=by have h1:=eb5.1;have h2:=AB2.out.lt;omega
 have hZb5:B0≤b5:=by have h1:=eb5.1;have h2:=FR0.out;omega
 replace AB0:=hid (AB0.out.fnw E rfl)
 replace AB1:=hid (AB1.out.fnw E rfl)
 replace AB2:=hid (AB2.out.fnw E rfl)
 have Ab5:=hid eb5.2
 simp only [nP,zr,zq]
 rw [←hb5]
 replace FR0:=hid FR.out.le
 clear E eb5 hb5
 go_upto_region 2 with fail
 refine qwf [⟨false,0,4,1,B2,0,25,13,cr,0,cr,[]⟩] [(13,.agg cr.toArray)] _ (by simp only [zz4,zz5,zq];rfl) (by kernel_rfl) (by kernel_rfl) ?_ ?_ ?_ ?_ ?_ ?_ ?_
 ·intro W' hW'
  have rd0:=Ab5.out.below hW'
  refine fxo (wlg (by rfl) rfl rfl rd0 Tryz.underlying25 rfl (qI V_cr.out) (wqn (by simp only [zq]))) ?_
  refine fxs (by rfl) ?_
  exact fxn
 ·intro W' hK'
  have rd0:=At.keep hK' Ab5.out (oP _ _ (fun _=>(by show B2≠b5;omega)) (oN))
  refine fxo (wlg (by rfl) rfl rfl rd0 Tryz.underlying25 rfl (qI V_cr.out) (wqn (by simp only [zq]))) ?_
  refine fxs (by kernel_rfl) ?_
  exact fxn
 ·exact oP _ _ (bnc) (oN)
 ·exact oP _ _ (fun _=>⟨AB2.out.lt,rfl,At.room AB2.out (qI V_cz.out) (qI V_cr.out)⟩) (oN)
 ·exact uno
 ·exact oP _ _ (stw rfl (qI V_cr.out) (qbL V_cr.out) (fun _=>rfl)) (oN)
 intro β wx2 E
 replace FR:=hid (FR.out.flow E (oP _ _ (fun _=>(by show B0≤B2;omega)) (oN)))
 replace AB0:=hid (At.flow E AB0.out (oP _ _ (fun _=>(by show B2≠B0;omega)) (oN)))
 replace AB1:=hid (At.flow E AB1.out (oP _ _ (fun _=>(by show B2≠B1;omega)) (oN)))
 replace AB2:=hid (show At wx2 B2 0 cr from E.atOld mms rfl AB2.out.lt)
 replace Ab5:=hid (At.flow E Ab5.out (oP _ _ (fun _=>(by show B2≠b5;omega)) (oN)))
 simp only [nP,zr,zq]
 replace FR0:=hid FR.out.le
 clear E
 go_wp2_with fail
 have hld:=AB2.out.read (P:=Tryz.prog) Tryz.underlying25 rfl (qI V_cr.out)
 refine bodyPost_ret (v:=.agg cr.toArray) (by simp [results,Tryz.results79,asAddr,hld]) rfl ?_
 exact ⟨rfl,fend HB0 FR⟩
theorem raddQ {ca cb cR:List Value} {a b:Qn} {code:Int} (h1:ca=ratZ a.1 a.2) (h2:cb=ratZ b.1 b.2) (ha:VQ a) (hb:VQ b) (hR:cR=resR (addQ a b)) (hc:code=resE (addQ a b)) (w:World) :
  Calls Tryz.prog 46 #[.agg ca.toArray,.agg cb.toArray] w fun e w'=>e=.returned (.tuple #[.agg cR.toArray,.int .i64 code])∧Below w.heap.size w w':=by
 have V_ca:=hid h1
 have V_cb:=hid h2
 have hbd:=N_bd ha hb
 have hx:(a.1*(b.2:Int)).natAbs<BB^30:=by rw [Int.natAbs_mul];exact qhR ha.num (by simpa using hb.den)
 have hy:(b.1*(a.2:Int)).natAbs<BB^30:=by rw [Int.natAbs_mul];exact qhR hb.num (by simpa using ha.den)
 have hd:((a.2:Int)*(b.2:Int)).natAbs<BB^30:=by rw [Int.natAbs_mul];exact qhR (by simpa using ha.den) (by simpa using hb.den)
 obtain ⟨rn,rp,rm,rq,hcR⟩:∃ rn rp rm rq,cR=rat rn rp rm rq:=by
  rw [hR]
  cases addQ a b with
  | none=>exact ⟨_,_,_,_,rfl⟩
  | some r=>exact ⟨_,_,_,_,rfl⟩
 have V_cR:=hid hcR
 obtain ⟨cz,V_cz⟩:∃ c:List Value,Hid (c=rat false 0 false 0):=⟨_,hid rfl⟩
 obtain ⟨cna,V_cna⟩:∃ c:List Value,Hid (c=iZ a.1):=⟨_,hid rfl⟩
 obtain ⟨cnb,V_cnb⟩:∃ c:List Value,Hid (c=iZ b.1):=⟨_,hid rfl⟩
 obtain ⟨cx,V_cx⟩:∃ c:List Value,Hid (c=iZ (a.1*(b.2:Int))):=⟨_,hid rfl⟩
 obtain ⟨cy,V_cy⟩:∃ c:List Value,Hid (c=iZ (b.1*(a.2:Int))):=⟨_,hid rfl⟩
 obtain ⟨cs,V_cs⟩:∃ c:List Value,Hid (c=iZ (qpH a b)):=⟨_,hid rfl⟩
 obtain ⟨ce,V_ce⟩:∃ c:List Value,Hid (c=iZ ((a.2:Int)*(b.2:Int))):=⟨_,hid rfl⟩
 obtain ⟨cda,V_cda⟩:∃ c:List Value,Hid (c=.bool false::lv 32 a.2):=⟨_,hid rfl⟩
 obtain ⟨cdb,V_cdb⟩:∃ c:List Value,Hid (c=.bool false::lv 32 b.2):=⟨_,hid rfl⟩
 have hda:cda=iZ (a.2:Int):=by rw [V_cda.out,qhW]
 have hdb:cdb=iZ (b.2:Int):=by rw [V_cdb.out,qhW]
 have HVA:=hid (qdV V_ca.out ha)
 have HVB:=hid (qdV V_cb.out hb)
 have HX:=hid (qhN V_cna.out hdb V_cx.out (qaJ ha.num) (qaJ (by simpa using hb.den)) (b30 hx))
 have HY:=hid (qhN V_cnb.out hda V_cy.out (qaJ hb.num) (qaJ (by simpa using ha.den)) (b30 hy))
 have HD:=hid (qhN hda hdb V_ce.out (qaJ (by simpa using ha.den)) (qaJ (by simpa using hb.den)) (b30 hd))
 have HS:=hid (raddZ V_cx.out V_cy.out V_cs.out (b30 hx) (b30 hy) hbd.1)
 have HM:=hid (qrP V_cs.out (show ce=iZ ((a.2*b.2:Nat):Int) by rw [V_ce.out,Int.natCast_mul]) hR hc hbd.1 hbd.2.2.1 hbd.2.2.2)
 clear h1 h2 ha hb hR hc hbd hx hy hd hcR hda hdb
 obtain ⟨B0,hB0⟩:∃ B,B=w.heap.size:=⟨_,rfl⟩
 obtain ⟨B1,hB1⟩:∃ B,B=w.heap.size+1:=⟨_,rfl⟩
 obtain ⟨B2,hB2⟩:∃ B,B=w.heap.size+1+1:=⟨_,rfl⟩
 obtain ⟨w0,hw0⟩:∃ w0,w0=(((w.alloc (.cells ca.toArray 27)).alloc (.cells cb.toArray 27)).alloc (.cells Tryz.zeroCells27 27)):=⟨_,rfl⟩
 have AB0:=hid (show At w0 B0 0 ca by rw [hw0];exact (((show At (w.alloc (.cells ca.toArray 27)) B0 0 ca from At.fresh _ ca _ (by simp [hB0])).alloc _).alloc _))
 have AB1:=hid (show At w0 B1 0 cb by rw [hw0];exact ((show At ((w.alloc (.cells ca.toArray 27)).alloc (.cells cb.toArray 27)) B1 0 cb from At.fresh _ cb _ (by simp [hB1])).alloc _))
 have AB2:=hid (show At w0 B2 0 cz by rw [hw0];exact (show At (((w.alloc (.cells ca.toArray 27)).alloc (.cells cb.toArray 27)).alloc (.cells Tryz.zeroCells27 27)) B2 0 cz from (by rw [Tryz.zeroR,V_cz.out];exact At.fresh _ (rat false 0 false 0) _ (by simp [hB2]))))
 have FR:=hid (show Fr B0 w w0 by rw [hw0,hB0];exact (((Fr.start w).alloc _).alloc _).alloc _)
 have FR0:=hid FR.out.le
 have l01:B0<B1:=by omega
 have hZB1:B0≤B1:=by omega
 have l12:B1<B2:=by omega
 have hZB2:B0≤B2:=by omega
 have hZB0:B0≤B0:=Nat.le_refl _
 have HB0:=hid hB0
 go_enter Tryz.func46,Tryz.ntmps46
 go_upto_region 1 with fail
 rw [←hw0,←hB2,←hB1,←hB0]
 clear hw0 hB0 hB1 hB2
 refine wfn [] [(8,.agg ca.toArray),(9,.bool true),(10,.bool false),(11,.bool false),(12,.agg cb.toArray),(13,.bool true),(14,.bool false),(15,.bool false)] _ (by simp only [zz4,zz5,zq];rfl) (by kernel_rfl) (by kernel_rfl) rfl ?_ ?_ ?_ ?_
 ·intro W' hW'
  have rd0:=AB0.out.below hW'
  have rd1:=AB1.out.below hW'
  refine fxo (wlg (by rfl) rfl rfl rd0 Tryz.underlying27 rfl (qR V_ca.out) (wqn (by simp only [zq]))) ?_
  refine fxo ?_ ?_;(go_big_quiet_step ((go_at_call 77;exact qaA (HVA.out _)));(try simp only [zq]);exact wqn rfl)
  iterate 2 (refine fxo ?_ ?_;(go_big_quiet_step (fail);(try simp only [zq]);exact wqn rfl))
  refine fxo (wlg (by rfl) rfl rfl rd1 Tryz.underlying27 rfl (qR V_cb.out) (wqn (by simp only [zq]))) ?_
  refine fxo ?_ ?_;(go_big_quiet_step ((go_at_call 77;exact qaA (HVB.out _)));(try simp only [zq]);exact wqn rfl)
  iterate 2 (refine fxo ?_ ?_;(go_big_quiet_step (fail);(try simp only [zq]);exact wqn rfl))
  exact fxn
 ·exact oN
 ·exact oN
 intro β wx1 E
 replace FR:=hid (FR.out.fnw E rfl)
 replace AB0:=hid (AB0.out.fnw E rfl)
 replace AB1:=hid (AB1.out.fnw E rfl)
 replace AB2:=hid (AB2.out.fnw E rfl)
 have hE:=E.below rfl
 simp only [nP,zr,zq]
 replace FR0:=hid FR.out.le
 clear E
 go_upto_region 3 with fail
 have AB0_n:=hid (AB0.out.num V_ca.out V_cna.out)
 have AB0_d:=hid (AB0.out.den V_ca.out V_cda.out)
 have AB1_n:=hid (AB1.out.num V_cb.out V_cnb.out)
 have AB1_d:=hid (AB1.out.den V_cb.out V_cdb.out)
 refine wfn [⟨true,14,6,15,0,0,25,29,cs,0,cs,[]⟩] [(18,.pointer (some ⟨B0,0,none⟩)),(19,.agg cna.toArray),(20,.pointer (some ⟨B1,33,none⟩)),(21,.agg cdb.toArray),(22,.agg cx.toArray),(23,.pointer (some ⟨B1,0,none⟩)),(24,.agg cnb.toArray),(25,.pointer (some ⟨B0,33,none⟩)),(26,.agg cda.toArray),(27,.agg cy.toArray),(28,.tuple #[.agg cs.toArray,.int .i64 0]),(17,.tuple #[.agg cs.toArray,.int .i64 0]),(29,.agg cs.toArray),(30,.int .i64 0),(7,.int .i64 0)] _ (by simp only [zz4,zz5,zq];rfl) (by kernel_rfl) (by kernel_rfl) rfl ?_ ?_ ?_ ?_
 ·intro W' hW'
  have rd0:=AB0_n.out.below hW'
  have rd1:=AB1_d.out.below hW'
  have rd2:=AB1_n.out.below hW'
  have rd3:=AB0_d.out.below hW'
  refine fxo ?_ ?_;(go_big_quiet_step (fail);(try simp only [zq]);exact wqn rfl)
  refine fxo (wlg (by rfl) rfl rfl rd0 Tryz.underlying25 rfl (qI V_cna.out) (wqn (by simp only [zq]))) ?_
  refine fxo ?_ ?_;(go_big_quiet_step (fail);(try simp only [zq]);exact wqn rfl)
  refine fxo (wlg (by rfl) rfl rfl rd1 Tryz.underlying25 rfl (qI V_cdb.out) (wqn (by simp only [zq]))) ?_
  refine fxo ?_ ?_;(go_big_quiet_step ((go_at_call 79;exact qaA (HX.out _)));(try simp only [zq]);exact wqn rfl)
  refine fxo ?_ ?_;(go_big_quiet_step (fail);(try simp only [zq]);exact wqn rfl)
  refine fxo (wlg (by rfl) rfl rfl rd2 Tryz.underlying25 rfl (qI V_cnb.out) (wqn (by simp only [zq]))) ?_
  refine fxo ?_ ?_;(go_big_quiet_step (fail);(try simp only [zq]);exact wqn rfl)
  refine fxo (wlg (by rfl) rfl rfl rd3 Tryz.underlying25 rfl (qI V_cda.out) (wqn (by simp only [zq]))) ?_
  refine fxo ?_ ?_;(go_big_quiet_step ((go_at_call 79;exact qaA (HY.out _)));(try simp only [zq]);exact wqn rfl)
  refine fxo ?_ ?_;(go_big_quiet_step ((go_at_call 78;exact qaA (HS.out _)));(try simp only [zq]);exact wqn rfl)
  iterate 3 (refine fxo ?_ ?_;(go_big_quiet_step (fail);(try simp only [zq]);exact wqn rfl))
  iterate 2 (refine fxs (by rfl) ?_)
  refine fxo ?_ ?_;(go_big_quiet_step (fail);(try simp only [zq]);exact wqn rfl)
  exact fxn
 ·exact oP _ _ (Tryz.alI (qI V_cs.out)) (oN)
 ·exact oP _ _ (stw rfl (qI V_cs.out) (qbL V_cs.out) (fun _=>rfl)) (oN)
 intro β wx2 E
 replace FR:=hid (FR.out.fnw E rfl)
 obtain ⟨b6,hb6⟩:∃ b,b=β 14:=⟨_,rfl⟩
 have eb6:=E.atNew mms rfl
 simp only at eb6
 rw [←hb6] at eb6
 have lB0_b6:B0<b6:=by have h1:=eb6.1;have h2:=AB0.out.lt;omega
 have lB1_b6:B1<b6:=by have h1:=eb6.1;have h2:=AB1.out.lt;omega
 have lB2_b6:B2<b6:=by have h1:=eb6.1;have h2:=AB2.out.lt;omega
 have hZb6:B0≤b6:=by have h1:=eb6.1;have h2:=FR0.out;omega
 replace AB0:=hid (AB0.out.fnw E rfl)
 replace AB1:=hid (AB1.out.fnw E rfl)
 replace AB2:=hid (AB2.out.fnw E rfl)
 replace AB0_n:=hid (AB0_n.out.fnw E rfl)
 replace AB0_d:=hid (AB0_d.out.fnw E rfl)
 replace AB1_n:=hid (AB1_n.out.fnw E rfl)
 replace AB1_d:=hid (AB1_d.out.fnw E rfl)
 have Ab6:=hid eb6.2
 simp only [nP,zr,zq]
 rw [←hb6]
 replace FR0:=hid FR.out.le
 clear E eb6 hb6
 go_upto_region 4 with fail
 refine qwf [⟨false,0,4,9,B2,0,27,38,cR,0,cR,[]⟩] [(31,.agg cs.toArray),(32,.pointer (some ⟨B0,33,none⟩)),(33,.agg cda.toArray),(34,.pointer (some ⟨B1,33,none⟩)),(35,.agg cdb.toArray),(36,.agg ce.toArray),(37,.tuple #[.agg cR.toArray,.int .i64 code]),(38,.agg cR.toArray),(39,.int .i64 code),(5,.int .i64 code)] _ (by simp only [zz4,zz5,zq];rfl) (by kernel_rfl) (by kernel_rfl) ?_ ?_ ?_ ?_ ?_ ?_ ?_
 ·intro W' hW'
  have rd0:=Ab6.out.below hW'
  have rd1:=AB0_d.out.below hW'
  have rd2:=AB1_d.out.below hW'
  refine fxo (wlg (by rfl) rfl rfl rd0 Tryz.underlying25 rfl (qI V_cs.out) (wqn (by simp only [zq]))) ?_
  refine fxo ?_ ?_;(go_big_quiet_step (fail);(try simp only [zq]);exact wqn rfl)
  refine fxo (wlg (by rfl) rfl rfl rd1 Tryz.underlying25 rfl (qI V_cda.out) (wqn (by simp only [zq]))) ?_
  refine fxo ?_ ?_;(go_big_quiet_step (fail);(try simp only [zq]);exact wqn rfl)
  refine fxo (wlg (by rfl) rfl rfl rd2 Tryz.underlying25 rfl (qI V_cdb.out) (wqn (by simp only [zq]))) ?_
  refine fxo ?_ ?_;(go_big_quiet_step ((go_at_call 79;exact qaA (HD.out _)));(try simp only [zq]);exact wqn rfl)
  refine fxo ?_ ?_;(go_big_quiet_step ((go_at_call 80;exact qaA (HM.out _)));(try simp only [zq]);exact wqn rfl)
  iterate 2 (refine fxo ?_ ?_;(go_big_quiet_step (fail);(try simp only [zq]);exact wqn rfl))
  refine fxs (by rfl) ?_
  refine fxo ?_ ?_;(go_big_quiet_step (fail);(try simp only [zq]);exact wqn rfl)
  exact fxn
 ·intro W' hK'
  have rd0:=At.keep hK' Ab6.out (oP _ _ (fun _=>(by show B2≠b6;omega)) (oN))
  have rd1:=At.keep hK' AB0_d.out (oP _ _ (fun _=>(by show B2≠B0;omega)) (oN))
  have rd2:=At.keep hK' AB1_d.out (oP _ _ (fun _=>(by show B2≠B1;omega)) (oN))
  refine fxo (wlg (by rfl) rfl rfl rd0 Tryz.underlying25 rfl (qI V_cs.out) (wqn (by simp only [zq]))) ?_
  first|(refine fxo ?_ ?_;(go_big_quiet_step (fail);(try simp only [zq]);exact wqn rfl))|(refine fxs (by kernel_rfl) ?_)
  refine fxo (wlg (by rfl) rfl rfl rd1 Tryz.underlying25 rfl (qI V_cda.out) (wqn (by simp only [zq]))) ?_
  first|(refine fxo ?_ ?_;(go_big_quiet_step (fail);(try simp only [zq]);exact wqn rfl))|(refine fxs (by kernel_rfl) ?_)
  refine fxo (wlg (by rfl) rfl rfl rd2 Tryz.underlying25 rfl (qI V_cdb.out) (wqn (by simp only [zq]))) ?_
  iterate 2 (refine fxs (by kernel_rfl) ?_)
  iterate 2 (first|(refine fxo ?_ ?_;(go_big_quiet_step (fail);(try simp only [zq]);exact wqn rfl))|(refine fxs (by kernel_rfl) ?_))
  refine fxs (by kernel_rfl) ?_
  first|(refine fxo ?_ ?_;(go_big_quiet_step (fail);(try simp only [zq]);exact wqn rfl))|(refine fxs (by kernel_rfl) ?_)
  exact fxn
 ·exact oP _ _ (bnc) (oN)
 ·exact oP _ _ (fun _=>⟨AB2.out.lt,rfl,At.room AB2.out (qR V_cz.out) (qR V_cR.out)⟩) (oN)
 ·exact uno
 ·exact oP _ _ (stw rfl (qR V_cR.out) (qhE V_cR.out) (fun _=>rfl)) (oN)
 intro β wx3 E
 replace FR:=hid (FR.out.flow E (oP _ _ (fun _=>(by show B0≤B2;omega)) (oN)))
 replace AB0:=hid (At.flow E AB0.out (oP _ _ (fun _=>(by show B2≠B0;omega)) (oN)))
 replace AB1:=hid (At.flow E AB1.out (oP _ _ (fun _=>(by show B2≠B1;omega)) (oN)))
 replace AB2:=hid (show At wx3 B2 0 cR from E.atOld mms rfl AB2.out.lt)
 replace AB0_n:=hid (At.flow E AB0_n.out (oP _ _ (fun _=>(by show B2≠B0;omega)) (oN)))
 replace AB0_d:=hid (At.flow E AB0_d.out (oP _ _ (fun _=>(by show B2≠B0;omega)) (oN)))
 replace AB1_n:=hid (At.flow E AB1_n.out (oP _ _ (fun _=>(by show B2≠B1;omega)) (oN)))
 replace AB1_d:=hid (At.flow E AB1_d.out (oP _ _ (fun _=>(by show B2≠B1;omega)) (oN)))
 replace Ab6:=hid (At.flow E Ab6.out (oP _ _ (fun _=>(by show B2≠b6;omega)) (oN)))
 simp only [nP,zr,zq]
 replace FR0:=hid FR.out.le
 clear E
 go_wp2_with fail
 have hld:=AB2.out.read (P:=Tryz.prog) Tryz.underlying27 rfl (qR V_cR.out)
 refine bodyPost_ret (v:=.tuple #[.agg cR.toArray,.int .i64 code]) (by simp [results,Tryz.results46,asAddr,hld]) rfl ?_
 exact ⟨rfl,fend HB0 FR⟩
theorem rofQ {cR:List Value} {x y:Int} {d:Nat} {code:Int} (hy:y=(d:Int)) (hd:d≠0) (hR:cR=resR (mkQ x d)) (hc:code=resE (mkQ x d)) (h1:-9223372036854775808≤x) (h2:x≤9223372036854775807) (h3:y≤9223372036854775807) (w:World) :
  Calls Tryz.prog 48 #[.int .i64 x,.int .i64 y] w fun e w'=>e=.returned (.tuple #[.agg cR.toArray,.int .i64 code])∧Below w.heap.size w w':=by
 obtain ⟨rn,rp,rm,rq,hcR⟩:∃ rn rp rm rq,cR=rat rn rp rm rq:=by
  rw [hR]
  cases mkQ x d with
  | none=>exact ⟨_,_,_,_,rfl⟩
  | some r=>exact ⟨_,_,_,_,rfl⟩
 have V_cR:=hid hcR
 obtain ⟨cz,V_cz⟩:∃ c:List Value,Hid (c=rat false 0 false 0):=⟨_,hid rfl⟩
 obtain ⟨cx,V_cx⟩:∃ c:List Value,Hid (c=iZ x):=⟨_,hid rfl⟩
 obtain ⟨cy,V_cy⟩:∃ c:List Value,Hid (c=iZ y):=⟨_,hid rfl⟩
 have e1:(9223372036854775809:Nat)≤BB^2:=by unfold BB;decide
 have e2:BB^2≤BB^32:=Nat.pow_le_pow_right qaN (by omega)
 have HX:=hid (qxI V_cx.out h1 h2)
 have HY:=hid (qxI V_cy.out (by omega) h3)
 have HM:=hid (qrP (D:=d) (cb:=cy) V_cx.out (by rw [V_cy.out,hy]) hR hc (by omega) (by omega) hd)
 clear hy hd hR hc h1 h2 h3 hcR e1 e2
 obtain ⟨B0,hB0⟩:∃ B,B=w.heap.size:=⟨_,rfl⟩
 obtain ⟨w0,hw0⟩:∃ w0,w0=(w.alloc (.cells Tryz.zeroCells27 27)):=⟨_,rfl⟩
 have AB0:=hid (show At w0 B0 0 cz by rw [hw0];exact (show At (w.alloc (.cells Tryz.zeroCells27 27)) B0 0 cz from (by rw [Tryz.zeroR,V_cz.out];exact At.fresh _ (rat false 0 false 0) _ (by simp [hB0]))))
 have FR:=hid (show Fr B0 w w0 by rw [hw0,hB0];exact (Fr.start w).alloc _)
 have FR0:=hid FR.out.le
 have hZB0:B0≤B0:=Nat.le_refl _
 have HB0:=hid hB0
 go_enter Tryz.func48,Tryz.ntmps48
 go_upto_region 1 with fail
 rw [←hw0,←hB0]
 clear hw0 hB0
 refine qwf [⟨false,0,4,7,B0,0,27,11,cR,0,cR,[]⟩] [(6,.int .i64 x),(7,.agg cx.toArray),(8,.int .i64 y),(9,.agg cy.toArray),(10,.tuple #[.agg cR.toArray,.int .i64 code]),(11,.agg cR.toArray),(12,.int .i64 code),(5,.int .i64 code)] _ (by simp only [zz4,zz5,zq];rfl) (by kernel_rfl) (by kernel_rfl) ?_ ?_ ?_ ?_ ?_ ?_ ?_
 ·intro W' hW'
  refine fxo ?_ ?_;(go_big_quiet_step (fail);(try simp only [zq]);exact wqn rfl)
  refine fxo ?_ ?_;(go_big_quiet_step ((go_at_call 76;exact qaA (HX.out _)));(try simp only [zq]);exact wqn rfl)
  refine fxo ?_ ?_;(go_big_quiet_step (fail);(try simp only [zq]);exact wqn rfl)
  refine fxo ?_ ?_;(go_big_quiet_step ((go_at_call 76;exact qaA (HY.out _)));(try simp only [zq]);exact wqn rfl)
  refine fxo ?_ ?_;(go_big_quiet_step ((go_at_call 80;exact qaA (HM.out _)));(try simp only [zq]);exact wqn rfl)
  iterate 2 (refine fxo ?_ ?_;(go_big_quiet_step (fail);(try simp only [zq]);exact wqn rfl))
  refine fxs (by rfl) ?_
  refine fxo ?_ ?_;(go_big_quiet_step (fail);(try simp only [zq]);exact wqn rfl)
  exact fxn
 ·intro W' hK'
  first|(refine fxo ?_ ?_;(go_big_quiet_step (fail);(try simp only [zq]);exact wqn rfl))|(refine fxs (by kernel_rfl) ?_)
  refine fxs (by kernel_rfl) ?_
  first|(refine fxo ?_ ?_;(go_big_quiet_step (fail);(try simp only [zq]);exact wqn rfl))|(refine fxs (by kernel_rfl) ?_)
  iterate 2 (refine fxs (by kernel_rfl) ?_)
  iterate 2 (first|(refine fxo ?_ ?_;(go_big_quiet_step (fail);(try simp only [zq]);exact wqn rfl))|(refine fxs (by kernel_rfl) ?_))
  refine fxs (by kernel_rfl) ?_
  first|(refine fxo ?_ ?_;(go_big_quiet_step (fail);(try simp only [zq]);exact wqn rfl))|(refine fxs (by kernel_rfl) ?_)
  exact fxn
 ·exact oP _ _ (bnc) (oN)
 ·exact oP _ _ (fun _=>⟨AB0.out.lt,rfl,At.room AB0.out (qR V_cz.out) (qR V_cR.out)⟩) (oN)
 ·exact uno
 ·exact oP _ _ (stw rfl (qR V_cR.out) (qhE V_cR.out) (fun _=>rfl)) (oN)
 intro β wx1 E
 replace FR:=hid (FR.out.flow E (oP _ _ (fun _=>(by show B0≤B0;omega)) (oN)))
 replace AB0:=hid (show At wx1 B0 0 cR from E.atOld mms rfl AB0.out.lt)
 simp only [nP,zr,zq]
 replace FR0:=hid FR.out.le
 clear E
 go_wp2_with fail
 have hld:=AB0.out.read (P:=Tryz.prog) Tryz.underlying27 rfl (qR V_cR.out)
 refine bodyPost_ret (v:=.tuple #[.agg cR.toArray,.int .i64 code]) (by simp [results,Tryz.results48,asAddr,hld]) rfl ?_
 exact ⟨rfl,fend HB0 FR⟩
end Go.Proofs.YtooeabibhjbkoaaGreat
