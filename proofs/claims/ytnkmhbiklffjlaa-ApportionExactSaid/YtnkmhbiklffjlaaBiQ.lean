import Derived.Test.YtnkmhbiklffjlaaPcA
import Derived.Test.YtnkmhbiklffjlaaToA
set_option linter.unusedVariables false
set_option linter.unusedSimpArgs false
set_option maxRecDepth 100000
set_option maxHeartbeats 8000000
namespace Go.Proofs.Ytnkmhbiklffjlaa
open Go.RowKit Big
open Lib (hid)
theorem sgn_neg {n:Bool} {p:Nat} (hn:true=cs1 true p) (h:n=true):-1=sgnI n p:=by
 have h1:p≠0:=by rintro rfl;simp [cs1] at hn
 unfold sgnI
 rw [if_neg h1,if_pos h]
theorem valid_op {cr:List Value} {n:Bool} {p q:Nat} (hr:cr=rat n p false q) (hn:n=cs1 n p) (hp:p<B480) (hq:q<B480) (h0:q≠0) (hg:Nat.gcd p q=1) (w:World) :
  Calls Try.prog 58 #[.agg cr.toArray] w fun e w'=>e=.returned (.bool true)∧Below w.heap.size w w':=by
 have V_cr:=hid hr
 obtain ⟨x1,hx1⟩:=is_bits_exists p
 obtain ⟨x2,hx2⟩:=is_bits_exists q
 have hx1b:=b480_bits hp hx1
 have hx2b:=b480_bits hq hx2
 obtain ⟨cn,V_cn⟩:∃ c:List Value,Hid (c=.bool n::lv 32 p):=⟨_,hid rfl⟩
 obtain ⟨cd,V_cd⟩:∃ c:List Value,Hid (c=.bool false::lv 32 q):=⟨_,hid rfl⟩
 obtain ⟨co,V_co⟩:∃ c:List Value,Hid (c=.bool false::lv 32 1):=⟨_,hid rfl⟩
 have HSD:=hid (sign_op (s:=1) V_cd.out (by unfold sgnI;rw [if_neg h0];rfl) (b480_bb hq))
 have HB1:=hid (bits_op V_cn.out (b480_bb hp) hx1)
 have HB2:=hid (bits_op V_cd.out (b480_bb hq) hx2)
 have HG:=hid (gcd_op V_cn.out V_cd.out V_co.out hg.symm (b480_bb hp) (b480_bb hq))
 have HO:=hid (from_op (z:=1) V_co.out rfl rfl (by decide) (by decide))
 have H1:=hid (show 1<BB^32 from Nat.one_lt_pow (by omega) (by unfold BB;omega))
 have n1:(x1:Int)≤480:=by omega
 have n2:(x2:Int)≤480:=by omega
 have HSN:=hid (fun (h:n=true)=>sign_op (s:=-1) V_cn.out (sgn_neg (h ▸ hn) h) (b480_bb hp))
 clear hr hn hp hq h0 hg hx1 hx2 hx1b hx2b
 obtain ⟨B0,hB0⟩:∃ B,B=w.heap.size:=⟨_,rfl⟩
 obtain ⟨w0,hw0⟩:∃ w0,w0=(w.alloc (.cells cr.toArray 56)):=⟨_,rfl⟩
 have AB0:=hid (show At w0 B0 0 cr by rw [hw0];exact (show At (w.alloc (.cells cr.toArray 56)) B0 0 cr from At.fresh _ cr _ (by simp [hB0])))
 have FR:=hid (show Fr B0 w w0 by rw [hw0,hB0];exact (Fr.start w).alloc _)
 have FR0:=hid FR.out.le
 have hZB0:B0≤B0:=Nat.le_refl _
 have HB0:=hid hB0
 go_enter Try.func58,Try.ntmps58
 go_upto_region 1 with fail
 rw [←hw0,←hB0]
 clear hw0 hB0
 have AB0_n:=hid (AB0.out.num V_cr.out V_cn.out)
 have AB0_d:=hid (AB0.out.den V_cr.out V_cd.out)
 cases n with
 | true =>
  refine wfn [] [(3,.pointer (some ⟨B0,0,none⟩)),(4,.pointer (some ⟨B0,0,none⟩)),(5,.bool true),(6,.bool true),(7,.pointer (some ⟨B0,0,none⟩)),(8,.agg cn.toArray),(9,.int .i64 (-1)),(10,.bool false),(11,.bool false),(12,.bool false),(13,.pointer (some ⟨B0,33,none⟩)),(14,.agg cd.toArray),(15,.int .i64 1),(16,.bool false),(17,.bool false)] _ (by simp only [zz4,zz5,zq];rfl) (by kernel_rfl) (by kernel_rfl) rfl ?_ ?_ ?_ ?_
  ·intro W' hW'
   have cl0:=fun p os=>cell_gw ((AB0_n.out.below hW').neg V_cn.out) p os
   have rd0:=AB0_n.out.below hW'
   have rd1:=AB0_d.out.below hW'
   iterate 5 (refine fxo ?_ ?_;(go_big_quiet_step (fail);(try simp only [zq]);exact wqn rfl))
   refine fxo (wlg (by rfl) rfl rfl rd0 Try.underlying51 rfl (qI V_cn.out) (wqn (by simp only [zq]))) ?_
   refine fxo ?_ ?_;(go_big_quiet_step ((go_at_call 39;exact Calls.below_of (HSN.out rfl _)));(try simp only [zq]);exact wqn rfl)
   iterate 4 (refine fxo ?_ ?_;(go_big_quiet_step (fail);(try simp only [zq]);exact wqn rfl))
   refine fxo (wlg (by rfl) rfl rfl rd1 Try.underlying51 rfl (qI V_cd.out) (wqn (by simp only [zq]))) ?_
   refine fxo ?_ ?_;(go_big_quiet_step ((go_at_call 39;exact Calls.below_of (HSD.out _)));(try simp only [zq]);exact wqn rfl)
   iterate 2 (refine fxo ?_ ?_;(go_big_quiet_step (fail);(try simp only [zq]);exact wqn rfl))
   exact fxn
  ·exact oN
  ·exact oN
  intro β wx1 E
  replace FR:=hid (FR.out.fnw E rfl)
  replace AB0:=hid (AB0.out.fnw E rfl)
  replace AB0_n:=hid (AB0_n.out.fnw E rfl)
  replace AB0_d:=hid (AB0_d.out.fnw E rfl)
  have hE:=E.below rfl
  simp only [nP,zr,zq]
  replace FR0:=hid FR.out.le
  clear E
  go_upto_region 3 with fail
  refine wfn [] [(18,.pointer (some ⟨B0,0,none⟩)),(19,.agg cn.toArray),(20,.int .i64 (x1:Int)),(21,.bool true),(22,.bool true),(23,.pointer (some ⟨B0,33,none⟩)),(24,.agg cd.toArray),(25,.int .i64 (x2:Int)),(26,.bool true),(27,.bool true),(28,.bool true),(29,.pointer (some ⟨B0,0,none⟩)),(30,.agg cn.toArray),(31,.pointer (some ⟨B0,33,none⟩)),(32,.agg cd.toArray),(33,.agg co.toArray),(34,.agg co.toArray),(35,.bool true),(36,.bool true),(2,.bool true)] _ (by simp only [zz4,zz5,zq];rfl) (by kernel_rfl) (by kernel_rfl) rfl ?_ ?_ ?_ ?_
  ·intro W' hW'
   have rd0:=AB0_n.out.below hW'
   have rd1:=AB0_d.out.below hW'
   refine fxo ?_ ?_;(go_big_quiet_step (fail);(try simp only [zq]);exact wqn rfl)
   refine fxo (wlg (by rfl) rfl rfl rd0 Try.underlying51 rfl (qI V_cn.out) (wqn (by simp only [zq]))) ?_
   refine fxo ?_ ?_;(go_big_quiet_step ((go_at_call 50;exact Calls.below_of (HB1.out _)));(try simp only [zq]);exact wqn rfl)
   iterate 3 (refine fxo ?_ ?_;(go_big_quiet_step (fail);(try simp only [zq]);exact wqn rfl))
   refine fxo (wlg (by rfl) rfl rfl rd1 Try.underlying51 rfl (qI V_cd.out) (wqn (by simp only [zq]))) ?_
   refine fxo ?_ ?_;(go_big_quiet_step ((go_at_call 50;exact Calls.below_of (HB2.out _)));(try simp only [zq]);exact wqn rfl)
   iterate 4 (refine fxo ?_ ?_;(go_big_quiet_step (fail);(try simp only [zq]);exact wqn rfl))
   refine fxo (wlg (by rfl) rfl rfl rd0 Try.underlying51 rfl (qI V_cn.out) (wqn (by simp only [zq]))) ?_
   refine fxo ?_ ?_;(go_big_quiet_step (fail);(try simp only [zq]);exact wqn rfl)
   refine fxo (wlg (by rfl) rfl rfl rd1 Try.underlying51 rfl (qI V_cd.out) (wqn (by simp only [zq]))) ?_
   refine fxo ?_ ?_;(go_big_quiet_step ((go_at_call 48;exact Calls.below_of (HG.out _)));(try simp only [zq]);exact wqn rfl)
   refine fxo ?_ ?_;(go_big_quiet_step ((go_at_call 33;exact Calls.below_of (HO.out _)));(try simp only [zq]);exact wqn rfl)
   refine fxo (wpQuiet_eqI (r:=true) (by rfl) rfl rfl rfl V_co.out V_co.out H1.out H1.out (by simp) (wqn (by simp only [zq]))) ?_
   iterate 2 (refine fxo ?_ ?_;(go_big_quiet_step (fail);(try simp only [zq]);exact wqn rfl))
   exact fxn
  ·exact oN
  ·exact oN
  intro β wx2 E
  replace FR:=hid (FR.out.fnw E rfl)
  replace AB0:=hid (AB0.out.fnw E rfl)
  replace AB0_n:=hid (AB0_n.out.fnw E rfl)
  replace AB0_d:=hid (AB0_d.out.fnw E rfl)
  have hE:=E.below rfl
  simp only [nP,zr,zq]
  replace FR0:=hid FR.out.le
  clear E
  go_wp2
  go_ret
  exact ⟨rfl,by rw [HB0.out] at FR;exact FR.out.below⟩
 | false =>
  refine wfn [] [(3,.pointer (some ⟨B0,0,none⟩)),(4,.pointer (some ⟨B0,0,none⟩)),(5,.bool false),(6,.bool false),(7,undef),(8,undef),(9,undef),(10,undef),(11,.bool false),(12,.bool false),(13,.pointer (some ⟨B0,33,none⟩)),(14,.agg cd.toArray),(15,.int .i64 1),(16,.bool false),(17,.bool false)] _ (by simp only [zz4,zz5,zq];rfl) (by kernel_rfl) (by kernel_rfl) rfl ?_ ?_ ?_ ?_
  ·intro W' hW'
   have cl0:=fun p os=>cell_gw ((AB0_n.out.below hW').neg V_cn.out) p os
   have rd0:=AB0_d.out.below hW'
   iterate 11 (refine fxo ?_ ?_;(go_big_quiet_step (fail);(try simp only [zq]);exact wqn rfl))
   refine fxo (wlg (by rfl) rfl rfl rd0 Try.underlying51 rfl (qI V_cd.out) (wqn (by simp only [zq]))) ?_
   refine fxo ?_ ?_;(go_big_quiet_step ((go_at_call 39;exact Calls.below_of (HSD.out _)));(try simp only [zq]);exact wqn rfl)
   iterate 2 (refine fxo ?_ ?_;(go_big_quiet_step (fail);(try simp only [zq]);exact wqn rfl))
   exact fxn
  ·exact oN
  ·exact oN
  intro β wx1 E
  replace FR:=hid (FR.out.fnw E rfl)
  replace AB0:=hid (AB0.out.fnw E rfl)
  replace AB0_n:=hid (AB0_n.out.fnw E rfl)
  replace AB0_d:=hid (AB0_d.out.fnw E rfl)
  have hE:=E.below rfl
  simp only [nP,zr,zq]
  replace FR0:=hid FR.out.le
  clear E
  go_upto_region 3 with fail
  refine wfn [] [(18,.pointer (some ⟨B0,0,none⟩)),(19,.agg cn.toArray),(20,.int .i64 (x1:Int)),(21,.bool true),(22,.bool true),(23,.pointer (some ⟨B0,33,none⟩)),(24,.agg cd.toArray),(25,.int .i64 (x2:Int)),(26,.bool true),(27,.bool true),(28,.bool true),(29,.pointer (some ⟨B0,0,none⟩)),(30,.agg cn.toArray),(31,.pointer (some ⟨B0,33,none⟩)),(32,.agg cd.toArray),(33,.agg co.toArray),(34,.agg co.toArray),(35,.bool true),(36,.bool true),(2,.bool true)] _ (by simp only [zz4,zz5,zq];rfl) (by kernel_rfl) (by kernel_rfl) rfl ?_ ?_ ?_ ?_
  ·intro W' hW'
   have rd0:=AB0_n.out.below hW'
   have rd1:=AB0_d.out.below hW'
   refine fxo ?_ ?_;(go_big_quiet_step (fail);(try simp only [zq]);exact wqn rfl)
   refine fxo (wlg (by rfl) rfl rfl rd0 Try.underlying51 rfl (qI V_cn.out) (wqn (by simp only [zq]))) ?_
   refine fxo ?_ ?_;(go_big_quiet_step ((go_at_call 50;exact Calls.below_of (HB1.out _)));(try simp only [zq]);exact wqn rfl)
   iterate 3 (refine fxo ?_ ?_;(go_big_quiet_step (fail);(try simp only [zq]);exact wqn rfl))
   refine fxo (wlg (by rfl) rfl rfl rd1 Try.underlying51 rfl (qI V_cd.out) (wqn (by simp only [zq]))) ?_
   refine fxo ?_ ?_;(go_big_quiet_step ((go_at_call 50;exact Calls.below_of (HB2.out _)));(try simp only [zq]);exact wqn rfl)
   iterate 4 (refine fxo ?_ ?_;(go_big_quiet_step (fail);(try simp only [zq]);exact wqn rfl))
   refine fxo (wlg (by rfl) rfl rfl rd0 Try.underlying51 rfl (qI V_cn.out) (wqn (by simp only [zq]))) ?_
   refine fxo ?_ ?_;(go_big_quiet_step (fail);(try simp only [zq]);exact wqn rfl)
   refine fxo (wlg (by rfl) rfl rfl rd1 Try.underlying51 rfl (qI V_cd.out) (wqn (by simp only [zq]))) ?_
   refine fxo ?_ ?_;(go_big_quiet_step ((go_at_call 48;exact Calls.below_of (HG.out _)));(try simp only [zq]);exact wqn rfl)
   refine fxo ?_ ?_;(go_big_quiet_step ((go_at_call 33;exact Calls.below_of (HO.out _)));(try simp only [zq]);exact wqn rfl)
   refine fxo (wpQuiet_eqI (r:=true) (by rfl) rfl rfl rfl V_co.out V_co.out H1.out H1.out (by simp) (wqn (by simp only [zq]))) ?_
   iterate 2 (refine fxo ?_ ?_;(go_big_quiet_step (fail);(try simp only [zq]);exact wqn rfl))
   exact fxn
  ·exact oN
  ·exact oN
  intro β wx2 E
  replace FR:=hid (FR.out.fnw E rfl)
  replace AB0:=hid (AB0.out.fnw E rfl)
  replace AB0_n:=hid (AB0_n.out.fnw E rfl)
  replace AB0_d:=hid (AB0_d.out.fnw E rfl)
  have hE:=E.below rfl
  simp only [nP,zr,zq]
  replace FR0:=hid FR.out.le
  clear E
  go_wp2
  go_ret
  exact ⟨rfl,by rw [HB0.out] at FR;exact FR.out.below⟩
theorem places_op (k:Nat) (hk:k≤9) (w:World):Calls Try.prog 59 #[.int .i64 (k:Int)] w fun e w'=>e=.returned (.bool true)∧w=w':=by
 have h1:(0:Int)≤(k:Int):=by omega
 have h2:(k:Int)≤9:=by omega
 go_enter Try.func59,Try.ntmps59
 go_wp2
 go_ret
 exact ⟨rfl,rfl⟩
theorem power_op {c:List Value} {k:Nat} (hc:c=rat false (10^k) false 1) (hk:k≤9) (W:World) :
  Calls Try.prog 72 #[.int .i64 (k:Int)] W fun e w'=>e=.returned (.agg c.toArray)∧Below W.heap.size W w':=by
 subst hc;exact power_is k W (by omega)
theorem mul_op {c d r:List Value} {na nb n:Bool} {a b v:Nat} (hc:c=.bool na::lv 32 a) (hd:d=.bool nb::lv 32 b) (hr:r=.bool n::lv 32 v) (hv:v=a*b) (hn:n=cs1 (na != nb) v) (ha:a<BB^32) (hb:b<BB^32) (hvb:v<BB^32) (W:World) :
  Calls Try.prog 32 #[.agg c.toArray,.agg d.toArray] W fun e w'=>e=.returned (.tuple #[.agg r.toArray,.int .i64 0])∧Below W.heap.size W w':=by
 subst hn hv hc hd hr;exact mul_all na nb a b W ha hb hvb
theorem ten_lt {k:Nat} (hk:k≤9):10^k<BB:=Nat.lt_of_le_of_lt (Nat.pow_le_pow_right (by omega) hk) (by unfold BB;decide)
theorem scaled_op {cr cm cd:List Value} {n:Bool} {p q k:Nat} (hr:cr=rat n p false q) (hm:cm=.bool n::lv 32 (p*10^k)) (hd:cd=.bool false::lv 32 q) (hn:n=cs1 n p) (hp:p<B480) (hk:k≤9) (w:World) :
  Calls Try.prog 60 #[.agg cr.toArray,.int .i64 (k:Int)] w fun e w'=>e=.returned (.tuple #[.agg cm.toArray,.agg cd.toArray])∧Below w.heap.size w w':=by
 have V_cr:=hid hr
 have V_cm:=hid hm
 have V_cd:=hid hd
 obtain ⟨cn,V_cn⟩:∃ c:List Value,Hid (c=.bool n::lv 32 p):=⟨_,hid rfl⟩
 obtain ⟨ct,V_ct⟩:∃ c:List Value,Hid (c=.bool false::lv 32 (10^k)):=⟨_,hid rfl⟩
 obtain ⟨cz,V_cz⟩:∃ c:List Value,Hid (c=.bool false::lv 32 0):=⟨_,hid rfl⟩
 obtain ⟨cp,V_cp⟩:∃ c:List Value,Hid (c=rat false (10^k) false 1):=⟨_,hid rfl⟩
 have HP:=hid (power_op V_cp.out hk)
 have ht:=ten_lt hk
 have hpb:p*10^k<BB^32:=by
  have h1:p*10^k<BB^15*BB:=Nat.mul_lt_mul'' (b480_lt hp) ht
  rw [←Nat.pow_succ] at h1
  exact Nat.lt_of_lt_of_le h1 (Nat.pow_le_pow_right BB_pos (by omega))
 have HM:=hid (mul_op V_cn.out V_ct.out V_cm.out rfl (by
  rw [show (n != false)=n by cases n<;>rfl]
  rw [hn]
  have h10:10^k≠0:=Nat.pos_iff_ne_zero.1 (Nat.pow_pos (by omega))
  by_cases h:p=0
  ·subst h;simp [cs1]
  ·have:p*10^k≠0:=Nat.mul_ne_zero h h10
   simp [cs1,h,this]) (b480_bb hp) (Nat.lt_of_lt_of_le ht (by have:=Nat.pow_le_pow_right BB_pos (show 1≤32 by omega);rwa [Nat.pow_one] at this)) hpb)
 clear hr hm hd hn hp hk ht hpb
 obtain ⟨B0,hB0⟩:∃ B,B=w.heap.size:=⟨_,rfl⟩
 obtain ⟨B1,hB1⟩:∃ B,B=w.heap.size+1:=⟨_,rfl⟩
 obtain ⟨B2,hB2⟩:∃ B,B=w.heap.size+1+1:=⟨_,rfl⟩
 obtain ⟨w0,hw0⟩:∃ w0,w0=(((w.alloc (.cells cr.toArray 56)).alloc (.cells zero33 51)).alloc (.cells zero33 51)):=⟨_,rfl⟩
 have AB0:=hid (show At w0 B0 0 cr by rw [hw0];exact (((show At (w.alloc (.cells cr.toArray 56)) B0 0 cr from At.fresh _ cr _ (by simp [hB0])).alloc _).alloc _))
 have AB1:=hid (show At w0 B1 0 cz by rw [hw0];exact ((show At ((w.alloc (.cells cr.toArray 56)).alloc (.cells zero33 51)) B1 0 cz from (by rw [V_cz.out];exact At.zero _ _ (by simp [hB1]))).alloc _))
 have AB2:=hid (show At w0 B2 0 cz by rw [hw0];exact (show At (((w.alloc (.cells cr.toArray 56)).alloc (.cells zero33 51)).alloc (.cells zero33 51)) B2 0 cz from (by rw [V_cz.out];exact At.zero _ _ (by simp [hB2]))))
 have FR:=hid (show Fr B0 w w0 by rw [hw0,hB0];exact (((Fr.start w).alloc _).alloc _).alloc _)
 have FR0:=hid FR.out.le
 have l01:B0<B1:=by omega
 have hZB1:B0≤B1:=by omega
 have l12:B1<B2:=by omega
 have hZB2:B0≤B2:=by omega
 have hZB0:B0≤B0:=Nat.le_refl _
 unfold zero33 at hw0
 have HB0:=hid hB0
 go_enter Try.func60,Try.ntmps60
 go_upto_region 1 with fail
 rw [←hw0,←hB2,←hB1,←hB0]
 clear hw0 hB0 hB1 hB2
 have AB0_n:=hid (AB0.out.num V_cr.out V_cn.out)
 have AB0_d:=hid (AB0.out.den V_cr.out V_cd.out)
 refine wfn [⟨true,9,6,10,0,0,51,15,cm,0,cm,[]⟩] [(9,.pointer (some ⟨B0,0,none⟩)),(10,.agg cn.toArray),(11,.int .i64 (k:Int)),(12,.agg cp.toArray),(13,.agg ct.toArray),(14,.tuple #[.agg cm.toArray,.int .i64 0]),(8,.tuple #[.agg cm.toArray,.int .i64 0]),(15,.agg cm.toArray),(16,.int .i64 0),(7,.int .i64 0)] _ (by simp only [zz4,zz5,zq];rfl) (by kernel_rfl) (by kernel_rfl) rfl ?_ ?_ ?_ ?_
 ·intro W' hW'
  have rd0:=AB0_n.out.below hW'
  refine fxo ?_ ?_;(go_big_quiet_step (fail);(try simp only [zq]);exact wqn rfl)
  refine fxo (wlg (by rfl) rfl rfl rd0 Try.underlying51 rfl (qI V_cn.out) (wqn (by simp only [zq]))) ?_
  refine fxo ?_ ?_;(go_big_quiet_step (fail);(try simp only [zq]);exact wqn rfl)
  refine fxo ?_ ?_;(go_big_quiet_step ((go_at_call 72;exact Calls.below_of (HP.out _)));(try simp only [zq]);exact wqn rfl)
  refine fxo (wpQuiet_numR rfl rfl rfl V_cp.out V_ct.out (wqn (by simp only [zq]))) ?_
  refine fxo ?_ ?_;(go_big_quiet_step ((go_at_call 32;exact Calls.below_of (HM.out _)));(try simp only [zq]);exact wqn rfl)
  iterate 3 (refine fxo ?_ ?_;(go_big_quiet_step (fail);(try simp only [zq]);exact wqn rfl))
  iterate 2 (refine fxs (by rfl) ?_)
  refine fxo ?_ ?_;(go_big_quiet_step (fail);(try simp only [zq]);exact wqn rfl)
  exact fxn
 ·exact oP _ _ (Try.alI (qI V_cm.out)) (oN)
 ·exact oP _ _ (stw rfl (qI V_cm.out) (oneI V_cm.out) (fun _=>rfl)) (oN)
 intro β wx1 E
 replace FR:=hid (FR.out.fnw E rfl)
 obtain ⟨b6,hb6⟩:∃ b,b=β 9:=⟨_,rfl⟩
 have eb6:=E.atNew mms rfl
 simp only at eb6
 rw [←hb6] at eb6
 have lB0_b6:B0<b6:=by have h1:=eb6.1;have h2:=AB0.out.lt;omega
 have lB1_b6:B1<b6:=by have h1:=eb6.1;have h2:=AB1.out.lt;omega
 have lB2_b6:B2<b6:=by have h1:=eb6.1;have h2:=AB2.out.lt;omega
 have hZb6:B0≤b6:=by have h1:=eb6.1;have h2:=FR0.out;omega
 replace AB0:=hid (AB0.out.fnw E rfl)
 replace AB1:=hid (AB1.out.fnw E rfl)
 replace AB2:=hid (AB2.out.fnw E rfl)
 replace AB0_n:=hid (AB0_n.out.fnw E rfl)
 replace AB0_d:=hid (AB0_d.out.fnw E rfl)
 have Ab6:=hid eb6.2
 simp only [nP,zr,zq]
 rw [←hb6]
 replace FR0:=hid FR.out.le
 clear E eb6 hb6
 go_upto_region 2 with fail
 refine qwf [⟨false,0,4,3,B1,0,51,17,cm,0,cm,[]⟩,⟨false,0,5,4,B2,0,51,19,cd,0,cd,[]⟩] [(17,.agg cm.toArray),(18,.pointer (some ⟨B0,33,none⟩)),(19,.agg cd.toArray)] _ (by simp only [zz4,zz5,zq];rfl) (by kernel_rfl) (by kernel_rfl) ?_ ?_ ?_ ?_ ?_ ?_ ?_
 ·intro W' hW'
  have rd0:=Ab6.out.below hW'
  have rd1:=AB0_d.out.below hW'
  refine fxo (wlg (by rfl) rfl rfl rd0 Try.underlying51 rfl (qI V_cm.out) (wqn (by simp only [zq]))) ?_
  refine fxo ?_ ?_;(go_big_quiet_step (fail);(try simp only [zq]);exact wqn rfl)
  refine fxo (wlg (by rfl) rfl rfl rd1 Try.underlying51 rfl (qI V_cd.out) (wqn (by simp only [zq]))) ?_
  iterate 2 (refine fxs (by rfl) ?_)
  exact fxn
 ·intro W' hK'
  have rd0:=At.keep hK' Ab6.out (oP _ _ (fun _=>(by show B1≠b6;omega)) (oP _ _ (fun _=>(by show B2≠b6;omega)) (oN)))
  have rd1:=At.keep hK' AB0_d.out (oP _ _ (fun _=>(by show B1≠B0;omega)) (oP _ _ (fun _=>(by show B2≠B0;omega)) (oN)))
  refine fxo (wlg (by rfl) rfl rfl rd0 Try.underlying51 rfl (qI V_cm.out) (wqn (by simp only [zq]))) ?_
  first|(refine fxo ?_ ?_;(go_big_quiet_step (fail);(try simp only [zq]);exact wqn rfl))|(refine fxs (by kernel_rfl) ?_)
  refine fxo (wlg (by rfl) rfl rfl rd1 Try.underlying51 rfl (qI V_cd.out) (wqn (by simp only [zq]))) ?_
  iterate 2 (refine fxs (by kernel_rfl) ?_)
  exact fxn
 ·exact oP _ _ (fun h=>Bool.noConfusion h) (oP _ _ (fun h=>Bool.noConfusion h) (oN))
 ·exact oP _ _ (fun _=>⟨AB1.out.lt,rfl,At.room AB1.out (qI V_cz.out) (qI V_cm.out)⟩) (oP _ _ (fun _=>⟨AB2.out.lt,rfl,At.room AB2.out (qI V_cz.out) (qI V_cd.out)⟩) (oN))
 ·intro q hq r hr hqn hrn e
  simp only [List.mem_cons,List.not_mem_nil,or_false] at hq hr
  rcases hq with rfl|rfl<;>rcases hr with rfl|rfl<;>first|rfl|(exact Bool.noConfusion hqn)|(exact Bool.noConfusion hrn)|(exfalso;simp only at e;omega)
 ·exact oP _ _ (stw rfl (qI V_cm.out) (oneI V_cm.out) (fun _=>rfl)) (oP _ _ (stw rfl (qI V_cd.out) (oneI V_cd.out) (fun _=>rfl)) (oN))
 intro β wx2 E
 replace FR:=hid (FR.out.flow E (oP _ _ (fun _=>(by show B0≤B1;omega)) (oP _ _ (fun _=>(by show B0≤B2;omega)) (oN))))
 replace AB0:=hid (At.flow E AB0.out (oP _ _ (fun _=>(by show B1≠B0;omega)) (oP _ _ (fun _=>(by show B2≠B0;omega)) (oN))))
 replace AB1:=hid (show At wx2 B1 0 cm from E.atOld mms rfl AB1.out.lt)
 replace AB2:=hid (show At wx2 B2 0 cd from E.atOld (List.mem_cons_of_mem _ mms) rfl AB2.out.lt)
 replace AB0_n:=hid (At.flow E AB0_n.out (oP _ _ (fun _=>(by show B1≠B0;omega)) (oP _ _ (fun _=>(by show B2≠B0;omega)) (oN))))
 replace AB0_d:=hid (At.flow E AB0_d.out (oP _ _ (fun _=>(by show B1≠B0;omega)) (oP _ _ (fun _=>(by show B2≠B0;omega)) (oN))))
 replace Ab6:=hid (At.flow E Ab6.out (oP _ _ (fun _=>(by show B1≠b6;omega)) (oP _ _ (fun _=>(by show B2≠b6;omega)) (oN))))
 simp only [nP,zr,zq]
 replace FR0:=hid FR.out.le
 clear E
 go_wp2_with fail
 have hld1:=AB1.out.read (P:=Try.prog) Try.underlying51 rfl (qI V_cm.out)
 have hld2:=AB2.out.read (P:=Try.prog) Try.underlying51 rfl (qI V_cd.out)
 refine bodyPost_ret (v:=.tuple #[.agg cm.toArray,.agg cd.toArray]) (by simp [results,Try.results60,asAddr,hld1,hld2]) rfl ?_
 exact ⟨rfl,by rw [HB0.out] at FR;exact FR.out.below⟩
end Go.Proofs.Ytnkmhbiklffjlaa
set_option maxHeartbeats 8000000
namespace Go.Proofs.Ytnkmhbiklffjlaa
open Go.RowKit Big
open Lib (hid)
def aboveB (mode:Nat) (neg:Bool) (h:Int) (odd:Bool):Bool :=
 if mode=1 then neg else if mode=2 then !neg else if mode=3 then false else if mode=4 then true else if h≠0 then decide (0<h) else if mode=5 then !neg else odd
theorem above_is (mode:Nat) (neg:Bool) (h:Int) (odd r:Bool) (w:World) (hm1:1≤mode) (hm2:mode≤6) (hr:r=aboveB mode neg h odd) :
  Calls Try.prog 62 #[.int .i64 (mode:Int),.bool neg,.int .i64 h,.bool odd] w fun e w'=>e=.returned (.bool r)∧w=w':=by
 have hmm:mode=1∨mode=2∨mode=3∨mode=4∨mode=5∨mode=6:=by omega
 have HR:=hid hr
 clear hr hm1 hm2
 go_enter Try.func62,Try.ntmps62
 rcases hmm with rfl|rfl|rfl|rfl|rfl|rfl
 ·go_wp2
  go_ret
  exact ⟨by rw [HR.out];rfl,rfl⟩
 ·go_wp2
  go_ret
  exact ⟨by rw [HR.out];rfl,rfl⟩
 ·go_wp2
  go_ret
  exact ⟨by rw [HR.out];rfl,rfl⟩
 ·go_wp2
  go_ret
  exact ⟨by rw [HR.out];rfl,rfl⟩
 ·by_cases h0:h=0
  ·subst h0
   go_wp2
   go_ret
   exact ⟨by rw [HR.out];rfl,rfl⟩
  ·have hne:(h != 0)=true:=by simp [h0]
   have HN:=hid h0
   clear h0
   go_wp2
   go_ret
   exact ⟨by rw [HR.out];simp [aboveB,HN.out],rfl⟩
 ·by_cases h0:h=0
  ·subst h0
   go_wp2
   go_ret
   exact ⟨by rw [HR.out];rfl,rfl⟩
  ·have hne:(h != 0)=true:=by simp [h0]
   have HN:=hid h0
   clear h0
   go_wp2
   go_ret
   exact ⟨by rw [HR.out];simp [aboveB,HN.out],rfl⟩
theorem calls_below {f:FuncId} {args:Array Value} {w:World} {v:Value} (h:Calls Try.prog f args w fun e w'=>e=.returned v∧w=w'):Calls Try.prog f args w fun e w'=>e=.returned v∧Below w.heap.size w w' :=
 h.mono fun _ _ ⟨he,hw⟩=>⟨he,by subst hw;exact Below.refl _ _⟩
theorem add_op {c d r:List Value} {na nb n:Bool} {a b v:Nat} (hc:c=.bool na::lv 32 a) (hd:d=.bool nb::lv 32 b) (hr:r=.bool n::lv 32 v) (hn:n=decide (zI na a+zI nb b<0)) (hve:v=(zI na a+zI nb b).natAbs) (ha:a<BB^32) (hb:b<BB^32) (hv:v<BB^32) (W:World) :
  Calls Try.prog 61 #[.agg c.toArray,.agg d.toArray] W fun e w'=>e=.returned (.tuple #[.agg r.toArray,.int .i64 0])∧Below W.heap.size W w':=by
 subst hc hd hr;exact add_is na nb n a b v W ha hb hv hn hve
theorem cmp_op {c d:List Value} {na nb:Bool} {a b:Nat} {z:Int} (hc:c=.bool na::lv 32 a) (hd:d=.bool nb::lv 32 b) (hz:z=cmpZ (zI na a) (zI nb b)) (ha:a<BB^32) (hb:b<BB^32) (W:World) :
  Calls Try.prog 63 #[.agg c.toArray,.agg d.toArray] W fun e w'=>e=.returned (.int .i64 z)∧Below W.heap.size W w':=by
 subst hc hd;exact cmp_is na nb a b z W ha hb hz
theorem At.low {w:World} {b:Nat} {c:List Value} {n:Bool} {v lo:Nat} (h:At w b 0 c) (hc:c=.bool n::lv 32 v) (hl:lo=lim v 0):w.cell? ⟨b,1,none⟩=some (.int .u32 (lo:Int)):=by
 subst hc hl
 have:=h.cell (j:=1) (v:=.int .u32 (lim v 0:Nat)) (by rw [List.getElem?_cons_succ];exact lv_get v (by omega))
 simpa using this
theorem lim_odd (v:Nat):lim v 0%2=v%2:=by
 unfold lim BB;omega
def flM (n:Bool) (P q:Nat):Nat:=if n=true∧P%q≠0 then P / q+1 else P / q
def flR (n:Bool) (P q:Nat):Nat:=if n=true∧P%q≠0 then q - P%q else P%q
def rndI (mode:Nat) (n:Bool) (P q:Nat):Int :=
 if flR n P q=0 then zI (cs1 n (flM n P q)) (flM n P q)
 else if aboveB mode n (cmpZ ((2*flR n P q:Nat):Int) (q:Int)) (decide (flM n P q%2=1))=true then zI (cs1 n (flM n P q)) (flM n P q)+1 else zI (cs1 n (flM n P q)) (flM n P q)
theorem zI_canon (n:Bool) (m:Nat):cs1 n m=decide (zI (cs1 n m) m<0)∧m=(zI (cs1 n m) m).natAbs:=by
 unfold cs1 zI
 by_cases h:m=0<;>cases n<;>simp [h]<;>omega
theorem flR_lt (n:Bool) (P q:Nat) (hq:q≠0):flR n P q<q:=by
 unfold flR
 have:=Nat.mod_lt P (Nat.pos_of_ne_zero hq)
 split<;>omega
theorem flM_le (n:Bool) (P q:Nat):flM n P q≤P+1:=by
 unfold flM
 have:=Nat.div_le_self P q
 split<;>omega
theorem rnd_cases (mode:Nat) (n:Bool) (P q:Nat) (s v:Bool × Nat) (hs:s=(cs1 n (flM n P q),flM n P q)) (hv:v=(decide (rndI mode n P q<0),(rndI mode n P q).natAbs)) (b:Bool) (hb:b=aboveB mode n (cmpZ ((2*flR n P q:Nat):Int) (q:Int)) (decide (flM n P q%2=1))) :
  (flR n P q=0→v=s)∧(flR n P q≠0→b=false→v=s)∧(flR n P q≠0→b=true→v.1=decide (zI s.1 s.2+zI false 1<0)∧v.2=(zI s.1 s.2+zI false 1).natAbs):=by
 have hz:=zI_canon n (flM n P q)
 have e:zI false 1=1:=rfl
 refine ⟨fun h=>?_,fun h h2=>?_,fun h h2=>?_⟩
 ·rw [hv,hs];unfold rndI;rw [if_pos h,←hz.1,←hz.2]
 ·rw [hv,hs];unfold rndI;rw [if_neg h,←hb,h2,if_neg (by decide),←hz.1,←hz.2]
 ·rw [hv,hs,e];unfold rndI;rw [if_neg h,←hb,h2,if_pos rfl];exact ⟨rfl,rfl⟩
theorem round_op {cr cv:List Value} {n n2:Bool} {p q v2 k mode:Nat} (hr:cr=rat n p false q) (hv:cv=.bool n2::lv 32 v2) (hn:n=cs1 n p) (hp:p<B480) (hq:q<B480) (h0:q≠0) (hg:Nat.gcd p q=1) (hk:k≤9) (hm1:1≤mode) (hm2:mode≤6)
  (hn2:n2=decide (rndI mode n (p*10^k) q<0)) (hv2:v2=(rndI mode n (p*10^k) q).natAbs) (w:World) :
  Calls Try.prog 51 #[.agg cr.toArray,.int .i64 (k:Int),.int .i64 (mode:Int)] w fun e w'=>e=.returned (.tuple #[.agg cv.toArray,.int .i64 0])∧Below w.heap.size w w':=by
 have V_cr:=hid hr
 have V_cv:=hid hv
 obtain ⟨N,hN⟩:∃ N,N=p*10^k:=⟨_,rfl⟩
 have hNb:N<BB^16:=by
  have h1:p*10^k<BB^15*BB:=Nat.mul_lt_mul'' (b480_lt hp) (ten_lt hk)
  rw [←Nat.pow_succ,←hN] at h1;exact h1
 have up32:∀ {x j:Nat},j≤32→x<BB^j→x<BB^32:=fun hj h=>Nat.lt_of_lt_of_le h (Nat.pow_le_pow_right BB_pos hj)
 have hN32:N<BB^32:=up32 (by omega) hNb
 have hq32:=b480_bb hq
 have hNn:n=cs1 n N:=by
  have h10:10^k≠0:=Nat.pos_iff_ne_zero.1 (Nat.pow_pos (by omega))
  rw [hN]
  by_cases h:p=0
  ·subst h;simpa [cs1] using hn
  ·have:p*10^k≠0:=Nat.mul_ne_zero h h10
   rw [hn];simp [cs1,h,this]
 rw [←hN] at hn2 hv2
 obtain ⟨m,hm⟩:∃ m,m=flM n N q:=⟨_,rfl⟩
 obtain ⟨re,hre⟩:∃ re,re=flR n N q:=⟨_,rfl⟩
 obtain ⟨s,hs⟩:∃ s,s=cs1 n m:=⟨_,rfl⟩
 have hrl:re<q:=by rw [hre];exact flR_lt n N q h0
 have hre32:re<BB^32:=Nat.lt_trans hrl hq32
 have b1:1≤BB^16:=Nat.one_le_pow _ _ BB_pos
 have b17:2*BB^16≤BB^17:=by rw [Nat.pow_succ,Nat.mul_comm];exact Nat.mul_le_mul_left _ (by unfold BB;omega)
 have hmb:m<BB^17:=by have:=flM_le n N q;rw [←hm] at this;omega
 have hm32:m<BB^32:=up32 (by omega) hmb
 have hre2:2*re<BB^32:=up32 (show 17≤32 by omega) (by
  have:=Nat.lt_trans hrl (b480_lt hq)
  have h2:=Nat.pow_le_pow_right BB_pos (show 15≤16 by omega)
  omega)
 obtain ⟨lo,hlo⟩:∃ lo,lo=lim m 0:=⟨_,rfl⟩
 obtain ⟨o2,ho2⟩:∃ o2:Int,o2=((lo%2:Nat):Int):=⟨_,rfl⟩
 have hodd:(o2==1)=decide (m%2=1):=by rw [ho2,hlo,lim_odd];by_cases h:m%2=1<;>simp [h]<;>omega
 obtain ⟨odd,hod⟩:∃ odd,odd=decide (m%2=1):=⟨_,rfl⟩
 rw [←hod] at hodd
 have hr1:(lo:Int).tmod 2=o2:=by rw [Int.tmod_eq_emod_of_nonneg (by omega)];omega
 have hr2:(lo:Int)%2=o2:=by omega
 obtain ⟨cz',hcz⟩:∃ c,c=cmpZ ((2*re:Nat):Int) (q:Int):=⟨_,rfl⟩
 obtain ⟨up,hup⟩:∃ u,u=aboveB mode n cz' odd:=⟨_,rfl⟩
 have hrc:=rnd_cases mode n N q (s,m) (n2,v2) (by rw [hs,hm]) (by rw [hn2,hv2]) up (by rw [hup,hcz,hod,hre,hm])
 rw [←hre] at hrc
 have HRC:=hid hrc
 obtain ⟨cm,V_cm⟩:∃ c:List Value,Hid (c=.bool n::lv 32 N):=⟨_,hid rfl⟩
 obtain ⟨cd,V_cd⟩:∃ c:List Value,Hid (c=.bool false::lv 32 q):=⟨_,hid rfl⟩
 obtain ⟨cq,V_cq⟩:∃ c:List Value,Hid (c=.bool s::lv 32 m):=⟨_,hid rfl⟩
 obtain ⟨ce,V_ce⟩:∃ c:List Value,Hid (c=.bool false::lv 32 re):=⟨_,hid rfl⟩
 obtain ⟨c2,V_c2⟩:∃ c:List Value,Hid (c=.bool false::lv 32 (2*re)):=⟨_,hid rfl⟩
 obtain ⟨co,V_co⟩:∃ c:List Value,Hid (c=.bool false::lv 32 1):=⟨_,hid rfl⟩
 obtain ⟨cz,V_cz⟩:∃ c:List Value,Hid (c=.bool false::lv 32 0):=⟨_,hid rfl⟩
 have HV:=hid (valid_op V_cr.out hn hp hq h0 hg)
 have HPL:=hid (fun W=>calls_below (places_op k hk W))
 have HSC:=hid (fun W=>scaled_op (k:=k) V_cr.out (show cm=.bool n::lv 32 (p*10^k) by rw [←hN];exact V_cm.out) V_cd.out hn hp hk W)
 have HDM:=hid (divmod_op (s:=s) V_cm.out V_cd.out V_cq.out V_ce.out (by rw [show (n != false)=n by cases n<;>rfl];exact hs) (by rw [hm];rfl) (by rw [hre];rfl) hN32 hq32 h0)
 obtain ⟨sg,hsg⟩:∃ x,x=sgnI false re:=⟨_,rfl⟩
 have HSR:=hid (sign_op V_ce.out hsg hre32)
 have HAD:=hid (add_op V_ce.out V_ce.out V_c2.out (by unfold zI;simp;omega) (by unfold zI;simp;omega) hre32 hre32 hre2)
 obtain ⟨sn,hsn⟩:∃ x,x=sgnI n N:=⟨_,rfl⟩
 have HSN:=hid (sign_op V_cm.out hsn hN32)
 have HCM:=hid (cmp_op (z:=cz') V_c2.out V_cd.out (by rw [hcz];rfl) hre2 hq32)
 have HAB:=hid (fun W=>calls_below (above_is mode n cz' odd up W hm1 hm2 hup))
 have HFI:=hid (from_op (z:=1) V_co.out rfl rfl (by decide) (by decide))
 have HA2:=hid (fun (h1:re≠0) (h2:up=true)=>add_op (r:=cv) V_cq.out V_co.out V_cv.out (HRC.out.2.2 h1 h2).1 (HRC.out.2.2 h1 h2).2 hm32 (Nat.one_lt_pow (by omega) (by unfold BB;omega)) (by
  have h3:=(HRC.out.2.2 h1 h2).2
  simp only at h3
  rw [h3]
  have h4:(zI s m+zI false 1).natAbs≤m+1:=by unfold zI;split<;>simp<;>omega
  have h5:m+1≤BB^17:=hmb
  have h6:=Nat.pow_lt_pow_right (a:=BB) (by unfold BB;omega) (show 17<32 by omega)
  omega))
 have hsge:re=0→(sg==0)=true:=fun h=>by rw [hsg];unfold sgnI;simp [h]
 have hsgn:re≠0→(sg==0)=false:=fun h=>by rw [hsg];unfold sgnI;simp [h]
 have hsn0:re≠0→decide (sn<0)=n:=fun h=>by
  have hN0:N≠0:=by rintro rfl;apply h;rw [hre];unfold flR;simp
  rw [hsn];unfold sgnI;rw [if_neg hN0];cases n<;>simp
 have HS0:=hid (And.intro hsge (And.intro hsgn hsn0))
 have HLO:=hid hlo
 have m1:¬(mode:Int)<1:=by omega
 have m2:¬(6:Int)<(mode:Int):=by omega
 clear hr hv hn hp hq h0 hg hk hm1 hm2 hn2 hv2 hN hNb hN32 hq32 hNn hm hre hs hrl hre32 b1 b17 hmb hm32 hre2 hlo ho2 hod hcz hup hrc hsg hsn hsge hsgn hsn0 up32
 obtain ⟨B0,hB0⟩:∃ B,B=w.heap.size:=⟨_,rfl⟩
 obtain ⟨B1,hB1⟩:∃ B,B=w.heap.size+1:=⟨_,rfl⟩
 obtain ⟨w0,hw0⟩:∃ w0,w0=((w.alloc (.cells cr.toArray 56)).alloc (.cells zero33 51)):=⟨_,rfl⟩
 have AB0:=hid (show At w0 B0 0 cr by rw [hw0];exact ((show At (w.alloc (.cells cr.toArray 56)) B0 0 cr from At.fresh _ cr _ (by simp [hB0])).alloc _))
 have AB1:=hid (show At w0 B1 0 cz by rw [hw0];exact (show At ((w.alloc (.cells cr.toArray 56)).alloc (.cells zero33 51)) B1 0 cz from (by rw [V_cz.out];exact At.zero _ _ (by simp [hB1]))))
 have FR:=hid (show Fr B0 w w0 by rw [hw0,hB0];exact ((Fr.start w).alloc _).alloc _)
 have FR0:=hid FR.out.le
 have l01:B0<B1:=by omega
 have hZB1:B0≤B1:=by omega
 have hZB0:B0≤B0:=Nat.le_refl _
 unfold zero33 at hw0
 have HB0:=hid hB0
 go_enter Try.func51,Try.ntmps51
 go_upto_region 1 with fail
 rw [←hw0,←hB1,←hB0]
 clear hw0 hB0 hB1
 refine wfn [] [(16,.agg cr.toArray),(17,.bool true),(18,.bool false),(15,.bool false)] _ (by simp only [zz4,zz5,zq];rfl) (by kernel_rfl) (by kernel_rfl) rfl ?_ ?_ ?_ ?_
 ·intro W' hW'
  have rd0:=AB0.out.below hW'
  refine fxo (wlg (by rfl) rfl rfl rd0 Try.underlying56 rfl (qR V_cr.out) (wqn (by simp only [zq]))) ?_
  refine fxo ?_ ?_;(go_big_quiet_step ((go_at_call 58;exact Calls.below_of (HV.out _)));(try simp only [zq]);exact wqn rfl)
  iterate 2 (refine fxo ?_ ?_;(go_big_quiet_step (fail);(try simp only [zq]);exact wqn rfl))
  exact fxn
 ·exact oN
 ·exact oN
 intro β wx1 E
 replace FR:=hid (FR.out.fnw E rfl)
 replace AB0:=hid (AB0.out.fnw E rfl)
 replace AB1:=hid (AB1.out.fnw E rfl)
 have hE:=E.below rfl
 simp only [nP,zr,zq]
 replace FR0:=hid FR.out.le
 clear E
 go_upto_region 3 with fail
 refine wfn [] [(21,.int .i64 (k:Int)),(22,.bool true),(23,.bool false),(20,.bool false)] _ (by simp only [zz4,zz5,zq];rfl) (by kernel_rfl) (by kernel_rfl) rfl ?_ ?_ ?_ ?_
 ·intro W' hW'
  refine fxo ?_ ?_;(go_big_quiet_step (fail);(try simp only [zq]);exact wqn rfl)
  refine fxo ?_ ?_;(go_big_quiet_step ((go_at_call 59;exact Calls.below_of (HPL.out _)));(try simp only [zq]);exact wqn rfl)
  iterate 2 (refine fxo ?_ ?_;(go_big_quiet_step (fail);(try simp only [zq]);exact wqn rfl))
  exact fxn
 ·exact oN
 ·exact oN
 intro β wx2 E
 replace FR:=hid (FR.out.fnw E rfl)
 replace AB0:=hid (AB0.out.fnw E rfl)
 replace AB1:=hid (AB1.out.fnw E rfl)
 have hE:=E.below rfl
 simp only [nP,zr,zq]
 replace FR0:=hid FR.out.le
 clear E
 go_upto_region 5 with fail
 refine wfn [] [(26,.int .i64 (mode:Int)),(27,.bool false),(28,.bool false),(29,.int .i64 (mode:Int)),(30,.bool false),(31,.bool false),(25,.bool false)] _ (by simp only [zz4,zz5,zq];rfl) (by kernel_rfl) (by kernel_rfl) rfl ?_ ?_ ?_ ?_
 ·intro W' hW'
  iterate 7 (refine fxo ?_ ?_;(go_big_quiet_step (fail);(try simp only [zq]);exact wqn rfl))
  exact fxn
 ·exact oN
 ·exact oN
 intro β wx3 E
 replace FR:=hid (FR.out.fnw E rfl)
 replace AB0:=hid (AB0.out.fnw E rfl)
 replace AB1:=hid (AB1.out.fnw E rfl)
 have hE:=E.below rfl
 simp only [nP,zr,zq]
 replace FR0:=hid FR.out.le
 clear E
 clear m1 m2
 go_upto_region 7 with fail
 refine wfn [⟨true,6,8,8,0,0,51,37,cm,0,cm,[]⟩,⟨true,7,9,9,0,0,51,38,cd,0,cd,[]⟩] [(34,.agg cr.toArray),(35,.int .i64 (k:Int)),(36,.tuple #[.agg cm.toArray,.agg cd.toArray]),(33,.tuple #[.agg cm.toArray,.agg cd.toArray]),(37,.agg cm.toArray),(38,.agg cd.toArray)] _ (by simp only [zz4,zz5,zq];rfl) (by kernel_rfl) (by kernel_rfl) rfl ?_ ?_ ?_ ?_
 ·intro W' hW'
  have rd0:=AB0.out.below hW'
  refine fxo (wlg (by rfl) rfl rfl rd0 Try.underlying56 rfl (qR V_cr.out) (wqn (by simp only [zq]))) ?_
  refine fxo ?_ ?_;(go_big_quiet_step (fail);(try simp only [zq]);exact wqn rfl)
  refine fxo ?_ ?_;(go_big_quiet_step ((go_at_call 60;exact Calls.below_of (HSC.out _)));(try simp only [zq]);exact wqn rfl)
  iterate 3 (refine fxo ?_ ?_;(go_big_quiet_step (fail);(try simp only [zq]);exact wqn rfl))
  iterate 4 (refine fxs (by rfl) ?_)
  exact fxn
 ·exact oP _ _ (Try.alI (qI V_cm.out)) (oP _ _ (Try.alI (qI V_cd.out)) (oN))
 ·exact oP _ _ (stw rfl (qI V_cm.out) (oneI V_cm.out) (fun _=>rfl)) (oP _ _ (stw rfl (qI V_cd.out) (oneI V_cd.out) (fun _=>rfl)) (oN))
 intro β wx4 E
 replace FR:=hid (FR.out.fnw E rfl)
 obtain ⟨b8,hb8⟩:∃ b,b=β 6:=⟨_,rfl⟩
 have eb8:=E.atNew mms rfl
 simp only at eb8
 rw [←hb8] at eb8
 have lB0_b8:B0<b8:=by have h1:=eb8.1;have h2:=AB0.out.lt;omega
 have lB1_b8:B1<b8:=by have h1:=eb8.1;have h2:=AB1.out.lt;omega
 have hZb8:B0≤b8:=by have h1:=eb8.1;have h2:=FR0.out;omega
 obtain ⟨b9,hb9⟩:∃ b,b=β 7:=⟨_,rfl⟩
 have eb9:=E.atNew (List.mem_cons_of_mem _ mms) rfl
 simp only at eb9
 rw [←hb9] at eb9
 have lB0_b9:B0<b9:=by have h1:=eb9.1;have h2:=AB0.out.lt;omega
 have lB1_b9:B1<b9:=by have h1:=eb9.1;have h2:=AB1.out.lt;omega
 have hZb9:B0≤b9:=by have h1:=eb9.1;have h2:=FR0.out;omega
 have nb8_b9:b8≠b9:=fun e=>absurd (E.apart _ mms _ (List.mem_cons_of_mem _ mms) rfl rfl (by rw [hb8,hb9] at e;exact e)) (show ¬(6:Nat)=7 by decide)
 clear AB0
 replace AB1:=hid (AB1.out.fnw E rfl)
 have Ab8:=hid eb8.2
 have Ab9:=hid eb9.2
 simp only [nP,zr,zq]
 rw [←hb8]
 rw [←hb9]
 replace FR0:=hid FR.out.le
 clear E eb8 hb8 eb9 hb9
 go_upto_region 8 with fail
 refine wfn [⟨true,7,10,9,0,0,51,43,cq,0,cq,[]⟩,⟨true,8,11,10,0,0,51,44,ce,0,ce,[]⟩] [(40,.agg cm.toArray),(41,.agg cd.toArray),(42,.tuple #[.agg cq.toArray,.agg ce.toArray,.int .i64 0]),(39,.tuple #[.agg cq.toArray,.agg ce.toArray,.int .i64 0]),(43,.agg cq.toArray),(44,.agg ce.toArray),(45,.int .i64 0),(12,.int .i64 0)] _ (by simp only [zz4,zz5,zq];rfl) (by kernel_rfl) (by kernel_rfl) rfl ?_ ?_ ?_ ?_
 ·intro W' hW'
  have rd0:=Ab8.out.below hW'
  have rd1:=Ab9.out.below hW'
  refine fxo (wlg (by rfl) rfl rfl rd0 Try.underlying51 rfl (qI V_cm.out) (wqn (by simp only [zq]))) ?_
  refine fxo (wlg (by rfl) rfl rfl rd1 Try.underlying51 rfl (qI V_cd.out) (wqn (by simp only [zq]))) ?_
  refine fxo ?_ ?_;(go_big_quiet_step ((go_at_call 37;exact Calls.below_of (HDM.out _)));(try simp only [zq]);exact wqn rfl)
  iterate 4 (refine fxo ?_ ?_;(go_big_quiet_step (fail);(try simp only [zq]);exact wqn rfl))
  iterate 4 (refine fxs (by rfl) ?_)
  refine fxo ?_ ?_;(go_big_quiet_step (fail);(try simp only [zq]);exact wqn rfl)
  exact fxn
 ·exact oP _ _ (Try.alI (qI V_cq.out)) (oP _ _ (Try.alI (qI V_ce.out)) (oN))
 ·exact oP _ _ (stw rfl (qI V_cq.out) (oneI V_cq.out) (fun _=>rfl)) (oP _ _ (stw rfl (qI V_ce.out) (oneI V_ce.out) (fun _=>rfl)) (oN))
 intro β wx5 E
 replace FR:=hid (FR.out.fnw E rfl)
 obtain ⟨b10,hb10⟩:∃ b,b=β 7:=⟨_,rfl⟩
 have eb10:=E.atNew mms rfl
 simp only at eb10
 rw [←hb10] at eb10
 have lB1_b10:B1<b10:=by have h1:=eb10.1;have h2:=AB1.out.lt;omega
 have lb8_b10:b8<b10:=by have h1:=eb10.1;have h2:=Ab8.out.lt;omega
 have lb9_b10:b9<b10:=by have h1:=eb10.1;have h2:=Ab9.out.lt;omega
 have hZb10:B0≤b10:=by have h1:=eb10.1;have h2:=FR0.out;omega
 obtain ⟨b11,hb11⟩:∃ b,b=β 8:=⟨_,rfl⟩
 have eb11:=E.atNew (List.mem_cons_of_mem _ mms) rfl
 simp only at eb11
 rw [←hb11] at eb11
 have lB1_b11:B1<b11:=by have h1:=eb11.1;have h2:=AB1.out.lt;omega
 have lb8_b11:b8<b11:=by have h1:=eb11.1;have h2:=Ab8.out.lt;omega
 have lb9_b11:b9<b11:=by have h1:=eb11.1;have h2:=Ab9.out.lt;omega
 have hZb11:B0≤b11:=by have h1:=eb11.1;have h2:=FR0.out;omega
 have nb10_b11:b10≠b11:=fun e=>absurd (E.apart _ mms _ (List.mem_cons_of_mem _ mms) rfl rfl (by rw [hb10,hb11] at e;exact e)) (show ¬(7:Nat)=8 by decide)
 replace AB1:=hid (AB1.out.fnw E rfl)
 replace Ab8:=hid (Ab8.out.fnw E rfl)
 replace Ab9:=hid (Ab9.out.fnw E rfl)
 have Ab10:=hid eb10.2
 have Ab11:=hid eb11.2
 simp only [nP,zr,zq]
 rw [←hb10]
 rw [←hb11]
 replace FR0:=hid FR.out.le
 clear E eb10 hb10 eb11 hb11
 go_upto_region 9 with fail
 by_cases hr0:re=0
 ·have hse:=HS0.out.1 hr0
  have HE:=hid (HRC.out.1 hr0)
  clear hr0
  refine wfn [] [(46,.agg ce.toArray),(47,.int .i64 sg),(48,.bool true)] _ (by simp only [zz4,zz5,zq];rfl) (by kernel_rfl) (by kernel_rfl) rfl ?_ ?_ ?_ ?_
  ·intro W' hW'
   have rd0:=Ab11.out.below hW'
   refine fxo (wlg (by rfl) rfl rfl rd0 Try.underlying51 rfl (qI V_ce.out) (wqn (by simp only [zq]))) ?_
   refine fxo ?_ ?_;(go_big_quiet_step ((go_at_call 39;exact Calls.below_of (HSR.out _)));(try simp only [zq]);exact wqn rfl)
   refine fxo ?_ ?_;(go_big_quiet_step (fail);(try simp only [zq]);exact wqn rfl)
   exact fxn
  ·exact oN
  ·exact oN
  intro β wx6 E
  replace FR:=hid (FR.out.fnw E rfl)
  replace AB1:=hid (AB1.out.fnw E rfl)
  replace Ab8:=hid (Ab8.out.fnw E rfl)
  replace Ab9:=hid (Ab9.out.fnw E rfl)
  replace Ab10:=hid (Ab10.out.fnw E rfl)
  replace Ab11:=hid (Ab11.out.fnw E rfl)
  have hE:=E.below rfl
  simp only [nP,zr,zq]
  replace FR0:=hid FR.out.le
  clear E
  clear hse
  go_upto_region 10 with fail
  refine qwf [⟨false,0,6,1,B1,0,51,49,cq,0,cq,[]⟩] [(49,.agg cq.toArray),(7,.int .i64 0)] _ (by simp only [zz4,zz5,zq];rfl) (by kernel_rfl) (by kernel_rfl) ?_ ?_ ?_ ?_ ?_ ?_ ?_
  ·intro W' hW'
   have rd0:=Ab10.out.below hW'
   refine fxo (wlg (by rfl) rfl rfl rd0 Try.underlying51 rfl (qI V_cq.out) (wqn (by simp only [zq]))) ?_
   refine fxs (by rfl) ?_
   refine fxo ?_ ?_;(go_big_quiet_step (fail);(try simp only [zq]);exact wqn rfl)
   exact fxn
  ·intro W' hK'
   have rd0:=At.keep hK' Ab10.out (oP _ _ (fun _=>(by show B1≠b10;omega)) (oN))
   refine fxo (wlg (by rfl) rfl rfl rd0 Try.underlying51 rfl (qI V_cq.out) (wqn (by simp only [zq]))) ?_
   refine fxs (by kernel_rfl) ?_
   first|(refine fxo ?_ ?_;(go_big_quiet_step (fail);(try simp only [zq]);exact wqn rfl))|(refine fxs (by kernel_rfl) ?_)
   exact fxn
  ·exact oP _ _ (fun h=>Bool.noConfusion h) (oN)
  ·exact oP _ _ (fun _=>⟨AB1.out.lt,rfl,At.room AB1.out (qI V_cz.out) (qI V_cq.out)⟩) (oN)
  ·exact uno
  ·exact oP _ _ (stw rfl (qI V_cq.out) (oneI V_cq.out) (fun _=>rfl)) (oN)
  intro β wx7 E
  replace FR:=hid (FR.out.flow E (oP _ _ (fun _=>(by show B0≤B1;omega)) (oN)))
  replace AB1:=hid (show At wx7 B1 0 cq from E.atOld mms rfl AB1.out.lt)
  replace Ab8:=hid (At.flow E Ab8.out (oP _ _ (fun _=>(by show B1≠b8;omega)) (oN)))
  replace Ab9:=hid (At.flow E Ab9.out (oP _ _ (fun _=>(by show B1≠b9;omega)) (oN)))
  replace Ab10:=hid (At.flow E Ab10.out (oP _ _ (fun _=>(by show B1≠b10;omega)) (oN)))
  replace Ab11:=hid (At.flow E Ab11.out (oP _ _ (fun _=>(by show B1≠b11;omega)) (oN)))
  simp only [nP,zr,zq]
  replace FR0:=hid FR.out.le
  clear E
  have HEV:=hid (show cq=cv by have:=HE.out;simp only [Prod.mk.injEq] at this;rw [V_cq.out,V_cv.out,this.1,this.2])
  rw [HEV.out] at AB1
  go_wp2_with fail
  have hld:=AB1.out.read (P:=Try.prog) Try.underlying51 rfl (qI V_cv.out)
  refine bodyPost_ret (v:=.tuple #[.agg cv.toArray,.int .i64 0]) (by simp [results,Try.results51,asAddr,hld]) rfl ?_
  exact ⟨rfl,by rw [HB0.out] at FR;exact FR.out.below⟩
 ·have hse:=HS0.out.2.1 hr0
  have hsn:=HS0.out.2.2 hr0
  have HR0:=hid hr0
  clear hr0
  refine wfn [] [(46,.agg ce.toArray),(47,.int .i64 sg),(48,.bool false)] _ (by simp only [zz4,zz5,zq];rfl) (by kernel_rfl) (by kernel_rfl) rfl ?_ ?_ ?_ ?_
  ·intro W' hW'
   have rd0:=Ab11.out.below hW'
   refine fxo (wlg (by rfl) rfl rfl rd0 Try.underlying51 rfl (qI V_ce.out) (wqn (by simp only [zq]))) ?_
   refine fxo ?_ ?_;(go_big_quiet_step ((go_at_call 39;exact Calls.below_of (HSR.out _)));(try simp only [zq]);exact wqn rfl)
   refine fxo ?_ ?_;(go_big_quiet_step (fail);(try simp only [zq]);exact wqn rfl)
   exact fxn
  ·exact oN
  ·exact oN
  intro β wx6 E
  replace FR:=hid (FR.out.fnw E rfl)
  replace AB1:=hid (AB1.out.fnw E rfl)
  replace Ab8:=hid (Ab8.out.fnw E rfl)
  replace Ab9:=hid (Ab9.out.fnw E rfl)
  replace Ab10:=hid (Ab10.out.fnw E rfl)
  replace Ab11:=hid (Ab11.out.fnw E rfl)
  have hE:=E.below rfl
  simp only [nP,zr,zq]
  replace FR0:=hid FR.out.le
  clear E
  clear hse
  go_upto_region 11 with fail
  refine wfn [⟨true,6,13,7,0,0,51,54,c2,0,c2,[]⟩] [(51,.agg ce.toArray),(52,.agg ce.toArray),(53,.tuple #[.agg c2.toArray,.int .i64 0]),(50,.tuple #[.agg c2.toArray,.int .i64 0]),(54,.agg c2.toArray),(55,.int .i64 0),(14,.int .i64 0)] _ (by simp only [zz4,zz5,zq];rfl) (by kernel_rfl) (by kernel_rfl) rfl ?_ ?_ ?_ ?_
  ·intro W' hW'
   have rd0:=Ab11.out.below hW'
   iterate 2 (refine fxo (wlg (by rfl) rfl rfl rd0 Try.underlying51 rfl (qI V_ce.out) (wqn (by simp only [zq]))) ?_)
   refine fxo ?_ ?_;(go_big_quiet_step ((go_at_call 61;exact Calls.below_of (HAD.out _)));(try simp only [zq]);exact wqn rfl)
   iterate 3 (refine fxo ?_ ?_;(go_big_quiet_step (fail);(try simp only [zq]);exact wqn rfl))
   iterate 2 (refine fxs (by rfl) ?_)
   refine fxo ?_ ?_;(go_big_quiet_step (fail);(try simp only [zq]);exact wqn rfl)
   exact fxn
  ·exact oP _ _ (Try.alI (qI V_c2.out)) (oN)
  ·exact oP _ _ (stw rfl (qI V_c2.out) (oneI V_c2.out) (fun _=>rfl)) (oN)
  intro β wx7 E
  replace FR:=hid (FR.out.fnw E rfl)
  obtain ⟨b13,hb13⟩:∃ b,b=β 6:=⟨_,rfl⟩
  have eb13:=E.atNew mms rfl
  simp only at eb13
  rw [←hb13] at eb13
  have lB1_b13:B1<b13:=by have h1:=eb13.1;have h2:=AB1.out.lt;omega
  have lb8_b13:b8<b13:=by have h1:=eb13.1;have h2:=Ab8.out.lt;omega
  have lb9_b13:b9<b13:=by have h1:=eb13.1;have h2:=Ab9.out.lt;omega
  have lb10_b13:b10<b13:=by have h1:=eb13.1;have h2:=Ab10.out.lt;omega
  have lb11_b13:b11<b13:=by have h1:=eb13.1;have h2:=Ab11.out.lt;omega
  have hZb13:B0≤b13:=by have h1:=eb13.1;have h2:=FR0.out;omega
  replace AB1:=hid (AB1.out.fnw E rfl)
  replace Ab8:=hid (Ab8.out.fnw E rfl)
  replace Ab9:=hid (Ab9.out.fnw E rfl)
  replace Ab10:=hid (Ab10.out.fnw E rfl)
  replace Ab11:=hid (Ab11.out.fnw E rfl)
  have Ab13:=hid eb13.2
  simp only [nP,zr,zq]
  rw [←hb13]
  replace FR0:=hid FR.out.le
  clear E eb13 hb13
  go_upto_region 12 with fail
  refine wfn [] [(56,.int .i64 (mode:Int)),(57,.agg cm.toArray),(58,.int .i64 sn),(59,.bool n),(60,.agg c2.toArray),(61,.agg cd.toArray),(62,.int .i64 cz'),(63,.pointer (some ⟨b10,1,none⟩)),(64,.pointer (some ⟨b10,1,none⟩)),(65,.int .u32 (lo:Int)),(66,.int .u32 o2),(67,.bool odd),(68,.bool up)] _ (by simp only [zz4,zz5,zq];rfl) (by kernel_rfl) (by kernel_rfl) rfl ?_ ?_ ?_ ?_
  ·intro W' hW'
   have rd0:=Ab8.out.below hW'
   have rd1:=Ab13.out.below hW'
   have rd2:=Ab9.out.below hW'
   have cl9:=fun p os=>cell_gw ((Ab10.out.below hW').low V_cq.out HLO.out) p os
   refine fxo ?_ ?_;(go_big_quiet_step (fail);(try simp only [zq]);exact wqn rfl)
   refine fxo (wlg (by rfl) rfl rfl rd0 Try.underlying51 rfl (qI V_cm.out) (wqn (by simp only [zq]))) ?_
   refine fxo ?_ ?_;(go_big_quiet_step ((go_at_call 39;exact Calls.below_of (HSN.out _)));(try simp only [zq]);exact wqn rfl)
   refine fxo ?_ ?_;(go_big_quiet_step (fail);(try simp only [zq]);exact wqn rfl)
   refine fxo (wlg (by rfl) rfl rfl rd1 Try.underlying51 rfl (qI V_c2.out) (wqn (by simp only [zq]))) ?_
   refine fxo (wlg (by rfl) rfl rfl rd2 Try.underlying51 rfl (qI V_cd.out) (wqn (by simp only [zq]))) ?_
   refine fxo ?_ ?_;(go_big_quiet_step ((go_at_call 63;exact Calls.below_of (HCM.out _)));(try simp only [zq]);exact wqn rfl)
   iterate 5 (refine fxo ?_ ?_;(go_big_quiet_step (fail);(try simp only [zq]);exact wqn rfl))
   refine fxo ?_ ?_;(go_big_quiet_step ((go_at_call 62;exact Calls.below_of (HAB.out _)));(try simp only [zq]);exact wqn rfl)
   exact fxn
  ·exact oN
  ·exact oN
  intro β wx8 E
  replace FR:=hid (FR.out.fnw E rfl)
  replace AB1:=hid (AB1.out.fnw E rfl)
  replace Ab8:=hid (Ab8.out.fnw E rfl)
  replace Ab9:=hid (Ab9.out.fnw E rfl)
  replace Ab10:=hid (Ab10.out.fnw E rfl)
  replace Ab11:=hid (Ab11.out.fnw E rfl)
  replace Ab13:=hid (Ab13.out.fnw E rfl)
  have hE:=E.below rfl
  simp only [nP,zr,zq]
  replace FR0:=hid FR.out.le
  clear E
  clear hsn hr1 hr2 hodd
  cases up with
  | true =>
   go_upto_region 13 with fail
   refine qwf [⟨false,0,10,6,b10,0,51,73,cv,0,cv,[]⟩] [(70,.agg cq.toArray),(71,.agg co.toArray),(72,.tuple #[.agg cv.toArray,.int .i64 0]),(69,.tuple #[.agg cv.toArray,.int .i64 0]),(73,.agg cv.toArray),(74,.int .i64 0)] _ (by simp only [zz4,zz5,zq];rfl) (by kernel_rfl) (by kernel_rfl) ?_ ?_ ?_ ?_ ?_ ?_ ?_
   ·intro W' hW'
    have rd0:=Ab10.out.below hW'
    refine fxo (wlg (by rfl) rfl rfl rd0 Try.underlying51 rfl (qI V_cq.out) (wqn (by simp only [zq]))) ?_
    refine fxo ?_ ?_;(go_big_quiet_step ((go_at_call 33;exact Calls.below_of (HFI.out _)));(try simp only [zq]);exact wqn rfl)
    refine fxo ?_ ?_;(go_big_quiet_step ((go_at_call 61;exact Calls.below_of (HA2.out HR0.out rfl _)));(try simp only [zq]);exact wqn rfl)
    iterate 3 (refine fxo ?_ ?_;(go_big_quiet_step (fail);(try simp only [zq]);exact wqn rfl))
    refine fxs (by rfl) ?_
    exact fxn
   ·intro W' hK'
    iterate 3 (refine fxs (by kernel_rfl) ?_)
    iterate 3 (first|(refine fxo ?_ ?_;(go_big_quiet_step (fail);(try simp only [zq]);exact wqn rfl))|(refine fxs (by kernel_rfl) ?_))
    refine fxs (by kernel_rfl) ?_
    exact fxn
   ·exact oP _ _ (fun h=>Bool.noConfusion h) (oN)
   ·exact oP _ _ (fun _=>⟨Ab10.out.lt,rfl,At.room Ab10.out (qI V_cq.out) (qI V_cv.out)⟩) (oN)
   ·exact uno
   ·exact oP _ _ (stw rfl (qI V_cv.out) (oneI V_cv.out) (fun _=>rfl)) (oN)
   intro β wx9 E
   replace FR:=hid (FR.out.flow E (oP _ _ (fun _=>(by show B0≤b10;omega)) (oN)))
   replace AB1:=hid (At.flow E AB1.out (oP _ _ (fun _=>(by show b10≠B1;omega)) (oN)))
   replace Ab8:=hid (At.flow E Ab8.out (oP _ _ (fun _=>(by show b10≠b8;omega)) (oN)))
   replace Ab9:=hid (At.flow E Ab9.out (oP _ _ (fun _=>(by show b10≠b9;omega)) (oN)))
   replace Ab10:=hid (show At wx9 b10 0 cv from E.atOld mms rfl Ab10.out.lt)
   replace Ab11:=hid (At.flow E Ab11.out (oP _ _ (fun _=>(by show b10≠b11;omega)) (oN)))
   replace Ab13:=hid (At.flow E Ab13.out (oP _ _ (fun _=>(by show b10≠b13;omega)) (oN)))
   simp only [nP,zr,zq]
   replace FR0:=hid FR.out.le
   clear E
   go_upto_region 14 with fail
   refine qwf [⟨false,0,6,1,B1,0,51,75,cv,0,cv,[]⟩] [(75,.agg cv.toArray),(7,.int .i64 0)] _ (by simp only [zz4,zz5,zq];rfl) (by kernel_rfl) (by kernel_rfl) ?_ ?_ ?_ ?_ ?_ ?_ ?_
   ·intro W' hW'
    have rd0:=Ab10.out.below hW'
    refine fxo (wlg (by rfl) rfl rfl rd0 Try.underlying51 rfl (qI V_cv.out) (wqn (by simp only [zq]))) ?_
    refine fxs (by rfl) ?_
    refine fxo ?_ ?_;(go_big_quiet_step (fail);(try simp only [zq]);exact wqn rfl)
    exact fxn
   ·intro W' hK'
    have rd0:=At.keep hK' Ab10.out (oP _ _ (fun _=>(by show B1≠b10;omega)) (oN))
    refine fxo (wlg (by rfl) rfl rfl rd0 Try.underlying51 rfl (qI V_cv.out) (wqn (by simp only [zq]))) ?_
    refine fxs (by kernel_rfl) ?_
    first|(refine fxo ?_ ?_;(go_big_quiet_step (fail);(try simp only [zq]);exact wqn rfl))|(refine fxs (by kernel_rfl) ?_)
    exact fxn
   ·exact oP _ _ (fun h=>Bool.noConfusion h) (oN)
   ·exact oP _ _ (fun _=>⟨AB1.out.lt,rfl,At.room AB1.out (qI V_cz.out) (qI V_cv.out)⟩) (oN)
   ·exact uno
   ·exact oP _ _ (stw rfl (qI V_cv.out) (oneI V_cv.out) (fun _=>rfl)) (oN)
   intro β wx10 E
   replace FR:=hid (FR.out.flow E (oP _ _ (fun _=>(by show B0≤B1;omega)) (oN)))
   replace AB1:=hid (show At wx10 B1 0 cv from E.atOld mms rfl AB1.out.lt)
   replace Ab8:=hid (At.flow E Ab8.out (oP _ _ (fun _=>(by show B1≠b8;omega)) (oN)))
   replace Ab9:=hid (At.flow E Ab9.out (oP _ _ (fun _=>(by show B1≠b9;omega)) (oN)))
   replace Ab10:=hid (At.flow E Ab10.out (oP _ _ (fun _=>(by show B1≠b10;omega)) (oN)))
   replace Ab11:=hid (At.flow E Ab11.out (oP _ _ (fun _=>(by show B1≠b11;omega)) (oN)))
   replace Ab13:=hid (At.flow E Ab13.out (oP _ _ (fun _=>(by show B1≠b13;omega)) (oN)))
   simp only [nP,zr,zq]
   replace FR0:=hid FR.out.le
   clear E
   go_wp2_with fail
   have hld:=AB1.out.read (P:=Try.prog) Try.underlying51 rfl (qI V_cv.out)
   refine bodyPost_ret (v:=.tuple #[.agg cv.toArray,.int .i64 0]) (by simp [results,Try.results51,asAddr,hld]) rfl ?_
   exact ⟨rfl,by rw [HB0.out] at FR;exact FR.out.below⟩
  | false =>
   go_upto_region 14 with fail
   refine qwf [⟨false,0,6,1,B1,0,51,75,cq,0,cq,[]⟩] [(75,.agg cq.toArray),(7,.int .i64 0)] _ (by simp only [zz4,zz5,zq];rfl) (by kernel_rfl) (by kernel_rfl) ?_ ?_ ?_ ?_ ?_ ?_ ?_
   ·intro W' hW'
    have rd0:=Ab10.out.below hW'
    refine fxo (wlg (by rfl) rfl rfl rd0 Try.underlying51 rfl (qI V_cq.out) (wqn (by simp only [zq]))) ?_
    refine fxs (by rfl) ?_
    refine fxo ?_ ?_;(go_big_quiet_step (fail);(try simp only [zq]);exact wqn rfl)
    exact fxn
   ·intro W' hK'
    have rd0:=At.keep hK' Ab10.out (oP _ _ (fun _=>(by show B1≠b10;omega)) (oN))
    refine fxo (wlg (by rfl) rfl rfl rd0 Try.underlying51 rfl (qI V_cq.out) (wqn (by simp only [zq]))) ?_
    refine fxs (by kernel_rfl) ?_
    first|(refine fxo ?_ ?_;(go_big_quiet_step (fail);(try simp only [zq]);exact wqn rfl))|(refine fxs (by kernel_rfl) ?_)
    exact fxn
   ·exact oP _ _ (fun h=>Bool.noConfusion h) (oN)
   ·exact oP _ _ (fun _=>⟨AB1.out.lt,rfl,At.room AB1.out (qI V_cz.out) (qI V_cq.out)⟩) (oN)
   ·exact uno
   ·exact oP _ _ (stw rfl (qI V_cq.out) (oneI V_cq.out) (fun _=>rfl)) (oN)
   intro β wx9 E
   replace FR:=hid (FR.out.flow E (oP _ _ (fun _=>(by show B0≤B1;omega)) (oN)))
   replace AB1:=hid (show At wx9 B1 0 cq from E.atOld mms rfl AB1.out.lt)
   replace Ab8:=hid (At.flow E Ab8.out (oP _ _ (fun _=>(by show B1≠b8;omega)) (oN)))
   replace Ab9:=hid (At.flow E Ab9.out (oP _ _ (fun _=>(by show B1≠b9;omega)) (oN)))
   replace Ab10:=hid (At.flow E Ab10.out (oP _ _ (fun _=>(by show B1≠b10;omega)) (oN)))
   replace Ab11:=hid (At.flow E Ab11.out (oP _ _ (fun _=>(by show B1≠b11;omega)) (oN)))
   replace Ab13:=hid (At.flow E Ab13.out (oP _ _ (fun _=>(by show B1≠b13;omega)) (oN)))
   simp only [nP,zr,zq]
   replace FR0:=hid FR.out.le
   clear E
   have HEV:=hid (show cq=cv by have:=HRC.out.2.1 HR0.out rfl;simp only [Prod.mk.injEq] at this;rw [V_cq.out,V_cv.out,this.1,this.2])
   rw [HEV.out] at AB1
   go_wp2_with fail
   have hld:=AB1.out.read (P:=Try.prog) Try.underlying51 rfl (qI V_cv.out)
   refine bodyPost_ret (v:=.tuple #[.agg cv.toArray,.int .i64 0]) (by simp [results,Try.results51,asAddr,hld]) rfl ?_
   exact ⟨rfl,by rw [HB0.out] at FR;exact FR.out.below⟩
end Go.Proofs.Ytnkmhbiklffjlaa
set_option maxHeartbeats 8000000
namespace Go.Proofs.Ytnkmhbiklffjlaa
open Go.RowKit Big
open Lib (hid)
theorem toint_op {c:List Value} {n:Bool} {v:Nat} {z:Int} (hc:c=.bool n::lv 32 v) (hn:cs1 n v=n) (hv:v<9223372036854775808) (hz:z=zI n v) (W:World) :
  Calls Try.prog 38 #[.agg c.toArray] W fun e w'=>e=.returned (.tuple #[.int .i64 z,.bool true])∧Below W.heap.size W w':=by
 subst hc hz;exact toint_all n v W hv hn
theorem canon_int (z:Int):cs1 (decide (z<0)) z.natAbs=decide (z<0)∧z=zI (decide (z<0)) z.natAbs:=by
 unfold cs1 zI
 by_cases h:z<0
 ·simp [h];omega
 ·simp [h];omega
theorem small_bb {v:Nat} (h:v<9223372036854775808):v<BB^32:=Nat.lt_of_lt_of_le (two_lt (by omega)) (Nat.pow_le_pow_right BB_pos (by omega))
theorem rndint_op {cr:List Value} {n:Bool} {p q k mode:Nat} {z:Int} (hr:cr=rat n p false q) (hn:n=cs1 n p) (hp:p<B480) (hq:q<B480) (h0:q≠0) (hg:Nat.gcd p q=1) (hk:k≤9) (hm1:1≤mode) (hm2:mode≤6)
  (hz:z=rndI mode n (p*10^k) q) (hz1:-1000000000000000≤z) (hz2:z≤1000000000000000) (w:World) :
  Calls Try.prog 35 #[.agg cr.toArray,.int .i64 (k:Int),.int .i64 (mode:Int)] w fun e w'=>e=.returned (.tuple #[.int .i64 z,.int .i64 0])∧Below w.heap.size w w':=by
 have V_cr:=hid hr
 obtain ⟨cv,V_cv⟩:∃ c:List Value,Hid (c=.bool (decide (z<0))::lv 32 z.natAbs):=⟨_,hid rfl⟩
 have HR:=hid (round_op (k:=k) (mode:=mode) V_cr.out V_cv.out hn hp hq h0 hg hk hm1 hm2 (by rw [hz]) (by rw [hz]))
 have HT:=hid (toint_op V_cv.out (canon_int z).1 (by omega) (canon_int z).2)
 have m1:¬(1000000000000000:Int)<z:=by omega
 have m2:¬z < -1000000000000000:=by omega
 clear hr hn hp hq h0 hg hk hm1 hm2 hz hz1 hz2
 obtain ⟨B0,hB0⟩:∃ B,B=w.heap.size:=⟨_,rfl⟩
 obtain ⟨w0,hw0⟩:∃ w0,w0=(w.alloc (.cells cr.toArray 56)):=⟨_,rfl⟩
 have AB0:=hid (show At w0 B0 0 cr by rw [hw0];exact (show At (w.alloc (.cells cr.toArray 56)) B0 0 cr from At.fresh _ cr _ (by simp [hB0])))
 have FR:=hid (show Fr B0 w w0 by rw [hw0,hB0];exact (Fr.start w).alloc _)
 have FR0:=hid FR.out.le
 have hZB0:B0≤B0:=Nat.le_refl _
 have HB0:=hid hB0
 go_enter Try.func35,Try.ntmps35
 go_upto_region 1 with fail
 rw [←hw0,←hB0]
 clear hw0 hB0
 refine wfn [⟨true,7,8,8,0,0,51,17,cv,0,cv,[]⟩] [(13,.agg cr.toArray),(14,.int .i64 (k:Int)),(15,.int .i64 (mode:Int)),(16,.tuple #[.agg cv.toArray,.int .i64 0]),(12,.tuple #[.agg cv.toArray,.int .i64 0]),(17,.agg cv.toArray),(18,.int .i64 0),(9,.int .i64 0)] _ (by simp only [zz4,zz5,zq];rfl) (by kernel_rfl) (by kernel_rfl) rfl ?_ ?_ ?_ ?_
 ·intro W' hW'
  have rd0:=AB0.out.below hW'
  refine fxo (wlg (by rfl) rfl rfl rd0 Try.underlying56 rfl (qR V_cr.out) (wqn (by simp only [zq]))) ?_
  iterate 2 (refine fxo ?_ ?_;(go_big_quiet_step (fail);(try simp only [zq]);exact wqn rfl))
  refine fxo ?_ ?_;(go_big_quiet_step ((go_at_call 51;exact Calls.below_of (HR.out _)));(try simp only [zq]);exact wqn rfl)
  iterate 3 (refine fxo ?_ ?_;(go_big_quiet_step (fail);(try simp only [zq]);exact wqn rfl))
  iterate 2 (refine fxs (by rfl) ?_)
  refine fxo ?_ ?_;(go_big_quiet_step (fail);(try simp only [zq]);exact wqn rfl)
  exact fxn
 ·exact oP _ _ (Try.alI (qI V_cv.out)) (oN)
 ·exact oP _ _ (stw rfl (qI V_cv.out) (oneI V_cv.out) (fun _=>rfl)) (oN)
 intro β wx1 E
 replace FR:=hid (FR.out.fnw E rfl)
 obtain ⟨b8,hb8⟩:∃ b,b=β 7:=⟨_,rfl⟩
 have eb8:=E.atNew mms rfl
 simp only at eb8
 rw [←hb8] at eb8
 have lB0_b8:B0<b8:=by have h1:=eb8.1;have h2:=AB0.out.lt;omega
 have hZb8:B0≤b8:=by have h1:=eb8.1;have h2:=FR0.out;omega
 replace AB0:=hid (AB0.out.fnw E rfl)
 have Ab8:=hid eb8.2
 simp only [nP,zr,zq]
 rw [←hb8]
 replace FR0:=hid FR.out.le
 clear E eb8 hb8
 go_upto_region 2 with fail
 refine wfn [] [(19,.int .i64 0),(20,.bool false)] _ (by simp only [zz4,zz5,zq];rfl) (by kernel_rfl) (by kernel_rfl) rfl ?_ ?_ ?_ ?_
 ·intro W' hW'
  iterate 2 (refine fxo ?_ ?_;(go_big_quiet_step (fail);(try simp only [zq]);exact wqn rfl))
  exact fxn
 ·exact oN
 ·exact oN
 intro β wx2 E
 replace FR:=hid (FR.out.fnw E rfl)
 replace AB0:=hid (AB0.out.fnw E rfl)
 replace Ab8:=hid (Ab8.out.fnw E rfl)
 have hE:=E.below rfl
 simp only [nP,zr,zq]
 replace FR0:=hid FR.out.le
 clear E
 go_upto_region 4 with fail
 refine wfn [] [(23,.agg cv.toArray),(24,.tuple #[.int .i64 z,.bool true]),(22,.tuple #[.int .i64 z,.bool true]),(25,.int .i64 z),(26,.bool true),(10,.int .i64 z),(11,.bool true)] _ (by simp only [zz4,zz5,zq];rfl) (by kernel_rfl) (by kernel_rfl) rfl ?_ ?_ ?_ ?_
 ·intro W' hW'
  have rd0:=Ab8.out.below hW'
  refine fxo (wlg (by rfl) rfl rfl rd0 Try.underlying51 rfl (qI V_cv.out) (wqn (by simp only [zq]))) ?_
  refine fxo ?_ ?_;(go_big_quiet_step ((go_at_call 38;exact Calls.below_of (HT.out _)));(try simp only [zq]);exact wqn rfl)
  iterate 5 (refine fxo ?_ ?_;(go_big_quiet_step (fail);(try simp only [zq]);exact wqn rfl))
  exact fxn
 ·exact oN
 ·exact oN
 intro β wx3 E
 replace FR:=hid (FR.out.fnw E rfl)
 replace AB0:=hid (AB0.out.fnw E rfl)
 replace Ab8:=hid (Ab8.out.fnw E rfl)
 have hE:=E.below rfl
 simp only [nP,zr,zq]
 replace FR0:=hid FR.out.le
 clear E
 go_upto_region 5 with fail
 refine wfn [] [(27,.bool true),(28,.bool false),(29,.bool false),(30,.int .i64 z),(31,.bool false),(32,.bool false),(33,.bool false),(34,.int .i64 z),(35,.bool false),(36,.bool false)] _ (by simp only [zz4,zz5,zq];rfl) (by kernel_rfl) (by kernel_rfl) rfl ?_ ?_ ?_ ?_
 ·intro W' hW'
  iterate 10 (refine fxo ?_ ?_;(go_big_quiet_step (fail);(try simp only [zq]);exact wqn rfl))
  exact fxn
 ·exact oN
 ·exact oN
 intro β wx4 E
 replace FR:=hid (FR.out.fnw E rfl)
 replace AB0:=hid (AB0.out.fnw E rfl)
 replace Ab8:=hid (Ab8.out.fnw E rfl)
 have hE:=E.below rfl
 simp only [nP,zr,zq]
 replace FR0:=hid FR.out.le
 clear E
 clear m1 m2
 go_wp2
 refine bodyPost_ret (v:=.tuple #[.int .i64 z,.int .i64 0]) (by simp [results,Try.results35]) rfl ?_
 exact ⟨rfl,by rw [HB0.out] at FR;exact FR.out.below⟩
theorem quota4_is (t x s q r:Nat) (w:World) (ht:t<9223372036854775808) (hx:x<9223372036854775808) (hs:s<9223372036854775808) (hs0:s≠0) (hq:q<9223372036854775808) (hqe:q=t*x / s) (hre:r=t*x%s) :
  Calls Try.prog 45 #[.int .i64 (t:Int),.int .i64 (x:Int),.int .i64 (s:Int)] w fun e w'=>e=.returned (.tuple #[.int .i64 (q:Int),.int .i64 (r:Int)])∧Below w.heap.size w w':=by
 have hrs:r<s:=by rw [hre];exact Nat.mod_lt _ (by omega)
 have hp:t*x<BB^32:=by
  have h1:t*x<BB^2*BB^2:=Nat.mul_lt_mul'' (two_lt (by omega)) (two_lt (by omega))
  rw [←Nat.pow_add] at h1
  exact Nat.lt_of_lt_of_le h1 (Nat.pow_le_pow_right BB_pos (by omega))
 obtain ⟨ct,V_ct⟩:∃ c:List Value,Hid (c=.bool false::lv 32 t):=⟨_,hid rfl⟩
 obtain ⟨cx,V_cx⟩:∃ c:List Value,Hid (c=.bool false::lv 32 x):=⟨_,hid rfl⟩
 obtain ⟨cp,V_cp⟩:∃ c:List Value,Hid (c=.bool false::lv 32 (t*x)):=⟨_,hid rfl⟩
 obtain ⟨cs,V_cs⟩:∃ c:List Value,Hid (c=.bool false::lv 32 s):=⟨_,hid rfl⟩
 obtain ⟨cq,V_cq⟩:∃ c:List Value,Hid (c=.bool false::lv 32 q):=⟨_,hid rfl⟩
 obtain ⟨ce,V_ce⟩:∃ c:List Value,Hid (c=.bool false::lv 32 r):=⟨_,hid rfl⟩
 have HF1:=hid (from_op (z:=(t:Int)) V_ct.out (by symm;exact decide_eq_false (by omega)) (by omega) (by omega) (by omega))
 have HF2:=hid (from_op (z:=(x:Int)) V_cx.out (by symm;exact decide_eq_false (by omega)) (by omega) (by omega) (by omega))
 have HF3:=hid (from_op (z:=(s:Int)) V_cs.out (by symm;exact decide_eq_false (by omega)) (by omega) (by omega) (by omega))
 have HM:=hid (mul_op V_ct.out V_cx.out V_cp.out rfl rfl (small_bb ht) (small_bb hx) hp)
 have HD:=hid (divmod_op (s:=false) V_cp.out V_cs.out V_cq.out V_ce.out rfl (by rw [if_neg (by simp)];exact hqe) (by rw [if_neg (by simp)];exact hre) hp (small_bb hs) hs0)
 have HT:=hid (toint_op (z:=(q:Int)) V_cq.out rfl hq rfl)
 have HT2:=hid (toint_op (z:=(r:Int)) V_ce.out rfl (by omega) rfl)
 clear ht hx hs hs0 hq hqe hre hrs hp
 obtain ⟨B0,hB0⟩:∃ B,B=w.heap.size:=⟨_,rfl⟩
 have FR:=hid (show Fr B0 w w by rw [hB0];exact Fr.start w)
 have FR0:=hid FR.out.le
 have hZB0:B0≤B0:=Nat.le_refl _
 have HB0:=hid hB0
 go_enter Try.func45,Try.ntmps45
 go_upto_region 1 with fail
 clear hB0
 refine wfn [⟨true,8,8,9,0,0,51,23,cp,0,cp,[]⟩] [(18,.int .i64 (t:Int)),(19,.agg ct.toArray),(20,.int .i64 (x:Int)),(21,.agg cx.toArray),(22,.tuple #[.agg cp.toArray,.int .i64 0]),(17,.tuple #[.agg cp.toArray,.int .i64 0]),(23,.agg cp.toArray),(24,.int .i64 0),(9,.int .i64 0)] _ (by simp only [zz4,zz5,zq];rfl) (by kernel_rfl) (by kernel_rfl) rfl ?_ ?_ ?_ ?_
 ·intro W' hW'
  refine fxo ?_ ?_;(go_big_quiet_step (fail);(try simp only [zq]);exact wqn rfl)
  refine fxo ?_ ?_;(go_big_quiet_step ((go_at_call 33;exact Calls.below_of (HF1.out _)));(try simp only [zq]);exact wqn rfl)
  refine fxo ?_ ?_;(go_big_quiet_step (fail);(try simp only [zq]);exact wqn rfl)
  refine fxo ?_ ?_;(go_big_quiet_step ((go_at_call 33;exact Calls.below_of (HF2.out _)));(try simp only [zq]);exact wqn rfl)
  refine fxo ?_ ?_;(go_big_quiet_step ((go_at_call 32;exact Calls.below_of (HM.out _)));(try simp only [zq]);exact wqn rfl)
  iterate 3 (refine fxo ?_ ?_;(go_big_quiet_step (fail);(try simp only [zq]);exact wqn rfl))
  iterate 2 (refine fxs (by rfl) ?_)
  refine fxo ?_ ?_;(go_big_quiet_step (fail);(try simp only [zq]);exact wqn rfl)
  exact fxn
 ·exact oP _ _ (Try.alI (qI V_cp.out)) (oN)
 ·exact oP _ _ (stw rfl (qI V_cp.out) (oneI V_cp.out) (fun _=>rfl)) (oN)
 intro β wx1 E
 replace FR:=hid (FR.out.fnw E rfl)
 obtain ⟨b8,hb8⟩:∃ b,b=β 8:=⟨_,rfl⟩
 have eb8:=E.atNew mms rfl
 simp only at eb8
 rw [←hb8] at eb8
 have hZb8:B0≤b8:=by have h1:=eb8.1;have h2:=FR0.out;omega
 have Ab8:=hid eb8.2
 simp only [nP,zr,zq]
 rw [←hb8]
 replace FR0:=hid FR.out.le
 clear E eb8 hb8
 go_upto_region 2 with fail
 refine wfn [⟨true,8,10,10,0,0,51,30,cq,0,cq,[]⟩,⟨true,9,11,11,0,0,51,31,ce,0,ce,[]⟩] [(26,.agg cp.toArray),(27,.int .i64 (s:Int)),(28,.agg cs.toArray),(29,.tuple #[.agg cq.toArray,.agg ce.toArray,.int .i64 0]),(25,.tuple #[.agg cq.toArray,.agg ce.toArray,.int .i64 0]),(30,.agg cq.toArray),(31,.agg ce.toArray),(32,.int .i64 0),(12,.int .i64 0)] _ (by simp only [zz4,zz5,zq];rfl) (by kernel_rfl) (by kernel_rfl) rfl ?_ ?_ ?_ ?_
 ·intro W' hW'
  have rd0:=Ab8.out.below hW'
  refine fxo (wlg (by rfl) rfl rfl rd0 Try.underlying51 rfl (qI V_cp.out) (wqn (by simp only [zq]))) ?_
  refine fxo ?_ ?_;(go_big_quiet_step (fail);(try simp only [zq]);exact wqn rfl)
  refine fxo ?_ ?_;(go_big_quiet_step ((go_at_call 33;exact Calls.below_of (HF3.out _)));(try simp only [zq]);exact wqn rfl)
  refine fxo ?_ ?_;(go_big_quiet_step ((go_at_call 37;exact Calls.below_of (HD.out _)));(try simp only [zq]);exact wqn rfl)
  iterate 4 (refine fxo ?_ ?_;(go_big_quiet_step (fail);(try simp only [zq]);exact wqn rfl))
  iterate 4 (refine fxs (by rfl) ?_)
  refine fxo ?_ ?_;(go_big_quiet_step (fail);(try simp only [zq]);exact wqn rfl)
  exact fxn
 ·exact oP _ _ (Try.alI (qI V_cq.out)) (oP _ _ (Try.alI (qI V_ce.out)) (oN))
 ·exact oP _ _ (stw rfl (qI V_cq.out) (oneI V_cq.out) (fun _=>rfl)) (oP _ _ (stw rfl (qI V_ce.out) (oneI V_ce.out) (fun _=>rfl)) (oN))
 intro β wx2 E
 replace FR:=hid (FR.out.fnw E rfl)
 obtain ⟨b10,hb10⟩:∃ b,b=β 8:=⟨_,rfl⟩
 have eb10:=E.atNew mms rfl
 simp only at eb10
 rw [←hb10] at eb10
 have lb8_b10:b8<b10:=by have h1:=eb10.1;have h2:=Ab8.out.lt;omega
 have hZb10:B0≤b10:=by have h1:=eb10.1;have h2:=FR0.out;omega
 obtain ⟨b11,hb11⟩:∃ b,b=β 9:=⟨_,rfl⟩
 have eb11:=E.atNew (List.mem_cons_of_mem _ mms) rfl
 simp only at eb11
 rw [←hb11] at eb11
 have lb8_b11:b8<b11:=by have h1:=eb11.1;have h2:=Ab8.out.lt;omega
 have hZb11:B0≤b11:=by have h1:=eb11.1;have h2:=FR0.out;omega
 have nb10_b11:b10≠b11:=fun e=>absurd (E.apart _ mms _ (List.mem_cons_of_mem _ mms) rfl rfl (by rw [hb10,hb11] at e;exact e)) (show ¬(8:Nat)=9 by decide)
 replace Ab8:=hid (Ab8.out.fnw E rfl)
 have Ab10:=hid eb10.2
 have Ab11:=hid eb11.2
 simp only [nP,zr,zq]
 rw [←hb10]
 rw [←hb11]
 replace FR0:=hid FR.out.le
 clear E eb10 hb10 eb11 hb11
 go_upto_region 3 with fail
 refine wfn [] [(34,.agg cq.toArray),(35,.tuple #[.int .i64 (q:Int),.bool true]),(33,.tuple #[.int .i64 (q:Int),.bool true]),(36,.int .i64 (q:Int)),(37,.bool true),(13,.int .i64 (q:Int)),(14,.bool true)] _ (by simp only [zz4,zz5,zq];rfl) (by kernel_rfl) (by kernel_rfl) rfl ?_ ?_ ?_ ?_
 ·intro W' hW'
  have rd0:=Ab10.out.below hW'
  refine fxo (wlg (by rfl) rfl rfl rd0 Try.underlying51 rfl (qI V_cq.out) (wqn (by simp only [zq]))) ?_
  refine fxo ?_ ?_;(go_big_quiet_step ((go_at_call 38;exact Calls.below_of (HT.out _)));(try simp only [zq]);exact wqn rfl)
  iterate 5 (refine fxo ?_ ?_;(go_big_quiet_step (fail);(try simp only [zq]);exact wqn rfl))
  exact fxn
 ·exact oN
 ·exact oN
 intro β wx3 E
 replace FR:=hid (FR.out.fnw E rfl)
 replace Ab8:=hid (Ab8.out.fnw E rfl)
 replace Ab10:=hid (Ab10.out.fnw E rfl)
 replace Ab11:=hid (Ab11.out.fnw E rfl)
 have hE:=E.below rfl
 simp only [nP,zr,zq]
 replace FR0:=hid FR.out.le
 clear E
 go_upto_region 4 with fail
 refine wfn [] [(39,.agg ce.toArray),(40,.tuple #[.int .i64 (r:Int),.bool true]),(38,.tuple #[.int .i64 (r:Int),.bool true]),(41,.int .i64 (r:Int)),(42,.bool true),(15,.int .i64 (r:Int)),(16,.bool true)] _ (by simp only [zz4,zz5,zq];rfl) (by kernel_rfl) (by kernel_rfl) rfl ?_ ?_ ?_ ?_
 ·intro W' hW'
  have rd0:=Ab11.out.below hW'
  refine fxo (wlg (by rfl) rfl rfl rd0 Try.underlying51 rfl (qI V_ce.out) (wqn (by simp only [zq]))) ?_
  refine fxo ?_ ?_;(go_big_quiet_step ((go_at_call 38;exact Calls.below_of (HT2.out _)));(try simp only [zq]);exact wqn rfl)
  iterate 5 (refine fxo ?_ ?_;(go_big_quiet_step (fail);(try simp only [zq]);exact wqn rfl))
  exact fxn
 ·exact oN
 ·exact oN
 intro β wx4 E
 replace FR:=hid (FR.out.fnw E rfl)
 replace Ab8:=hid (Ab8.out.fnw E rfl)
 replace Ab10:=hid (Ab10.out.fnw E rfl)
 replace Ab11:=hid (Ab11.out.fnw E rfl)
 have hE:=E.below rfl
 simp only [nP,zr,zq]
 replace FR0:=hid FR.out.le
 clear E
 go_wp2
 refine bodyPost_ret (v:=.tuple #[.int .i64 (q:Int),.int .i64 (r:Int)]) (by simp [results,Try.results45]) rfl ?_
 exact ⟨rfl,by rw [HB0.out] at FR;exact FR.out.below⟩
end Go.Proofs.Ytnkmhbiklffjlaa
