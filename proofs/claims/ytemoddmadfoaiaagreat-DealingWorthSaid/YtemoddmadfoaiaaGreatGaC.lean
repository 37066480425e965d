import Derived.Test.YtemoddmadfoaiaaGreatGaA
import Derived.Test.YtemoddmadfoaiaaGreatGaB
set_option linter.unusedVariables false
set_option linter.unusedSimpArgs false
set_option maxRecDepth 100000
set_option maxHeartbeats 8000000
namespace Go.Proofs.YtemoddmadfoaiaaGreat
open Go.RowKit Big
open Lib (hid)
theorem qkC {ca:List Value} {z:Int} (h:ca=iZ z) (h1:-9223372036854775808<z) (h2:z<9223372036854775808) (w:World) :
  Calls Tryz.prog 156 #[.agg ca.toArray] w fun e w'=>e=.returned (.tuple #[.int .i64 z,.bool true])∧Below w.heap.size w w':=by
 have V_ca:=hid (show ca=.bool (decide (z<0))::lv 32 z.natAbs from h);obtain ⟨v,hv⟩:∃ v,v=z.natAbs:=⟨_,rfl⟩;obtain ⟨n,hn⟩:∃ n,n=decide (z<0):=⟨_,rfl⟩;rw [←hv,←hn] at V_ca;have hvb:v<9223372036854775808:=by omega
 have hv2:v<BB^2:=qmK (by omega);have hv32:v<BB^32:=Nat.lt_of_lt_of_le hv2 (Nat.pow_le_pow_right qaX (by omega));obtain ⟨k,hk⟩:=qaE v;have hk64:k≤64:=qtJ (k:=64) hk (by omega);have hl:=qdQ hv2;have l0:=qaD v 0;have l1:=qaD v 1;obtain ⟨cm,V_cm⟩:∃ c:List Value,Hid (c=lv 32 v):=⟨_,hid rfl⟩;have HS:=hid (qbL V_ca.out V_cm.out (show n=cs1 n v by rw [hn,hv,qzS]) hv32);have HV:=hid (And.intro hv32 hk);obtain ⟨x,hx⟩:∃ x,x=lim v 0:=⟨_,rfl⟩;obtain ⟨y,hy⟩:∃ y,y=lim v 1:=⟨_,rfl⟩;have HXY:=hid (And.intro hx hy);rw [←hx,←hy] at hl;rw [←hx] at l0;rw [←hy] at l1;have hor:=jaO l0 l1 hl;have wx:IntKind.u64.wrap (x:Int)=(x:Int):=by unfold BB at l0;rw [IntKind.wrap_u64];omega
 have wy:IntKind.u64.wrap (y:Int)=(y:Int):=by unfold BB at l1;rw [IntKind.wrap_u64];omega
 have HE1:=hid (show n=true→z=-(v:Int) by intro h;rw [hn] at h;have:=of_decide_eq_true h;omega);have HE2:=hid (show n=false→z=(v:Int) by intro h;rw [hn] at h;have:=of_decide_eq_false h;omega);have hkI:¬(64:Int)<(k:Int):=by omega
 clear h hv hn hv2 hv32 hk hk64 hl l0 l1 hx hy h1 h2;obtain ⟨B0,w0,hw0,hB0,AB0,FR,FR0,HB0,hZB0⟩:=en1 w 25 (bxq ca);go_enter Tryz.func156,Tryz.ntmps156
 go_upto_region 1 with fail
 rw [←hw0,←hB0];clear hw0 hB0;refine wT [⟨true,5,5,7,0,0,140,11,cm,0,cm,[]⟩] [(8,.agg ca.toArray),(9,.tuple #[.bool n,.agg cm.toArray]),(7,.tuple #[.bool n,.agg cm.toArray]),(10,.bool n),(11,.agg cm.toArray),(4,.bool n)] (by simp only [zr,zq];rfl) (by kernel_rfl) rfl ?_ ?_ ?_ ?_
 ·intro W' hW';refine ldI (abl AB0 hW') V_ca rfl<|fo4 ?_ ?_ ?_ ?_<|fxs rfl<|fxo ?_<|fxs rfl<|fxn;all_goals (go_big_quiet_step ((go_at_call 144;exact qaA (HS.out _)));exact wqn rfl)
 ·exact fP1 (Tryz.alG (qG V_cm.out))
 ·exact fP1 (sG V_cm (fun _=>rfl) rfl)
 intro β wx1 E;replace FR:=fnf FR E rfl;obtain ⟨b5,hb5,eb5⟩:=nwb E mms;have lB0_b5:B0<b5:=ltb AB0 eb5.1;have hZb5:B0≤b5:=Nat.le_trans FR0.out eb5.1;replace AB0:=fnh AB0 E rfl;have Ab5:=hid eb5.2;simp only [nP,zr,zq];rw [←hb5];replace FR0:=hid FR.out.le;clear E eb5 hb5;have HM:=hid (show At wx1 b5 0 (lv 32 v) by have:=Ab5.out;rwa [V_cm.out] at this);have HB:=hid (qhN v k b5 0 wx1 HM.out HV.out.1 HV.out.2);have cx:=HM.out.limb (j:=0) (by omega);have cy:=HM.out.limb (j:=1) (by omega);rw [←HXY.out.1] at cx;rw [←HXY.out.2] at cy;obtain ⟨V,hV⟩:∃ V:Int,V=(v:Int):=⟨_,rfl⟩;rw [←hV] at hor;have HVV:=hid hV;have hV0:0≤V:=by omega
 have hV1:V<9223372036854775808:=by omega
 clear hV hvb
 cases n with
 | true =>
  have hle:V≤9223372036854775808:=by omega
  have hneg:IntKind.i64.wrap (IntKind.u64.wrap (-V))=-V:=by rw [IntKind.wrap_u64,IntKind.wrap_i64];omega
  go_wp2_with (go_at_call 172;refine HB.out.mono ?_;rintro e w' ⟨rfl,rfl⟩)
  go_ret2
  have ez:z=-V:=by rw [HVV.out];first|exact HE1.out rfl|exact HE1.out trivial
  exact ⟨by rw [ez];rfl,by rw [HB0.out] at FR;exact FR.out.below⟩
 | false =>
  have hpos:IntKind.i64.wrap V=V:=by rw [IntKind.wrap_i64];omega
  go_wp2_with (go_at_call 172;refine HB.out.mono ?_;rintro e w' ⟨rfl,rfl⟩)
  go_ret2
  have ez:z=V:=by rw [HVV.out];first|exact HE2.out rfl|exact HE2.out trivial
  exact ⟨by rw [ez];rfl,by rw [HB0.out] at FR;exact FR.out.below⟩
theorem qjI {n:Nat} (h:n≠0):-(n:Int)<0:=by omega
theorem qxH {a:Nat} (d:Nat) {z:Int} (hz:z=a):z / (d:Int)=((a / d:Nat):Int)∧z%(d:Int)=((a%d:Nat):Int):=by subst hz;exact ⟨by simp,by simp⟩
theorem qxI {a d:Nat} {z:Int} (hz:z=-(a:Int)) (hd:d≠0) (hr:a%d≠0):z / (d:Int)=-((a / d+1:Nat):Int)∧z%(d:Int)=((d - a%d:Nat):Int):=by
 have h1:=Nat.div_add_mod a d;have h2:=Nat.mod_lt a (Nat.pos_of_ne_zero hd)
 have e:z=(d:Int)*-((a / d+1:Nat):Int)+((d - a%d:Nat):Int):=by
  rw [hz,Int.mul_neg,←Int.natCast_mul,Nat.mul_add,Nat.mul_one];omega
 have hb:0≤((d - a%d:Nat):Int):=Int.natCast_nonneg _;have hb2:((d - a%d:Nat):Int)<(d:Int):=by omega
 constructor
 ·rw [e,Int.add_comm,Int.add_mul_ediv_left _ _ (by omega),Int.ediv_eq_zero_of_lt hb hb2,Int.zero_add]
 ·rw [e,Int.add_comm,Int.add_mul_emod_self_left,Int.emod_eq_of_lt hb hb2]
theorem qtA {a d:Nat} {z:Int} (hz:z=-(a:Int)) (hd:d≠0) (hr:a%d=0):z / (d:Int)=-((a / d:Nat):Int)∧z%(d:Int)=0:=by
 have h1:=Nat.div_add_mod a d;rw [hr,Nat.add_zero] at h1;have e:z=(d:Int)*-((a / d:Nat):Int):=by rw [hz,Int.mul_neg,←Int.natCast_mul,h1]
 exact ⟨by rw [e,Int.mul_ediv_cancel_left _ (by omega)],by rw [e,Int.mul_emod_right]⟩
theorem pdivQ {ca cb cq cr:List Value} {z:Int} {d:Nat} (h1:ca=iZ z) (h2:cb=iZ (d:Int)) (hd:d≠0) (hq:cq=iZ (z / (d:Int))) (hr:cr=iZ (z%(d:Int))) (ha:z.natAbs<BB^31) (hb:d<BB^32) (w:World) :
  Calls Tryz.prog 146 #[.agg ca.toArray,.agg cb.toArray] w fun e w'=>e=.returned (.tuple #[.agg cq.toArray,.agg cr.toArray,.int .i64 0])∧Below w.heap.size w w':=by
 have u31:BB^31<BB^32:=Nat.pow_lt_pow_right (by unfold BB;decide) (by decide);have hcb:cb=.bool false::lv 32 d:=by rw [h2];unfold iZ;rw [Int.natAbs_natCast];simp
 by_cases hn:z<0
 ·have hz:z=-(z.natAbs:Int):=by omega
  have hca:ca=.bool true::lv 32 z.natAbs:=by rw [h1];unfold iZ;simp [hn]
  by_cases hx:z.natAbs%d=0
  ·obtain ⟨e1,e2⟩:=qtA hz hd hx
   have hk:z.natAbs / d≠0:=by
    intro h
    have:=Nat.div_add_mod z.natAbs d
    rw [h,hx] at this;simp at this;omega
   refine qgN hca hcb (s:=true) ?_ ?_ (by simp [cs1,hk]) (.inr hx) (by omega) hb hd w
   ·rw [hq,e1];unfold iZ;rw [Int.natAbs_neg,Int.natAbs_natCast,decide_eq_true (qjI hk)]
   ·rw [hr,e2,hx];rfl
  ·obtain ⟨e1,e2⟩:=qxI hz hd hx;refine qrT hca hcb (q:=z.natAbs / d+1) (r:=d - z.natAbs%d) ?_ ?_ rfl rfl hx ha hb hd w
   ·rw [hq,e1];unfold iZ;rw [Int.natAbs_neg,Int.natAbs_natCast,decide_eq_true (qjI (Nat.succ_ne_zero _))]
   ·rw [hr,e2];unfold iZ;rw [Int.natAbs_natCast,decide_eq_false (Int.not_lt.2 (Int.natCast_nonneg _))]
 ·have hz:z=(z.natAbs:Int):=by omega
  have hca:ca=.bool false::lv 32 z.natAbs:=by rw [h1];unfold iZ;simp [hn]
  obtain ⟨e1,e2⟩:=qxH d hz;refine qgN hca hcb (s:=false) ?_ ?_ (by simp [cs1]) (.inl rfl) (by omega) hb hd w
  ·rw [hq,e1];unfold iZ;rw [Int.natAbs_natCast,decide_eq_false (Int.not_lt.2 (Int.natCast_nonneg _))]
  ·rw [hr,e2];unfold iZ;rw [Int.natAbs_natCast,decide_eq_false (Int.not_lt.2 (Int.natCast_nonneg _))]
theorem quM {cr:List Value} {r:Qn} (h:cr=ratZ r.1 r.2) (hv:VQ r) (w:World) :
  Calls Tryz.prog 175 #[.agg cr.toArray,.int .i64 0] w fun e w'=>e=.returned (.int .i64 0)∧Below w.heap.size w w':=by
 have HV:=hid (qfL h hv);have V_cr:=hid (show cr=rat (decide (r.1<0)) r.1.natAbs false r.2 from h);clear h hv;obtain ⟨B0,w0,hw0,hB0,AB0,FR,FR0,HB0,hZB0⟩:=en1 w 27 (bxq cr);go_enter Tryz.func175,Tryz.ntmps175
 go_upto_region 1 with fail
 rw [←hw0,←hB0];clear hw0 hB0;refine wT [] [(6,.agg cr.toArray),(7,.bool true),(8,.bool false),(5,.bool false)] (by simp only [zr,zq];rfl) (by kernel_rfl) rfl ?_ oN oN ?_
 ·intro W' hW';refine ldR (abl AB0 hW') V_cr rfl<|fo3 ?_ ?_ ?_<|fxn;all_goals (go_big_quiet_step ((go_at_call 106;exact qaA (HV.out _)));exact wqn rfl)
 intro β wx1 E;replace FR:=fnf FR E rfl;replace AB0:=fnh AB0 E rfl;simp only [nP,zr,zq];clear E;go_wp2
 go_ret
 exact ⟨rfl,fend HB0 FR⟩
theorem jbX (w:World):Calls Tryz.prog 191 #[.int .i64 0] w fun e w'=>e=.returned (.int .i64 1)∧w=w':=by
 go_enter Tryz.func191,Tryz.ntmps191
 go_wp2
 go_loopg [3,5] 0 (fun n p i wr=>p=.int .i64 1∧i=.int .i64 0∧wr=w)
 case atStart=>exact ⟨rfl,rfl,rfl⟩
 case round =>
  obtain ⟨rfl,rfl,rfl⟩:=hrel;go_wp2
  go_ret
  exact ⟨rfl,rfl⟩
theorem quG {cr cq ct:List Value} {r:Qn} (h:cr=ratZ r.1 r.2) (hv:VQ r) (hq:cq=iZ (r.1 / (r.2:Int))) (ht:ct=iZ (r.1%(r.2:Int))) (w:World) :
  Calls Tryz.prog 176 #[.agg cr.toArray,.int .i64 0] w fun e w'=>e=.returned (.tuple #[.agg cq.toArray,.agg ct.toArray])∧Below w.heap.size w w':=by
 obtain ⟨z,d⟩:=r;have V_cr:=hid (show cr=rat (decide (z<0)) z.natAbs false d from h);have V_cq:=hid (show cq=.bool (decide (z / (d:Int)<0))::lv 32 (z / (d:Int)).natAbs from hq);have V_ct:=hid (show ct=.bool (decide (z%(d:Int)<0))::lv 32 (z%(d:Int)).natAbs from ht);have u30:BB^15≤BB^31:=Nat.pow_le_pow_right qaX (by omega);have u31:BB^31<BB^32:=Nat.pow_lt_pow_right (by unfold BB;decide) (by decide);have hz:z.natAbs<BB^15:=hv.num;have hdd:d<BB^15:=hv.den;obtain ⟨cn,V_cn⟩:∃ c:List Value,Hid (c=.bool (decide (z<0))::lv 32 z.natAbs):=⟨_,hid rfl⟩;obtain ⟨cd,V_cd⟩:∃ c:List Value,Hid (c=.bool false::lv 32 d):=⟨_,hid rfl⟩;obtain ⟨co,V_co⟩:∃ c:List Value,Hid (c=.bool false::lv 32 1):=⟨_,hid rfl⟩;obtain ⟨cz,V_cz⟩:∃ c:List Value,Hid (c=.bool false::lv 32 0):=⟨_,hid rfl⟩;have HF:=hid (qqE (z:=1) (cr:=co) V_co.out (by decide) (by decide));have HM:=hid (pmulZ (a:=z) (b:=1) (ca:=cn) (cb:=co) (cr:=cn) V_cn.out V_co.out (by rw [Int.mul_one];exact V_cn.out) (by omega) (Nat.one_lt_pow (by omega) (by unfold BB;decide)) (by rw [Int.mul_one];omega));have HD:=hid (pdivQ (z:=z) (d:=d) (ca:=cn) (cb:=cd) V_cn.out (by rw [V_cd.out];unfold iZ;rw [Int.natAbs_natCast];simp) hv.pos hq ht (by omega) (by omega));clear h hq ht u30 u31 hz hdd hv;obtain ⟨B0,B1,B2,w0,hw0,hB0,hB1,hB2,AB0,AB1,AB2,FR,FR0,HB0,hZB0,l01,hZB1,l12,hZB2⟩:=en3 w 27 25 25 (bxq cr) (zQI V_cz) (zQI V_cz);unfold zero33 at hw0;go_enter Tryz.func176,Tryz.ntmps176
 go_upto_region 1 with fail
 rw [←hw0,←hB2,←hB1,←hB0];clear hw0 hB0 hB1 hB2;have AB0_n:=hid (AB0.out.num V_cr.out V_cn.out);have AB0_d:=hid (AB0.out.den V_cr.out V_cd.out);refine wT [⟨true,9,6,10,0,0,25,15,cn,0,cn,[]⟩] [(9,.pointer (some ⟨B0,0,none⟩)),(10,.agg cn.toArray),(11,.int .i64 0),(12,.int .i64 1),(13,.agg co.toArray),(14,.tuple #[.agg cn.toArray,.int .i64 0]),(8,.tuple #[.agg cn.toArray,.int .i64 0]),(15,.agg cn.toArray),(16,.int .i64 0),(7,.int .i64 0)] (by simp only [zr,zq];rfl) (by kernel_rfl) rfl ?_ ?_ ?_ ?_
 ·intro W' hW';refine fxo ?_<|ldI (abl AB0_n hW') V_cn rfl<|fo2 ?_ ?_<|fxo (by go_big_quiet_step ((go_at_call 76;exact qaA (HF.out _)));exact wqn rfl)<|fxo (by go_big_quiet_step ((go_at_call 113;exact qaA (HM.out _)));exact wqn rfl)<|fo3 ?_ ?_ ?_<|fxs rfl<|fxs rfl<|fxo ?_<|fxn;all_goals (go_big_quiet_step ((go_at_call 191;exact qaG (jbX _)));exact wqn rfl)
 ·exact fP1 (Tryz.alI (qI V_cn.out))
 ·exact fP1 (sI V_cn (fun _=>rfl) rfl)
 intro β wx1 E;replace FR:=fnf FR E rfl;obtain ⟨b6,hb6,eb6⟩:=nwb E mms;have lB0_b6:B0<b6:=ltb AB0 eb6.1;have lB1_b6:B1<b6:=ltb AB1 eb6.1;have lB2_b6:B2<b6:=ltb AB2 eb6.1;have hZb6:B0≤b6:=Nat.le_trans FR0.out eb6.1;replace AB0:=fnh AB0 E rfl;replace AB1:=fnh AB1 E rfl;replace AB2:=fnh AB2 E rfl;replace AB0_n:=fnh AB0_n E rfl;replace AB0_d:=fnh AB0_d E rfl;have Ab6:=hid eb6.2;simp only [nP,zr,zq];rw [←hb6];replace FR0:=hid FR.out.le;clear E eb6 hb6;go_upto_region 2 with fail
 refine wF [⟨false,0,4,8,B1,0,25,22,cq,0,cq,[]⟩,⟨false,0,5,9,B2,0,25,23,ct,0,ct,[]⟩] [(18,.agg cn.toArray),(19,.pointer (some ⟨B0,33,none⟩)),(20,.agg cd.toArray),(21,.tuple #[.agg cq.toArray,.agg ct.toArray,.int .i64 0]),(17,.tuple #[.agg cq.toArray,.agg ct.toArray,.int .i64 0]),(22,.agg cq.toArray),(23,.agg ct.toArray),(24,.int .i64 0)] (by simp only [zr,zq];rfl) (by kernel_rfl) ?_ ?_ (oP _ _ bnC (fP1 bnC)) ?_ ?_ ?_ ?_
 ·intro W' hW';refine ldI (abl Ab6 hW') V_cn rfl<|fxo ?_<|ldI (abl AB0_d hW') V_cd rfl<|fo4 ?_ ?_ ?_ ?_<|fxo ?_<|fxs rfl<|fxs rfl<|fxn;all_goals (go_big_quiet_step ((go_at_call 146;exact qaA (HD.out _)));exact wqn rfl)
 ·intro W' hK';have rd0:=At.keep hK' Ab6.out (oP _ _ (fun _=>(by show B1≠b6;omega)) (oP _ _ (fun _=>(by show B2≠b6;omega)) (oN)));have rd1:=At.keep hK' AB0_d.out (oP _ _ (fun _=>(by show B1≠B0;omega)) (oP _ _ (fun _=>(by show B2≠B0;omega)) (oN)));refine ldI rd0 V_cn rfl<|fxi ?_<|ldI rd1 V_cd rfl<|fxs (by kernel_rfl)<|fxi ?_<|fxi ?_<|fxi ?_<|fxi ?_<|fxs (by kernel_rfl)<|fxs (by kernel_rfl)<|fxn;all_goals (first|(refine .inr ?_;go_big_quiet_step (fail);exact wqn rfl)|exact .inl (by kernel_rfl))
 ·exact oP _ _ (fun _=>⟨AB1.out.lt,rfl,At.room AB1.out (qI V_cz.out) (qI V_cq.out)⟩) (oP _ _ (fun _=>⟨AB2.out.lt,rfl,At.room AB2.out (qI V_cz.out) (qI V_ct.out)⟩) (oN))
 ·intro q hq r hr hqn hrn e;simp only [List.mem_cons,List.not_mem_nil,or_false] at hq hr;rcases hq with rfl|rfl<;>rcases hr with rfl|rfl<;>first|rfl|(exact Bool.noConfusion hqn)|(exact Bool.noConfusion hrn)|(exfalso;simp only at e;omega)
 ·exact oP _ _ (stw rfl (qI V_cq.out) (qfM V_cq.out) (fun _=>rfl)) (oP _ _ (stw rfl (qI V_ct.out) (qfM V_ct.out) (fun _=>rfl)) (oN))
 intro β wx2 E;replace FR:=hid (FR.out.flow E (oP _ _ (fun _=>(by show B0≤B1;omega)) (oP _ _ (fun _=>(by show B0≤B2;omega)) (oN))));replace AB0:=hid (At.flow E AB0.out (oP _ _ (fun _=>(by show B1≠B0;omega)) (oP _ _ (fun _=>(by show B2≠B0;omega)) (oN))));replace AB1:=hid (show At wx2 B1 0 cq from E.atOld mms rfl AB1.out.lt);replace AB2:=hid (show At wx2 B2 0 ct from E.atOld (List.mem_cons_of_mem _ mms) rfl AB2.out.lt);replace AB0_n:=hid (At.flow E AB0_n.out (oP _ _ (fun _=>(by show B1≠B0;omega)) (oP _ _ (fun _=>(by show B2≠B0;omega)) (oN))));replace AB0_d:=hid (At.flow E AB0_d.out (oP _ _ (fun _=>(by show B1≠B0;omega)) (oP _ _ (fun _=>(by show B2≠B0;omega)) (oN))));replace Ab6:=hid (At.flow E Ab6.out (oP _ _ (fun _=>(by show B1≠b6;omega)) (oP _ _ (fun _=>(by show B2≠b6;omega)) (oN))));simp only [nP,zr,zq];replace FR0:=hid FR.out.le;clear E;go_upto_region 3 with fail
 have hd1:B1≠B2:=by omega
 refine qcG 25 _ _ _ _ _ _ _ B1 B2 B1 B2 cq ct (by kernel_rfl) (by kernel_rfl) (by kernel_rfl) (by kernel_rfl) (by kernel_rfl) (by kernel_rfl) (by kernel_rfl) (by kernel_rfl) (by kernel_rfl) rfl rfl rfl rfl rfl rfl rfl rfl Tryz.underlying25 rfl (qI V_cq.out) (qI V_ct.out) (qfM V_cq.out) (qfM V_ct.out) rfl rfl rfl rfl rfl rfl AB1.out.range AB2.out.range AB1.out.there AB2.out.there hd1 rfl (.inl rfl) (Ne.symm hd1) ?_;have D1:At wx2.drew B1 0 cq:=AB1.out.same rfl;have D2:At wx2.drew B2 0 ct:=AB2.out.same rfl;have F1:=hid ((D1.stored rfl).sets (Ne.symm hd1) 0 ct);have F2:=hid ((D2.sets hd1 0 cq).stored rfl);have FF:=hid (qaB hZB2 ct 0 _ (qaB hZB1 cq 0 _ (qbI FR.out.below)));obtain ⟨wf,hwf⟩:∃ wf,wf=(wx2.drew.setCells B1 0 cq).setCells B2 0 ct:=⟨_,rfl⟩;rw [←hwf] at F1 F2 FF ⊢
 try simp only [zq]
 clear hwf D1 D2 FR FR0 AB1 AB2;go_wp2_with fail
 have hld0:=F1.out.read (P:=Tryz.prog) Tryz.underlying25 rfl (qI V_cq.out);have hld1:=F2.out.read (P:=Tryz.prog) Tryz.underlying25 rfl (qI V_ct.out);refine bodyPost_ret (v:=.tuple #[.agg cq.toArray,.agg ct.toArray]) (by simp [results,Tryz.results176,asAddr,hld0,hld1]) rfl ?_;exact ⟨rfl,by rw [HB0.out] at FF;exact FF.out⟩
theorem Tryz.info127:(Tryz.prog.info? 193).map (·.size)=some 35:=by kernel_rfl
def btw (c:List Value) (h:Int) (n:Bool):List Value:=c++[.int .i64 h,.bool n]
theorem qwQ {c:List Value} {h:Int} {n:Bool} (hc:c.length=33):(btw c h n).length=35:=by simp [btw,hc]
theorem qoD {c:List Value} {h:Int} {n s:Bool} {v:Nat} (hc:c=.bool s::lv 32 v):Tryz.prog.built 193 [(0,.agg c.toArray),(1,.int .i64 h),(2,.bool n)]=some (btw c h n).toArray:=by
 subst hc;kernel_rfl
theorem qfB {P:Program} (w:World) {t:TypeId} {ps rs:Array TypeId} {vr:Bool} (ht:P.underlying t=some (.func ps rs vr)) (f:Fn) (b c:Array Value):(binOp .eql t (.func f b c) .nilFunc).run P w=.ok (.bool false) w:=by
 have h:∀ d:Nat,(Op.equalIn (d+1) t (.func f b c) .nilFunc).run P w=.ok false w:=fun d=>by
  simp [Op.equalIn,run_underlying ht]
 simp only [binOp];simp [Op.equal,Op.maxDepth,h 9999]
theorem qvP {c:List Value} (w:World):Calls Tryz.prog 194 #[.agg c.toArray] w fun e w'=>e=.returned (.bool false)∧Below w.heap.size w w':=by
 go_enter Tryz.func194,Tryz.ntmps194
 go_wp2
 go_ret
 exact ⟨rfl,(Below.refl _ _).alloc (Nat.le_refl _) _⟩
theorem qrV {c:List Value} (hl:c.length=35) (w:World):Calls Tryz.prog 178 #[.agg c.toArray,.int .i64 3] w fun e w'=>e=.returned (.func (.func 194) #[.agg c.toArray] #[])∧Below w.heap.size w w':=by
 have HA:=hid (At.fresh w c 193 rfl);have HS:=hid (show (Tryz.prog.info? 193).map (·.size)=some c.length by rw [hl];exact Tryz.info127);clear hl;go_enter Tryz.func178,Tryz.ntmps178
 go_wp2_with (refine wpList_load_mid rfl _ _ rfl w.heap.size 0 rfl c _ HA.out.range Tryz.underlying193 rfl HS.out ?_)
 go_ret
 exact ⟨rfl,(Below.refl _ _).alloc (Nat.le_refl _) _⟩
theorem qgZ {cr cv:List Value} {r:Qn} (h:cr=ratZ r.1 r.2) (hv:VQ r) (hz:cv=iZ (r.1 / (r.2:Int))) (w:World) :
  Calls Tryz.prog 155 #[.agg cr.toArray,.int .i64 0,.int .i64 3] w fun e w'=>e=.returned (.tuple #[.agg cv.toArray,.int .i64 0])∧Below w.heap.size w w':=by
 have HCK:=hid (quM h hv);obtain ⟨z,d⟩:=r;have V_cr:=hid (show cr=rat (decide (z<0)) z.natAbs false d from h);have V_cv:=hid (show cv=.bool (decide (z / (d:Int)<0))::lv 32 (z / (d:Int)).natAbs from hz);have u15:BB^15<BB^30:=Nat.pow_lt_pow_right (by unfold BB;decide) (by decide);have u30:2*BB^30≤BB^32:=qxD;have hzB:z.natAbs<BB^15:=hv.num;have hdB:d<BB^15:=hv.den;have hd0:d≠0:=hv.pos;obtain ⟨t,ht⟩:∃ t,t=z%(d:Int):=⟨_,rfl⟩;have ht0:0≤t:=by rw [ht];exact Int.emod_nonneg _ (by omega)
 have ht1:t<d:=by rw [ht];exact Int.emod_lt_of_pos _ (by omega)
 obtain ⟨x,hx⟩:∃ x,x=cmpZ (t+t) (d:Int):=⟨_,rfl⟩;obtain ⟨s,hs⟩:∃ s,s=z.sign:=⟨_,rfl⟩;obtain ⟨cn,V_cn⟩:∃ c:List Value,Hid (c=.bool (decide (z<0))::lv 32 z.natAbs):=⟨_,hid rfl⟩;obtain ⟨cd,V_cd⟩:∃ c:List Value,Hid (c=.bool false::lv 32 d):=⟨_,hid rfl⟩;obtain ⟨ct,V_ct⟩:∃ c:List Value,Hid (c=.bool (decide (t<0))::lv 32 t.natAbs):=⟨_,hid rfl⟩;obtain ⟨cw,V_cw⟩:∃ c:List Value,Hid (c=.bool (decide (t+t<0))::lv 32 (t+t).natAbs):=⟨_,hid rfl⟩;obtain ⟨cB,V_cB⟩:∃ c:List Value,Hid (c=btw cv x (decide (s<0))):=⟨_,hid rfl⟩;obtain ⟨cz,V_cz⟩:∃ c:List Value,Hid (c=.bool false::lv 32 0):=⟨_,hid rfl⟩;have hcd:cd=iZ (d:Int):=by rw [V_cd.out];unfold iZ;rw [Int.natAbs_natCast];simp
 have HSC:=hid (quG (cq:=cv) (ct:=ct) h hv hz (by rw [V_ct.out,ht];rfl));have HAD:=hid (jcA (a:=t) (b:=t) (ca:=ct) (cb:=ct) (cr:=cw) V_ct.out V_ct.out V_cw.out (by omega) (by omega) (by omega));have HCM:=hid (qpC (z:=x) (ca:=cw) (cb:=cd) V_cw.out V_cd.out (by rw [hx,qoJ];rfl) (by omega) (by omega));have HSN:=hid (qqD (cx:=cn) (z:=z) V_cn.out (by omega));rw [←hs] at HSN;have HST:=hid (qqD (cx:=ct) (z:=t) V_ct.out (by omega));have hL:cv.length=33:=by rw [V_cv.out,List.length_cons,qlL]
 have HBB:=hid (show Tryz.prog.built 193 [(0,.agg cv.toArray),(1,.int .i64 x),(2,.bool (decide (s<0)))]=some cB.toArray by rw [V_cB.out];exact qoD V_cv.out);have HMO:=hid (qrV (c:=cB) (by rw [V_cB.out];exact qwQ hL));have HFL:=hid (qvP (c:=cB));have HT:=hid (show t=0∨0<t by omega);have qf:∀ (w:World) (f:Fn) (b c:Array Value),(binOp .eql 31 (.func f b c) .nilFunc).run Tryz.prog w=.ok (.bool false) w:=fun w f b c=>qfB w Tryz.underlying31 f b c
 clear h hv hz u15 u30 hzB hdB hd0 ht ht0 ht1 hx hs hcd hL;obtain ⟨B0,B1,w0,hw0,hB0,hB1,AB0,AB1,FR,FR0,HB0,hZB0,l01,hZB1⟩:=en2 w 27 25 (bxq cr) (zQI V_cz);unfold zero33 at hw0;go_enter Tryz.func155,Tryz.ntmps155
 go_upto_region 1 with fail
 rw [←hw0,←hB1,←hB0];clear hw0 hB0 hB1;have AB0_n:=hid (AB0.out.num V_cr.out V_cn.out);have AB0_d:=hid (AB0.out.den V_cr.out V_cd.out);refine wT [] [(16,.agg cr.toArray),(17,.int .i64 0),(18,.int .i64 0),(8,.int .i64 0)] (by simp only [zr,zq];rfl) (by kernel_rfl) rfl ?_ oN oN ?_
 ·intro W' hW';refine ldR (abl AB0 hW') V_cr rfl<|fo3 ?_ ?_ ?_<|fxn;all_goals (go_big_quiet_step ((go_at_call 175;exact qaA (HCK.out _)));exact wqn rfl)
 intro β wx1 E;replace FR:=fnf FR E rfl;replace AB0:=fnh AB0 E rfl;replace AB1:=fnh AB1 E rfl;replace AB0_n:=fnh AB0_n E rfl;replace AB0_d:=fnh AB0_d E rfl;simp only [nP,zr,zq];replace FR0:=hid FR.out.le;clear E;go_upto_region 4 with fail
 refine wT [⟨true,6,9,8,0,0,25,27,cv,0,cv,[]⟩,⟨true,7,10,9,0,0,25,28,ct,0,ct,[]⟩] [(24,.agg cr.toArray),(25,.int .i64 0),(26,.tuple #[.agg cv.toArray,.agg ct.toArray]),(23,.tuple #[.agg cv.toArray,.agg ct.toArray]),(27,.agg cv.toArray),(28,.agg ct.toArray)] (by simp only [zr,zq];rfl) (by kernel_rfl) rfl ?_ ?_ ?_ ?_
 ·intro W' hW';refine ldR (abl AB0 hW') V_cr rfl<|fo4 ?_ ?_ ?_ ?_<|fxo ?_<|fxs rfl<|fxs rfl<|fxs rfl<|fxs rfl<|fxn;all_goals (go_big_quiet_step ((go_at_call 176;exact qaA (HSC.out _)));exact wqn rfl)
 ·exact oP _ _ (Tryz.alI (qI V_cv.out)) (oP _ _ (Tryz.alI (qI V_ct.out)) (oN))
 ·exact oP _ _ (stw rfl (qI V_cv.out) (qfM V_cv.out) (fun _=>rfl)) (oP _ _ (stw rfl (qI V_ct.out) (qfM V_ct.out) (fun _=>rfl)) (oN))
 intro β wx2 E;replace FR:=fnf FR E rfl;obtain ⟨b9,hb9,eb9⟩:=nwb E mms;have lB0_b9:B0<b9:=ltb AB0 eb9.1;have lB1_b9:B1<b9:=ltb AB1 eb9.1;have hZb9:B0≤b9:=Nat.le_trans FR0.out eb9.1;obtain ⟨b10,hb10,eb10⟩:=nwb E (List.mem_cons_of_mem _ mms);have lB0_b10:B0<b10:=ltb AB0 eb10.1;have lB1_b10:B1<b10:=ltb AB1 eb10.1;have hZb10:B0≤b10:=Nat.le_trans FR0.out eb10.1;have nb9_b10:b9≠b10:=fun e=>absurd (E.apart _ mms _ (List.mem_cons_of_mem _ mms) rfl rfl (by rw [hb9,hb10] at e;exact e)) (show ¬(6:Nat)=7 by decide)
 replace AB0:=fnh AB0 E rfl;replace AB1:=fnh AB1 E rfl;replace AB0_n:=fnh AB0_n E rfl;replace AB0_d:=fnh AB0_d E rfl;have Ab9:=hid eb9.2;have Ab10:=hid eb10.2;simp only [nP,zr,zq];rw [←hb9];rw [←hb10];replace FR0:=hid FR.out.le;clear E eb9 hb9 eb10 hb10;go_upto_region 5 with fail
 refine wT [⟨true,6,11,7,0,0,25,33,cw,0,cw,[]⟩] [(30,.agg ct.toArray),(31,.agg ct.toArray),(32,.tuple #[.agg cw.toArray,.int .i64 0]),(29,.tuple #[.agg cw.toArray,.int .i64 0]),(33,.agg cw.toArray),(34,.int .i64 0),(12,.int .i64 0)] (by simp only [zr,zq];rfl) (by kernel_rfl) rfl ?_ ?_ ?_ ?_
 ·intro W' hW';have rd0:=Ab10.out.below hW';refine ldI rd0 V_ct rfl<|ldI rd0 V_ct rfl<|fo4 ?_ ?_ ?_ ?_<|fxs rfl<|fxs rfl<|fxo ?_<|fxn;all_goals (go_big_quiet_step ((go_at_call 177;exact qaA (HAD.out _)));exact wqn rfl)
 ·exact fP1 (Tryz.alI (qI V_cw.out))
 ·exact fP1 (sI V_cw (fun _=>rfl) rfl)
 intro β wx3 E;replace FR:=fnf FR E rfl;obtain ⟨b11,hb11,eb11⟩:=nwb E mms;have lB0_b11:B0<b11:=ltb AB0 eb11.1;have lB1_b11:B1<b11:=ltb AB1 eb11.1;have lb9_b11:b9<b11:=ltb Ab9 eb11.1;have lb10_b11:b10<b11:=ltb Ab10 eb11.1;have hZb11:B0≤b11:=Nat.le_trans FR0.out eb11.1;replace AB0:=fnh AB0 E rfl;replace AB1:=fnh AB1 E rfl;replace AB0_n:=fnh AB0_n E rfl;replace AB0_d:=fnh AB0_d E rfl;replace Ab9:=fnh Ab9 E rfl;replace Ab10:=fnh Ab10 E rfl;have Ab11:=hid eb11.2;simp only [nP,zr,zq];rw [←hb11];replace FR0:=hid FR.out.le;clear E eb11 hb11;go_upto_region 6 with fail
 refine wT [] [(35,.agg cv.toArray),(36,.agg cw.toArray),(37,.pointer (some ⟨B0,33,none⟩)),(38,.agg cd.toArray),(39,.int .i64 x),(40,.pointer (some ⟨B0,0,none⟩)),(41,.agg cn.toArray),(42,.int .i64 s),(43,.bool (decide (s<0))),(44,.agg cB.toArray),(45,.int .i64 3),(46,.func (.func 194) #[.agg cB.toArray] #[]),(13,.func (.func 194) #[.agg cB.toArray] #[])] (by simp only [zr,zq];rfl) (by kernel_rfl) rfl ?_ oN oN ?_
 ·intro W' hW';refine ldI (abl Ab9 hW') V_cv rfl<|ldI (abl Ab11 hW') V_cw rfl<|fxo ?_<|ldI (abl AB0_d hW') V_cd rfl<|fo2 ?_ ?_<|ldI (abl AB0_n hW') V_cn rfl<|fxo (by go_big_quiet_step ((go_at_call 107;exact qaA (HSN.out _)));exact wqn rfl)<|fxo ?_<|fxb HBB.out rfl<|fxo ?_<|fxo (by go_big_quiet_step ((go_at_call 178;exact qaA (HMO.out _)));exact wqn rfl)<|fxo ?_<|fxn;all_goals (go_big_quiet_step ((go_at_call 154;exact qaA (HCM.out _)));exact wqn rfl)
 intro β wx4 E;replace FR:=fnf FR E rfl;replace AB0:=fnh AB0 E rfl;replace AB1:=fnh AB1 E rfl;replace AB0_n:=fnh AB0_n E rfl;replace AB0_d:=fnh AB0_d E rfl;replace Ab9:=fnh Ab9 E rfl;replace Ab10:=fnh Ab10 E rfl;replace Ab11:=fnh Ab11 E rfl;simp only [nP,zr,zq];replace FR0:=hid FR.out.le;clear E;go_upto_region 9 with fail
 rcases HT.out with ht|ht
 ·have hsg:t.sign=0:=by rw [ht];rfl
  rw [hsg] at HST;clear ht hsg;refine wT [] [(52,.agg ct.toArray),(53,.int .i64 0),(54,.bool true),(55,.bool true),(56,undef),(57,undef),(58,undef),(59,.bool true),(51,.bool true)] (by simp only [zr,zq];rfl) (by kernel_rfl) rfl ?_ oN oN ?_
  ·intro W' hW';refine ldI (abl Ab10 hW') V_ct rfl<|fo4 ?_ ?_ ?_ ?_<|fo4 ?_ ?_ ?_ ?_<|fxn;all_goals (go_big_quiet_step ((go_at_call 107;exact qaA (HST.out _)));exact wqn rfl)
  intro β wx5 E;replace FR:=fnf FR E rfl;replace AB0:=fnh AB0 E rfl;replace AB1:=fnh AB1 E rfl;replace AB0_n:=fnh AB0_n E rfl;replace AB0_d:=fnh AB0_d E rfl;replace Ab9:=fnh Ab9 E rfl;replace Ab10:=fnh Ab10 E rfl;replace Ab11:=fnh Ab11 E rfl;simp only [nP,zr,zq];replace FR0:=hid FR.out.le;clear E;go_upto_region 10 with fail
  refine wF [⟨false,0,6,1,B1,0,25,60,cv,0,cv,[]⟩] [(60,.agg cv.toArray),(7,.int .i64 0)] (by simp only [zr,zq];rfl) (by kernel_rfl) ?_ ?_ (fP1 bnC) ?_ uno ?_ ?_
  ·intro W' hW';refine ldI (abl Ab9 hW') V_cv rfl<|fxs rfl<|fxo ?_<|fxn
   go_big_quiet_step (fail);exact wqn rfl
  ·intro W' hK';have rd0:=akh Ab9 hK' (by show B1≠b9;omega);refine ldI rd0 V_cv rfl<|fxs (by kernel_rfl)<|fxi ?_<|fxn
   first|(refine .inr ?_;go_big_quiet_step (fail);exact wqn rfl)|exact .inl (by kernel_rfl)
  ·exact fP1 (fun _=>⟨AB1.out.lt,rfl,At.room AB1.out (qI V_cz.out) (qI V_cv.out)⟩)
  ·exact fP1 (sI V_cv (fun _=>rfl) rfl)
  intro β wx6 E;replace FR:=ffh FR E (by show B0≤B1;omega);replace AB0:=afh AB0 E (by show B1≠B0;omega);replace AB1:=hid (show At wx6 B1 0 cv from E.atOld mms rfl AB1.out.lt);replace AB0_n:=afh AB0_n E (by show B1≠B0;omega);replace AB0_d:=afh AB0_d E (by show B1≠B0;omega);replace Ab9:=afh Ab9 E (by show B1≠b9;omega);replace Ab10:=afh Ab10 E (by show B1≠b10;omega);replace Ab11:=afh Ab11 E (by show B1≠b11;omega);simp only [nP,zr,zq];replace FR0:=hid FR.out.le;clear E;go_wp2_with fail
  have hld:=AB1.out.read (P:=Tryz.prog) Tryz.underlying25 rfl (qI V_cv.out);refine bodyPost_ret (v:=.tuple #[.agg cv.toArray,.int .i64 0]) (by simp [results,Tryz.results155,asAddr,hld]) rfl ?_;exact ⟨rfl,fend HB0 FR⟩
 ·have hsg:t.sign=1:=Int.sign_eq_one_of_pos ht;rw [hsg] at HST;clear ht hsg;refine wT [] [(52,.agg ct.toArray),(53,.int .i64 1),(54,.bool false),(55,.bool false),(56,.func (.func 194) #[.agg cB.toArray] #[]),(57,.bool false),(58,.bool true),(59,.bool true),(51,.bool true)] (by simp only [zr,zq];rfl) (by kernel_rfl) rfl ?_ oN oN ?_
  ·intro W' hW';refine ldI (abl Ab10 hW') V_ct rfl<|fo4 ?_ ?_ ?_ ?_<|fxo (by go_big_quiet_step ((go_at_call 194;exact qaA (HFL.out _)));exact wqn rfl)<|fo3 ?_ ?_ ?_<|fxn;all_goals (go_big_quiet_step ((go_at_call 107;exact qaA (HST.out _)));exact wqn rfl)
  intro β wx5 E;replace FR:=fnf FR E rfl;replace AB0:=fnh AB0 E rfl;replace AB1:=fnh AB1 E rfl;replace AB0_n:=fnh AB0_n E rfl;replace AB0_d:=fnh AB0_d E rfl;replace Ab9:=fnh Ab9 E rfl;replace Ab10:=fnh Ab10 E rfl;replace Ab11:=fnh Ab11 E rfl;simp only [nP,zr,zq];replace FR0:=hid FR.out.le;clear E;go_upto_region 10 with fail
  refine wF [⟨false,0,6,1,B1,0,25,60,cv,0,cv,[]⟩] [(60,.agg cv.toArray),(7,.int .i64 0)] (by simp only [zr,zq];rfl) (by kernel_rfl) ?_ ?_ (fP1 bnC) ?_ uno ?_ ?_
  ·intro W' hW';refine ldI (abl Ab9 hW') V_cv rfl<|fxs rfl<|fxo ?_<|fxn
   go_big_quiet_step (fail);exact wqn rfl
  ·intro W' hK';have rd0:=akh Ab9 hK' (by show B1≠b9;omega);refine ldI rd0 V_cv rfl<|fxs (by kernel_rfl)<|fxi ?_<|fxn
   first|(refine .inr ?_;go_big_quiet_step (fail);exact wqn rfl)|exact .inl (by kernel_rfl)
  ·exact fP1 (fun _=>⟨AB1.out.lt,rfl,At.room AB1.out (qI V_cz.out) (qI V_cv.out)⟩)
  ·exact fP1 (sI V_cv (fun _=>rfl) rfl)
  intro β wx6 E;replace FR:=ffh FR E (by show B0≤B1;omega);replace AB0:=afh AB0 E (by show B1≠B0;omega);replace AB1:=hid (show At wx6 B1 0 cv from E.atOld mms rfl AB1.out.lt);replace AB0_n:=afh AB0_n E (by show B1≠B0;omega);replace AB0_d:=afh AB0_d E (by show B1≠B0;omega);replace Ab9:=afh Ab9 E (by show B1≠b9;omega);replace Ab10:=afh Ab10 E (by show B1≠b10;omega);replace Ab11:=afh Ab11 E (by show B1≠b11;omega);simp only [nP,zr,zq];replace FR0:=hid FR.out.le;clear E;go_wp2_with fail
  have hld:=AB1.out.read (P:=Tryz.prog) Tryz.underlying25 rfl (qI V_cv.out);refine bodyPost_ret (v:=.tuple #[.agg cv.toArray,.int .i64 0]) (by simp [results,Tryz.results155,asAddr,hld]) rfl ?_;exact ⟨rfl,fend HB0 FR⟩
theorem qgM {cr:List Value} {r:Qn} {n:Int} (h:cr=ratZ r.1 r.2) (hv:VQ r) (hn:n=r.1 / (r.2:Int)) (h1:-1000000000000000≤n) (h2:n≤1000000000000000) (w:World) :
  Calls Tryz.prog 125 #[.agg cr.toArray,.int .i64 0,.int .i64 3] w fun e w'=>e=.returned (.tuple #[.int .i64 n,.int .i64 0])∧Below w.heap.size w w':=by
 obtain ⟨cv,V_cv⟩:∃ c:List Value,Hid (c=.bool (decide (n<0))::lv 32 n.natAbs):=⟨_,hid rfl⟩;have HR:=hid (qgZ (cv:=cv) h hv (by rw [V_cv.out,←hn];rfl));have HI:=hid (qkC (ca:=cv) (z:=n) V_cv.out (by omega) (by omega));have V_cr:=hid (show cr=rat (decide (r.1<0)) r.1.natAbs false r.2 from h);have p1:¬n < -1000000000000000:=by omega
 have p2:¬(1000000000000000:Int)<n:=by omega
 clear h hv hn h1 h2;obtain ⟨B0,w0,hw0,hB0,AB0,FR,FR0,HB0,hZB0⟩:=en1 w 27 (bxq cr);go_enter Tryz.func125,Tryz.ntmps125
 go_upto_region 1 with fail
 rw [←hw0,←hB0];clear hw0 hB0;refine wT [⟨true,7,8,8,0,0,25,17,cv,0,cv,[]⟩] [(13,.agg cr.toArray),(14,.int .i64 0),(15,.int .i64 3),(16,.tuple #[.agg cv.toArray,.int .i64 0]),(12,.tuple #[.agg cv.toArray,.int .i64 0]),(17,.agg cv.toArray),(18,.int .i64 0),(9,.int .i64 0)] (by simp only [zr,zq];rfl) (by kernel_rfl) rfl ?_ ?_ ?_ ?_
 ·intro W' hW';refine ldR (abl AB0 hW') V_cr rfl<|fo4 ?_ ?_ ?_ ?_<|fo2 ?_ ?_<|fxs rfl<|fxs rfl<|fxo ?_<|fxn;all_goals (go_big_quiet_step ((go_at_call 155;exact qaA (HR.out _)));exact wqn rfl)
 ·exact fP1 (Tryz.alI (qI V_cv.out))
 ·exact fP1 (sI V_cv (fun _=>rfl) rfl)
 intro β wx1 E;replace FR:=fnf FR E rfl;obtain ⟨b8,hb8,eb8⟩:=nwb E mms;have lB0_b8:B0<b8:=ltb AB0 eb8.1;have hZb8:B0≤b8:=Nat.le_trans FR0.out eb8.1;replace AB0:=fnh AB0 E rfl;have Ab8:=hid eb8.2;simp only [nP,zr,zq];rw [←hb8];replace FR0:=hid FR.out.le;clear E eb8 hb8;go_upto_region 4 with fail
 refine wT [] [(23,.agg cv.toArray),(24,.tuple #[.int .i64 n,.bool true]),(22,.tuple #[.int .i64 n,.bool true]),(25,.int .i64 n),(26,.bool true),(10,.int .i64 n),(11,.bool true)] (by simp only [zr,zq];rfl) (by kernel_rfl) rfl ?_ oN oN ?_
 ·intro W' hW';refine ldI (abl Ab8 hW') V_cv rfl<|fo4 ?_ ?_ ?_ ?_<|fo2 ?_ ?_<|fxn;all_goals (go_big_quiet_step ((go_at_call 156;exact qaA (HI.out _)));exact wqn rfl)
 intro β wx2 E;replace FR:=fnf FR E rfl;replace AB0:=fnh AB0 E rfl;replace Ab8:=fnh Ab8 E rfl;simp only [nP,zr,zq];replace FR0:=hid FR.out.le;clear E;go_wp2
 go_ret2
 exact ⟨rfl,fend HB0 FR⟩
end Go.Proofs.YtemoddmadfoaiaaGreat
