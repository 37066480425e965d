import Derived.Test.YtooeabibhjbkoaaGreatGeD
import Derived.Laws.Strings
set_option linter.unusedVariables false
set_option linter.unusedSimpArgs false
set_option maxRecDepth 100000
namespace Go.Proofs.YtooeabibhjbkoaaGreat
open Go.RowKit Big Reg Al Ap Ga
theorem mkQ_some {N:Int} {D:Nat} (h1:N.natAbs<B480) (h2:D<B480):∃ r,mkQ N D=some r:=by
 unfold mkQ
 rw [if_pos ⟨Nat.lt_of_le_of_lt (Nat.div_le_self _ _) h1,Nat.lt_of_le_of_lt (Nat.div_le_self _ _) h2⟩]
 exact ⟨_,rfl⟩
theorem b480_big:(1000000000000000000000000000000000:Nat)<B480:=by unfold B480 BB;decide
theorem vq_int {z:Int} (h:z.natAbs<1000000000000000000000000000000000):VQ (z,1):=⟨Nat.lt_trans h b480_big,Nat.lt_trans (show (1:Nat)<_ by decide) b480_big,Nat.one_ne_zero,by show Nat.gcd z.natAbs 1=1;simp⟩
theorem room_some {net:Int} {p q:Nat} {r:Qn} (hq:q≠0) (h:mulQ ((p:Int),q) (net,1)=some r):∃ r',mulQ ((p:Int),q) (max net 0,1)=some r':=by
 by_cases hn:0≤net
 ·rw [show max net 0=net by omega];exact ⟨r,h⟩
 ·rw [show max net 0=0 by omega]
  refine ⟨(0,1),?_⟩
  unfold mulQ mkQ
  simp only [Int.mul_zero,Int.natAbs_zero,Nat.gcd_zero_left,Nat.zero_div,Int.sign_zero,Int.zero_mul,Nat.mul_one]
  rw [Nat.div_self (Nat.pos_of_ne_zero hq),if_pos ⟨Nat.lt_trans (by decide) b480_big,Nat.lt_trans (by decide) b480_big⟩]
end Go.Proofs.YtooeabibhjbkoaaGreat
set_option maxHeartbeats 8000000
namespace Go.Proofs.YtooeabibhjbkoaaGreat
open Go.RowKit Big Reg Al Ap Ga
open Lib (hid)
theorem mul_one_vq {p q:Nat} {z:Int} {r:Qn} (hq:q≠0) (h:mulQ ((p:Int),q) (z,1)=some r):VQ r∧r.1 / (r.2:Int)=roomZ z p q:=by
 unfold mulQ at h
 refine ⟨mkQ_valid (by simpa using hq) h,?_⟩
 rw [mkQ_floor h (by simpa using hq)]
 unfold roomZ
 simp
theorem room_nat {net:Int} {p q:Nat} (hq:q≠0):roomZ (max net 0) p q=((roomZ net p q).toNat:Int):=by
 by_cases hn:0≤net
 ·rw [show max net 0=net by omega]
  have:0≤roomZ net p q:=Int.ediv_nonneg (Int.mul_nonneg (Int.natCast_nonneg _) hn) (Int.natCast_nonneg _)
  omega
 ·rw [show max net 0=0 by omega]
  have h1:roomZ net p q≤0:=by
   unfold roomZ
   have a:(p:Int)*net≤0:=Int.mul_nonpos_of_nonneg_of_nonpos (Int.natCast_nonneg _) (by omega)
   have b:=Int.ediv_le_ediv (c:=(q:Int)) (by omega) a
   rwa [Int.zero_ediv] at b
  unfold roomZ at h1 ⊢
  rw [Int.mul_zero,Int.zero_ediv]
  omega
theorem rroom_any {cr:List Value} {net:Int} {p q:Nat} {r:Qn} (h:cr=ratZ (p:Int) q) (hV:VQ ((p:Int),q)) (hpq:p≤q) (h1:-1000000000000000≤net) (h2:net≤1000000000000000) (hm:mulQ ((p:Int),q) (net,1)=some r) (w:World) :
  Calls Tryz.prog 18 #[.int .i64 net,.agg cr.toArray] w fun e w'=>e=.returned (.int .i64 ((roomZ net p q).toNat:Int))∧Below w.heap.size w w':=by
 have hq:q≠0:=hV.pos
 obtain ⟨r',hr'⟩:=room_some hq hm
 obtain ⟨M,hM⟩:∃ M,M=max net 0:=⟨_,rfl⟩
 have hMX:=hM.symm
 rw [←hM] at hr'
 obtain ⟨hVR,hfl⟩:=mul_one_vq hq hr'
 have hrn:=room_nat (net:=net) (p:=p) hq
 rw [←hM,←hfl] at hrn
 have hbd:=room_bd (net:=M) (p:=p) (q:=q) (by omega) (by omega) hpq (by omega)
 rw [←hfl,hrn] at hbd
 have V_cr:=hid (show cr=rat (decide ((p:Int)<0)) (p:Int).natAbs false q from h)
 obtain ⟨cN,V_cN⟩:∃ c:List Value,Hid (c=nm (decide ((p:Int)<0)) (p:Int).natAbs false q 0):=⟨_,hid rfl⟩
 obtain ⟨cM,V_cM⟩:∃ c:List Value,Hid (c=nm (decide (M<0)) M.natAbs false 1 0):=⟨_,hid rfl⟩
 obtain ⟨cP,V_cP⟩:∃ c:List Value,Hid (c=resN (some r')):=⟨_,hid rfl⟩
 obtain ⟨T,hT⟩:∃ T:Int,T=((roomZ net p q).toNat:Int):=⟨_,rfl⟩
 rw [←hT] at hrn hbd ⊢
 have hT0:0≤T:=by rw [hT];exact Int.natCast_nonneg _
 have HMX:=hid hMX
 have HO:=hid (eOf V_cr.out V_cN.out)
 have HI:=hid (eInt (cN:=cM) (z:=M) V_cM.out (by omega) (by omega))
 have HML:=hid (eMul (ca:=cN) (cb:=cM) (cN:=cP) (a:=some ((p:Int),q)) (b:=some (M,1)) V_cN.out V_cM.out (fun x hx=>by cases hx;exact hV) (fun x hx=>by cases hx;exact vq_int (by omega)) (by rw [V_cP.out];exact congrArg resN hr'.symm))
 have HRD:=hid (eRound (ca:=cP) (a:=r') (n:=T) (most:=1000000000000000) V_cP.out hVR hrn.symm hT0 hbd.2 (by decide))
 clear h hV hpq h1 h2 hm hq hr' hM hMX hVR hfl hrn hbd hT hT0
 obtain ⟨B0,hB0⟩:∃ B,B=w.heap.size:=⟨_,rfl⟩
 obtain ⟨w0,hw0⟩:∃ w0,w0=(w.alloc (.cells cr.toArray 27)):=⟨_,rfl⟩
 have AB0:=hid (show At w0 B0 0 cr by rw [hw0];exact (show At (w.alloc (.cells cr.toArray 27)) B0 0 cr from At.fresh _ cr _ (by simp [hB0])))
 have FR:=hid (show Fr B0 w w0 by rw [hw0,hB0];exact (Fr.start w).alloc _)
 have FR0:=hid FR.out.le
 have hZB0:B0≤B0:=Nat.le_refl _
 have HB0:=hid hB0
 go_enter Tryz.func18,Tryz.ntmps18
 go_upto_region 1 with fail
 rw [←hw0,←hB0]
 clear hw0 hB0
 go_wp2_with (first|(refine wpList_load_mid rfl _ _ rfl B0 0 rfl cr _ AB0.out.range Tryz.underlying27 rfl (qR V_cr.out) ?_)|(refine wpList_max rfl _ _ _ rfl .i64 net 0 rfl rfl ?_;rw [HMX.out])|(go_at_call 40;refine (HO.out _).mono ?_;rintro e w1 ⟨rfl,hb1⟩;have HB1:=hid (FR.out.step hb1);clear hb1)|(go_at_call 19;refine (HI.out _).mono ?_;rintro e w2 ⟨rfl,hb2⟩;have HB2:=hid (HB1.out.step hb2);clear hb2)|(go_at_call 21;refine (HML.out _).mono ?_;rintro e w3 ⟨rfl,hb3⟩;have HB3:=hid (HB2.out.step hb3);clear hb3)|(go_at_call 42;refine (HRD.out _).mono ?_;rintro e w4 ⟨rfl,hb4⟩;have HB4:=hid (HB3.out.step hb4);clear hb4))
 go_ret
 exact ⟨rfl,by have h:=HB4.out.below;rwa [HB0.out] at h⟩
end Go.Proofs.YtooeabibhjbkoaaGreat
