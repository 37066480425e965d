import Derived.Test.YtemoddmadfoaiaaGreatBigK
import Derived.Deep.RegionHeld3
import Derived.Deep.CutRange
set_option linter.unusedVariables false
set_option linter.unusedSimpArgs false
set_option maxRecDepth 100000
set_option maxHeartbeats 8000000
namespace Go.Proofs.YtemoddmadfoaiaaGreat
open Go.RowKit Big
open Lib (hid)
theorem qnH:lv 64 0=[.int .u32 0,.int .u32 0,.int .u32 0,.int .u32 0,.int .u32 0,.int .u32 0,.int .u32 0,.int .u32 0,.int .u32 0,.int .u32 0,.int .u32 0,.int .u32 0,.int .u32 0,.int .u32 0,.int .u32 0,.int .u32 0,.int .u32 0,.int .u32 0,.int .u32 0,.int .u32 0,.int .u32 0,.int .u32 0,.int .u32 0,.int .u32 0,.int .u32 0,.int .u32 0,.int .u32 0,.int .u32 0,.int .u32 0,.int .u32 0,.int .u32 0,.int .u32 0,.int .u32 0,.int .u32 0,.int .u32 0,.int .u32 0,.int .u32 0,.int .u32 0,.int .u32 0,.int .u32 0,.int .u32 0,.int .u32 0,.int .u32 0,.int .u32 0,.int .u32 0,.int .u32 0,.int .u32 0,.int .u32 0,.int .u32 0,.int .u32 0,.int .u32 0,.int .u32 0,.int .u32 0,.int .u32 0,.int .u32 0,.int .u32 0,.int .u32 0,.int .u32 0,.int .u32 0,.int .u32 0,.int .u32 0,.int .u32 0,.int .u32 0,.int .u32 0]:=by
 unfold lv cells dg;simp [List.range,List.range.loop,qeV]
theorem quT {x y z c:Nat} (hx:x<BB) (hy:y<BB) (hz:z<BB) (hc:c<BB):∃ d c' V:Nat,d<BB∧c'<BB∧x*y+z+c=d+c'*BB∧IntKind.u64.wrap (IntKind.u64.wrap (IntKind.u64.wrap ((x:Int)*y)+z)+c)=(V:Int) ∧
  IntKind.u32.wrap (V:Int)=(d:Int)∧(V:Int) / 4294967296=(c':Int):=by
 have h1:x*y≤(BB - 1)*(BB - 1):=Nat.mul_le_mul (by omega) (by omega);have h2:(BB - 1)*(BB - 1)=18446744065119617025:=by unfold BB;decide
 obtain ⟨p,hp⟩:∃ p,p=x*y:=⟨_,rfl⟩;have hpi:(x:Int)*y=(p:Int):=by rw [hp];simp
 rw [←hp] at h1 ⊢;rw [hpi];rw [h2] at h1;unfold BB at *;refine ⟨(p+z+c)%4294967296,(p+z+c) / 4294967296,p+z+c,by omega,by omega,by omega,?_,?_,by omega⟩
 ·rw [IntKind.wrap_u64,IntKind.wrap_u64,IntKind.wrap_u64];omega
 ·rw [IntKind.wrap_u32];omega
theorem qaT {w w':World} {b o n:Nat} (h:w.there b o n) (hb:Below w.heap.size w w') (hl:b<w.heap.size):w'.there b o n:=fun j hj=>by
 obtain ⟨h1,h2⟩:=h j hj;obtain ⟨v,hv⟩:=Option.isSome_iff_exists.1 h1;exact ⟨by rw [qcU hv hb];rfl,by rw [hb.frozen (by simpa using hl)];exact h2⟩
theorem qbX {w:World} {a:Addr} {v:Value} (h:w.cell? a=some v) (p:Addr) (u:Value) (hp:p.block≠a.block):(w.setCell p u).cell? a=some v:=by
 rw [World.cell?_setCell_other _ _ _ _ (fun e=>by subst e;exact hp rfl)];exact h
theorem qeJ {w:World} {b o n:Nat} (h:w.there b o n) (p:Addr) (u:Value) (hp:p.block≠b):(w.setCell p u).there b o n:=fun j hj=>by
 obtain ⟨h1,h2⟩:=h j hj;refine ⟨?_,by rw [World.frozen?_setCell];exact h2⟩;rw [World.cell?_setCell_other _ _ _ _ (fun e=>by subst e;exact hp rfl)];exact h1
theorem jeH (na nb:Bool) (a b:Nat) (R:Value) (nR:Bool) (vR:Nat) (w:World) (ha:a<BB^32) (hb:b<BB^32) (hab:a*b<BB^32) (hR:R=iV nR vR)
  (hcan:∀ W,Calls Tryz.prog 139 #[.bool (na != nb),mV (a*b)] W fun e w'=>e=.returned R∧Below W.heap.size W w') :
  Calls Tryz.prog 136 #[iV na a,iV nb b] w fun e w'=>e=.returned (.tuple #[R,.int .i64 0])∧Below w.heap.size w w':=by
 obtain ⟨N,hN32,hN⟩:=qLE a 32 ha;obtain ⟨K,hK32,hK⟩:=qLE b 32 hb;obtain ⟨w0,hw0,hb0,hs0,hcA,hA⟩:=qgU w na a 25;obtain ⟨w1,hw1,hb1,hs1,hcB,hB⟩:=qgU w0 nb b 25;obtain ⟨w2,hw2⟩:∃ w2,w2=(w1.alloc (.cells (Value.bool false::lv 32 0).toArray 25)).alloc (.cells (lv 64 0).toArray 180):=⟨_,rfl⟩;have hb2:Below w1.heap.size w1 w2:=by rw [hw2];exact ((Below.refl _ _).alloc (Nat.le_refl _) _).alloc (by simp) _
 have hs2:w2.heap.size=w1.heap.size+1+1:=by rw [hw2];simp
 have hT:w2.there w1.heap.size 0 33:=by rw [hw2];exact World.there_alloc (qhT w1 _) _
 have hO:qMO w2 (w1.heap.size+1) 0 64 0:=by
  rw [hw2]
  have:=qMO.new (w1.alloc (.cells (Value.bool false::lv 32 0).toArray 25)) 64 0 180
  rwa [World.size_alloc] at this
 have hb02:Below w0.heap.size w0 w2:=hb1.trans (hb2.mono hb1.size);have HA:=hid (hA.up hb02);have HB:=hid (hB.up hb2);have hcA2:=qcU hcA hb02;have hcB2:=qcU hcB hb2;have HW:=hid (hb0.trans (hb02.mono hb0.size));obtain ⟨B0,hB0⟩:∃ B0,B0=w.heap.size:=⟨_,rfl⟩;have hz1:w1.heap.size=B0+1+1:=by rw [hs1,hs0,hB0]
 have hz0:w0.heap.size=B0+1:=by rw [hs0,hB0]
 rw [hz1] at hT hO hs2;rw [←hB0] at HA hcA2;rw [hz0] at HB hcB2;have HT:=hid hT;have HO:=hid hO;have HBE:=hid hB0;rw [hw1,hw0,qbP,qnH] at hw2;have HNK:=hid (And.intro hN hK);have HBD:=hid (And.intro ha (And.intro hb hab));have HLA:=hid (fun W=>qeC a N W ha hN);have HLB:=hid (fun W=>qeC b K W hb hK);have HCAN:=hid hcan;have HSZ:=hid (qbK a);unfold iV;obtain ⟨va,hva⟩:∃ va,va=(Value.bool na::lv 32 a).toArray:=⟨_,rfl⟩;obtain ⟨vb,hvb⟩:∃ vb,vb=(Value.bool nb::lv 32 b).toArray:=⟨_,rfl⟩;rw [←hva,←hvb] at hw2 ⊢;clear ha hb hab hN hK hw0 hb0 hs0 hcA hA hw1 hb1 hs1 hcB hB hb2 hT hO hb02 hz1 hz0 hva hvb hcan;go_enter Tryz.func136,Tryz.ntmps136
 go_upto_region 2 with fail
 rw [←hw2,←hB0];clear hw2 hB0;obtain ⟨ca,hca⟩:∃ ca,ca=lv 32 a:=⟨_,rfl⟩;obtain ⟨cb,hcb⟩:∃ cb,cb=lv 32 b:=⟨_,rfl⟩
 have HLX:=hid (fun W (cs:List Value) (n:Nat) (h:(cs=ca∧n=N)∨(cs=cb∧n=K))=>show Calls Tryz.prog 162 #[.agg cs.toArray] W (fun e w'=>e=.returned (.int .i64 n)∧Below W.heap.size W w') by
  rcases h with ⟨h1,h2⟩|⟨h1,h2⟩
  ·rw [h1,h2,hca];exact HLA.out W
  ·rw [h1,h2,hcb];exact HLB.out W)
 have ra:w2.rangeAt B0 1 ca:=by rw [hca];exact HA.out
 have rb:w2.rangeAt (B0+1) 1 cb:=by rw [hcb];exact HB.out
 have sa:(Tryz.prog.info? 23).map (·.size)=some ca.length:=by rw [hca];exact qbK a
 have sb:(Tryz.prog.info? 23).map (·.size)=some cb.length:=by rw [hcb];exact qbK b
 have HCAB:=hid (And.intro hca hcb);have u49:=Tryz.underlying23;clear hca hcb
 go_cut [7,8] from 15 to 20 (fun p q wx=>p=.int .i64 N∧q=.int .i64 K∧Below w2.heap.size w2 wx)
 case first =>
  refine qaS (by kernel_rfl) (by kernel_rfl) ?_
  repeat (first
   | (refine qaF rfl _ _ rfl B0 1 rfl ca _ ra u49 rfl sa ?_;try simp only [Act.put,List.setIfInBounds_toArray,List.set_cons_zero,List.set_cons_succ])
   | (refine qaF rfl _ _ rfl (B0+1) 1 rfl cb _ rb u49 rfl sb ?_;try simp only [Act.put,List.setIfInBounds_toArray,List.set_cons_zero,List.set_cons_succ])
   | go_big_quiet_step ((go_at_call 162;exact qaA (HLX.out _ _ _ (by first|exact .inl ⟨rfl,rfl⟩|exact .inr ⟨rfl,rfl⟩)))))
  refine wpQuiet_nil ?_;intro w' hw';obtain ⟨p,rfl⟩:=hw';go_wp2_with fail
  go_meet
  exact ⟨rfl,rfl,qbG _ _ _⟩
 case rest =>
  obtain ⟨rfl,rfl,hbc⟩:=hcut;have hNN:=HNK.out;obtain ⟨B3,hB3⟩:∃ B3,B3=B0+1+1+1:=⟨_,rfl⟩;have hszc:B3<wc.heap.size:=by have:=hbc.size;omega
  have HA2:=hid (HA.out.up hbc);have HB2:=hid (HB.out.up hbc);have hO2:=HO.out.up hbc (by omega);rw [←hB3] at hO2;have HO2:=hid hO2;have HT2:=hid (qaT HT.out hbc (by omega));have HW2:=hid (HW.out.trans (hbc.mono HW.out.size));have HS:=hid (And.intro (qcU hcA2 hbc) (qcU hcB2 hbc));have HB3:=hid hB3;rw [←hB3];clear hNN hbc ra rb hB3 hO2 hcA2 hcB2 hs2 u49 sa sb;go_wp2
  go_loopg [9,10,11] N (fun g iv c0 j0 wr=>∃ (i P:Nat),i≤N∧N - i≤g∧iv=.int .i64 i∧P=(a%BB^i)*b∧MagAt wr B0 1 32 a∧MagAt wr (B0+1) 1 32 b∧qMO wr B3 0 64 P∧wr.there (B0+1+1) 0 33∧wr.cell? ⟨B0,0,none⟩=some (.bool na)∧wr.cell? ⟨B0+1,0,none⟩=some (.bool nb)∧Below w.heap.size w wr∧B3<wr.heap.size)
  case atStart=>exact ⟨0,0,by omega,by omega,rfl,by simp [Nat.mod_one],HA2.out,HB2.out,HO2.out,HT2.out,HS.out.1,HS.out.2,HW2.out,hszc⟩
  case round =>
   obtain ⟨i,P,hi,hg,rfl,hP,hA,hB,hO,hT,hcA,hcB,hW,hsz⟩:=hrel;have HP:=hid hP;have HA3:=hid hA;have HB3':=hid hB;have HO3:=hid hO;have HT3:=hid hT;have HW3:=hid hW;have HCS3:=hid (And.intro hcA hcB)
   have HPB:=hid (show P<BB^(i+K) by
    rw [hP,Nat.pow_add];exact Nat.mul_lt_mul'' (Nat.mod_lt _ (BP i)) HNK.out.2.1)
   clear hP hA hB hO hT hW hcA hcB;by_cases hlt:i<N
   ·have ca':=HA3.out.get (show i<32 by omega);obtain ⟨x,hx⟩:∃ x,x=lim a i:=⟨_,rfl⟩;rw [←hx] at ca';have hxl:x<BB:=hx ▸ qaD a i;have HX:=hid (And.intro hx hxl);clear hx hxl ca';obtain ⟨G,hG⟩:∃ G,G=gk:=⟨_,rfl⟩;rw [←hG] at hg;have HGG:=hid hG;clear hG;go_wp2
    go_loopg [10,11] K (fun g2 cv jv wr2=>∃ (j P2 c:Nat),j≤K∧K - j≤g2∧jv=.int .i64 j∧cv=.int .u64 c∧c<BB∧P2<BB^(i+K)∧P2+c*BB^(i+j)=(a%BB^i)*b+x*(b%BB^j)*BB^i∧MagAt wr2 B0 1 32 a∧MagAt wr2 (B0+1) 1 32 b∧qMO wr2 B3 0 64 P2∧wr2.there (B0+1+1) 0 33∧wr2.cell? ⟨B0,0,none⟩=some (.bool na)∧wr2.cell? ⟨B0+1,0,none⟩=some (.bool nb)∧Below w.heap.size w wr2∧B3<wr2.heap.size)
    case atStart=>exact ⟨0,P,0,by omega,by omega,rfl,rfl,qaX,HPB.out,by rw [HP.out];simp [Nat.mod_one],HA3.out,HB3'.out,HO3.out,HT3.out,HCS3.out.1,HCS3.out.2,HW3.out,hsz⟩
    case round =>
     obtain ⟨j,P2,c,hj,hg2,rfl,rfl,hc,hP2,he,hA,hB,hO,hT,hcA,hcB,hW,hsz2⟩:=hrel;have HE:=hid he;have HP2:=hid hP2;have HA4:=hid hA;have HB4:=hid hB;have HO4:=hid hO;have HT4:=hid hT;have HW4:=hid hW;have HCS4:=hid (And.intro hcA hcB);have HC4:=hid hc;have hNN:=HNK.out;clear he hP2 hA hB hO hT hW hcA hcB hc;by_cases hlt2:j<K
     ·obtain ⟨t,ht⟩:∃ t,t=i+j:=⟨_,rfl⟩;have ht64:t<64:=by omega
      have hij:IntKind.i64.wrap ((i:Int)+(j:Int))=(t:Int):=by rw [show (i:Int)+(j:Int)=(t:Int) by omega];exact IntWalk.i64_in _ (by omega)
      have ca':=HA4.out.get (show i<32 by omega);have cb':=HB4.out.get (show j<32 by omega);have co':=HO4.out.1.get ht64;have fo':=HO4.out.2 t ht64;rw [Nat.zero_add] at co' fo';rw [←HX.out.1] at ca';obtain ⟨y,hy⟩:∃ y,y=lim b j:=⟨_,rfl⟩;obtain ⟨zz,hzz⟩:∃ zz,zz=lim P2 t:=⟨_,rfl⟩;rw [←hy] at cb';rw [←hzz] at co';have hyl:y<BB:=hy ▸ qaD b j;have hzl:zz<BB:=hzz ▸ qaD P2 t;obtain ⟨d,c',V,hd,hc',hn,e1,e2,e4⟩:=quT HX.out.2 hyl hzl HC4.out;have HSTEP:=hid (qqI HE.out HX.out.1 hy (by rw [←ht,←hzz];exact hn));have HUB:=hid (show upd P2 t d<BB^(i+K) from qiZ HP2.out (by omega) hd);have hset:=HO4.out.set ht64 hd;rw [Nat.zero_add] at hset;have HSET:=hid hset;have HD:=hid (And.intro hd hc');have hw1':IntKind.u64.wrap (x:Int)=(x:Int):=by have:=HX.out.2;unfold BB at this;rw [IntKind.wrap_u64];omega
      have hw2':IntKind.u64.wrap (y:Int)=(y:Int):=by unfold BB at hyl;rw [IntKind.wrap_u64];omega
      have hw3':IntKind.u64.wrap (zz:Int)=(zz:Int):=by unfold BB at hzl;rw [IntKind.wrap_u64];omega
      have HT':=hid ht;have hi32:i<32:=by omega
      have hj32:j<32:=by omega
      clear ht hy hzz hyl hzl hd hc' hn hset hNN;have hne0:B3≠B0:=by have:=HB3.out;omega
      have hne1:B3≠B0+1:=by have:=HB3.out;omega
      have hne2:B3≠B0+1+1:=by have:=HB3.out;omega
      have HA5:=hid (HA4.out.setOther ⟨B3,t,none⟩ (.int .u32 (d:Nat)) hne0);have HB5:=hid (HB4.out.setOther ⟨B3,t,none⟩ (.int .u32 (d:Nat)) hne1);have HT5:=hid (qeJ HT4.out ⟨B3,t,none⟩ (.int .u32 (d:Nat)) hne2);have HW5:=hid (qbR HW4.out ⟨B3,t,none⟩ (.int .u32 (d:Nat)) (show w.heap.size≤B3 by have:=HB3.out;have:=HBE.out;omega));have HCS5:=hid (And.intro (qbX HCS4.out.1 ⟨B3,t,none⟩ (.int .u32 (d:Nat)) hne0) (qbX HCS4.out.2 ⟨B3,t,none⟩ (.int .u32 (d:Nat)) hne1));go_wp2
      go_quiet (fail)
      go_wp2
      go_roundg (gk - 1)
      case measure=>omega
      case rel=>exact ⟨j+1,upd P2 t d,c',by omega,by omega,by go_num,rfl,HD.out.2,HUB.out,by have:=HSTEP.out;rwa [←HT'.out] at this,HA5.out,HB5.out,HSET.out,HT5.out,HCS5.out.1,HCS5.out.2,⟨HW5.out.os,HW5.out.tape,HW5.out.output,HW5.out.size,HW5.out.block⟩,by simpa [World.setCell] using hsz2⟩
     ·have hjK:j=K:=by omega
      obtain ⟨t,ht⟩:∃ t,t=i+K:=⟨_,rfl⟩;have ht64:t<64:=by omega
      have hij:IntKind.i64.wrap ((i:Int)+(K:Int))=(t:Int):=by rw [show (i:Int)+(K:Int)=(t:Int) by omega];exact IntWalk.i64_in _ (by omega)
      have hwc:IntKind.u32.wrap (c:Int)=(c:Int):=by have:=HC4.out;unfold BB at this;rw [IntKind.wrap_u32];omega
      have co':=HO4.out.1.get ht64;have fo':=HO4.out.2 t ht64;rw [Nat.zero_add] at co' fo';have hset:=HO4.out.set ht64 HC4.out;rw [Nat.zero_add,ht,qdN HP2.out,←ht] at hset;have HSET:=hid hset
      have HROW:=hid (show P2+c*BB^(i+K)=(a%BB^(i+1))*b by
       have h:=HE.out;rw [hjK,Nat.mod_eq_of_lt hNN.2.1] at h;exact quS h HX.out.1)
      have hne0:B3≠B0:=by have:=HB3.out;omega
      have hne1:B3≠B0+1:=by have:=HB3.out;omega
      have hne2:B3≠B0+1+1:=by have:=HB3.out;omega
      have HA5:=hid (HA4.out.setOther ⟨B3,t,none⟩ (.int .u32 (c:Nat)) hne0);have HB5:=hid (HB4.out.setOther ⟨B3,t,none⟩ (.int .u32 (c:Nat)) hne1);have HT5:=hid (qeJ HT4.out ⟨B3,t,none⟩ (.int .u32 (c:Nat)) hne2);have HW5:=hid (qbR HW4.out ⟨B3,t,none⟩ (.int .u32 (c:Nat)) (show w.heap.size≤B3 by have:=HB3.out;have:=HBE.out;omega));have HCS5:=hid (And.intro (qbX HCS4.out.1 ⟨B3,t,none⟩ (.int .u32 (c:Nat)) hne0) (qbX HCS4.out.2 ⟨B3,t,none⟩ (.int .u32 (c:Nat)) hne1));have HT':=hid ht;clear ht hset hjK hNN;go_wp2
      go_roundg (G - 1)
      case measure=>have:=HGG.out;omega
      case rel=>exact ⟨i+1,P2+c*BB^(i+K),by omega,by have:=HGG.out;omega,by go_num,HROW.out,HA5.out,HB5.out,by have h:=HSET.out;have h2:=HT'.out;subst h2;exact h,HT5.out,HCS5.out.1,HCS5.out.2,HW5.out,by simpa [World.setCell] using hsz2⟩
   ·have hPv:P=a*b:=by
     have h:=HP.out;rw [show i=N by omega,Nat.mod_eq_of_lt HNK.out.1.1] at h;exact h
    obtain ⟨v,hv⟩:∃ v,v=a*b:=⟨_,rfl⟩;rw [←hv] at hPv;subst hPv;have HPV:=hid hv;obtain ⟨w4,hw4⟩:∃ w4,w4=wr.alloc (.cells (lv 32 0).toArray 23):=⟨_,rfl⟩;have hb4:Below wr.heap.size wr w4:=by rw [hw4];exact (Below.refl _ _).alloc (Nat.le_refl _) _
    obtain ⟨Q,hQ⟩:∃ Q,Q=wr.heap.size:=⟨_,rfl⟩;have hM:qMO w4 Q 0 32 0:=by rw [hw4,hQ];exact qMO.new wr 32 0 _
    have HM:=hid hM;have HO4:=hid (HO3.out.1.up hb4);have HT4:=hid (qaT HT3.out hb4 (by have:=HB3.out;omega));have HW4:=hid (HW3.out.trans (hb4.mono HW3.out.size));have HCS4:=hid (And.intro (qcU HCS3.out.1 hb4) (qcU HCS3.out.2 hb4));have hqs:Q<w4.heap.size:=by rw [hw4,hQ];simp
    have hq3:B3<Q:=by rw [hQ];exact hsz
    have HQ:=hid hQ;rw [qbO] at hw4;have HVB:=hid (show P<BB^32 by rw [hv];exact HBD.out.2.2);clear hM hb4 hv;go_upto_region 15 with fail
    rw [←hw4,←HQ.out];clear hw4 hQ;go_wp2
    go_loopg [14] 32 (fun g3 tv wr3=>∃ (t M:Nat),t≤32∧32 - t≤g3∧tv=.int .i64 t∧M=P%BB^t∧MagAt wr3 B3 0 64 P∧qMO wr3 Q 0 32 M∧wr3.there (B0+1+1) 0 33∧wr3.cell? ⟨B0,0,none⟩=some (.bool na)∧wr3.cell? ⟨B0+1,0,none⟩=some (.bool nb)∧Below w.heap.size w wr3∧Q<wr3.heap.size)
    case atStart=>exact ⟨0,0,by omega,by omega,rfl,by simp [Nat.mod_one],HO4.out,HM.out,HT4.out,HCS4.out.1,HCS4.out.2,HW4.out,hqs⟩
    case round =>
     obtain ⟨t,M,ht,hg3,rfl,hMe,hO,hM,hT,hcA,hcB,hW,hsz5⟩:=hrel;have HO5:=hid hO;have HM5:=hid hM;have HT5:=hid hT;have HW5:=hid hW;have HME:=hid hMe;have HCS5:=hid (And.intro hcA hcB);clear hO hM hT hW hMe hcA hcB;by_cases hlt3:t<32
     ·have co':=HO5.out.get (show t<64 by omega);have ch':=HO5.out.get (show 32+t<64 by omega);have cm':=HM5.out.1.get hlt3;have fm':=HM5.out.2 t hlt3;rw [Nat.zero_add] at co' cm' fm' ch';rw [qiK (k:=32+t) (i:=32) HVB.out (by omega)] at ch';obtain ⟨d,hd⟩:∃ d,d=lim P t:=⟨_,rfl⟩;rw [←hd] at co';have hdl:d<BB:=hd ▸ qaD P t;have HMB:=hid (show M<BB^t by rw [HME.out];exact Nat.mod_lt _ (BP t));have hset:=HM5.out.set hlt3 hdl;rw [Nat.zero_add,qdN HMB.out] at hset;have HSET:=hid hset;have HNX:=hid (show M+d*BB^t=P%BB^(t+1) by rw [qaY,HME.out,hd]);obtain ⟨u,hu⟩:∃ u,u=32+t:=⟨_,rfl⟩;rw [←hu] at ch';have hut:(32:Int)+(t:Int)=(u:Int):=by omega
      have hwu:IntKind.i64.wrap (u:Int)=(u:Int):=IntWalk.i64_in _ (by omega);have hu64:u<64:=by omega
      have hne0:Q≠B0:=by have:=HB3.out;omega
      have hne1:Q≠B0+1:=by have:=HB3.out;omega
      have hne2:Q≠B0+1+1:=by have:=HB3.out;omega
      have hne3:Q≠B3:=by omega
      have HO6:=hid (HO5.out.setOther ⟨Q,t,none⟩ (.int .u32 (d:Nat)) hne3);have HT6:=hid (qeJ HT5.out ⟨Q,t,none⟩ (.int .u32 (d:Nat)) hne2);have HW6:=hid (qbR HW5.out ⟨Q,t,none⟩ (.int .u32 (d:Nat)) (show w.heap.size≤Q by have:=HB3.out;have:=HBE.out;omega));have HCS6:=hid (And.intro (qbX HCS5.out.1 ⟨Q,t,none⟩ (.int .u32 (d:Nat)) hne0) (qbX HCS5.out.2 ⟨Q,t,none⟩ (.int .u32 (d:Nat)) hne1));clear hd hdl hset hu;go_wp2
      go_roundg (gk - 1)
      case measure=>omega
      case rel=>exact ⟨t+1,M+d*BB^t,by omega,by omega,by go_num,HNX.out,HO6.out,HSET.out,HT6.out,HCS6.out.1,HCS6.out.2,HW6.out,by simpa [World.setCell] using hsz5⟩
     ·have hMv:M=P:=by
       have h:=HME.out;rw [show t=32 by omega,Nat.mod_eq_of_lt HVB.out] at h;exact h
      subst hMv;obtain ⟨cs,hcs⟩:∃ cs,cs=lv 32 M:=⟨_,rfl⟩;have HLD:=hid (show wr.rangeAt Q 0 (lv 32 M) from HM5.out.1);have HSZ2:=hid (qbK M);obtain ⟨rs,hrs⟩:∃ rs,rs=Value.bool nR::lv 32 vR:=⟨_,rfl⟩
      have HC2:=hid (fun W=>show Calls Tryz.prog 139 #[.bool (na != nb),.agg cs.toArray] W (fun e w'=>e=.returned (.agg rs.toArray)∧Below W.heap.size W w') by
       rw [hcs,hrs]
       have:=HCAN.out W
       rw [←HPV.out,hR] at this;exact this)
      have HRR:=hid (show R=.agg rs.toArray by rw [hR,hrs];rfl);have HRS:=hid hrs;rw [←hcs] at HLD HSZ2;have c0:=HCS5.out.1;have c1:=HCS5.out.2;clear hcs hrs hR;go_wp2_with (refine wpList_load_mid rfl _ _ rfl Q 0 rfl cs _ HLD.out Tryz.underlying23 rfl HSZ2.out ?_)
      refine (HC2.out _).mono ?_;rintro e w6 ⟨rfl,hb6⟩;have hTH:=qaT HT5.out hb6 (by have:=HB3.out;omega);have HTH:=hid (show w6.there (B0+1+1) 0 rs.toArray.size by rw [HRS.out,qgA];exact hTH);have HSA:=hid (show (Tryz.prog.info? 25).map (·.size)=some rs.toArray.size by rw [HRS.out,qgA];exact Tryz.infoI);have HSI:=hid (show (Tryz.prog.info? 25).map (·.size)=some rs.length by rw [HRS.out];exact infoI33 nR vR);have HONE:=hid (show rs.toArray.all (·.oneCell')=true by rw [HRS.out];exact all_oneCell_toArray (qeL nR vR));have HST:=hid (World.rangeAt_setCells_same w6 (B0+1+1) 0 rs (by rw [HRS.out,List.length_cons,qlL];exact hTH));have HBS:=hid (qaB (show w.heap.size≤B0+1+1 by have:=HBE.out;omega) rs 0 w6 (HW5.out.trans (hb6.mono HW5.out.size)));clear hb6 hTH c0 c1;go_wp2_with (refine wpList_store_mid rfl _ _ _ rfl (B0+1+1) 0 _ rfl rfl HTH.out HSA.out HONE.out ?_)
      have hld:=run_loadVar_mid (P:=Tryz.prog) _ _ _ _ _ _ HST.out Tryz.underlying25 rfl HSI.out
      try simp only [Act.put,List.setIfInBounds_toArray,List.set_cons_zero,List.set_cons_succ]
      refine bodyPost_ret (v:=.tuple #[.agg rs.toArray,.int .i64 0]) (by simp [results,Tryz.results136,asAddr,hld]) rfl ?_;exact ⟨by rw [HRR.out],HBS.out⟩
set_option maxHeartbeats 2000000
def sgnI (neg:Bool) (v:Nat):Int:=if v=0 then 0 else if neg=true then -1 else 1
theorem jbH (neg:Bool) (v:Nat) (w:World) (hv:v<BB^32) :
  Calls Tryz.prog 103 #[iV neg v] w fun e w'=>e=.returned (.int .i64 (sgnI neg v))∧Below w.heap.size w w':=by
 obtain ⟨w0,hw0,hb0,hs0,hc0,hA⟩:=qgU w neg v 25;have HW:=hid hb0;obtain ⟨z,hz⟩:∃ z,z=decide (v=0):=⟨_,rfl⟩;have HZ:=hid (fun W=>qhP v z W hv hz);obtain ⟨B0,hB0⟩:∃ B0,B0=w.heap.size:=⟨_,rfl⟩;rw [←hB0] at hA hc0;unfold iV;obtain ⟨va,hva⟩:∃ va,va=(Value.bool neg::lv 32 v).toArray:=⟨_,rfl⟩;obtain ⟨cs,hcs⟩:∃ cs,cs=lv 32 v:=⟨_,rfl⟩;have HLD:=hid (show w0.rangeAt B0 1 (lv 32 v) from hA);have HSZ:=hid (qbK v);have HZ2:=hid (fun W=>show Calls Tryz.prog 137 #[.agg cs.toArray] W (fun e w'=>e=.returned (.bool z)∧Below W.heap.size W w') by rw [hcs];exact HZ.out W);rw [←hcs] at HLD HSZ;rw [←hva] at hw0 ⊢;obtain ⟨r,hr⟩:∃ r,r=sgnI neg v:=⟨_,rfl⟩;have HR:=hid (And.intro hr hz);rw [←hr];clear hv hb0 hs0 hA hva hcs hz hr;go_enter Tryz.func103,Tryz.ntmps103
 go_upto_region 1 with fail
 rw [←hw0,←hB0];clear hw0 hB0;go_wp2_with (refine wpList_load_mid rfl _ _ rfl B0 1 rfl cs _ HLD.out Tryz.underlying23 rfl HSZ.out ?_)
 refine (HZ2.out _).mono ?_;rintro e w1 ⟨rfl,hb1⟩;have c1:=qcU hc0 hb1;have HB1:=hid (HW.out.trans (hb1.mono HW.out.size));clear hb1 hc0
 cases z with
 | true =>
  have HQ:=hid (show (0:Int)=r by rw [HR.out.1,sgnI,if_pos (by simpa using HR.out.2.symm)]);go_wp2
  go_ret
  exact ⟨qaI HQ.out,HB1.out⟩
 | false =>
  cases neg with
  | true =>
   have HQ:=hid (show (-1:Int)=r by rw [HR.out.1,sgnI,if_neg (by simpa using HR.out.2.symm),if_pos rfl]);go_wp2
   go_ret
   exact ⟨qaI HQ.out,HB1.out⟩
  | false =>
   have HQ:=hid (show (1:Int)=r by rw [HR.out.1,sgnI,if_neg (by simpa using HR.out.2.symm),if_neg (by simp)]);go_wp2
   go_ret
   exact ⟨qaI HQ.out,HB1.out⟩
theorem qnI {v N:Nat} (hv:v<BB^2) (hN:IsLimbs v N):N≤2:=by
 rcases Nat.lt_or_ge 2 N with h|h
 ·have h1:=hN.2 (by omega);have h2:=Nat.pow_le_pow_right qaX (show 2≤N - 1 by omega);omega
 ·exact h
theorem jaO {v x y:Nat} (hx:x<BB) (hy:y<BB) (hv:v=x+y*BB):bits BinOp.or IntKind.u64 (IntKind.u64.wrap ((y:Int)*4294967296)) (x:Int)=(v:Int):=by
 have e:IntKind.u64.wrap ((y:Int)*4294967296)=((y*4294967296:Nat):Int):=by unfold BB at hy;rw [IntKind.wrap_u64];omega
 rw [e,u64_or_nat _ _ (by unfold BB at hy;omega) (by unfold BB at hx;omega),qhA (i:=32) (by unfold BB at hx;omega) (by omega),hv];unfold BB;omega
set_option maxHeartbeats 2000000
theorem wlq {P:Program} {ops:Array Oper} {w:World} {Q:Act→Prop} {a:Act} {op:Oper} {rest:List Oper} (hgd:Region.wanted op (yielded ops a.tmps)=true) (ty:TypeId) (x:Operand) (ho:op.op=.load ty x)
  (b o:Nat) (hx:a.eval x=.pointer (some ⟨b,o,none⟩)) (cs:List Value) (d:TypeDesc) (hc:w.rangeAt b o cs)
  (hu:P.underlying ty=some d) (hd:d.isRow=true) (hi:(P.info? ty).map (·.size)=some cs.length) (h:wpQuiet P ops (fun w'=>∃ p:GB,w'=gw w p.d p.os) Q rest (a.put op.dst (.agg cs.toArray))) :
  wpQuiet P ops (fun w'=>∃ p:GB,w'=gw w p.d p.os) Q (op::rest) a:=by
 refine wpQuiet_step (fun K hK=>?_);rw [if_pos hgd];refine ⟨.agg cs.toArray,fun W hW=>?_,hK _ h⟩;obtain ⟨p,rfl⟩:=hW;unfold Oper.quietAt execOp;simp only [ho,hx,Instr.loadAt,Instr.sureAddr,Sem.run_bind,Sem.run_pure,Result.andThen_ok,run_loadVar_mid (gw w p.d p.os) b o ty cs d (qaJ hc (qbG w p.d p.os)) hu hd hi];exact ⟨rfl,rfl⟩
theorem wqB {P:Program} {ops:Array Oper} {C:World→Prop} {Q:Act→Prop} {a:Act} {op:Oper} {rest:List Oper} (hgd:op.guard=none) (ty:TypeId) (xs:Array (Nat × Operand)) (ho:op.op=.build ty xs)
  (vs:List (Nat × Value)) (hx:xs.toList.map (fun p=>(p.1,a.eval p.2))=vs) (Z:Array Value) (hb:P.built ty vs=some Z) (h:wpQuiet P ops C Q rest (a.put op.dst (.agg Z))):wpQuiet P ops C Q (op::rest) a:=by
 refine wpQuiet_step (fun K hK=>?_);rw [if_pos (by simp [Region.wanted,hgd])];refine ⟨.agg Z,fun W hW=>?_,hK _ h⟩;unfold Oper.quietAt execOp;have hr:=run_build (P:=P) W ty vs.toArray Z (by simpa using hb);have hx2:xs.map (fun p=>(p.1,a.eval p.2))=vs.toArray:=by rw [←hx];apply Array.toList_inj.1;simp
 simp [ho,hx2,hr,Oper.quietUpon]
theorem qwL (v:Nat) (n:Bool) (w:World) (hv:v<BB^32) (hn:n=!decide (v=0)) :
  Calls Tryz.prog 139 #[.bool true,mV v] w fun e w'=>e=.returned (iV n v)∧Below w.heap.size w w':=by
 obtain ⟨z,hz⟩:∃ z,z=decide (v=0):=⟨_,rfl⟩;have hnz:n=!z:=by rw [hz,hn]
 have HZ:=hid (fun W=>qhP v z W hv hz);obtain ⟨cs,hcs⟩:∃ cs,cs=lv 32 v:=⟨_,rfl⟩;have hl:cs.length=32:=by rw [hcs,qlL]
 have HSZ:=hid (show (Tryz.prog.info? 23).map (·.size)=some cs.length by rw [hl];exact Tryz.infoM);have HU:=hid Tryz.underlying23;have HONE:=hid (show ∀ u∈Value.bool n::cs,u.oneCell'=true by rw [hcs];exact qeL n v);have HL:=hid hl;have HZ2:=hid (fun W=>show Calls Tryz.prog 137 #[.agg cs.toArray] W (fun e w'=>e=.returned (.bool z)∧Below W.heap.size W w') by rw [hcs];exact HZ.out W);unfold mV iV;rw [←hcs];have hbase:=qcP w cs 23;clear hcs hl hv hz hn;go_enter Tryz.func139,Tryz.ntmps139
 go_upto_region 1 with fail
 obtain ⟨w0,hw0⟩:∃ w0,w0=(w.alloc (.cells cs.toArray 23)).alloc (.cells (Value.bool false::lv 32 0).toArray 25):=⟨_,rfl⟩;have HR:=hid (show w0.rangeAt w.heap.size 0 cs by rw [hw0];exact fun j v hv=>World.rangeAt_alloc hbase _ j v hv);have HT:=hid (show w0.there (w.heap.size+1) 0 33 by rw [hw0];have:=qhT (w.alloc (.cells cs.toArray 23)) 25;rwa [World.size_alloc] at this);have HW:=hid (show Below w.heap.size w w0 by rw [hw0];exact ((Below.refl w.heap.size w).alloc (Nat.le_refl _) (.cells cs.toArray 23)).alloc (by simp) (.cells (Value.bool false::lv 32 0).toArray 25));have hsz0:w0.heap.size=w.heap.size+1+1:=by rw [hw0];simp
 rw [qbP] at hw0;rw [←hw0];clear hw0 hbase
 go_cut [5] from 5 to 12 (fun p5 wx=>Below w.heap.size w wx∧wx.rangeAt (w.heap.size+1) 0 (.bool n::cs))
 case first =>
  refine qbF 8 (by kernel_rfl) (by kernel_rfl) ?_;simp only [List.take_succ_cons,List.take_zero,List.drop_succ_cons,List.drop_zero];iterate 2 go_big_quiet_step (fail)
  refine wlq (by rfl) _ _ rfl w.heap.size 0 rfl cs _ HR.out HU.out rfl HSZ.out ?_;simp only [Act.put,List.setIfInBounds_toArray,List.set_cons_zero,List.set_cons_succ]
  go_big_quiet_step ((go_at_call 137;exact qaA (HZ2.out _)))
  iterate 2 go_big_quiet_step (fail)
  refine qaF rfl _ _ rfl w.heap.size 0 rfl cs _ HR.out HU.out rfl HSZ.out ?_;simp only [Act.put,List.setIfInBounds_toArray,List.set_cons_zero,List.set_cons_succ]
  try rw [←hnz]
  refine wqB rfl _ _ rfl _ rfl _ (qiU n cs HL.out) ?_;simp only [Act.put,List.setIfInBounds_toArray,List.set_cons_zero,List.set_cons_succ];refine wpQuiet_nil ?_;intro w' hw';obtain ⟨p,rfl⟩:=hw';have hT2:=qaT HT.out (qbG w0 p.d p.os) (by omega);have hB2:=HW.out.trans ((qbG w0 p.d p.os).mono HW.out.size);obtain ⟨w2,hw2⟩:∃ w2,w2=gw w0 p.d p.os:=⟨_,rfl⟩;rw [←hw2] at hT2 hB2 ⊢;refine wpList_store_mid rfl _ _ _ rfl (w.heap.size+1) 0 _ rfl rfl ?ht ?hi ?h1 ?_
  case ht=>intro j hj;exact hT2 j (by simpa [HL.out] using hj)
  case hi=>rw [show (Value.bool n::cs).toArray.size=33 by simp [HL.out]];exact Tryz.infoI
  case h1=>exact all_oneCell_toArray HONE.out
  go_wp2_with fail
  try simp only [Act.put,List.setIfInBounds_toArray,List.set_cons_zero,List.set_cons_succ]
  go_meet
  refine ⟨qaB (by omega) _ _ _ hB2,?_⟩;exact World.rangeAt_setCells_same _ _ _ _ (fun j hj=>hT2 j (by simpa [HL.out] using hj))
 case rest =>
  obtain ⟨hb,hrg⟩:=hcut;have hld:=run_loadVar_mid (P:=Tryz.prog) wc (w.heap.size+1) 0 25 (.bool n::cs) _ hrg Tryz.underlying25 rfl (by rw [show (Value.bool n::cs).length=33 by simp [HL.out]];exact Tryz.infoI);go_wp2_with fail
  refine bodyPost_ret (v:=.agg (Value.bool n::cs).toArray) (by simp [results,Tryz.results139,asAddr,hld]) rfl ?_;exact ⟨rfl,hb⟩
def cs1 (neg:Bool) (v:Nat):Bool:=neg&&!decide (v=0)
theorem qkW (neg:Bool) (v:Nat) (w:World) (hv:v<BB^32) :
  Calls Tryz.prog 139 #[.bool neg,mV v] w fun e w'=>e=.returned (iV (cs1 neg v) v)∧Below w.heap.size w w':=by
 cases neg with
 | false=>exact qoA v w hv
 | true=>exact qwL v _ w hv (by simp [cs1])
theorem jcI (na nb:Bool) (a b:Nat) (w:World) (ha:a<BB^32) (hb:b<BB^32) (hab:a*b<BB^32) :
  Calls Tryz.prog 136 #[iV na a,iV nb b] w fun e w'=>e=.returned (.tuple #[iV (cs1 (na != nb) (a*b)) (a*b),.int .i64 0])∧Below w.heap.size w w' :=
 jeH na nb a b _ _ _ w ha hb hab rfl fun W=>qkW _ _ W hab
set_option maxHeartbeats 4000000
theorem qaZ {P:Program} {ops:Array Oper} {rest:List Oper} {op:Oper} {a:Act} {w:World} {Q:Exit→Act→World→Prop} (hgd:Region.wanted op (yielded ops a.tmps)=true) (ty:TypeId) (x:Operand) (ho:op.op=.load ty x)
  (b o:Nat) (hx:a.eval x=.pointer (some ⟨b,o,none⟩)) (cs:List Value) (d:TypeDesc) (hc:w.rangeAt b o cs)
  (hu:P.underlying ty=some d) (hd:d.isRow=true) (hi:(P.info? ty).map (·.size)=some cs.length)
  (h:wpList P ops Q rest (a.put op.dst (.agg cs.toArray)) w):wpList P ops Q (op::rest) a w:=by
 unfold wpList;rw [if_pos hgd];exact .inl (wp_load_mid ty x ho b o hx cs d hc hu hd hi h)
theorem qqW (w:World) (a b:Nat) (t:TypeId):∃ w0:World,w0=(((w.alloc (.cells (lv 32 a).toArray t)).alloc (.cells (lv 32 b).toArray t)).alloc (.cells (lv 32 0).toArray t)).alloc (.cells (lv 32 0).toArray t)∧Below w.heap.size w w0∧w0.heap.size=w.heap.size+1+1+1+1 ∧
  MagAt w0 w.heap.size 0 32 a∧MagAt w0 (w.heap.size+1) 0 32 b∧qMO w0 (w.heap.size+1+1) 0 32 0∧qMO w0 (w.heap.size+1+1+1) 0 32 0:=by
 obtain ⟨w1,h1,hb1,hs1,hA,hB⟩:=qkY w a b t;obtain ⟨w2,h2⟩:∃ w2,w2=w1.alloc (.cells (lv 32 0).toArray t):=⟨_,rfl⟩;have hs2:w2.heap.size=w1.heap.size+1:=by rw [h2];simp
 have hb2:Below w1.heap.size w1 w2:=by rw [h2];exact (Below.refl _ _).alloc (Nat.le_refl _) _
 have hb3:Below w2.heap.size w2 (w2.alloc (.cells (lv 32 0).toArray t)):=(Below.refl _ _).alloc (Nat.le_refl _) _;have hR:qMO w2 w1.heap.size 0 32 0:=by rw [h2];exact qMO.new w1 32 0 t
 have hQ:=qMO.new w2 32 0 t;rw [hs2,hs1] at hQ;have hR3:=hR.up hb3 (by omega);rw [hs1] at hR3;have hb13:=hb2.trans (hb3.mono hb2.size);refine ⟨_,rfl,?_,?_,?_,?_,?_,?_⟩;all_goals rw [←h1,←h2]
 ·exact hb1.trans (hb13.mono hb1.size)
 ·rw [World.size_alloc,hs2,hs1]
 ·exact hA.up hb13
 ·exact hB.up hb13
 ·exact hR3
 ·exact hQ
theorem qaW {b o n:Nat}:∀ {w:World} (h:w.there b o n) (vs:List Value) {b2:Nat} (o2:Nat) (hb:b2≠b),(w.setCells b2 o2 vs).there b o n
 | _,h,[],_,_,_=>h
 | w,h,v::vs,b2,o2,hb=>qaW (w:=w.setCell ⟨b2,o2,none⟩ v) (qeJ h _ _ hb) vs (o2+1) hb
theorem qaK {b o:Nat} {cs:List Value}:∀ {w:World} (h:w.rangeAt b o cs) (vs:List Value) (b2 o2:Nat) (hb:b2≠b),(w.setCells b2 o2 vs).rangeAt b o cs
 | _,h,[],_,_,_=>h
 | w,h,v::vs,b2,o2,hb=>qaK (w:=w.setCell ⟨b2,o2,none⟩ v) (fun j x hx=>qbX (h j x hx) _ _ hb) vs b2 (o2+1) hb
theorem qnT (a b:Nat) (w:World) (ha:a<BB^2) (hb:b<BB^2) (h0:b≠0) :
  Calls Tryz.prog 163 #[mV a,mV b] w fun e w'=>e=.returned (.tuple #[mV (a / b),mV (a%b)])∧Below w.heap.size w w':=by
 have up:BB^2≤BB^32:=Nat.pow_le_pow_right qaX (by omega);obtain ⟨N,hN32,hN⟩:=qLE a 32 (Nat.lt_of_lt_of_le ha up);obtain ⟨K,hK32,hK⟩:=qLE b 32 (Nat.lt_of_lt_of_le hb up);have hN2:(N:Int)≤2:=by have:=qnI ha hN;omega
 have hK2:(K:Int)≤2:=by have:=qnI hb hK;omega
 obtain ⟨q,hq⟩:∃ q,q=a / b:=⟨_,rfl⟩;obtain ⟨r,hr⟩:∃ r,r=a%b:=⟨_,rfl⟩;have hq2:q<BB^2:=by rw [hq];exact Nat.lt_of_le_of_lt (Nat.div_le_self _ _) ha
 have hr2:r<BB^2:=by rw [hr];exact Nat.lt_of_le_of_lt (Nat.mod_le _ _) ha
 obtain ⟨w0,hw0,hb0,hs0,hA,hB,hQ,hR⟩:=qqW w a b 23;have HLA:=hid (fun W=>qeC a N W (Nat.lt_of_lt_of_le ha up) hN);have HLB:=hid (fun W=>qeC b K W (Nat.lt_of_lt_of_le hb up) hK);have HWA:=hid (fun W=>jaW a W ha);have HWB:=hid (fun W=>jaW b W hb);have HSQ:=hid (fun W=>qqA q W hq2);have HSR:=hid (fun W=>qqA r W hr2);have HW:=hid hb0;rw [qbO] at hw0;rw [←hq,←hr];unfold mV;obtain ⟨ca,hca⟩:∃ ca,ca=lv 32 a:=⟨_,rfl⟩;obtain ⟨cb,hcb⟩:∃ cb,cb=lv 32 b:=⟨_,rfl⟩;obtain ⟨cq,hcq⟩:∃ cq,cq=lv 32 q:=⟨_,rfl⟩;obtain ⟨cr,hcr⟩:∃ cr,cr=lv 32 r:=⟨_,rfl⟩
 have HLX:=hid (fun W (cs:List Value) (n:Nat) (h:(cs=ca∧n=N)∨(cs=cb∧n=K))=>show Calls Tryz.prog 162 #[.agg cs.toArray] W (fun e w'=>e=.returned (.int .i64 n)∧Below W.heap.size W w') by
  rcases h with ⟨h1,h2⟩|⟨h1,h2⟩
  ·rw [h1,h2,hca];exact HLA.out W
  ·rw [h1,h2,hcb];exact HLB.out W)
 have HWX:=hid (fun W (cs:List Value) (n:Nat) (h:(cs=ca∧n=a)∨(cs=cb∧n=b))=>show Calls Tryz.prog 185 #[.agg cs.toArray] W (fun e w'=>e=.returned (.int .u64 n)∧Below W.heap.size W w') by
  rcases h with ⟨h1,h2⟩|⟨h1,h2⟩
  ·rw [h1,h2,hca];exact HWA.out W
  ·rw [h1,h2,hcb];exact HWB.out W)
 have HSX:=hid (fun W (cs:List Value) (n:Nat) (h:(n=q∧cs=cq)∨(n=r∧cs=cr))=>show Calls Tryz.prog 184 #[.int .u64 n] W (fun e w'=>e=.returned (.agg cs.toArray)∧Below W.heap.size W w') by
  rcases h with ⟨h1,h2⟩|⟨h1,h2⟩
  ·rw [h1,h2,hcq];exact HSQ.out W
  ·rw [h1,h2,hcr];exact HSR.out W)
 have lca:ca.length=32:=by rw [hca,qlL]
 have lcb:cb.length=32:=by rw [hcb,qlL]
 have lcq:cq.length=32:=by rw [hcq,qlL]
 have lcr:cr.length=32:=by rw [hcr,qlL]
 have HRA:=hid (show w0.rangeAt w.heap.size 0 ca by rw [hca];exact hA);have HRB:=hid (show w0.rangeAt (w.heap.size+1) 0 cb by rw [hcb];exact hB);have HQ:=hid hQ.there;have HR:=hid hR.there;have sz:∀ cs:List Value,cs.length=32→(Tryz.prog.info? 23).map (·.size)=some cs.length:=fun cs h=>by rw [h];exact Tryz.infoM
 have HSZ:=hid sz;have HLEN:=hid (And.intro lca (And.intro lcb (And.intro lcq lcr)));have HONE:=hid (And.intro (all_oneCell_toArray (qcE 32 q)) (all_oneCell_toArray (qcE 32 r)));rw [←hcq,←hcr] at HONE;have HU:=hid Tryz.underlying23;rw [←hca,←hcb] at hw0 ⊢;rw [←hcq,←hcr];have eq1:(a:Int) / (b:Int)=(q:Int):=by rw [hq];rfl
 have eq2:(a:Int)%(b:Int)=(r:Int):=by rw [hr];rfl
 have wq:IntKind.u64.wrap (q:Int)=(q:Int):=by unfold BB at hq2;rw [IntKind.wrap_u64];omega
 have wr:IntKind.u64.wrap (r:Int)=(r:Int):=by unfold BB at hr2;rw [IntKind.wrap_u64];omega
 have HAB:=hid (And.intro ha hb);obtain ⟨va,hva⟩:∃ va,va=ca.toArray:=⟨_,rfl⟩;obtain ⟨vb,hvb⟩:∃ vb,vb=cb.toArray:=⟨_,rfl⟩;rw [←hva,←hvb] at hw0 ⊢;clear hN hK hN32 hK32 hq2 hr2 hb0 hA hB hQ hR hca hcb hcq hcr lca lcb lcq lcr sz ha hb up hq hr hva hvb;go_enter Tryz.func163,Tryz.ntmps163
 go_upto_region 1 with fail
 rw [←hw0];obtain ⟨B0,hB0⟩:∃ B0,B0=w.heap.size:=⟨_,rfl⟩;have HBE:=hid hB0;rw [←hB0] at HRA HRB HQ HR hs0 ⊢;clear hw0 hB0
 go_wp2_with (first
  | (refine wpList_load_mid rfl _ _ rfl B0 0 rfl ca _ HRA.out HU.out rfl (HSZ.out _ HLEN.out.1) ?_))
 refine (HLX.out _ _ _ (.inl ⟨rfl,rfl⟩)).mono ?_;rintro e w1 ⟨rfl,hb1⟩;have HRA1:=hid (qaJ HRA.out hb1);have HRB1:=hid (qaJ HRB.out hb1);have HB1:=hid hb1;clear hb1
 go_wp2_with (first
  | (refine qaZ (by rfl) _ _ rfl (B0+1) 0 rfl cb _ HRB1.out HU.out rfl (HSZ.out _ HLEN.out.2.1) ?_))
 refine (HLX.out _ _ _ (.inr ⟨rfl,rfl⟩)).mono ?_;rintro e w2 ⟨rfl,hb2⟩;have hb12:=HB1.out.trans (hb2.mono HB1.out.size);have hs2:B0+1+1+1+1≤w2.heap.size:=by have:=hb12.size;omega
 have ra:=qaJ HRA.out hb12;have rb:=qaJ HRB.out hb12;have HQ2:=hid (qaT HQ.out hb12 (by omega));have HR2:=hid (qaT HR.out hb12 (by omega));have HW2:=hid (HW.out.trans (hb12.mono HW.out.size));have sa:=HSZ.out _ HLEN.out.1;have sb:=HSZ.out _ HLEN.out.2.1;have u49:=HU.out;clear hb2 hb12;go_upto_region 2 with fail
 refine qbF 12 (by kernel_rfl) (by kernel_rfl) ?_;simp only [List.take_succ_cons,List.take_zero,List.drop_succ_cons,List.drop_zero]
 repeat (first
  | (refine qaF rfl _ _ rfl B0 0 rfl ca _ ra u49 rfl sa ?_;try simp only [Act.put,List.setIfInBounds_toArray,List.set_cons_zero,List.set_cons_succ])
  | (refine qaF rfl _ _ rfl (B0+1) 0 rfl cb _ rb u49 rfl sb ?_;try simp only [Act.put,List.setIfInBounds_toArray,List.set_cons_zero,List.set_cons_succ])
  | go_big_quiet_step ((go_at_call 185;exact qaA (HWX.out _ _ _ (by first|exact .inl ⟨rfl,rfl⟩|exact .inr ⟨rfl,rfl⟩))))
  | go_big_quiet_step ((go_at_call 184;exact qaA (HSX.out _ _ _ (by first|exact .inl ⟨rfl,rfl⟩|exact .inr ⟨rfl,rfl⟩)))))
 refine wpQuiet_nil ?_;intro w' hw';obtain ⟨p,rfl⟩:=hw';have hbg:=qbG w2 p.d p.os;obtain ⟨w3,hw3⟩:∃ w3,w3=gw w2 p.d p.os:=⟨_,rfl⟩;rw [←hw3] at hbg ⊢;have hq3:=qaT HQ2.out hbg (by omega);have hr3:=qaT HR2.out hbg (by omega);have HW3:=hid (HW2.out.trans (hbg.mono HW2.out.size));clear hbg hw3 eq1 eq2 wq wr;refine wpList_store_mid rfl _ _ _ rfl (B0+1+1) 0 _ rfl rfl ?ht (by rw [List.size_toArray];exact HSZ.out _ HLEN.out.2.2.1) HONE.out.1 ?_
 case ht=>rw [List.size_toArray,HLEN.out.2.2.1];exact hq3
 simp only [Act.put,List.setIfInBounds_toArray,List.set_cons_zero,List.set_cons_succ];have hr4:(w3.setCells (B0+1+1) 0 cq).there (B0+1+1+1) 0 32:=qaW hr3 cq 0 (by omega);refine wpList_store_mid rfl _ _ _ rfl (B0+1+1+1) 0 _ rfl rfl ?ht (by rw [List.size_toArray];exact HSZ.out _ HLEN.out.2.2.2) HONE.out.2 ?_
 case ht=>rw [List.size_toArray,HLEN.out.2.2.2];exact hr4
 simp only [Act.put,List.setIfInBounds_toArray,List.set_cons_zero,List.set_cons_succ];have hle2:w.heap.size≤B0+1+1:=by rw [←HBE.out];omega
 have hle3:w.heap.size≤B0+1+1+1:=by omega
 have HWE:=hid (qaB hle3 cr 0 _ (qaB hle2 cq 0 _ HW3.out));have g1:=World.rangeAt_setCells_same w3 (B0+1+1) 0 cq (by rw [HLEN.out.2.2.1];exact hq3);have g2:=qaK g1 cr (B0+1+1+1) 0 (by omega);have g3:=World.rangeAt_setCells_same (w3.setCells (B0+1+1) 0 cq) (B0+1+1+1) 0 cr (by rw [HLEN.out.2.2.2];exact hr4)
 try simp only [List.toList_toArray]
 go_wp2_with fail
 have hld1:=run_loadVar_mid (P:=Tryz.prog) _ _ _ _ _ _ g2 Tryz.underlying23 rfl (HSZ.out _ HLEN.out.2.2.1);have hld2:=run_loadVar_mid (P:=Tryz.prog) _ _ _ _ _ _ g3 Tryz.underlying23 rfl (HSZ.out _ HLEN.out.2.2.2);refine bodyPost_ret (v:=.tuple #[.agg cq.toArray,.agg cr.toArray]) (by simp [results,Tryz.results163,asAddr,hld1,hld2]) rfl ?_;exact ⟨rfl,HWE.out⟩
end Go.Proofs.YtemoddmadfoaiaaGreat
namespace Go.Proofs.YtemoddmadfoaiaaGreat
open Go.RowKit
section
variable {P:Program} {ops:Array Oper} {md:Region.Mode} {C:World→Prop}
def gateB (md:Region.Mode) (ops:Array Oper) (n:Nat):Bool :=
 (List.range (n - 1)).all (fun i=>(List.range n).any fun j=>decide (i<j)&&Region.waitsFor md ops j i)&&(List.range ops.size).all fun t=>decide (t<n) || Region.waitsFor md ops t (n - 1)
def lexT (md:Region.Mode) (ops:Array Oper) (T:Array Bool):Nat→Nat→Array Bool→Bool
 | 0,_,seen=>seen==T
 | f+1,k,seen=>(Region.ready md ops seen).contains k&&Region.free md ops seen k&&lexT md ops T f (k+1) (seen.setIfInBounds k true)
def headB (md:Region.Mode) (ops:Array Oper) (n:Nat) (T:Array Bool):Bool :=
 Region.noSelect ops&&decide (0<n)&&decide (n<ops.size)&&gateB md ops n&&(Region.ready md ops T).all (fun j=>decide (n≤j))&&lexT md ops T n 0 (Array.replicate ops.size false)
theorem qsB {n:Nat} {seen:Array Bool} (hg:gateB md ops n=true) (hn0:0<n) (hn:n<ops.size) (inv:HeadInv md ops n seen) {i:Nat} (hi:i<n) (hun:seen.getD i true=false) {t:Nat} (ht:n≤t):t∉Region.ready md ops seen:=by
 intro hr;simp only [gateB,Bool.and_eq_true] at hg;obtain ⟨_,ot,hot,hall⟩:=mem_ready.1 hr;have htl:t<ops.size:=(Array.getElem?_eq_some_iff.1 hot).1
 have hlast:seen.getD (n - 1) false=true:=by
  have h1:=List.all_eq_true.1 hg.2 t (List.mem_range.2 htl);simp only [Bool.or_eq_true,decide_eq_true_eq] at h1;rcases h1 with h1|h1
  ·omega
  ·obtain ⟨o',ho',e,he,hb,hon⟩:=Region.waitsFor_spec h1;obtain rfl:o'=ot:=Option.some.inj (ho'.symm.trans hot);rw [←hon];exact hall e he hb
 have hev:∀ (d j:Nat),n - 1 - j=d→j<n→seen.getD j false=true:=by
  intro d
  induction d using Nat.strongRecOn with
  | _ d ih =>
   intro j hd hj;by_cases hjn:j=n - 1
   ·subst hjn;exact hlast
   ·have h1:=List.all_eq_true.1 hg.1 j (List.mem_range.2 (by omega));obtain ⟨k,hk,hk2⟩:=List.any_eq_true.1 h1;simp only [Bool.and_eq_true,decide_eq_true_eq] at hk2;obtain ⟨ok,hok,e,he,hb,hon⟩:=Region.waitsFor_spec hk2.2;have hkn:=List.mem_range.1 hk;rw [←hon];exact inv.closed k ok hok (ih (n - 1 - k) (by omega) k rfl hkn) e he hb
 have:=hev _ i rfl hi
 rw [getD_both hun] at this
 cases this
theorem qpJ {n i:Nat} {oi:Oper} {v:Value} {L:Array Bool→Act→Prop} (hi:ops[i]?=some oi) (hsel:∀ (j:Nat) (o:Oper) cs b,ops[j]?=some o→o.op≠.select cs b)
  (hw:∀ seen,HeadInv md ops n seen→∀ i,i<n→seen.getD i true=false→∀ t,n≤t→t∉Region.ready md ops seen) (hin:i<n) (hdone:∀ seen a,L seen a→∀ j∈Region.ready md ops seen,n≤j) :
  ∀ (f:Nat) (seen:Array Bool) (a:Act),HeadInv md ops n seen →
   (∀ j oj,ops[j]?=some oj→j≠i→seen.getD j true=false→(∀ e∈oj.after,Region.binds md e=true→e.on≠i)→oi.apart ops oj=true) →
   i∈Region.ready md ops seen→YieldsIn P ops C oi v a →
   headQ P md ops C n L f (seen.setIfInBounds i true) (a.put oi.dst v)→headQ P md ops C n L (f+1) seen a:=by
 intro f
 induction f with
 | zero =>
  intro seen a inv _ hr hy H;have hun:=(mem_ready.1 hr).1;refine ⟨List.ne_nil_of_mem hr,fun j hj=>?_⟩;have hjn:j<n:=Nat.lt_of_not_le fun h=>hw _ inv i hin hun j h hj
  refine ⟨hjn,?_⟩;by_cases e:j=i
  ·subst e;exact hy.qOp hi H
  ·exact absurd (hdone _ _ H j (ready_mono hj e)) (by omega)
 | succ f ih =>
  intro seen a inv hfree hr hy H;have hun:=(mem_ready.1 hr).1;refine ⟨List.ne_nil_of_mem hr,fun j hj=>?_⟩;have hjn:j<n:=Nat.lt_of_not_le fun h=>hw _ inv i hin hun j h hj
  refine ⟨hjn,?_⟩;by_cases e:j=i
  ·subst e;exact hy.qOp hi H
  obtain ⟨hju,oj,hoj,hall⟩:=mem_ready.1 hj
  have hnot:∀ e∈oj.after,Region.binds md e=true→e.on≠i:=fun e he hb heq=>by
   have h1:=hall e he hb;rw [heq,getD_both hun] at h1
   cases h1
  refine qOp_mono (fun a' h3=>ih _ a' (inv.set hj hjn) (fun k ok hk hki hu hno=>?_) (ready_mono hr (Ne.symm e)) h3.1 ?_)
   (qOp_put hoj (hfree j oj hoj e hju hnot) (fun cs b=>hsel i oi cs b hi) (fun cs b=>hsel j oj cs b hoj) hy (H.2 j (ready_mono hj e)).2)
  ·by_cases hjk:j=k
   ·subst hjk;exact hfree j ok hk hki hju hno
   ·exact hfree k ok hk hki (by rwa [getD_set_ne true hjk] at hu) hno
  ·rw [Array.setIfInBounds_comm _ _ e];exact h3.2
theorem qvL {n:Nat} {T:Array Bool} {Lq:Act→Prop} (hsel:Region.noSelect ops=true) (hw:∀ seen,HeadInv md ops n seen→∀ i,i<n→seen.getD i true=false→∀ t,n≤t→t∉Region.ready md ops seen)
  (hT:∀ j∈Region.ready md ops T,n≤j) :
  ∀ (l:List Oper) (k:Nat) (seen:Array Bool) (a:Act),(∀ j,j<l.length→l[j]?=ops[k+j]?)→k+l.length=n→HeadInv md ops n seen →
  lexT md ops T l.length k seen=true→wpQuiet P ops C Lq l a→headQ P md ops C n (fun seen' a'=>seen'=T∧Lq a') l.length seen a:=by
 intro l
 induction l with
 | nil =>
  intro k seen a _ hk _ hB h;exact ⟨by simpa [lexT] using hB,h⟩
 | cons o l ih =>
  intro k seen a hl hk inv hB h;have h0:ops[k]?=some o:=by simpa using (hl 0 (by simp)).symm
  simp only [List.length_cons,lexT,Bool.and_eq_true] at hB hk;obtain ⟨⟨hr,hf⟩,hB'⟩:=hB;have hkn:k<n:=by omega
  have hr':k∈Region.ready md ops seen:=by simpa using hr
  have hst:qOp P ops C k (wpQuiet P ops C Lq l) a:=by unfold qOp;simp only [h0];exact h
  obtain ⟨v,hy,hK⟩:=yieldsIn_of_qOp h0 hst;refine qpJ h0 (Region.noSelect_spec hsel) hw hkn (fun seen' a' hL=>by rw [hL.1];exact hT) l.length seen a inv (Region.free_spec h0 hf) hr' hy ?_;exact ih (k+1) _ _ (fun j hj=>by have:=hl (j+1) (by simp;omega);simpa [Nat.add_assoc,Nat.add_comm 1 j] using this) (by omega) (inv.set hr' hkn) hB' hK
theorem qfH {id:Nat} {Q:Exit→Act→World→Prop} {a:Act} {w:World} {l:List Oper} (n:Nat) (T:Array Bool) (S:World→Prop) (hm:P.follows .mixedOrders=true) (hB:headB .any l.toArray n T=true) (hC:C w.drew)
  (h:wpQuiet P l.toArray C (fun a'=>∀ w',C w'→wpAnyH P .any l.toArray (NoPanic Q) S (l.length - n) T a' w') (l.take n) a):(Code.region id l.toArray true).wp P Q a w:=by
 simp only [headB,Bool.and_eq_true,decide_eq_true_eq] at hB;obtain ⟨⟨⟨⟨⟨hsel,hn0⟩,hn⟩,hg⟩,hT⟩,hlex⟩:=hB;have hn':n<l.length:=by simpa using hn
 have htl:(l.take n).length=n:=by simp;omega
 have inv0:HeadInv .any l.toArray n (Array.replicate l.toArray.size false) :=
  ⟨by simp,fun j oj _ hl=>(by rw [getD_replicate_false] at hl;cases hl),fun t _ ht=>getD_in (by simpa using ht) (getD_replicate_false _ _)⟩
 have H:=qvL (md:=.any) (T:=T) hsel (fun seen inv i hi hun t ht=>qsB hg hn0 hn inv hi hun ht) (fun j hj=>by simpa using List.all_eq_true.1 hT j hj) (l.take n) 0 _ a (fun j hj=>by
  have hj':j<n:=by rw [htl] at hj;exact hj
  simp [hj']) (by simpa using htl) inv0 (by rw [htl];exact hlex) h
 refine wp_region_noPanic (wp_region_any hm ?_)
 have:=qhD (Q':=NoPanic Q) (g:=l.length - n) (fun seen a' w' hw' hL=>by
  rw [hL.1];exact wpAny_of_held _ _ _ _ (hL.2 w' hw')) _ _ _ _ hC H
 rw [htl,show n+(l.length - n)=l.toArray.size by simp;omega] at this;exact this
theorem qfI {id:Nat} {Q:Exit→Act→World→Prop} {a:Act} {w:World} {l:List Oper} (n:Nat) (T:Array Bool) (S:World→Prop) (hm:P.follows .mixedOrders=true) (hB:headB .any l.toArray n T=true)
  (h:wpQuiet P l.toArray (fun w'=>∃ p:GB,w'=gw w p.d p.os) (fun a'=>∀ w',(∃ p:GB,w'=gw w p.d p.os)→wpAnyH P .any l.toArray (NoPanic Q) S (l.length - n) T a' w') (l.take n) a):(Code.region id l.toArray true).wp P Q a w :=
 qfH (C:=fun w'=>∃ p:GB,w'=gw w p.d p.os) n T S hm hB (qcK (qbI (Below.refl _ _))) h
theorem qtF {P:Program} {ops:Array Oper} {md:Region.Mode} {T:Array Bool} {Q:Exit→Act→World→Prop} {a:Act} {w:World} (i0 i1 i2 i3:Nat) {o0 o1 o2 o3:Oper} (d0 d1 d3:Tmp) (ty:TypeId) (x p:Operand) (b:Nat) (c0:List Value) (u:Value)
  (k0:ops[i0]?=some o0) (k1:ops[i1]?=some o1) (k2:ops[i2]?=some o2) (k3:ops[i3]?=some o3) (hsel:Region.noSelect ops=true)
  (f0:Region.free md ops T i0=true) (r0:(Region.ready md ops T).contains i0=true)
  (f1:Region.free md ops (T.setIfInBounds i0 true) i1=true) (r1:(Region.ready md ops (T.setIfInBounds i0 true)).contains i1=true)
  (r2:Region.ready md ops ((T.setIfInBounds i0 true).setIfInBounds i1 true)=[i2]) (r3:Region.ready md ops (((T.setIfInBounds i0 true).setIfInBounds i1 true).setIfInBounds i2 true)=[i3])
  (r4:Region.ready md ops ((((T.setIfInBounds i0 true).setIfInBounds i1 true).setIfInBounds i2 true).setIfInBounds i3 true)=[])
  (g0:o0.guard=none) (g1:o1.guard=none) (g2:o2.guard=none) (g3:o3.guard=none)
  (n0:o0.dst=some d0) (n1:o1.dst=some d1) (n2:o2.dst=none) (n3:o3.dst=some d3)
  (h0:o0.op=.extract x 0) (h1:o1.op=.extract x 1) (h2:o2.op=.store ty p (.tmp d0)) (h3:o3.op=.assign (.tmp d1))
  (e0:a.eval x=.tuple #[.agg c0.toArray,u]) (e1:(a.put (some d0) (.agg c0.toArray)).eval x=.tuple #[.agg c0.toArray,u])
  (e2:((a.put (some d0) (.agg c0.toArray)).put (some d1) u).eval p=.pointer (some ⟨b,0,none⟩)) (e2':((a.put (some d0) (.agg c0.toArray)).put (some d1) u).eval (.tmp d0)=.agg c0.toArray)
  (e3:(((a.put (some d0) (.agg c0.toArray)).put (some d1) u).put none undef).eval (.tmp d1)=u)
  (ht:w.there b 0 c0.length) (hi:(P.info? ty).map (·.size)=some c0.length) (k:c0.toArray.all (·.oneCell')=true)
  (hfin:Q .normal ((((a.put (some d0) (.agg c0.toArray)).put (some d1) u).put none undef).put (some d3) u) (w.setCells b 0 c0)) :
  wpAnyH P md ops (NoPanic Q) (fun _=>True) 4 T a w:=by
 refine wpAnyH_take (i:=i0) (oi:=o0) (v:=.agg c0.toArray) k0 hsel f0 r0 (fun c a w h=>h) (.inl ⟨by simp [Region.wanted,g0],fun w _=>by unfold execOp;simp [h0,e0,Instr.extract]⟩) trivial ?_;rw [n0];refine wpAnyH_take (i:=i1) (oi:=o1) (v:=u) k1 hsel f1 r1 (fun c a w h=>h) (.inl ⟨by simp [Region.wanted,g1],fun w _=>by unfold execOp;simp [h1,e1,Instr.extract]⟩) trivial ?_;rw [n1];refine wpAnyH_ready (rs:=[i2]) r2 (by simp) (AllReadyH.cons (o:=o2) k2 (fun K hK=>?_) AllReadyH.nil);rw [if_pos (by simp [Region.wanted,g2])];refine wp_store_mid ty p (.tmp d0) h2 b 0 c0.toArray e2 e2' (by rw [List.size_toArray];exact ht) (by rw [List.size_toArray];exact hi) k ?_;rw [n2];refine hK.out _ _ trivial (fun _=>?_);refine wpAnyH_ready (rs:=[i3]) r3 (by simp) (AllReadyH.cons (o:=o3) k3 (fun K' hK'=>?_) AllReadyH.nil);rw [if_pos (by simp [Region.wanted,g3])];unfold Oper.wp execOp;simp [h3,e3,Oper.upon];rw [n3];refine hK'.out _ _ trivial (fun _=>?_);exact wpAnyH_done r4 (NoPanic.normal hfin) _
end
end Go.Proofs.YtemoddmadfoaiaaGreat
namespace Go.Proofs.YtemoddmadfoaiaaGreat
open Go.RowKit Big
end Go.Proofs.YtemoddmadfoaiaaGreat
