import Derived.Test.YtooeabibhjbkoaaGreatBigR
import Derived.Test.YtooeabibhjbkoaaGreatBigS
import Derived.BigQuiet
set_option linter.unusedVariables false
set_option linter.unusedSimpArgs false
set_option maxRecDepth 100000
set_option maxHeartbeats 4000000
namespace Go.Proofs.YtooeabibhjbkoaaGreat
open Go.RowKit Big
open Lib (hid)
def cmpI (a b:Nat):Int:=if a<b then -1 else if a=b then 0 else 1
theorem qjW (w:World) (a b:Nat) (t:TypeId):∃ w0:World,w0=(w.alloc (.cells (lv 32 a).toArray t)).alloc (.cells (lv 32 b).toArray t)∧Below w.heap.size w w0∧w0.heap.size=w.heap.size+1+1∧MagAt w0 w.heap.size 0 32 a∧MagAt w0 (w.heap.size+1) 0 32 b:=by
 have hb:Below (w.alloc (.cells (lv 32 a).toArray t)).heap.size (w.alloc (.cells (lv 32 a).toArray t)) ((w.alloc (.cells (lv 32 a).toArray t)).alloc (.cells (lv 32 b).toArray t)):=(Below.refl _ _).alloc (Nat.le_refl _) _
 refine ⟨_,rfl,((Below.refl _ _).alloc (Nat.le_refl _) _).alloc (by simp) _,by simp,(MagAt.new w 32 a t).up hb,?_⟩
 have:=MagAt.new (w.alloc (.cells (lv 32 a).toArray t)) 32 b t
 rwa [World.size_alloc] at this
theorem qgU (a b:Nat) (w:World) (ha:a<BB^32) (hb:b<BB^32) :
  Calls Tryz.prog 118 #[mV a,mV b] w fun e w'=>e=.returned (.int .i64 (cmpI a b))∧Below w.heap.size w w':=by
 obtain ⟨w0,hw0,hb0,hs0,hA,hB⟩:=qjW w a b 23
 have H0:=hid (show a / BB^32=b / BB^32 by rw [Nat.div_eq_of_lt ha,Nat.div_eq_of_lt hb])
 have HA:=hid hA
 have HB:=hid hB
 have HW:=hid hb0
 unfold mV
 obtain ⟨va,hva⟩:∃ va,va=(lv 32 a).toArray:=⟨_,rfl⟩
 obtain ⟨vb,hvb⟩:∃ vb,vb=(lv 32 b).toArray:=⟨_,rfl⟩
 rw [←hva,←hvb] at hw0 ⊢
 clear ha hb hb0 hs0 hA hB hva hvb
 go_enter Tryz.func118,Tryz.ntmps118
 go_wp2
 rw [←hw0]
 clear hw0
 go_loopg [5] 33 (fun g i wr=>∃ (k d:Nat) (z:Int),k≤32∧k≤g∧z=(k:Int) - 1∧i=.int .i64 z∧a / BB^k=b / BB^k∧wr=w0.drewN d)
 case atStart=>exact ⟨32,0,31,by omega,by omega,by omega,rfl,H0.out,rfl⟩
 case round =>
  obtain ⟨k,d,z,hk,hg,hz,rfl,he,rfl⟩:=hrel
  have HE:=hid he
  clear he
  cases k with
  | zero =>
   have hz1:z=-1:=by omega
   subst hz1
   have HR:=hid (show cmpI a b=0 by
    have h:=HE.out
    simp only [Nat.pow_zero,Nat.div_one] at h
    unfold cmpI;rw [if_neg (by omega),if_pos h])
   clear hz
   go_wp2
   go_ret
   exact ⟨qaT HR.out.symm,by first|exact below_drewN HW.out _|exact below_drewN (below_drewN HW.out _) _|exact below_drewN (below_drewN (below_drewN HW.out _) _) _⟩
  | succ k =>
   have hz1:z=(k:Int):=by omega
   subst hz1
   have hk32:k<32:=by omega
   have ca:=HA.out.get hk32
   have cb:=HB.out.get hk32
   rw [Nat.zero_add] at ca cb
   obtain ⟨x,hx⟩:∃ x,x=lim a k:=⟨_,rfl⟩
   obtain ⟨y,hy⟩:∃ y,y=lim b k:=⟨_,rfl⟩
   rw [←hx] at ca
   rw [←hy] at cb
   have hj:(k:Int) - 1=((k:Int) - 1):=rfl
   have hwk:IntKind.i64.wrap ((k:Int) - 1)=(k:Int) - 1:=IntWalk.i64_in _ (by omega)
   have hk0:(0:Int)≤(k:Int):=by omega
   clear hz
   by_cases h1:x<y
   ·have HR:=hid (show cmpI a b=-1 by
     have:=qfV HE.out (by rw [←hx,←hy];exact h1)
     unfold cmpI;rw [if_pos this])
    clear hx hy
    go_wp2
    go_quiet (fail)
    go_wp2
    go_ret
    exact ⟨qaT HR.out.symm,by first|exact below_drewN HW.out _|exact below_drewN (below_drewN HW.out _) _|exact below_drewN (below_drewN (below_drewN HW.out _) _) _⟩
   ·by_cases h2:y<x
    ·have HR:=hid (show cmpI a b=1 by
      have:=qfV HE.out.symm (by rw [←hx,←hy];exact h2)
      unfold cmpI;rw [if_neg (by omega),if_neg (by omega)])
     clear hx hy
     go_wp2
     go_quiet (fail)
     go_wp2
     go_quiet (fail)
     go_wp2
     go_ret
     exact ⟨qaT HR.out.symm,by first|exact below_drewN HW.out _|exact below_drewN (below_drewN HW.out _) _|exact below_drewN (below_drewN (below_drewN HW.out _) _) _⟩
    ·have HD:=hid (qiB HE.out (show lim a k=lim b k by omega))
     clear hx hy
     go_wp2
     go_quiet (fail)
     go_wp2
     go_quiet (fail)
     go_wp2
     go_roundg (gk - 1)
     case measure=>omega
     case rel=>exact ⟨k,_,_,by omega,by omega,rfl,rfl,HD.out,rfl⟩
theorem qbF:lv 32 0=[.int .u32 0,.int .u32 0,.int .u32 0,.int .u32 0,.int .u32 0,.int .u32 0,.int .u32 0,.int .u32 0,.int .u32 0,.int .u32 0,.int .u32 0,.int .u32 0,.int .u32 0,.int .u32 0,.int .u32 0,.int .u32 0,.int .u32 0,.int .u32 0,.int .u32 0,.int .u32 0,.int .u32 0,.int .u32 0,.int .u32 0,.int .u32 0,.int .u32 0,.int .u32 0,.int .u32 0,.int .u32 0,.int .u32 0,.int .u32 0,.int .u32 0,.int .u32 0]:=by
 unfold lv cells dg
 simp [List.range,List.range.loop,qeU]
theorem qwJ {x y c:Nat} (hx:x<BB) (hy:y<BB) (hc:c≤1):∃ d c':Nat,d<BB∧c'≤1∧d+y+c=x+c'*BB∧IntKind.u64.wrap (IntKind.u64.wrap ((x:Int) - y) - c)=((d+c'*(18446744073709551616 - BB):Nat):Int) ∧
  IntKind.u32.wrap ((d+c'*(18446744073709551616 - BB):Nat):Int)=(d:Int)∧(d+c'*(18446744073709551616 - BB)) / 9223372036854775808=c':=by
 unfold BB at *
 by_cases h:y+c≤x
 ·refine ⟨x - y - c,0,by omega,by omega,by omega,?_,?_,by omega⟩
  ·rw [IntKind.wrap_u64,IntKind.wrap_u64];omega
  ·rw [IntKind.wrap_u32];omega
 ·refine ⟨x+4294967296 - y - c,1,by omega,by omega,by omega,?_,?_,by omega⟩
  ·rw [IntKind.wrap_u64,IntKind.wrap_u64];omega
  ·rw [IntKind.wrap_u32];omega
theorem qbA (v:Nat):(Tryz.prog.info? 23).map (·.size)=some (lv 32 v).length:=by rw [qlL];exact Tryz.infoM
theorem qcO {w:World} {b v u:Nat} (h:qMO w b 0 32 u):MagAt (w.setCells b 0 (lv 32 v)) b 0 32 v :=
 World.rangeAt_setCells_same _ _ _ _ (by rw [qlL];exact h.there)
theorem qdC {P i d:Nat} (hP:P<BB^i):upd P i d=P+d*BB^i:=by
 have h:P<BB^(i+1):=by rw [qcK];exact Nat.lt_of_lt_of_le hP (Nat.le_mul_of_pos_left _ qaN)
 unfold upd
 rw [Nat.mod_eq_of_lt hP,Nat.div_eq_of_lt h];simp
theorem qpB {a b v P c c2:Nat} {t:Nat} (ha:a<t) (hb:b<t) (hv:v<t) (hP:P<t) (hc:c≤1) (h:P+b=a+c*t) (h2:v+b=a+c2*t):P=v:=by
 rcases c2 with _|_|c2
 ·rcases c with _|_|c
  ·omega
  ·simp at h h2;omega
  ·omega
 ·rcases c with _|_|c
  ·simp at h h2;omega
  ·simp at h h2;omega
  ·omega
 ·have:2*t≤(c2+1+1)*t:=Nat.mul_le_mul_right _ (by omega)
  omega
theorem qeD (a b v:Nat) (w:World) (ha:a<BB^32) (hb:b<BB^32) (hv:v<BB^32) (hd:∃ c,v+b=a+c*BB^32) :
  Calls Tryz.prog 119 #[mV a,mV b] w fun e w'=>e=.returned (mV v)∧Below w.heap.size w w':=by
 obtain ⟨w0,hw0,hb0,hs0,hA,hB⟩:=qjW w a b 23
 obtain ⟨w1,hw1⟩:∃ w1,w1=(w0.alloc (.cells (lv 32 0).toArray 23)).alloc (.cells (lv 32 0).toArray 23):=⟨_,rfl⟩
 have hb1:Below w0.heap.size w0 w1:=by rw [hw1];exact ((Below.refl _ _).alloc (Nat.le_refl _) _).alloc (by simp) _
 have hR:qMO w1 (w.heap.size+1+1) 0 32 0:=by
  rw [hw1,←hs0];exact (qMO.new w0 32 0 _).up ((Below.refl _ _).alloc (Nat.le_refl _) _) (by simp)
 have hO:qMO w1 (w.heap.size+1+1+1) 0 32 0:=by
  rw [hw1,←hs0]
  have:=qMO.new (w0.alloc (.cells (lv 32 0).toArray 23)) 32 0 23
  rwa [World.size_alloc] at this
 have HA:=hid (hA.up hb1)
 have HB:=hid (hB.up hb1)
 have HR:=hid hR
 have HO:=hid hO
 have HW:=hid (hb0.trans (hb1.mono hb0.size))
 rw [hw0] at hw1
 have HV:=hid (And.intro ha (And.intro hb (And.intro hv hd)))
 rw [qbF] at hw1
 unfold mV
 obtain ⟨va,hva⟩:∃ va,va=(lv 32 a).toArray:=⟨_,rfl⟩
 obtain ⟨vb,hvb⟩:∃ vb,vb=(lv 32 b).toArray:=⟨_,rfl⟩
 obtain ⟨vv,hvv⟩:∃ vv,vv=(lv 32 v).toArray:=⟨_,rfl⟩
 have HVV:=hid hvv
 rw [←hva,←hvb] at hw1 ⊢
 rw [←hvv]
 clear ha hb hv hd hb0 hs0 hA hB hva hvb hw0 hb1 hR hO hvv
 go_enter Tryz.func119,Tryz.ntmps119
 go_wp2_with fail
 rw [←hw1]
 clear hw1
 obtain ⟨B0,hB0⟩:∃ B0,B0=w.heap.size:=⟨_,rfl⟩
 have hB1:B0<w1.heap.size:=by rw [hB0];exact World.block_lt_of_cell? w1 _ (HA.out.get (k:=0) (by omega))
 have hB4:B0+1+1+1<w1.heap.size:=by rw [hB0];exact World.block_lt_of_cell? w1 _ (HO.out.1.get (k:=0) (by omega))
 have HBE:=hid hB0
 rw [←hB0] at HA HB HR HO ⊢
 clear hB0
 go_loopg [6,7] 32 (fun g bw iv wr=>∃ (i P c:Nat),i≤32∧32 - i≤g∧c≤1∧P<BB^i∧P+b%BB^i=a%BB^i+c*BB^i∧bw=.int .u64 c∧iv=.int .i64 i∧MagAt wr B0 0 32 a∧MagAt wr (B0+1) 0 32 b∧qMO wr (B0+1+1) 0 32 0∧qMO wr (B0+1+1+1) 0 32 P∧Below w.heap.size w wr)
 case atStart=>exact ⟨0,0,0,by omega,by omega,by omega,BP 0,by simp [Nat.mod_one],rfl,rfl,HA.out,HB.out,HR.out,HO.out,HW.out⟩
 case round =>
  obtain ⟨i,P,c,hi,hg,hc,hP,he,rfl,rfl,hA,hB,hR,hO,hW⟩:=hrel
  have HE:=hid he
  have HP:=hid hP
  have HA1:=hid hA
  have HB1:=hid hB
  have HR1:=hid hR
  have HO1:=hid hO
  have HW1:=hid hW
  clear he hP hA hB hR hO hW
  by_cases hlt:i<32
  ·have ca:=HA1.out.get hlt
   have cb:=HB1.out.get hlt
   have co:=HO1.out.1.get hlt
   have fo:=HO1.out.2 i hlt
   rw [Nat.zero_add] at ca cb co fo
   obtain ⟨x,hx⟩:∃ x,x=lim a i:=⟨_,rfl⟩
   obtain ⟨y,hy⟩:∃ y,y=lim b i:=⟨_,rfl⟩
   have hxl:x<BB:=hx ▸ qaC a i
   have hyl:y<BB:=hy ▸ qaC b i
   obtain ⟨d,c',hd,hc',hn,e1,e2,e3⟩:=qwJ hxl hyl hc
   rw [←hx] at ca
   rw [←hy] at cb
   have HS:=hid (qmK HE.out (by rw [←hx,←hy];exact hn))
   have HPL:=hid (qgM HP.out hd)
   have HU:=hid (qdC (d:=d) HP.out)
   have HO2:=hid (HO1.out.set hlt hd)
   obtain ⟨V,hV⟩:∃ V:Nat,V=d+c'*(18446744073709551616 - BB):=⟨_,rfl⟩
   rw [←hV] at e1 e2 e3
   have hw1':IntKind.u64.wrap (x:Int)=(x:Int):=by unfold BB at hxl;rw [IntKind.wrap_u64];omega
   have hw2':IntKind.u64.wrap (y:Int)=(y:Int):=by unfold BB at hyl;rw [IntKind.wrap_u64];omega
   have e4:(V:Int) / 9223372036854775808=(c':Int):=by omega
   have HDD:=hid hd
   clear hx hy hxl hyl hn hV hd e3
   go_wp2
   go_quiet (fail)
   go_wp2
   have HU2:=hid (show qMO (wr.setCell ⟨B0+1+1+1,i,none⟩ (.int .u32 (d:Nat))) (B0+1+1+1) 0 32 (P+d*BB^i) by
    have:=HO2.out;rwa [HU.out,Nat.zero_add] at this)
   have hR2:=HR1.out.setOther ⟨B0+1+1+1,i,none⟩ (.int .u32 (d:Nat)) (show B0+1+1+1≠B0+1+1 by omega)
   have hA2:=HA1.out.setOther ⟨B0+1+1+1,i,none⟩ (.int .u32 (d:Nat)) (show B0+1+1+1≠B0 by omega)
   have hB2:=HB1.out.setOther ⟨B0+1+1+1,i,none⟩ (.int .u32 (d:Nat)) (show B0+1+1+1≠B0+1 by omega)
   have hW2:=qbB HW1.out ⟨B0+1+1+1,i,none⟩ (.int .u32 (d:Nat)) (show w.heap.size≤B0+1+1+1 by rw [←HBE.out];omega)
   go_roundg (gk - 1)
   case measure=>omega
   case rel=>exact ⟨i+1,P+d*BB^i,c',by omega,by omega,hc',HPL.out,HS.out,rfl,by go_num,hA2,hB2,hR2,HU2.out,⟨hW2.os,hW2.tape,hW2.output,hW2.size,hW2.block⟩⟩
  ·have hi32:i=32:=by omega
   subst hi32
   have hPv:P=v:=by
    obtain ⟨h1,h2,h3,c2,h4⟩:=HV.out
    have h5:=HE.out
    rw [Nat.mod_eq_of_lt h1,Nat.mod_eq_of_lt h2] at h5
    exact qpB h1 h2 h3 HP.out hc h5 h4
   subst hPv
   obtain ⟨cs,hcs⟩:∃ cs,cs=lv 32 P:=⟨_,rfl⟩
   have HST:=hid (qcO (v:=P) HR1.out)
   have HBS:=hid (qaB (show w.heap.size≤B0+1+1 by rw [←HBE.out];omega) (lv 32 P) 0 wr HW1.out)
   have HTH:=hid (show wr.there (B0+1+1) 0 (lv 32 P).toArray.size by rw [List.size_toArray,qlL];exact HR1.out.there)
   have HLD:=hid (show wr.rangeAt (B0+1+1+1) 0 (lv 32 P) from HO1.out.1)
   have HSZ:=hid (qbA P)
   have HSA:=hid (show (Tryz.prog.info? 23).map (·.size)=some (lv 32 P).toArray.size by rw [List.size_toArray];exact qbA P)
   have HONE:=hid (all_oneCell_toArray (qbW 32 P))
   have HCS:=hid hcs
   have hvc:vv=cs.toArray:=by rw [HVV.out,hcs]
   rw [←hcs] at HBS HTH HLD HSZ HSA HONE
   have HVC:=hid hvc
   clear hcs hvc
   go_wp2_with (first
    | (refine wpList_load_mid rfl _ _ rfl (B0+1+1+1) 0 rfl cs _ HLD.out Tryz.underlying23 rfl HSZ.out ?_)
    | (refine wpList_store_mid rfl _ _ _ rfl (B0+1+1) 0 _ rfl rfl HTH.out HSA.out HONE.out ?_))
   have hld:=run_loadVar_mid (P:=Tryz.prog) _ _ _ _ _ _ (show World.rangeAt (wr.setCells (B0+1+1) 0 cs) (B0+1+1) 0 cs by have:=HST.out;rw [←HCS.out] at this;unfold MagAt at this;rwa [←HCS.out] at this) Tryz.underlying23 rfl HSZ.out
   simp only [Act.put,List.setIfInBounds_toArray,List.set_cons_zero,List.set_cons_succ]
   refine bodyPost_ret (v:=.agg cs.toArray) (by simp [results,Tryz.results119,asAddr,hld]) rfl ?_
   exact ⟨by rw [HVC.out],HBS.out⟩
set_option maxHeartbeats 4000000
theorem qyA {x y c:Nat} (hx:x<BB) (hy:y<BB) (hc:c≤1):∃ d c' V:Nat,d<BB∧c'≤1∧x+y+c=d+c'*BB∧IntKind.u64.wrap (IntKind.u64.wrap ((x:Int)+y)+c)=(V:Int) ∧
  IntKind.u32.wrap (V:Int)=(d:Int)∧(V:Int) / 4294967296=(c':Int):=by
 unfold BB at *
 refine ⟨(x+y+c)%4294967296,(x+y+c) / 4294967296,x+y+c,by omega,by omega,by omega,?_,?_,by omega⟩
 ·rw [IntKind.wrap_u64,IntKind.wrap_u64];omega
 ·rw [IntKind.wrap_u32];omega
theorem qmZ {v P c c2:Nat} {t:Nat} (hv:v<t) (hP:P<t) (hc:c≤1) (h:P+c*t=v+c2*t):P=v∧c=c2:=by
 rcases c2 with _|_|c2
 ·rcases c with _|_|c
  ·simp at h;exact ⟨h,rfl⟩
  ·simp at h;omega
  ·omega
 ·rcases c with _|_|c
  ·simp at h;omega
  ·simp at h;exact ⟨by omega,rfl⟩
  ·omega
 ·have:2*t≤(c2+1+1)*t:=Nat.mul_le_mul_right _ (by omega)
  have:c*t≤1*t:=Nat.mul_le_mul_right _ hc
  omega
theorem qxF (a b v c2:Nat) (w:World) (ha:a<BB^32) (hb:b<BB^32) (hv:v<BB^32) (hd:a+b=v+c2*BB^32) :
  Calls Tryz.prog 117 #[mV a,mV b] w fun e w'=>e=.returned (.tuple #[mV v,.bool (decide (c2=0))])∧Below w.heap.size w w':=by
 obtain ⟨w0,hw0,hb0,hs0,hA,hB⟩:=qjW w a b 23
 obtain ⟨w1,hw1⟩:∃ w1,w1=(w0.alloc (.cells (lv 32 0).toArray 23)).alloc (.cells (lv 32 0).toArray 23):=⟨_,rfl⟩
 have hb1:Below w0.heap.size w0 w1:=by rw [hw1];exact ((Below.refl _ _).alloc (Nat.le_refl _) _).alloc (by simp) _
 have hR:qMO w1 (w.heap.size+1+1) 0 32 0:=by
  rw [hw1,←hs0];exact (qMO.new w0 32 0 _).up ((Below.refl _ _).alloc (Nat.le_refl _) _) (by simp)
 have hO:qMO w1 (w.heap.size+1+1+1) 0 32 0:=by
  rw [hw1,←hs0]
  have:=qMO.new (w0.alloc (.cells (lv 32 0).toArray 23)) 32 0 23
  rwa [World.size_alloc] at this
 have HA:=hid (hA.up hb1)
 have HB:=hid (hB.up hb1)
 have HR:=hid hR
 have HO:=hid hO
 have HW:=hid (hb0.trans (hb1.mono hb0.size))
 rw [hw0] at hw1
 have HV:=hid (And.intro ha (And.intro hb (And.intro hv hd)))
 rw [qbF] at hw1
 unfold mV
 obtain ⟨va,hva⟩:∃ va,va=(lv 32 a).toArray:=⟨_,rfl⟩
 obtain ⟨vb,hvb⟩:∃ vb,vb=(lv 32 b).toArray:=⟨_,rfl⟩
 obtain ⟨vv,hvv⟩:∃ vv,vv=(lv 32 v).toArray:=⟨_,rfl⟩
 have HVV:=hid hvv
 rw [←hva,←hvb] at hw1 ⊢
 rw [←hvv]
 clear ha hb hv hd hb0 hs0 hA hB hva hvb hw0 hb1 hR hO hvv
 go_enter Tryz.func117,Tryz.ntmps117
 go_wp2_with fail
 rw [←hw1]
 clear hw1
 obtain ⟨B0,hB0⟩:∃ B0,B0=w.heap.size:=⟨_,rfl⟩
 have hB1:B0<w1.heap.size:=by rw [hB0];exact World.block_lt_of_cell? w1 _ (HA.out.get (k:=0) (by omega))
 have hB4:B0+1+1+1<w1.heap.size:=by rw [hB0];exact World.block_lt_of_cell? w1 _ (HO.out.1.get (k:=0) (by omega))
 have HBE:=hid hB0
 rw [←hB0] at HA HB HR HO ⊢
 clear hB0
 go_loopg [7,8] 32 (fun g bw iv wr=>∃ (i P c:Nat),i≤32∧32 - i≤g∧c≤1∧P<BB^i∧P+c*BB^i=a%BB^i+b%BB^i∧bw=.int .u64 c∧iv=.int .i64 i∧MagAt wr B0 0 32 a∧MagAt wr (B0+1) 0 32 b∧qMO wr (B0+1+1) 0 32 0∧qMO wr (B0+1+1+1) 0 32 P∧Below w.heap.size w wr)
 case atStart=>exact ⟨0,0,0,by omega,by omega,by omega,BP 0,by simp [Nat.mod_one],rfl,rfl,HA.out,HB.out,HR.out,HO.out,HW.out⟩
 case round =>
  obtain ⟨i,P,c,hi,hg,hc,hP,he,rfl,rfl,hA,hB,hR,hO,hW⟩:=hrel
  have HE:=hid he
  have HP:=hid hP
  have HA1:=hid hA
  have HB1:=hid hB
  have HR1:=hid hR
  have HO1:=hid hO
  have HW1:=hid hW
  clear he hP hA hB hR hO hW
  by_cases hlt:i<32
  ·have ca:=HA1.out.get hlt
   have cb:=HB1.out.get hlt
   have co:=HO1.out.1.get hlt
   have fo:=HO1.out.2 i hlt
   rw [Nat.zero_add] at ca cb co fo
   obtain ⟨x,hx⟩:∃ x,x=lim a i:=⟨_,rfl⟩
   obtain ⟨y,hy⟩:∃ y,y=lim b i:=⟨_,rfl⟩
   have hxl:x<BB:=hx ▸ qaC a i
   have hyl:y<BB:=hy ▸ qaC b i
   obtain ⟨d,c',V,hd,hc',hn,e1,e2,e4⟩:=qyA hxl hyl hc
   rw [←hx] at ca
   rw [←hy] at cb
   have HS:=hid (qoG HE.out (by rw [←hx,←hy];exact hn))
   have HPL:=hid (qgM HP.out hd)
   have HU:=hid (qdC (d:=d) HP.out)
   have HO2:=hid (HO1.out.set hlt hd)
   have hw1':IntKind.u64.wrap (x:Int)=(x:Int):=by unfold BB at hxl;rw [IntKind.wrap_u64];omega
   have hw2':IntKind.u64.wrap (y:Int)=(y:Int):=by unfold BB at hyl;rw [IntKind.wrap_u64];omega
   have HDD:=hid hd
   clear hx hy hxl hyl hn hd
   go_wp2
   go_quiet (fail)
   go_wp2
   have HU2:=hid (show qMO (wr.setCell ⟨B0+1+1+1,i,none⟩ (.int .u32 (d:Nat))) (B0+1+1+1) 0 32 (P+d*BB^i) by
    have:=HO2.out;rwa [HU.out,Nat.zero_add] at this)
   have hR2:=HR1.out.setOther ⟨B0+1+1+1,i,none⟩ (.int .u32 (d:Nat)) (show B0+1+1+1≠B0+1+1 by omega)
   have hA2:=HA1.out.setOther ⟨B0+1+1+1,i,none⟩ (.int .u32 (d:Nat)) (show B0+1+1+1≠B0 by omega)
   have hB2:=HB1.out.setOther ⟨B0+1+1+1,i,none⟩ (.int .u32 (d:Nat)) (show B0+1+1+1≠B0+1 by omega)
   have hW2:=qbB HW1.out ⟨B0+1+1+1,i,none⟩ (.int .u32 (d:Nat)) (show w.heap.size≤B0+1+1+1 by rw [←HBE.out];omega)
   go_roundg (gk - 1)
   case measure=>omega
   case rel=>exact ⟨i+1,P+d*BB^i,c',by omega,by omega,hc',HPL.out,HS.out,rfl,by go_num,hA2,hB2,hR2,HU2.out,⟨hW2.os,hW2.tape,hW2.output,hW2.size,hW2.block⟩⟩
  ·have hi32:i=32:=by omega
   subst hi32
   have hPv:P=v∧c=c2:=by
    obtain ⟨h1,h2,h3,h4⟩:=HV.out
    have h5:=HE.out
    rw [Nat.mod_eq_of_lt h1,Nat.mod_eq_of_lt h2,h4] at h5
    exact qmZ h3 HP.out hc h5
   obtain ⟨hPv,hcc⟩:=hPv
   have hcb:((c:Int)==0)=decide (c2=0):=by rw [hcc,Bool.eq_iff_iff];simp only [beq_iff_eq,decide_eq_true_eq];omega
   subst hPv
   obtain ⟨cs,hcs⟩:∃ cs,cs=lv 32 P:=⟨_,rfl⟩
   have HST:=hid (qcO (v:=P) HR1.out)
   have HBS:=hid (qaB (show w.heap.size≤B0+1+1 by rw [←HBE.out];omega) (lv 32 P) 0 wr HW1.out)
   have HTH:=hid (show wr.there (B0+1+1) 0 (lv 32 P).toArray.size by rw [List.size_toArray,qlL];exact HR1.out.there)
   have HLD:=hid (show wr.rangeAt (B0+1+1+1) 0 (lv 32 P) from HO1.out.1)
   have HSZ:=hid (qbA P)
   have HSA:=hid (show (Tryz.prog.info? 23).map (·.size)=some (lv 32 P).toArray.size by rw [List.size_toArray];exact qbA P)
   have HONE:=hid (all_oneCell_toArray (qbW 32 P))
   have HCS:=hid hcs
   have hvc:vv=cs.toArray:=by rw [HVV.out,hcs]
   rw [←hcs] at HBS HTH HLD HSZ HSA HONE
   have HVC:=hid hvc
   clear hcs hvc
   clear hcc
   go_wp2_with (first
    | (refine wpList_load_mid rfl _ _ rfl (B0+1+1+1) 0 rfl cs _ HLD.out Tryz.underlying23 rfl HSZ.out ?_)
    | (refine wpList_store_mid rfl _ _ _ rfl (B0+1+1) 0 _ rfl rfl HTH.out HSA.out HONE.out ?_))
   have hld:=run_loadVar_mid (P:=Tryz.prog) _ _ _ _ _ _ (show World.rangeAt (wr.setCells (B0+1+1) 0 cs) (B0+1+1) 0 cs by have:=HST.out;rw [←HCS.out] at this;unfold MagAt at this;rwa [←HCS.out] at this) Tryz.underlying23 rfl HSZ.out
   try simp only [Act.put,List.setIfInBounds_toArray,List.set_cons_zero,List.set_cons_succ]
   refine bodyPost_ret (v:=.tuple #[.agg cs.toArray,.bool (decide (c2=0))]) (by simp [results,Tryz.results117,asAddr,hld]) rfl ?_
   exact ⟨by rw [HVC.out],HBS.out⟩
end Go.Proofs.YtooeabibhjbkoaaGreat
