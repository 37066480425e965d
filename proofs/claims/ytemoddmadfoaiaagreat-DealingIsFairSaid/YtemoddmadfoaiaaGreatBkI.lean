import Derived.Test.YtemoddmadfoaiaaGreatFl2
import Derived.Test.YtemoddmadfoaiaaGreatApB
set_option linter.unusedVariables false
set_option linter.unusedSimpArgs false
set_option maxRecDepth 100000
set_option maxHeartbeats 4000000
namespace Go.Proofs.YtemoddmadfoaiaaGreat
open Go.RowKit Big
open Lib (hid)
theorem qxG (x:Int) (w:World) (h0:0≤x) (h1:x≤4294967295) :
  Calls Tryz.prog 189 #[.int .u32 x] w fun e w'=>e=.returned (.int .i64 (Lib.bitLen x.toNat))∧w=w':=by
 go_enter Tryz.func189,Tryz.ntmps189
 go_wp2
 all_goals first
  | (exfalso;have hsz:=Lib.len8tab_size;omega)
  | (go_ret;refine ⟨congrArg Ending.returned (congrArg (Value.int IntKind.i64) ?_),rfl⟩)
 all_goals rw [Ap.len8_get]
 ·exact Ap.len_fin 24 _ _ (Ap.len_8 _ (by omega) (by omega)) (by decide) (Ap.len_at x h0 (by omega) _ 24 (by simp [Int.ediv_ediv]) (by omega) (by omega))
 ·exact Ap.len_fin 16 _ _ (Ap.len_8 _ (by omega) (by omega)) (by decide) (Ap.len_at x h0 (by omega) _ 16 (by simp [Int.ediv_ediv]) (by omega) (by omega))
 ·exact Ap.len_fin 8 _ _ (Ap.len_8 _ (by omega) (by omega)) (by decide) (Ap.len_at x h0 (by omega) _ 8 (by simp [Int.ediv_ediv]) (by omega) (by omega))
 ·exact Ap.len_fin0 _ (Ap.len_8 _ (by omega) (by omega))
theorem qzH {x:Nat} (hx:x<BB):IsBits x (Lib.bitLen x):=by
 have hx2:x<2^64:=by unfold BB at hx;omega
 obtain ⟨h1,h2⟩:=Ap.bitLen_aux 64 x hx2;refine ⟨h1,fun h=>?_⟩
 have h0:x≠0:=fun e=>by
  subst e
  have:Lib.bitLen 0=0:=by decide
  omega
 exact (h2 h0).2
theorem qrX (x m:Nat) (w:World) (hx:x<BB) (hm:IsBits x m) :
  Calls Tryz.prog 189 #[.int .u32 (x:Int)] w fun e w'=>e=.returned (.int .i64 (m:Int))∧w=w':=by
 have h:=qxG (x:Int) w (by omega) (by unfold BB at hx;omega);simp only [Int.toNat_natCast] at h
 rwa [(qzH hx).unique hm] at h
theorem jfH (x m:Nat) (w:World) (hx:x<BB) (hm:IsBits x m) (hm32:m≤32) :
  Calls Tryz.prog 167 #[.int .u32 (x:Int)] w fun e w'=>e=.returned (.int .i64 ((32 - m:Nat):Int))∧w=w':=by
 have H:=hid (fun W=>qrX x m W hx hm);have e1:IntKind.i64.wrap (32 - (m:Int))=((32 - m:Nat):Int):=by rw [IntWalk.i64_in _ (by omega)];omega
 clear hx hm;go_enter Tryz.func167,Tryz.ntmps167
 go_wp2_with (go_at_call 189;refine (H.out _).mono ?_;rintro e w' ⟨rfl,rfl⟩)
 go_ret
 exact ⟨by first|rfl|rw [e1],rfl⟩
theorem qyH {h l X:Nat} (hh:h<4294967296) (hl:l<4294967296) (hX:X=h*4294967296+l):bits BinOp.or IntKind.u64 (IntKind.u64.wrap ((h:Int)*4294967296)) (l:Int)=(X:Int):=by
 have e1:IntKind.u64.wrap ((h:Int)*4294967296)=((h*4294967296:Nat):Int):=by rw [IntKind.wrap_u64];omega
 rw [e1,bits_or_u64_nat _ _ (by omega) (by omega)];have e2:h*4294967296 ||| l=h*4294967296+l:=qiB (i:=32) hl (by omega)
 rw [e2,hX]
theorem jcD (h l y q r:Nat) (w:World) (hh:h<y) (hl:l<BB) (hy:y<BB) (hq:(h*BB+l) / y=q) (hr:(h*BB+l)%y=r) :
  CB 188 #[.int .u32 (h:Int),.int .u32 (l:Int),.int .u32 (y:Int)] (.tuple #[.int .u32 (q:Int),.int .u32 (r:Int)]) w:=by
 unfold BB at hl hy hq hr;have hq2:q<4294967296:=by rw [←hq];exact (Nat.div_lt_iff_lt_mul (by omega)).2 (by have:=Nat.mul_le_mul_right 4294967296 hh;rw [Nat.succ_mul] at this;rw [Nat.mul_comm 4294967296 y];omega)
 have hr2:r<4294967296:=by rw [←hr];exact Nat.lt_of_lt_of_le (Nat.mod_lt _ (by omega)) (by omega)
 obtain ⟨X,hX⟩:=nqx (h*4294967296+l);rw [←hX] at hq hr;have ho:=qyH (show h<4294967296 by omega) hl hX;have wh:IntKind.u64.wrap (h:Int)=(h:Int):=by rw [IntKind.wrap_u64];omega
 have wl:IntKind.u64.wrap (l:Int)=(l:Int):=by rw [IntKind.wrap_u64];omega
 have wy:IntKind.u64.wrap (y:Int)=(y:Int):=by rw [IntKind.wrap_u64];omega
 have y0:((y:Int)==0)=false:=beq_eq_false_iff_ne.2 (by omega);have y1:(y:Int)≠0:=by omega
 have hle:¬(y:Int)≤(h:Int):=by omega
 have e1:Int.tdiv (X:Int) (y:Int)=(q:Int):=by rw [←hq];exact (Int.ofNat_tdiv X y).symm
 have e2:Int.tmod (X:Int) (y:Int)=(r:Int):=by rw [←hr];exact (Int.ofNat_tmod X y).symm
 have e3:IntKind.u64.wrap (q:Int)=(q:Int):=by rw [IntKind.wrap_u64];omega
 have e4:IntKind.u64.wrap (r:Int)=(r:Int):=by rw [IntKind.wrap_u64];omega
 have e5:IntKind.u32.wrap (q:Int)=(q:Int):=by rw [IntKind.wrap_u32];omega
 have e6:IntKind.u32.wrap (r:Int)=(r:Int):=by rw [IntKind.wrap_u32];omega
 have HW:=hid (Below.refl w.heap.size w);clear hh hl hy hq hr hq2 hr2 hX;go_enter Tryz.func188,Tryz.ntmps188
 go_wp2
 go_quiet (fail)
 go_wp2
 go_ret2
 exact ⟨rfl,by first|exact HW.out|exact below_drewN HW.out _⟩
set_option maxHeartbeats 2000000
theorem jcU {v n:Nat} (hv:v<BB^32) (h:IsBits v n):n≤1024:=by
 rcases Nat.lt_or_ge 1024 n with hlt|hle
 ·have h1:=h.2 (by omega);have h2:=Nat.pow_le_pow_right (show 0<2 by omega) (show 1024≤n - 1 by omega);rw [qfY] at hv;omega
 ·exact hle
theorem qiO (v n b o:Nat) (w:World) (h:At w b o (lv 32 v)) (hv:v<BB^32) (hn:IsBits v n) :
  Calls Tryz.prog 172 #[.pointer (some ⟨b,o,none⟩)] w fun e w'=>e=.returned (.int .i64 (n:Int))∧w=w':=by
 obtain ⟨N,hN32,hN⟩:=qLE v 32 hv;have HA:=hid h;have HU:=hid (qeU v N b o w h hv hN);have HN:=hid (And.intro hN (And.intro hn hv));clear h hv hn hN;go_enter Tryz.func172,Tryz.ntmps172
 cases N with
 | zero =>
  have hv0:v=0:=HN.out.1.eq_zero
  have HE:=hid (show (0:Int)=(n:Int) by
   have h:=HN.out.2.1;rw [hv0] at h;rw [h.zero];rfl)
  clear hv0;go_wp2_with (go_at_call 164;refine HU.out.mono ?_;rintro e w' ⟨rfl,rfl⟩)
  go_ret
  exact ⟨qaK HE.out,rfl⟩
 | succ j =>
  have hj32:j<32:=by omega
  have hc:=HA.out.limb hj32;have hN1:=HN.out.1
  have hz:lim v j≠0:=fun h=>by
   have h1:=qdO hN1.1 h;have h2:=hN1.2 (by omega);simp only [Nat.add_sub_cancel] at h2;omega
  obtain ⟨x,hx⟩:=nqx (lim v j);obtain ⟨m,hm⟩:=qaO x;have hxl:x<BB:=hx ▸ qaG v j;have HT:=hid (show 32*j+m=n from IsBits.unique (qpJ hN1.1 hz (by rw [←hx];exact hm)) HN.out.2.1);have HM:=hid (jcU HN.out.2.2 HN.out.2.1);have HL:=hid (fun W=>qrX x m W hxl hm);rw [←hx] at hc;obtain ⟨J,hJ⟩:=nqx (j+1:Nat);have e0:((J:Int)==0)=false:=beq_eq_false_iff_ne.2 (by omega);have e1:IntKind.i64.wrap ((J:Int) - 1)=(j:Int):=by rw [IntWalk.i64_in _ (by omega)];omega
  have e1':(J:Int) - 1=(j:Int):=by omega
  have ew:IntKind.i64.wrap (j:Int)=(j:Int):=IntWalk.i64_in _ (by omega);have e2:IntKind.i64.wrap (32*(j:Int))=((32*j:Nat):Int):=by rw [show (32:Int)*(j:Int)=((32*j:Nat):Int) by omega];exact IntWalk.i64_in _ (by omega)
  have e3:IntKind.i64.wrap (((32*j:Nat):Int)+(m:Int))=(n:Int):=by have h1:=HT.out;have h2:=HM.out;rw [IntWalk.i64_in _ (by omega)];omega
  have hk0:(0:Int)≤(j:Int):=by omega
  rw [←hJ] at HU;obtain ⟨K,hK⟩:∃ K,K=32*j:=⟨_,rfl⟩;rw [←hK] at e2 e3;clear hN1 hz hx hm hxl hJ hK;go_wp2_with (first|(go_at_call 164;refine HU.out.mono ?_;rintro e w' ⟨rfl,rfl⟩)|(go_at_call 189;refine (HL.out _).mono ?_;rintro e w' ⟨rfl,rfl⟩))
  go_ret
  exact ⟨by first|rfl|rw [e3],rfl⟩
set_option maxHeartbeats 8000000
theorem At.same {w w':World} {b o:Nat} {cs:List Value} (h:At w b o cs) (hh:w'.heap=w.heap):At w' b o cs:=by
 have hk:w'.heap[b]?=w.heap[b]?:=by rw [hh]
 refine ⟨fun j v hj=>?_,fun j hj=>?_,by rw [hh];exact h.lt⟩
 ·rw [World.cell?_of_block (w:=w) hk];exact h.range j v hj
 ·rw [World.cell?_of_block (w:=w) hk,World.frozen?_of_block (w:=w) hk];exact h.there j hj
theorem At.put {w:World} {b n v i d:Nat} {c c2:List Value} (h:At w b 0 c) (hc:c=lv n v) (hi:i<n) (hd:d<BB) (h2:c2=lv n (upd v i d)):At (w.setCell ⟨b,i,none⟩ (.int .u32 (d:Int))) b 0 c2:=by
 subst hc h2;have ho:qMO w b 0 n v:=⟨h.range,fun j hj=>(h.there j (by rw [qlL];exact hj)).2⟩
 have:=ho.set hi hd
 rw [Nat.zero_add] at this;exact ⟨this.1,by have:=this.there;rwa [qlL],by rw [World.size_setCell];exact h.lt⟩
theorem At.putOther {w:World} {b o:Nat} {c:List Value} (h:At w b o c) (p:Addr) (u:Value) (hp:p.block≠b):At (w.setCell p u) b o c :=
 ⟨fun j x hx=>qcF (h.range j x hx) p u hp,qeW h.there p u hp,by rw [World.size_setCell];exact h.lt⟩
theorem Fr.put {Z:Nat} {w w1:World} (h:Fr Z w w1) (p:Addr) (u:Value) (hz:Z≤p.block):Fr Z w (w1.setCell p u):=⟨qbY h.below p u hz,by rw [World.size_setCell];exact h.le⟩
theorem Fr.same {Z:Nat} {w w1 w2:World} (h:Fr Z w w1) (d:Nat) (h2:w2=w1.drewN d):Fr Z w w2:=by subst h2;exact ⟨below_drewN h.below d,h.le⟩
structure Only (b:Nat) (w w':World):Prop where
 os:w'.os=w.os
 tape:w'.tape=w.tape
 output:w'.output=w.output
 le:w.heap.size≤w'.heap.size
 keep:∀ k,k<w.heap.size→k≠b→w'.heap[k]?=w.heap[k]?
theorem Only.start (b:Nat) (w:World):Only b w w:=⟨rfl,rfl,rfl,Nat.le_refl _,fun _ _ _=>rfl⟩
theorem Only.flow {b:Nat} {w w1 w2:World} {pl:List Pl} {β:Nat→Nat} (h:Only b w w1) (E:FlowE pl w1 β w2) (hz:∀ p∈pl,p.new=false→p.b=b):Only b w w2 :=
 ⟨E.os.trans h.os,E.tape.trans h.tape,E.output.trans h.output,Nat.le_trans h.le E.big,fun k hk hne =>
  (E.keep k (Nat.lt_of_lt_of_le hk h.le) fun p hp hn e=>hne (by rw [←e,hz p hp hn])).trans (h.keep k hk hne)⟩
theorem At.only {b b2 o:Nat} {w w':World} {cs:List Value} (h:At w b o cs) (hO:Only b2 w w') (hne:b2≠b):At w' b o cs:=by
 have hk:=hO.keep b h.lt (fun e=>hne e.symm);refine ⟨fun j v hj=>?_,fun j hj=>?_,Nat.lt_of_lt_of_le h.lt hO.le⟩
 ·rw [World.cell?_of_block (w:=w) hk];exact h.range j v hj
 ·rw [World.cell?_of_block (w:=w) hk,World.frozen?_of_block (w:=w) hk];exact h.there j hj
theorem Fr.only {Z b:Nat} {w w1 w2:World} (h:Fr Z w w1) (hO:Only b w1 w2) (hz:Z≤b):Fr Z w w2 :=
 ⟨h.below.trans ⟨hO.os,hO.tape,hO.output,hO.le,fun k hk=>hO.keep k (Nat.lt_of_lt_of_le hk h.le) (by omega)⟩,Nat.le_trans h.le hO.le⟩
namespace Big
theorem quP (v k q:Nat):upd v k q / BB^k=q+v / BB^(k+1)*BB:=by
 unfold upd;have e:v / BB^(k+1)*BB^(k+1)=v / BB^(k+1)*BB*BB^k:=by rw [qdI,Nat.mul_assoc]
 rw [e,Nat.add_assoc,←Nat.add_mul,Nat.add_mul_div_right _ _ (BP k),Nat.div_eq_of_lt (Nat.mod_lt _ (BP k)),Nat.zero_add]
theorem quO (v k q:Nat):upd v k q%BB^k=v%BB^k:=by
 unfold upd;have e:v / BB^(k+1)*BB^(k+1)=v / BB^(k+1)*BB*BB^k:=by rw [qdI,Nat.mul_assoc]
 rw [e,Nat.add_assoc,←Nat.add_mul,Nat.add_mul_mod_self_right,Nat.mod_mod]
theorem qtB {M v x r k y q r2:Nat} (h:M / BB^(k+1)*x+r=v / BB^(k+1)) (hl:M%BB^(k+1)=v%BB^(k+1)) (hr:r<x) (hy:y=lim M k) (hq:(r*BB+y) / x=q) (hr2:(r*BB+y)%x=r2) :
  upd M k q / BB^k*x+r2=v / BB^k∧upd M k q%BB^k=v%BB^k∧r2<x∧q<BB:=by
 have hyv:y=lim v k:=by
  rw [hy];have h1:=qbF M k;have h2:=qbF v k;have h3:M%BB^(k+1) / BB^k=v%BB^(k+1) / BB^k:=by rw [hl]
  rw [h1,h2,Nat.add_mul_div_right _ _ (BP k),Nat.add_mul_div_right _ _ (BP k),Nat.div_eq_of_lt (Nat.mod_lt _ (BP k)),Nat.div_eq_of_lt (Nat.mod_lt _ (BP k))] at h3;omega
 have hyl:y<BB:=hy ▸ qaG M k;have hd:=Nat.div_add_mod (r*BB+y) x;rw [hq,hr2] at hd;refine ⟨?_,?_,by rw [←hr2];exact Nat.mod_lt _ (by omega),?_⟩
 ·rw [quP,qcG v k,←hyv,←h,Nat.add_mul,Nat.add_mul];have e:M / BB^(k+1)*BB*x=M / BB^(k+1)*x*BB:=by rw [Nat.mul_assoc,Nat.mul_assoc,Nat.mul_comm BB x]
  rw [e,Nat.mul_comm q x];omega
 ·rw [quO];have e1:M%BB^(k+1)%BB^k=M%BB^k:=Nat.mod_mod_of_dvd _ (by rw [qdI];exact Nat.dvd_mul_left _ _);have e2:v%BB^(k+1)%BB^k=v%BB^k:=Nat.mod_mod_of_dvd _ (by rw [qdI];exact Nat.dvd_mul_left _ _);rw [←e1,←e2,hl]
 ·rw [←hq,Nat.div_lt_iff_lt_mul (by omega)]
  have:=Nat.mul_le_mul_right BB (show r+1≤x by omega)
  rw [Nat.succ_mul] at this;rw [Nat.mul_comm BB x];omega
theorem qvI {M v x r:Nat} (h:M / BB^0*x+r=v / BB^0) (hr:r<x):M=v / x∧r=v%x:=by
 simp only [Nat.pow_zero,Nat.div_one] at h;refine ⟨?_,?_⟩
 ·rw [←h,Nat.mul_comm,Nat.mul_add_div (by omega),Nat.div_eq_of_lt hr,Nat.add_zero]
 ·rw [←h,Nat.mul_comm,Nat.mul_add_mod,Nat.mod_eq_of_lt hr]
end Big
theorem jaH {cm cq:List Value} {v x b:Nat} (w:World) (h:At w b 0 cm) (hc:cm=lv 32 v) (hq:cq=lv 32 (v / x)) (hv:v<BB^32) (hx0:0<x) (hx:x<BB) :
  Calls Tryz.prog 166 #[.pointer (some ⟨b,0,none⟩),.int .u32 (x:Int)] w fun e w'=>e=.returned (.int .u32 ((v%x:Nat):Int))∧Only b w w'∧At w' b 0 cq:=by
 obtain ⟨N,hN32,hN⟩:=qLE v 32 hv;have HU:=hid (qeU v N b 0 w (hc ▸ h) hv hN);have Ab:=hid h;have V_cm:=hid hc;have V_cq:=hid hq;have HN:=hid (And.intro hN (And.intro hv (And.intro hx0 hx)));clear h hc hq hv hx hN hx0;have e1:IntKind.i64.wrap ((N:Int) - 1)=(N:Int) - 1:=IntWalk.i64_in _ (by omega);go_enter Tryz.func166,Tryz.ntmps166
 go_wp2_with (go_at_call 164;refine HU.out.mono ?_;rintro e w' ⟨rfl,rfl⟩)
 go_loopg [5,6] N (fun g rv iv wr=>∃ (k M r:Nat) (z:Int),k≤32∧k≤g∧z=(k:Int) - 1∧rv=.int .u32 (r:Int)∧iv=.int .i64 z∧r<x∧M / BB^k*x+r=v / BB^k∧M%BB^k=v%BB^k∧At wr b 0 (lv 32 M)∧Only b w wr)
 case atStart=>exact ⟨N,v,0,_,hN32,by omega,by first|rfl|exact e1,rfl,rfl,HN.out.2.2.1,by rw [Nat.div_eq_of_lt HN.out.1.1];simp,rfl,by have:=Ab.out;rwa [V_cm.out] at this,Only.start b w⟩
 case round =>
  obtain ⟨k,M,r,z,hk,hg,hz,rfl,rfl,hr,he,hl,hA,hO⟩:=hrel;obtain ⟨cp,V_cp⟩:=nvx (lv 32 M);replace Ab:=hid (show At wr b 0 cp by rw [V_cp.out];exact hA);have FR:=hid hO;have HE:=hid (And.intro he (And.intro hl hr));clear he hl hr hA hO
  cases k with
  | zero =>
   have hz1:z=-1:=by omega
   subst hz1;have HR:=hid (qvI HE.out.1 HE.out.2.2);clear hz;go_wp2
   go_ret
   exact ⟨qaK (congrArg (fun n:Nat=>(n:Int)) HR.out.2),FR.out,by rw [V_cq.out,←HR.out.1,←V_cp.out];exact Ab.out⟩
  | succ j =>
   have hz1:z=(j:Int):=by omega
   subst hz1;have hlt:j<32:=by omega
   obtain ⟨y,hy⟩:=nqx (lim M j);obtain ⟨q,hq⟩:∃ q,(r*BB+y) / x=q:=⟨_,rfl⟩;obtain ⟨r2,hr2⟩:∃ r2,(r*BB+y)%x=r2:=⟨_,rfl⟩;have HST:=hid (qtB HE.out.1 HE.out.2.1 HE.out.2.2 hy hq hr2);have HD:=hid (fun W=>jcD r y x q r2 W HE.out.2.2 (hy ▸ qaG M j) HN.out.2.2.2 hq hr2);have HY:=hid hy;have hk0:(0:Int)≤(j:Int):=by omega
   have hj1:IntKind.i64.wrap ((j:Int) - 1)=(j:Int) - 1:=IntWalk.i64_in _ (by omega);clear hz hy hq hr2;go_upto_region 5 with fail
   obtain ⟨cn,V_cn⟩:=nvx (lv 32 (upd M j q));refine qgH [⟨false,0,28,15,b,0,22,25,cn,j,[.int .u32 (q:Int)],cp⟩] [(15,.pointer (some ⟨b,0,none⟩)),(16,.int .i64 (j:Int)),(17,.int .u32 (r:Int)),(18,.pointer (some ⟨b,0,none⟩)),(19,.int .i64 (j:Int)),(20,.pointer (some ⟨b,0,none⟩)),(21,.pointer (some ⟨b,j,none⟩)),(22,.int .u32 (y:Int)),(23,.int .u32 (x:Int)),(24,.tuple #[.int .u32 (q:Int),.int .u32 (r2:Int)]),(14,.tuple #[.int .u32 (q:Int),.int .u32 (r2:Int)]),(25,.int .u32 (q:Int)),(26,.int .u32 (r2:Int)),(27,.pointer (some ⟨b,0,none⟩)),(28,.pointer (some ⟨b,j,none⟩)),(5,.int .u32 (r2:Int))] [(5,.int .u32 (r:Int))] _ _ (by simp only [zz4,zz5,zq];rfl) (by simp only [zz4,zz5,zq];rfl) (jhP _ _ rfl (jbS)) (by kernel_rfl) (by kernel_rfl) ?_ ?_ ?_ ?_ ?_ ?_ ?_
   ·intro W' hW';have cl1:=fun p os=>qaB ((Ab.out.below hW').limbV V_cp.out HY.out hlt) p os
    iterate 2 (refine qgG (by kernel_rfl) ?_ ?_;(go_big_quiet_step (fail);(try simp only [zq]);exact wqn rfl))
    refine jdO (by kernel_rfl) ?_ ?_;(go_big_quiet_step (fail);(try simp only [zq]);exact wqn rfl);iterate 6 (refine qgG (by kernel_rfl) ?_ ?_;(go_big_quiet_step (fail);(try simp only [zq]);exact wqn rfl))
    refine qgG (by kernel_rfl) ?_ ?_;(go_big_quiet_step ((go_at_call 188;exact qaA (HD.out _)));(try simp only [zq]);exact wqn rfl);iterate 5 (refine qgG (by kernel_rfl) ?_ ?_;(go_big_quiet_step (fail);(try simp only [zq]);exact wqn rfl))
    refine qhA (by rfl) ?_;refine qgG (by kernel_rfl) ?_ ?_;(go_big_quiet_step (fail);(try simp only [zq]);exact wqn rfl);exact qcN
   ·intro W' hK';iterate 2 (first|(refine qgG (by kernel_rfl) ?_ ?_;(go_big_quiet_step (fail);(try simp only [zq]);exact wqn rfl))|(refine qhA (by kernel_rfl) ?_))
    first|(refine jdO (by kernel_rfl) ?_ ?_;(go_big_quiet_step (fail);(try simp only [zq]);exact wqn rfl))|(refine qhA (by kernel_rfl) ?_)
    iterate 6 (first|(refine qgG (by kernel_rfl) ?_ ?_;(go_big_quiet_step (fail);(try simp only [zq]);exact wqn rfl))|(refine qhA (by kernel_rfl) ?_))
    refine qhA (by kernel_rfl) ?_;iterate 5 (first|(refine qgG (by kernel_rfl) ?_ ?_;(go_big_quiet_step (fail);(try simp only [zq]);exact wqn rfl))|(refine qhA (by kernel_rfl) ?_))
    refine qhA (by kernel_rfl) ?_
    first|(refine qgG (by kernel_rfl) ?_ ?_;(go_big_quiet_step (fail);(try simp only [zq]);exact wqn rfl))|(refine qhA (by kernel_rfl) ?_)
    exact qcN
   ·exact fP1 (bnc)
   ·exact fP1 (fun _=>⟨Ab.out.lt,rfl,At.roomC Ab.out ((qeD V_cp.out V_cn.out hlt HST.out.2.2.2))⟩)
   ·exact uno
   ·exact fP1 (qeK rfl rfl Tryz.infoU rfl (by rw [V_cp.out,qlL];omega) (qeD V_cp.out V_cn.out hlt HST.out.2.2.2))
   intro β wx1 E;replace FR:=hid (FR.out.flow E (oP _ _ (fun _=>rfl) (oN)));replace Ab:=aoh E Ab mms;simp only [nP,zu];go_wp2
   go_roundg (gk - 1)
   case measure=>omega
   case rel=>exact ⟨j,upd M j q,r2,_,by omega,by omega,rfl,rfl,by first|rfl|rw [hj1],HST.out.2.2.1,HST.out.1,HST.out.2.1,by have:=Ab.out;rwa [V_cn.out] at this,FR.out⟩
end Go.Proofs.YtemoddmadfoaiaaGreat
namespace Go.Proofs.YtemoddmadfoaiaaGreat
namespace Big
theorem jdM (b i:Nat):lim (b*BB) (i+1)=lim b i:=by
 unfold lim;rw [qdI,←Nat.div_div_eq_div_mul,Nat.mul_div_cancel _ qbH]
theorem jfI (b:Nat):lim (b*BB) 0=0:=by
 unfold lim;rw [Nat.pow_zero,Nat.div_one,Nat.mul_mod_left]
theorem qmK {x s:Nat} (hs:s≤32):x%2^(32 - s)*2^s=x*2^s%BB:=by
 have e3:BB=2^(32 - s)*2^s:=by rw [qdB,←Nat.pow_add];congr 1;omega
 rw [e3,Nat.mul_mod_mul_right]
theorem qxE (b s i:Nat) (hs:s<32):lim (b*2^s) i=lim b i*2^s%BB+(if i=0 then 0 else lim b (i - 1) / 2^(32 - s)):=by
 rcases Nat.eq_zero_or_pos s with h0|h0
 ·subst h0;have hl:∀ k,lim b k / 2^32=0:=fun k=>by rw [←qdB];exact Nat.div_eq_of_lt (qaG b k)
  rw [Nat.pow_zero,Nat.mul_one,Nat.mul_one,Nat.mod_eq_of_lt (qaG b i),Nat.sub_zero,hl];simp
 ·have h:=qgM (b*BB) 0 (32 - s) i (by omega)
  have e:b*BB / 2^(32*0+(32 - s))=b*2^s:=by
   have e3:BB=2^s*2^(32 - s):=by rw [qdB,←Nat.pow_add];congr 1;omega
   rw [Nat.mul_zero,Nat.zero_add,e3,←Nat.mul_assoc,Nat.mul_div_cancel _ (tp _)]
  rw [e,Nat.add_zero,jdM,show 32 - (32 - s)=s by omega,qmK (by omega)] at h;rw [h]
  cases i with
  | zero=>rw [jfI];simp
  | succ k=>rw [jdM];simp;omega
theorem qrA (V i:Nat):upd (V / BB^(i+1)*BB^(i+1)) i (lim V i)=V / BB^i*BB^i:=by
 have e:V / BB^(i+1)*BB^(i+1)=V / BB^(i+1)*BB*BB^i:=by rw [qdI,Nat.mul_assoc]
 unfold upd;rw [Nat.mul_div_cancel _ (BP (i+1)),e,Nat.mul_mod_left,Nat.zero_add,←Nat.add_mul,←qcG]
theorem qkX (v i x y:Nat) (hx:x<BB):upd (upd v i x) i y=upd v i y:=by
 have h1:=quO v i x
 have h2:upd v i x / BB^(i+1)=v / BB^(i+1):=by
  rw [Nat.pow_succ,←Nat.div_div_eq_div_mul,quP,Nat.add_mul_div_right _ _ qbH,Nat.div_eq_of_lt hx,Nat.zero_add];rw [Nat.pow_succ]
 unfold upd at *;rw [h1,h2]
theorem qmX (V i:Nat):lim (V / BB^(i+1)*BB^(i+1)) i=0:=by
 have e:V / BB^(i+1)*BB^(i+1)=V / BB^(i+1)*BB*BB^i:=by rw [qdI,Nat.mul_assoc]
 unfold lim;rw [e,Nat.mul_div_cancel _ (BP i),Nat.mul_mod_left]
theorem jhD {X V j n high next u2 u1 u0 x q:Nat} (hn:2≤n) (hX:X<V*BB^(j+1)) (hV:V<BB^n) (hV0:0<V) (hh:high=lim V (n - 1)) (hx2:next=lim V (n - 2)) (h2:u2=lim X (j+n)) (h1:u1=lim X (j+n - 1)) (h0:u0=lim X (j+n - 2)) (hx:x=u2*BB+u1)
  (hq:q=X / (V*BB^j)):x*BB+u0=X / BB^(j+n - 2)∧high*BB+next=V / BB^(n - 2)∧u2≤high∧q<BB∧q*(high*BB+next)≤x*BB+u0:=by
 have hXB:X<BB^(j+n+1):=by
  have:V*BB^(j+1)<BB^n*BB^(j+1):=Nat.mul_lt_mul_of_pos_right hV (BP _)
  rw [←Nat.pow_add,show n+(j+1)=j+n+1 by omega] at this;omega
 have eh:high=V / BB^(n - 1):=by
  rw [hh,qcG V (n - 1),show n - 1+1=n by omega,Nat.div_eq_of_lt hV,Nat.zero_mul,Nat.add_zero]
 have e2:u2=X / BB^(j+n):=by
  rw [h2,qcG X (j+n),Nat.div_eq_of_lt hXB,Nat.zero_mul,Nat.add_zero]
 have e1:x=X / BB^(j+n - 1):=by
  rw [qcG X (j+n - 1),show j+n - 1+1=j+n by omega,←e2,hx,←h1];omega
 have a1:x*BB+u0=X / BB^(j+n - 2):=by
  rw [qcG X (j+n - 2),show j+n - 2+1=j+n - 1 by omega,←e1,←h0];omega
 have a2:high*BB+next=V / BB^(n - 2):=by
  rw [qcG V (n - 2),show n - 2+1=n - 1 by omega,←eh,←hx2];omega
 refine ⟨a1,a2,?_,?_,?_⟩
 ·rw [e2];have hVt:V<(high+1)*BB^(n - 1):=by rw [eh];exact Nat.lt_mul_of_div_lt (Nat.lt_succ_self _) (BP _)
  have:X<(high+1)*BB^(j+n):=by
   calc X<V*BB^(j+1):=hX
    _≤(high+1)*BB^(n - 1)*BB^(j+1):=Nat.mul_le_mul_right _ (Nat.le_of_lt hVt)
    _=(high+1)*BB^(j+n):=by rw [Nat.mul_assoc,←Nat.pow_add];congr 2;omega
  have:=(Nat.div_lt_iff_lt_mul (BP (j+n))).2 this
  omega
 ·rw [hq,Nat.div_lt_iff_lt_mul (Nat.mul_pos hV0 (BP j))]
  calc X<V*BB^(j+1):=hX
   _=BB*(V*BB^j):=by rw [qdI,Nat.mul_left_comm]
 ·exact jbI hn a2 a1 hq
theorem jbE {high next x u0 q g r:Nat} (hh:0<high) (hab:q*(high*BB+next)≤x*BB+u0) (h0:u0<BB) (hg:g=x / high) (hr:r=x%high):g*high+r=x∧q≤g:=by
 refine ⟨by rw [hg,hr,Nat.mul_comm];exact Nat.div_add_mod x high,?_⟩;rw [hg,Nat.le_div_iff_mul_le hh];rcases Nat.lt_or_ge x (q*high) with h|h
 ·exfalso
  have h1:(x+1)*BB≤q*high*BB:=Nat.mul_le_mul_right _ h;have h2:q*(high*BB+next)=q*high*BB+q*next:=by rw [Nat.mul_add,Nat.mul_assoc]
  rw [Nat.succ_mul] at h1;omega
 ·exact h
theorem qxH {high next x u0 q g r:Nat} (hx:g*high+r=x) (hq:q≤g) (hqB:q<BB) (hab:q*(high*BB+next)≤x*BB+u0) (hc:BB≤g∨r*BB+u0<g*next):q+1≤g:=by
 rcases hc with hc|hc
 ·omega
 ·rcases Nat.lt_or_ge q g with h|h
  ·omega
  ·exfalso
   have:g=q:=by omega
   subst this;have h2:g*(high*BB+next)=g*high*BB+g*next:=by rw [Nat.mul_add,Nat.mul_assoc]
   have h3:x*BB=g*high*BB+r*BB:=by rw [←hx,Nat.add_mul]
   omega
theorem qjL {high next x u0 g r:Nat} (hx:g*high+r=x) (h:g*next≤r*BB+u0):g*(high*BB+next)≤x*BB+u0:=by
 have h2:g*(high*BB+next)=g*high*BB+g*next:=by rw [Nat.mul_add,Nat.mul_assoc]
 have h3:x*BB=g*high*BB+r*BB:=by rw [←hx,Nat.add_mul]
 omega
theorem jbH {high next x u2 u1 u0 g r:Nat} (hh:0<high) (hx:g*high+r=x) (hx2:x=u2*BB+u1) (h1:u1<BB) (h2:u2≤high) (hn:next<BB) (hr:BB≤r):g<BB∧g*next≤r*BB+u0:=by
 have hb:u2*BB≤high*BB:=Nat.mul_le_mul_right _ h2
 have hg:g<BB:=by
  rcases Nat.lt_or_ge g BB with h|h
  ·exact h
  ·exfalso
   have:BB*high≤g*high:=Nat.mul_le_mul_right _ h
   rw [Nat.mul_comm BB high] at this;omega
 refine ⟨hg,?_⟩;have a1:g*next≤BB*BB:=Nat.mul_le_mul (by omega) (by omega)
 have a2:BB*BB≤r*BB:=Nat.mul_le_mul_right _ hr;omega
theorem qxR {high x u2 u1:Nat} (hh:BB / 2≤high) (hx2:x=u2*BB+u1) (h1:u1<BB) (h2:u2≤high):x / high≤BB+1:=by
 have hb:u2*BB≤high*BB:=Nat.mul_le_mul_right _ h2;have hB:BB / 2=2147483648:=by unfold BB;decide
 have:x<(BB+2)*high:=by
  rw [Nat.add_mul,Nat.mul_comm BB high]
  have:BB≤2*high:=by unfold BB at *;omega
  omega
 have:=(Nat.div_lt_iff_lt_mul (by omega)).2 this
 omega
theorem jaT {g v c:Nat} (hg:g<BB) (hv:v<BB) (hc:c<BB):∃ tl th:Nat,tl<BB∧th<BB∧g*v+c=tl+th*BB:=by
 have h1:g*v≤(BB - 1)*(BB - 1):=Nat.mul_le_mul (by omega) (by omega);have h2:(BB - 1)*(BB - 1)=18446744065119617025:=by unfold BB;decide
 obtain ⟨p,hp⟩:=nqx (g*v);rw [←hp] at h1 ⊢;rw [h2] at h1;unfold BB at *;exact ⟨(p+c)%4294967296,(p+c) / 4294967296,by omega,by omega,by omega⟩
theorem jfL {a b s Q X:Nat} (hb:0<b) (h:Q*(b*2^s)+X=a*2^s) (hX:X<b*2^s):Q=a / b∧X / 2^s=a%b:=by
 obtain ⟨h1,h2⟩:=jcC h hX;rw [Nat.mul_div_mul_right _ _ (tp s)] at h1;rw [Nat.mul_mod_mul_right] at h2;exact ⟨h1,by rw [h2,Nat.mul_div_cancel _ (tp s)]⟩
theorem jbG {a b s m n:Nat} (hs:0<2^s) (ha:a<BB^m) (hb:BB^(n - 1)≤b) (hn:1≤n) (hm:n≤m):a*2^s<b*2^s*BB^(m - n+1):=by
 calc a*2^s<BB^m*2^s:=Nat.mul_lt_mul_of_pos_right ha hs
  _=BB^(n - 1)*2^s*BB^(m - n+1):=by
   rw [Nat.mul_right_comm,←Nat.pow_add];congr 2;omega
  _≤b*2^s*BB^(m - n+1):=Nat.mul_le_mul_right _ (Nat.mul_le_mul_right _ hb)
theorem jbF {b n e s:Nat} (hn:IsLimbs b n) (hn1:1≤n) (he:IsBits (lim b (n - 1)) e) (hs:s=32 - e):s<32∧e≤32∧b*2^s<BB^n∧BB / 2≤lim (b*2^s) (n - 1):=by
 have hz:lim b (n - 1)≠0:=fun h=>by
  have h1:=qdO (k:=n - 1) (by rw [show n - 1+1=n by omega];exact hn.1) h;have h2:=hn.2 (by omega);omega
 have hl:=qaG b (n - 1)
 have he0:0<e:=by
  rcases Nat.eq_zero_or_pos e with h0|h0
  ·subst h0;have:=he.1;simp at this;omega
  ·exact h0
 have he32:e≤32:=by
  rcases Nat.lt_or_ge 32 e with hlt|hle
  ·have h1:=he.2 he0;have h2:=Nat.pow_le_pow_right (show 0<2 by omega) (show 32≤e - 1 by omega);rw [qdB] at hl;omega
  ·exact hle
 have hd:b / BB^(n - 1)=lim b (n - 1):=by
  rw [qcG b (n - 1),show n - 1+1=n by omega,Nat.div_eq_of_lt hn.1,Nat.zero_mul,Nat.add_zero]
 have hbt:b<2^e*BB^(n - 1):=by
  rw [←Nat.div_lt_iff_lt_mul (BP _),hd];exact he.1
 have e3:BB=2^e*2^s:=by rw [qdB,←Nat.pow_add];congr 1;omega
 have hlt:b*2^s<BB^n:=by
  calc b*2^s<2^e*BB^(n - 1)*2^s:=Nat.mul_lt_mul_of_pos_right hbt (tp s)
   _=BB*BB^(n - 1):=by rw [Nat.mul_right_comm,←e3]
   _=BB^n:=by rw [←qdI];congr 1;omega
 refine ⟨by omega,he32,hlt,?_⟩
 have hd2:b*2^s / BB^(n - 1)=lim (b*2^s) (n - 1):=by
  rw [qcG (b*2^s) (n - 1),show n - 1+1=n by omega,Nat.div_eq_of_lt hlt,Nat.zero_mul,Nat.add_zero]
 rw [←hd2,Nat.le_div_iff_mul_le (BP _)];have h5:2^(e - 1)*BB^(n - 1)≤b:=by rw [←Nat.le_div_iff_mul_le (BP _),hd];exact he.2 he0
 have h6:BB / 2=2^(e - 1)*2^s:=by rw [qdB,←Nat.pow_add,show e - 1+s=31 by omega]
 calc BB / 2*BB^(n - 1)=2^(e - 1)*BB^(n - 1)*2^s:=by rw [h6,Nat.mul_right_comm]
  _≤b*2^s:=Nat.mul_le_mul_right _ h5
theorem qpY {x s:Nat} (hs:s<32):∃ h:Nat,h=x*2^s%BB∧IntKind.u32.wrap ((x:Int)*2^s)=(h:Int)∧h<BB:=by
 refine ⟨_,rfl,?_,Nat.mod_lt _ qbH⟩;obtain ⟨T,hT⟩:∃ T,T=2^s:=⟨_,rfl⟩;have hcast:((2:Int)^s)=(T:Int):=by rw [hT];simp
 rw [IntKind.wrap_u32,hcast,←hT];unfold BB;rw [←Int.natCast_mul];omega
theorem qvJ {x y s h d:Nat} (hy:y<BB) (hs:s<32) (hs0:0<s) (hh:h=x*2^s%BB) (hd:d=h+y / 2^(32 - s)):bits BinOp.or IntKind.u32 (h:Int) ((y / 2^(32 - s):Nat):Int)=(d:Int)∧d<BB:=by
 have e3:BB=2^(32 - s)*2^s:=by rw [qdB,←Nat.pow_add];congr 1;omega
 have hlo:y / 2^(32 - s)<2^s:=by rw [Nat.div_lt_iff_lt_mul (tp _),Nat.mul_comm,←e3];exact hy
 have hm:h%2^s=0:=by rw [hh,←qmK (by omega)];exact Nat.mul_mod_left _ _
 have hhB:h<BB:=by rw [hh];exact Nat.mod_lt _ qbH
 have h2:x%2^(32 - s)*2^s+2^s≤BB:=by rw [←Nat.succ_mul,e3];exact Nat.mul_le_mul_right _ (Nat.mod_lt _ (tp _))
 rw [qmK (by omega),←hh] at h2;have hlB:y / 2^(32 - s)<BB:=by omega
 rw [u32_or_nat _ _ (by unfold BB at hhB;exact hhB) (by unfold BB at hlB;exact hlB),qiB hlo hm,hd];exact ⟨rfl,by omega⟩
end Big
end Go.Proofs.YtemoddmadfoaiaaGreat
