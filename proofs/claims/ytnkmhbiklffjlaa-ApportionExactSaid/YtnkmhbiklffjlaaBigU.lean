import Derived.Test.YtnkmhbiklffjlaaBigA
import Derived.Deep.RegionHeld3
import Derived.Deep.CutRange
import Derived.StillTailTactics
import Derived.Test.YtnkmhbiklffjlaaBigS
import Derived.BigQuiet
set_option linter.unusedVariables false
set_option linter.unusedSimpArgs false
set_option maxRecDepth 100000
set_option maxHeartbeats 2000000
namespace Go.Proofs.Ytnkmhbiklffjlaa
open Go.RowKit Big
open Lib (hid)
theorem below_set1 {B:Nat} {a w:World} (h:Below B a w) (p:Addr) (v:Value) (hp:B≤p.block):Below B a (w.setCell p v) :=
 ⟨h.os,h.tape,h.output,by have:=h.size;simpa using this,fun k hk=>by rw [Below.heap_setCell _ _ _ _ (by omega)];exact h.block k hk⟩
theorem below_sets {B b:Nat} {a:World} (hb:B≤b):∀ (vs:List Value) (o:Nat) (w:World),Below B a w→Below B a (w.setCells b o vs)
 | [],_,_,h=>h
 | v::vs,o,w,h=>below_sets hb vs (o+1) _ (below_set1 h _ v hb)
def zero33:Array Value:=#[.bool false,.int .u32 0,.int .u32 0,.int .u32 0,.int .u32 0,.int .u32 0,.int .u32 0,.int .u32 0,.int .u32 0,.int .u32 0,.int .u32 0,.int .u32 0,.int .u32 0,.int .u32 0,.int .u32 0,.int .u32 0,.int .u32 0,.int .u32 0,.int .u32 0,.int .u32 0,.int .u32 0,.int .u32 0,.int .u32 0,.int .u32 0,.int .u32 0,.int .u32 0,.int .u32 0,.int .u32 0,.int .u32 0,.int .u32 0,.int .u32 0,.int .u32 0,.int .u32 0]
theorem there_new (X:World) (b:Nat) (hb:b=X.heap.size):(X.alloc (.cells zero33 51)).there b 0 33:=by
 subst hb
 intro j hj
 have hs33:zero33.size=33:=by decide
 have hh:=heap_alloc_new X (.cells zero33 51)
 refine ⟨?_,frozen_of_row _ _ _ _ _ hh⟩
 rw [cell_of_row _ X.heap.size (0+j) zero33 51 (0,0) hh,Array.getElem?_eq_getElem (by omega)];rfl
theorem wpStill_load {P:Program} {ops:Array Oper} {w:World} {Q:Act→Prop} {a:Act} {op:Oper} {rest:List Oper} (hgd:op.guard=none) (ty:TypeId) (x:Operand) (ho:op.op=.load ty x)
  (b o:Nat) (hx:a.eval x=.pointer (some ⟨b,o,none⟩)) (cs:List Value) (d:TypeDesc) (hc:w.rangeAt b o cs)
  (hu:P.underlying ty=some d) (hd:d.isRow=true) (hi:(P.info? ty).map (·.size)=some cs.length) (h:wpStill P ops w Q rest (a.put op.dst (.agg cs.toArray))):wpStill P ops w Q (op::rest) a:=by
 refine wpStill_step (fun K hK=>?_)
 rw [if_pos (by simp [Region.wanted,hgd])]
 unfold Oper.still execOp
 simp only [ho,hx,Instr.loadAt,Instr.sureAddr,Sem.run_bind,Sem.run_pure,Result.andThen_ok,run_loadVar_mid w b o ty cs d hc hu hd hi]
 exact ⟨rfl,hK _ h⟩
theorem wpStill_build {P:Program} {ops:Array Oper} {w:World} {Q:Act→Prop} {a:Act} {op:Oper} {rest:List Oper} (hgd:op.guard=none) (ty:TypeId) (x y:Operand) (ho:op.op=.build ty #[(0,x),(1,y)])
  (v1 v2:Value) (hx:a.eval x=v1) (hy:a.eval y=v2) (C:Array Value) (hb:P.built ty [(0,v1),(1,v2)]=some C) (h:wpStill P ops w Q rest (a.put op.dst (.agg C))):wpStill P ops w Q (op::rest) a:=by
 refine wpStill_step (fun K hK=>?_)
 rw [if_pos (by simp [Region.wanted,hgd])]
 unfold Oper.still execOp
 have hr:=run_build (P:=P) w ty #[(0,v1),(1,v2)] C hb
 simp [ho,hx,hy,hr,Oper.stillUpon]
 exact hK _ h
theorem Try.infoI:(Try.prog.info? 51).map (·.size)=some 33:=by kernel_rfl
theorem built_int (x:Bool) (cs:List Value) (h:cs.length=32):Try.prog.built 51 [(0,.bool x),(1,.agg cs.toArray)]=some (Value.bool x::cs).toArray :=
 match cs,h with
 | [c0,c1,c2,c3,c4,c5,c6,c7,c8,c9,c10,c11,c12,c13,c14,c15,c16,c17,c18,c19,c20,c21,c22,c23,c24,c25,c26,c27,c28,c29,c30,c31],_=>by kernel_rfl
theorem canon_false (M:List Nat) (w:World) (h:Mag M) :
  Calls Try.prog 47 #[.bool false,magV M] w fun e w'=>e=.returned (intV false M)∧Below w.heap.size w w':=by
 have hl:(cells M).length=32:=by unfold cells;rw [List.length_map];exact h.1
 unfold magV intV
 obtain ⟨cs,hcs⟩:∃ cs,cs=cells M:=⟨_,rfl⟩
 rw [←hcs] at hl ⊢
 have hsz:(Try.prog.info? 49).map (·.size)=some cs.length:=by rw [hl];exact Try.infoM
 have hldS:∀ W:World,W.rangeAt w.heap.size 0 cs→(Instr.loadAt 49 (.pointer (some ⟨w.heap.size,0,none⟩))).run Try.prog W=.ok (.agg cs.toArray) W:=fun W hW=>run_loadAt_mid W _ _ _ _ _ hW Try.underlying49 rfl hsz
 have HU:=hid Try.underlying49
 have HSZ:=hid hsz
 have HONE:=hid (show ∀ v∈Value.bool false::cs,v.oneCell'=true by
  intro v hv
  rcases List.mem_cons.1 hv with rfl|hv
  ·rfl
  ·rw [hcs] at hv;obtain ⟨x,_,rfl⟩:=List.mem_map.1 hv;rfl)
 have HL:=hid hl
 clear hcs h hldS hl hsz
 go_enter Try.func47,Try.ntmps47
 go_upto_region 1 with fail
 go_cut [5] from 5 to 12 (fun p5 wx=>Below w.heap.size w wx∧wx.rangeAt (w.heap.size+1) 0 (.bool false::cs))
 case first =>
  refine wp_region_still_tail 8 (by kernel_rfl) (by kernel_rfl) ?_
  simp only [List.take_succ_cons,List.take_zero,List.drop_succ_cons,List.drop_zero]
  repeat still_step
  refine wpStill_load rfl _ _ rfl w.heap.size 0 rfl cs _ (fun j v hv=>World.rangeAt_alloc (range_new w cs 49) _ j v hv) HU.out rfl HSZ.out ?_
  refine wpStill_build rfl _ _ _ rfl _ _ rfl rfl _ (built_int false cs HL.out) ?_
  refine wpStill_nil ?_
  refine wpList_store_mid rfl _ _ _ rfl (w.heap.size+1) 0 _ rfl rfl ?ht ?hi ?h1 ?_
  case ht=>exact fun j hj=>there_new (w.alloc (.cells cs.toArray 49)) (w.heap.size+1) (by simp) j (by simpa [HL.out] using hj)
  case hi=>rw [show (Value.bool false::cs).toArray.size=33 by simp [HL.out]];exact Try.infoI
  case h1=>exact all_oneCell_toArray HONE.out
  go_wp2_with fail
  simp only [Act.put,List.setIfInBounds_toArray,List.set_cons_zero,List.set_cons_succ]
  go_meet
  refine ⟨?_,?_⟩
  ·refine below_sets (by omega) _ _ _ ?_
   exact below_drewN ((((Below.refl w.heap.size w).alloc (Nat.le_refl _) (.cells cs.toArray 49))).alloc (by simp) (.cells zero33 51)) 1
  ·exact World.rangeAt_setCells_same _ _ _ _ (fun j hj=>there_new (w.alloc (.cells cs.toArray 49)) (w.heap.size+1) (by simp) j (by simpa [HL.out] using hj))
 case rest =>
  obtain ⟨hb,hrg⟩:=hcut
  have hld:=run_loadVar_mid (P:=Try.prog) wc (w.heap.size+1) 0 51 (.bool false::cs) _ hrg Try.underlying51 rfl (by rw [show (Value.bool false::cs).length=33 by simp [HL.out]];exact Try.infoI)
  go_wp2_with fail
  refine bodyPost_ret (v:=.agg (Value.bool false::cs).toArray) (by simp [results,Try.results47,asAddr,hld]) rfl ?_
  exact ⟨rfl,hb⟩
end Go.Proofs.Ytnkmhbiklffjlaa
namespace Go.Proofs.Ytnkmhbiklffjlaa
open Go.RowKit Big
namespace Big
def lv (n v:Nat):List Value:=cells (dg n v)
theorem qlL (n v:Nat):(lv n v).length=n:=by simp [lv,cells,dg_len]
theorem lv_get {n k:Nat} (v:Nat) (h:k<n):(lv n v)[k]?=some (.int .u32 (lim v k:Nat)):=by simp [lv,cells,dg_get v h]
theorem lv_one (n v:Nat):∀ x∈lv n v,x.oneCell'=true:=by
 intro x hx
 obtain ⟨y,_,rfl⟩:=List.mem_map.1 hx
 rfl
theorem mag_dg (v:Nat):Mag (dg 32 v):=⟨dg_len _ _,fun x hx=>by
 obtain ⟨k,_,rfl⟩:=List.mem_map.1 hx
 exact lim_lt v k⟩
def mV (v:Nat):Value:=.agg (lv 32 v).toArray
def iV (neg:Bool) (v:Nat):Value:=.agg (Value.bool neg::lv 32 v).toArray
theorem lv_set {n i x:Nat} (v:Nat) (hi:i<n) (hx:x<BB):(lv n v).set i (.int .u32 (x:Nat))=lv n (upd v i x):=by
 unfold lv cells
 rw [←dg_upd hi hx,List.map_set]
theorem limK_is {v n:Nat} (hn:IsLimbs v n):∀ k,k≤32→v<BB^k→limK (dg 32 v) k=n
 | 0,_,h=>by
  have:v=0:=by simpa using h
  subst this
  exact (hn.zero).symm
 | k+1,hk,h=>by
  rw [limK,dg_getD v (show k<32 by omega)]
  split
  ·rename_i hz
   exact limK_is hn k (by omega) (limbs_down h hz)
  ·rename_i hz
   exact IsLimbs.unique (n:=k+1) ⟨h,fun _=>limbs_stop hz⟩ hn
theorem qLE (v:Nat):∀ k,v<BB^k→∃ n,n≤k∧IsLimbs v n
 | 0,h=>⟨0,Nat.le_refl _,h,fun h=>by omega⟩
 | k+1,h=>by
  by_cases hz:lim v k=0
  ·obtain ⟨n,hn,hl⟩:=qLE v k (limbs_down h hz)
   exact ⟨n,by omega,hl⟩
  ·exact ⟨k+1,Nat.le_refl _,h,fun _=>limbs_stop hz⟩
end Big
def MagAt (w:World) (b o n v:Nat):Prop:=w.rangeAt b o (lv n v)
def qMO (w:World) (b o n v:Nat):Prop:=MagAt w b o n v∧∀ j,j<n→w.frozen? ⟨b,o+j,none⟩=false
theorem MagAt.get {w:World} {b o n v k:Nat} (h:MagAt w b o n v) (hk:k<n):w.cell? ⟨b,o+k,none⟩=some (.int .u32 (lim v k:Nat)):=h k _ (lv_get v hk)
theorem MagAt.up {w w':World} {b o n v:Nat} (h:MagAt w b o n v) (hb:Below w.heap.size w w'):MagAt w' b o n v:=fun j u hu=>qcU (h j u hu) hb
theorem qMO.there {w:World} {b o n v:Nat} (h:qMO w b o n v):w.there b o n:=fun j hj=>⟨by rw [h.1.get hj];rfl,h.2 j hj⟩
theorem qMO.set {w:World} {b o n v i x:Nat} (h:qMO w b o n v) (hi:i<n) (hx:x<BB):qMO (w.setCell ⟨b,o+i,none⟩ (.int .u32 (x:Nat))) b o n (upd v i x):=by
 refine ⟨fun j u hu=>?_,fun j hj=>by rw [World.frozen?_setCell];exact h.2 j hj⟩
 rw [←lv_set v hi hx,List.getElem?_set] at hu
 by_cases e:i=j
 ·subst e
  rw [if_pos rfl,if_pos (by rw [qlL];exact hi)] at hu
  injection hu with hu
  subst hu
  exact World.cell?_setCell_same _ _ _ (h.1.get hi)
 ·rw [if_neg e] at hu
  rw [World.cell?_setCell_other _ _ _ _ (fun e2=>by injection e2 with _ e3;omega)]
  exact h.1 j u hu
theorem MagAt.setOther {w:World} {b o n v:Nat} (h:MagAt w b o n v) (p:Addr) (u:Value) (hp:p.block≠b):MagAt (w.setCell p u) b o n v:=fun j x hx=>by
 rw [World.cell?_setCell_other _ _ _ _ (fun e=>by subst e;exact hp rfl)]
 exact h j x hx
theorem qMO.setOther {w:World} {b o n v:Nat} (h:qMO w b o n v) (p:Addr) (u:Value) (hp:p.block≠b):qMO (w.setCell p u) b o n v:=⟨h.1.setOther p u hp,fun j hj=>by rw [World.frozen?_setCell];exact h.2 j hj⟩
theorem qMO.up {w w':World} {b o n v:Nat} (h:qMO w b o n v) (hb:Below w.heap.size w w') (hn:b<w.heap.size):qMO w' b o n v:=⟨h.1.up hb,fun j hj=>by rw [hb.frozen (by simpa using hn)];exact h.2 j hj⟩
theorem MagAt.new (w:World) (n v:Nat) (t:TypeId):MagAt (w.alloc (.cells (lv n v).toArray t)) w.heap.size 0 n v:=range_new w _ t
theorem qMO.new (w:World) (n v:Nat) (t:TypeId):qMO (w.alloc (.cells (lv n v).toArray t)) w.heap.size 0 n v:=⟨range_new w _ t,fun j _=>by simp⟩
theorem int_new (w:World) (neg:Bool) (v:Nat) (t:TypeId):(w.alloc (.cells (Value.bool neg::lv 32 v).toArray t)).cell? ⟨w.heap.size,0,none⟩=some (.bool neg)∧MagAt (w.alloc (.cells (Value.bool neg::lv 32 v).toArray t)) w.heap.size 1 32 v:=by
 have h:=range_new w (Value.bool neg::lv 32 v) t
 refine ⟨?_,fun j u hu=>?_⟩
 ·have:=h 0 (.bool neg) rfl
  rwa [Nat.add_zero] at this
 ·have:=h (j+1) u (by simpa using hu)
  rwa [show 0+(j+1)=1+j by omega] at this
theorem limbs_is (v n:Nat) (w:World) (hv:v<BB^32) (hn:IsLimbs v n) :
  Calls Try.prog 46 #[mV v] w fun e w'=>e=.returned (.int .i64 n)∧Below w.heap.size w w':=by
 have:=limbs_any (dg 32 v) w (mag_dg v)
 rw [show limbsN (dg 32 v)=n from limK_is hn 32 (Nat.le_refl _) hv] at this
 exact this
theorem zero_is (v:Nat) (z:Bool) (w:World) (hv:v<BB^32) (hz:z=decide (v=0)) :
  Calls Try.prog 52 #[mV v] w fun e w'=>e=.returned (.bool z)∧Below w.heap.size w w':=by
 obtain ⟨n,_,hn⟩:=qLE v 32 hv
 have:=bzero_any (dg 32 v) w (mag_dg v)
 rw [show limbsN (dg 32 v)=n from limK_is hn 32 (Nat.le_refl _) hv] at this
 rw [hz,show decide (v=0)=(n==0) from ?_]
 ·exact this
 ·rw [Bool.eq_iff_iff]
  simp only [decide_eq_true_eq,beq_iff_eq]
  exact ⟨fun h=>by subst h;exact hn.zero,fun h=>by subst h;exact hn.eq_zero⟩
theorem canon_pos (v:Nat) (w:World) (hv:v<BB^32) :
  Calls Try.prog 47 #[.bool false,mV v] w fun e w'=>e=.returned (iV false v)∧Below w.heap.size w w':=canon_false (dg 32 v) w (mag_dg v)
end Go.Proofs.Ytnkmhbiklffjlaa
set_option maxHeartbeats 4000000
namespace Go.Proofs.Ytnkmhbiklffjlaa
open Go.RowKit Big
open Lib (hid)
def cmpI (a b:Nat):Int:=if a<b then -1 else if a=b then 0 else 1
theorem box_two (w:World) (a b:Nat) (t:TypeId):∃ w0:World,w0=(w.alloc (.cells (lv 32 a).toArray t)).alloc (.cells (lv 32 b).toArray t)∧Below w.heap.size w w0∧w0.heap.size=w.heap.size+1+1∧MagAt w0 w.heap.size 0 32 a∧MagAt w0 (w.heap.size+1) 0 32 b:=by
 have hb:Below (w.alloc (.cells (lv 32 a).toArray t)).heap.size (w.alloc (.cells (lv 32 a).toArray t)) ((w.alloc (.cells (lv 32 a).toArray t)).alloc (.cells (lv 32 b).toArray t)):=(Below.refl _ _).alloc (Nat.le_refl _) _
 refine ⟨_,rfl,((Below.refl _ _).alloc (Nat.le_refl _) _).alloc (by simp) _,by simp,(MagAt.new w 32 a t).up hb,?_⟩
 have:=MagAt.new (w.alloc (.cells (lv 32 a).toArray t)) 32 b t
 rwa [World.size_alloc] at this
theorem compare_is (a b:Nat) (w:World) (ha:a<BB^32) (hb:b<BB^32) :
  Calls Try.prog 68 #[mV a,mV b] w fun e w'=>e=.returned (.int .i64 (cmpI a b))∧Below w.heap.size w w':=by
 obtain ⟨w0,hw0,hb0,hs0,hA,hB⟩:=box_two w a b 49
 have H0:=hid (show a / BB^32=b / BB^32 by rw [Nat.div_eq_of_lt ha,Nat.div_eq_of_lt hb])
 have HA:=hid hA
 have HB:=hid hB
 have HW:=hid hb0
 unfold mV
 obtain ⟨va,hva⟩:∃ va,va=(lv 32 a).toArray:=⟨_,rfl⟩
 obtain ⟨vb,hvb⟩:∃ vb,vb=(lv 32 b).toArray:=⟨_,rfl⟩
 rw [←hva,←hvb] at hw0 ⊢
 clear ha hb hb0 hs0 hA hB hva hvb
 go_enter Try.func68,Try.ntmps68
 go_wp2
 rw [←hw0]
 clear hw0
 go_loopg [5] 33 (fun g i wr=>∃ (k d:Nat) (z:Int),k≤32∧k≤g∧z=(k:Int) - 1∧i=.int .i64 z∧a / BB^k=b / BB^k∧wr=w0.drewN d)
 case atStart=>exact ⟨32,0,31,by omega,by omega,by omega,rfl,H0.out,rfl⟩
 case round =>
  obtain ⟨k,d,z,hk,hg,hz,rfl,he,rfl⟩:=hrel
  have HE:=hid he
  clear he
  cases k with
  | zero =>
   have hz1:z=-1:=by omega
   subst hz1
   have HR:=hid (show cmpI a b=0 by
    have h:=HE.out
    simp only [Nat.pow_zero,Nat.div_one] at h
    unfold cmpI;rw [if_neg (by omega),if_pos h])
   clear hz
   go_wp2
   go_ret
   exact ⟨ret_int HR.out.symm,by first|exact below_drewN HW.out _|exact below_drewN (below_drewN HW.out _) _|exact below_drewN (below_drewN (below_drewN HW.out _) _) _⟩
  | succ k =>
   have hz1:z=(k:Int):=by omega
   subst hz1
   have hk32:k<32:=by omega
   have ca:=HA.out.get hk32
   have cb:=HB.out.get hk32
   rw [Nat.zero_add] at ca cb
   obtain ⟨x,hx⟩:∃ x,x=lim a k:=⟨_,rfl⟩
   obtain ⟨y,hy⟩:∃ y,y=lim b k:=⟨_,rfl⟩
   rw [←hx] at ca
   rw [←hy] at cb
   have hj:(k:Int) - 1=((k:Int) - 1):=rfl
   have hwk:IntKind.i64.wrap ((k:Int) - 1)=(k:Int) - 1:=IntWalk.i64_in _ (by omega)
   have hk0:(0:Int)≤(k:Int):=by omega
   clear hz
   by_cases h1:x<y
   ·have HR:=hid (show cmpI a b=-1 by
     have:=lt_of_lim HE.out (by rw [←hx,←hy];exact h1)
     unfold cmpI;rw [if_pos this])
    clear hx hy
    go_wp2
    go_quiet (fail)
    go_wp2
    go_ret
    exact ⟨ret_int HR.out.symm,by first|exact below_drewN HW.out _|exact below_drewN (below_drewN HW.out _) _|exact below_drewN (below_drewN (below_drewN HW.out _) _) _⟩
   ·by_cases h2:y<x
    ·have HR:=hid (show cmpI a b=1 by
      have:=lt_of_lim HE.out.symm (by rw [←hx,←hy];exact h2)
      unfold cmpI;rw [if_neg (by omega),if_neg (by omega)])
     clear hx hy
     go_wp2
     go_quiet (fail)
     go_wp2
     go_quiet (fail)
     go_wp2
     go_ret
     exact ⟨ret_int HR.out.symm,by first|exact below_drewN HW.out _|exact below_drewN (below_drewN HW.out _) _|exact below_drewN (below_drewN (below_drewN HW.out _) _) _⟩
    ·have HD:=hid (div_eq_down HE.out (show lim a k=lim b k by omega))
     clear hx hy
     go_wp2
     go_quiet (fail)
     go_wp2
     go_quiet (fail)
     go_wp2
     go_roundg (gk - 1)
     case measure=>omega
     case rel=>exact ⟨k,_,_,by omega,by omega,rfl,rfl,HD.out,rfl⟩
theorem lv_zero:lv 32 0=[.int .u32 0,.int .u32 0,.int .u32 0,.int .u32 0,.int .u32 0,.int .u32 0,.int .u32 0,.int .u32 0,.int .u32 0,.int .u32 0,.int .u32 0,.int .u32 0,.int .u32 0,.int .u32 0,.int .u32 0,.int .u32 0,.int .u32 0,.int .u32 0,.int .u32 0,.int .u32 0,.int .u32 0,.int .u32 0,.int .u32 0,.int .u32 0,.int .u32 0,.int .u32 0,.int .u32 0,.int .u32 0,.int .u32 0,.int .u32 0,.int .u32 0,.int .u32 0]:=by
 unfold lv cells dg
 simp [List.range,List.range.loop,lim_zero]
theorem diff_num {x y c:Nat} (hx:x<BB) (hy:y<BB) (hc:c≤1):∃ d c':Nat,d<BB∧c'≤1∧d+y+c=x+c'*BB∧IntKind.u64.wrap (IntKind.u64.wrap ((x:Int) - y) - c)=((d+c'*(18446744073709551616 - BB):Nat):Int) ∧
  IntKind.u32.wrap ((d+c'*(18446744073709551616 - BB):Nat):Int)=(d:Int)∧(d+c'*(18446744073709551616 - BB)) / 9223372036854775808=c':=by
 unfold BB at *
 by_cases h:y+c≤x
 ·refine ⟨x - y - c,0,by omega,by omega,by omega,?_,?_,by omega⟩
  ·rw [IntKind.wrap_u64,IntKind.wrap_u64];omega
  ·rw [IntKind.wrap_u32];omega
 ·refine ⟨x+4294967296 - y - c,1,by omega,by omega,by omega,?_,?_,by omega⟩
  ·rw [IntKind.wrap_u64,IntKind.wrap_u64];omega
  ·rw [IntKind.wrap_u32];omega
theorem infoMlv (v:Nat):(Try.prog.info? 49).map (·.size)=some (lv 32 v).length:=by rw [qlL];exact Try.infoM
theorem stored_mag {w:World} {b v u:Nat} (h:qMO w b 0 32 u):MagAt (w.setCells b 0 (lv 32 v)) b 0 32 v :=
 World.rangeAt_setCells_same _ _ _ _ (by rw [qlL];exact h.there)
theorem upd_top {P i d:Nat} (hP:P<BB^i):upd P i d=P+d*BB^i:=by
 have h:P<BB^(i+1):=by rw [pow_s];exact Nat.lt_of_lt_of_le hP (Nat.le_mul_of_pos_left _ BB_pos)
 unfold upd
 rw [Nat.mod_eq_of_lt hP,Nat.div_eq_of_lt h];simp
theorem diff_end {a b v P c c2:Nat} {t:Nat} (ha:a<t) (hb:b<t) (hv:v<t) (hP:P<t) (hc:c≤1) (h:P+b=a+c*t) (h2:v+b=a+c2*t):P=v:=by
 rcases c2 with _|_|c2
 ·rcases c with _|_|c
  ·omega
  ·simp at h h2;omega
  ·omega
 ·rcases c with _|_|c
  ·simp at h h2;omega
  ·simp at h h2;omega
  ·omega
 ·have:2*t≤(c2+1+1)*t:=Nat.mul_le_mul_right _ (by omega)
  omega
theorem difference_is (a b v:Nat) (w:World) (ha:a<BB^32) (hb:b<BB^32) (hv:v<BB^32) (hd:∃ c,v+b=a+c*BB^32) :
  Calls Try.prog 54 #[mV a,mV b] w fun e w'=>e=.returned (mV v)∧Below w.heap.size w w':=by
 obtain ⟨w0,hw0,hb0,hs0,hA,hB⟩:=box_two w a b 49
 obtain ⟨w1,hw1⟩:∃ w1,w1=(w0.alloc (.cells (lv 32 0).toArray 49)).alloc (.cells (lv 32 0).toArray 49):=⟨_,rfl⟩
 have hb1:Below w0.heap.size w0 w1:=by rw [hw1];exact ((Below.refl _ _).alloc (Nat.le_refl _) _).alloc (by simp) _
 have hR:qMO w1 (w.heap.size+1+1) 0 32 0:=by
  rw [hw1,←hs0];exact (qMO.new w0 32 0 _).up ((Below.refl _ _).alloc (Nat.le_refl _) _) (by simp)
 have hO:qMO w1 (w.heap.size+1+1+1) 0 32 0:=by
  rw [hw1,←hs0]
  have:=qMO.new (w0.alloc (.cells (lv 32 0).toArray 49)) 32 0 49
  rwa [World.size_alloc] at this
 have HA:=hid (hA.up hb1)
 have HB:=hid (hB.up hb1)
 have HR:=hid hR
 have HO:=hid hO
 have HW:=hid (hb0.trans (hb1.mono hb0.size))
 rw [hw0] at hw1
 have HV:=hid (And.intro ha (And.intro hb (And.intro hv hd)))
 rw [lv_zero] at hw1
 unfold mV
 obtain ⟨va,hva⟩:∃ va,va=(lv 32 a).toArray:=⟨_,rfl⟩
 obtain ⟨vb,hvb⟩:∃ vb,vb=(lv 32 b).toArray:=⟨_,rfl⟩
 obtain ⟨vv,hvv⟩:∃ vv,vv=(lv 32 v).toArray:=⟨_,rfl⟩
 have HVV:=hid hvv
 rw [←hva,←hvb] at hw1 ⊢
 rw [←hvv]
 clear ha hb hv hd hb0 hs0 hA hB hva hvb hw0 hb1 hR hO hvv
 go_enter Try.func54,Try.ntmps54
 go_wp2_with fail
 rw [←hw1]
 clear hw1
 obtain ⟨B0,hB0⟩:∃ B0,B0=w.heap.size:=⟨_,rfl⟩
 have hB1:B0<w1.heap.size:=by rw [hB0];exact World.block_lt_of_cell? w1 _ (HA.out.get (k:=0) (by omega))
 have hB4:B0+1+1+1<w1.heap.size:=by rw [hB0];exact World.block_lt_of_cell? w1 _ (HO.out.1.get (k:=0) (by omega))
 have HBE:=hid hB0
 rw [←hB0] at HA HB HR HO ⊢
 clear hB0
 go_loopg [6,7] 32 (fun g bw iv wr=>∃ (i P c:Nat),i≤32∧32 - i≤g∧c≤1∧P<BB^i∧P+b%BB^i=a%BB^i+c*BB^i∧bw=.int .u64 c∧iv=.int .i64 i∧MagAt wr B0 0 32 a∧MagAt wr (B0+1) 0 32 b∧qMO wr (B0+1+1) 0 32 0∧qMO wr (B0+1+1+1) 0 32 P∧Below w.heap.size w wr)
 case atStart=>exact ⟨0,0,0,by omega,by omega,by omega,BP 0,by simp [Nat.mod_one],rfl,rfl,HA.out,HB.out,HR.out,HO.out,HW.out⟩
 case round =>
  obtain ⟨i,P,c,hi,hg,hc,hP,he,rfl,rfl,hA,hB,hR,hO,hW⟩:=hrel
  have HE:=hid he
  have HP:=hid hP
  have HA1:=hid hA
  have HB1:=hid hB
  have HR1:=hid hR
  have HO1:=hid hO
  have HW1:=hid hW
  clear he hP hA hB hR hO hW
  by_cases hlt:i<32
  ·have ca:=HA1.out.get hlt
   have cb:=HB1.out.get hlt
   have co:=HO1.out.1.get hlt
   have fo:=HO1.out.2 i hlt
   rw [Nat.zero_add] at ca cb co fo
   obtain ⟨x,hx⟩:∃ x,x=lim a i:=⟨_,rfl⟩
   obtain ⟨y,hy⟩:∃ y,y=lim b i:=⟨_,rfl⟩
   have hxl:x<BB:=hx ▸ lim_lt a i
   have hyl:y<BB:=hy ▸ lim_lt b i
   obtain ⟨d,c',hd,hc',hn,e1,e2,e3⟩:=diff_num hxl hyl hc
   rw [←hx] at ca
   rw [←hy] at cb
   have HS:=hid (diff_step HE.out (by rw [←hx,←hy];exact hn))
   have HPL:=hid (lt_succ HP.out hd)
   have HU:=hid (upd_top (d:=d) HP.out)
   have HO2:=hid (HO1.out.set hlt hd)
   obtain ⟨V,hV⟩:∃ V:Nat,V=d+c'*(18446744073709551616 - BB):=⟨_,rfl⟩
   rw [←hV] at e1 e2 e3
   have hw1':IntKind.u64.wrap (x:Int)=(x:Int):=by unfold BB at hxl;rw [IntKind.wrap_u64];omega
   have hw2':IntKind.u64.wrap (y:Int)=(y:Int):=by unfold BB at hyl;rw [IntKind.wrap_u64];omega
   have e4:(V:Int) / 9223372036854775808=(c':Int):=by omega
   have HDD:=hid hd
   clear hx hy hxl hyl hn hV hd e3
   go_wp2
   go_quiet (fail)
   go_wp2
   have HU2:=hid (show qMO (wr.setCell ⟨B0+1+1+1,i,none⟩ (.int .u32 (d:Nat))) (B0+1+1+1) 0 32 (P+d*BB^i) by
    have:=HO2.out;rwa [HU.out,Nat.zero_add] at this)
   have hR2:=HR1.out.setOther ⟨B0+1+1+1,i,none⟩ (.int .u32 (d:Nat)) (show B0+1+1+1≠B0+1+1 by omega)
   have hA2:=HA1.out.setOther ⟨B0+1+1+1,i,none⟩ (.int .u32 (d:Nat)) (show B0+1+1+1≠B0 by omega)
   have hB2:=HB1.out.setOther ⟨B0+1+1+1,i,none⟩ (.int .u32 (d:Nat)) (show B0+1+1+1≠B0+1 by omega)
   have hW2:=below_set1 HW1.out ⟨B0+1+1+1,i,none⟩ (.int .u32 (d:Nat)) (show w.heap.size≤B0+1+1+1 by rw [←HBE.out];omega)
   go_roundg (gk - 1)
   case measure=>omega
   case rel=>exact ⟨i+1,P+d*BB^i,c',by omega,by omega,hc',HPL.out,HS.out,rfl,by go_num,hA2,hB2,hR2,HU2.out,⟨hW2.os,hW2.tape,hW2.output,hW2.size,hW2.block⟩⟩
  ·have hi32:i=32:=by omega
   subst hi32
   have hPv:P=v:=by
    obtain ⟨h1,h2,h3,c2,h4⟩:=HV.out
    have h5:=HE.out
    rw [Nat.mod_eq_of_lt h1,Nat.mod_eq_of_lt h2] at h5
    exact diff_end h1 h2 h3 HP.out hc h5 h4
   subst hPv
   obtain ⟨cs,hcs⟩:∃ cs,cs=lv 32 P:=⟨_,rfl⟩
   have HST:=hid (stored_mag (v:=P) HR1.out)
   have HBS:=hid (below_sets (show w.heap.size≤B0+1+1 by rw [←HBE.out];omega) (lv 32 P) 0 wr HW1.out)
   have HTH:=hid (show wr.there (B0+1+1) 0 (lv 32 P).toArray.size by rw [List.size_toArray,qlL];exact HR1.out.there)
   have HLD:=hid (show wr.rangeAt (B0+1+1+1) 0 (lv 32 P) from HO1.out.1)
   have HSZ:=hid (infoMlv P)
   have HSA:=hid (show (Try.prog.info? 49).map (·.size)=some (lv 32 P).toArray.size by rw [List.size_toArray];exact infoMlv P)
   have HONE:=hid (all_oneCell_toArray (lv_one 32 P))
   have HCS:=hid hcs
   have hvc:vv=cs.toArray:=by rw [HVV.out,hcs]
   rw [←hcs] at HBS HTH HLD HSZ HSA HONE
   have HVC:=hid hvc
   clear hcs hvc
   go_wp2_with (first
    | (refine wpList_load_mid rfl _ _ rfl (B0+1+1+1) 0 rfl cs _ HLD.out Try.underlying49 rfl HSZ.out ?_)
    | (refine wpList_store_mid rfl _ _ _ rfl (B0+1+1) 0 _ rfl rfl HTH.out HSA.out HONE.out ?_))
   have hld:=run_loadVar_mid (P:=Try.prog) _ _ _ _ _ _ (show World.rangeAt (wr.setCells (B0+1+1) 0 cs) (B0+1+1) 0 cs by have:=HST.out;rw [←HCS.out] at this;unfold MagAt at this;rwa [←HCS.out] at this) Try.underlying49 rfl HSZ.out
   simp only [Act.put,List.setIfInBounds_toArray,List.set_cons_zero,List.set_cons_succ]
   refine bodyPost_ret (v:=.agg cs.toArray) (by simp [results,Try.results54,asAddr,hld]) rfl ?_
   exact ⟨by rw [HVC.out],HBS.out⟩
end Go.Proofs.Ytnkmhbiklffjlaa
set_option maxHeartbeats 4000000
namespace Go.Proofs.Ytnkmhbiklffjlaa
open Go.RowKit Big
open Lib (hid)
theorem sum_num {x y c:Nat} (hx:x<BB) (hy:y<BB) (hc:c≤1):∃ d c' V:Nat,d<BB∧c'≤1∧x+y+c=d+c'*BB∧IntKind.u64.wrap (IntKind.u64.wrap ((x:Int)+y)+c)=(V:Int) ∧
  IntKind.u32.wrap (V:Int)=(d:Int)∧(V:Int) / 4294967296=(c':Int):=by
 unfold BB at *
 refine ⟨(x+y+c)%4294967296,(x+y+c) / 4294967296,x+y+c,by omega,by omega,by omega,?_,?_,by omega⟩
 ·rw [IntKind.wrap_u64,IntKind.wrap_u64];omega
 ·rw [IntKind.wrap_u32];omega
theorem sum_end {v P c c2:Nat} {t:Nat} (hv:v<t) (hP:P<t) (hc:c≤1) (h:P+c*t=v+c2*t):P=v∧c=c2:=by
 rcases c2 with _|_|c2
 ·rcases c with _|_|c
  ·simp at h;exact ⟨h,rfl⟩
  ·simp at h;omega
  ·omega
 ·rcases c with _|_|c
  ·simp at h;omega
  ·simp at h;exact ⟨by omega,rfl⟩
  ·omega
 ·have:2*t≤(c2+1+1)*t:=Nat.mul_le_mul_right _ (by omega)
  have:c*t≤1*t:=Nat.mul_le_mul_right _ hc
  omega
theorem sum_is (a b v c2:Nat) (w:World) (ha:a<BB^32) (hb:b<BB^32) (hv:v<BB^32) (hd:a+b=v+c2*BB^32) :
  Calls Try.prog 55 #[mV a,mV b] w fun e w'=>e=.returned (.tuple #[mV v,.bool (decide (c2=0))])∧Below w.heap.size w w':=by
 obtain ⟨w0,hw0,hb0,hs0,hA,hB⟩:=box_two w a b 49
 obtain ⟨w1,hw1⟩:∃ w1,w1=(w0.alloc (.cells (lv 32 0).toArray 49)).alloc (.cells (lv 32 0).toArray 49):=⟨_,rfl⟩
 have hb1:Below w0.heap.size w0 w1:=by rw [hw1];exact ((Below.refl _ _).alloc (Nat.le_refl _) _).alloc (by simp) _
 have hR:qMO w1 (w.heap.size+1+1) 0 32 0:=by
  rw [hw1,←hs0];exact (qMO.new w0 32 0 _).up ((Below.refl _ _).alloc (Nat.le_refl _) _) (by simp)
 have hO:qMO w1 (w.heap.size+1+1+1) 0 32 0:=by
  rw [hw1,←hs0]
  have:=qMO.new (w0.alloc (.cells (lv 32 0).toArray 49)) 32 0 49
  rwa [World.size_alloc] at this
 have HA:=hid (hA.up hb1)
 have HB:=hid (hB.up hb1)
 have HR:=hid hR
 have HO:=hid hO
 have HW:=hid (hb0.trans (hb1.mono hb0.size))
 rw [hw0] at hw1
 have HV:=hid (And.intro ha (And.intro hb (And.intro hv hd)))
 rw [lv_zero] at hw1
 unfold mV
 obtain ⟨va,hva⟩:∃ va,va=(lv 32 a).toArray:=⟨_,rfl⟩
 obtain ⟨vb,hvb⟩:∃ vb,vb=(lv 32 b).toArray:=⟨_,rfl⟩
 obtain ⟨vv,hvv⟩:∃ vv,vv=(lv 32 v).toArray:=⟨_,rfl⟩
 have HVV:=hid hvv
 rw [←hva,←hvb] at hw1 ⊢
 rw [←hvv]
 clear ha hb hv hd hb0 hs0 hA hB hva hvb hw0 hb1 hR hO hvv
 go_enter Try.func55,Try.ntmps55
 go_wp2_with fail
 rw [←hw1]
 clear hw1
 obtain ⟨B0,hB0⟩:∃ B0,B0=w.heap.size:=⟨_,rfl⟩
 have hB1:B0<w1.heap.size:=by rw [hB0];exact World.block_lt_of_cell? w1 _ (HA.out.get (k:=0) (by omega))
 have hB4:B0+1+1+1<w1.heap.size:=by rw [hB0];exact World.block_lt_of_cell? w1 _ (HO.out.1.get (k:=0) (by omega))
 have HBE:=hid hB0
 rw [←hB0] at HA HB HR HO ⊢
 clear hB0
 go_loopg [7,8] 32 (fun g bw iv wr=>∃ (i P c:Nat),i≤32∧32 - i≤g∧c≤1∧P<BB^i∧P+c*BB^i=a%BB^i+b%BB^i∧bw=.int .u64 c∧iv=.int .i64 i∧MagAt wr B0 0 32 a∧MagAt wr (B0+1) 0 32 b∧qMO wr (B0+1+1) 0 32 0∧qMO wr (B0+1+1+1) 0 32 P∧Below w.heap.size w wr)
 case atStart=>exact ⟨0,0,0,by omega,by omega,by omega,BP 0,by simp [Nat.mod_one],rfl,rfl,HA.out,HB.out,HR.out,HO.out,HW.out⟩
 case round =>
  obtain ⟨i,P,c,hi,hg,hc,hP,he,rfl,rfl,hA,hB,hR,hO,hW⟩:=hrel
  have HE:=hid he
  have HP:=hid hP
  have HA1:=hid hA
  have HB1:=hid hB
  have HR1:=hid hR
  have HO1:=hid hO
  have HW1:=hid hW
  clear he hP hA hB hR hO hW
  by_cases hlt:i<32
  ·have ca:=HA1.out.get hlt
   have cb:=HB1.out.get hlt
   have co:=HO1.out.1.get hlt
   have fo:=HO1.out.2 i hlt
   rw [Nat.zero_add] at ca cb co fo
   obtain ⟨x,hx⟩:∃ x,x=lim a i:=⟨_,rfl⟩
   obtain ⟨y,hy⟩:∃ y,y=lim b i:=⟨_,rfl⟩
   have hxl:x<BB:=hx ▸ lim_lt a i
   have hyl:y<BB:=hy ▸ lim_lt b i
   obtain ⟨d,c',V,hd,hc',hn,e1,e2,e4⟩:=sum_num hxl hyl hc
   rw [←hx] at ca
   rw [←hy] at cb
   have HS:=hid (sum_step HE.out (by rw [←hx,←hy];exact hn))
   have HPL:=hid (lt_succ HP.out hd)
   have HU:=hid (upd_top (d:=d) HP.out)
   have HO2:=hid (HO1.out.set hlt hd)
   have hw1':IntKind.u64.wrap (x:Int)=(x:Int):=by unfold BB at hxl;rw [IntKind.wrap_u64];omega
   have hw2':IntKind.u64.wrap (y:Int)=(y:Int):=by unfold BB at hyl;rw [IntKind.wrap_u64];omega
   have HDD:=hid hd
   clear hx hy hxl hyl hn hd
   go_wp2
   go_quiet (fail)
   go_wp2
   have HU2:=hid (show qMO (wr.setCell ⟨B0+1+1+1,i,none⟩ (.int .u32 (d:Nat))) (B0+1+1+1) 0 32 (P+d*BB^i) by
    have:=HO2.out;rwa [HU.out,Nat.zero_add] at this)
   have hR2:=HR1.out.setOther ⟨B0+1+1+1,i,none⟩ (.int .u32 (d:Nat)) (show B0+1+1+1≠B0+1+1 by omega)
   have hA2:=HA1.out.setOther ⟨B0+1+1+1,i,none⟩ (.int .u32 (d:Nat)) (show B0+1+1+1≠B0 by omega)
   have hB2:=HB1.out.setOther ⟨B0+1+1+1,i,none⟩ (.int .u32 (d:Nat)) (show B0+1+1+1≠B0+1 by omega)
   have hW2:=below_set1 HW1.out ⟨B0+1+1+1,i,none⟩ (.int .u32 (d:Nat)) (show w.heap.size≤B0+1+1+1 by rw [←HBE.out];omega)
   go_roundg (gk - 1)
   case measure=>omega
   case rel=>exact ⟨i+1,P+d*BB^i,c',by omega,by omega,hc',HPL.out,HS.out,rfl,by go_num,hA2,hB2,hR2,HU2.out,⟨hW2.os,hW2.tape,hW2.output,hW2.size,hW2.block⟩⟩
  ·have hi32:i=32:=by omega
   subst hi32
   have hPv:P=v∧c=c2:=by
    obtain ⟨h1,h2,h3,h4⟩:=HV.out
    have h5:=HE.out
    rw [Nat.mod_eq_of_lt h1,Nat.mod_eq_of_lt h2,h4] at h5
    exact sum_end h3 HP.out hc h5
   obtain ⟨hPv,hcc⟩:=hPv
   have hcb:((c:Int)==0)=decide (c2=0):=by rw [hcc,Bool.eq_iff_iff];simp only [beq_iff_eq,decide_eq_true_eq];omega
   subst hPv
   obtain ⟨cs,hcs⟩:∃ cs,cs=lv 32 P:=⟨_,rfl⟩
   have HST:=hid (stored_mag (v:=P) HR1.out)
   have HBS:=hid (below_sets (show w.heap.size≤B0+1+1 by rw [←HBE.out];omega) (lv 32 P) 0 wr HW1.out)
   have HTH:=hid (show wr.there (B0+1+1) 0 (lv 32 P).toArray.size by rw [List.size_toArray,qlL];exact HR1.out.there)
   have HLD:=hid (show wr.rangeAt (B0+1+1+1) 0 (lv 32 P) from HO1.out.1)
   have HSZ:=hid (infoMlv P)
   have HSA:=hid (show (Try.prog.info? 49).map (·.size)=some (lv 32 P).toArray.size by rw [List.size_toArray];exact infoMlv P)
   have HONE:=hid (all_oneCell_toArray (lv_one 32 P))
   have HCS:=hid hcs
   have hvc:vv=cs.toArray:=by rw [HVV.out,hcs]
   rw [←hcs] at HBS HTH HLD HSZ HSA HONE
   have HVC:=hid hvc
   clear hcs hvc
   clear hcc
   go_wp2_with (first
    | (refine wpList_load_mid rfl _ _ rfl (B0+1+1+1) 0 rfl cs _ HLD.out Try.underlying49 rfl HSZ.out ?_)
    | (refine wpList_store_mid rfl _ _ _ rfl (B0+1+1) 0 _ rfl rfl HTH.out HSA.out HONE.out ?_))
   have hld:=run_loadVar_mid (P:=Try.prog) _ _ _ _ _ _ (show World.rangeAt (wr.setCells (B0+1+1) 0 cs) (B0+1+1) 0 cs by have:=HST.out;rw [←HCS.out] at this;unfold MagAt at this;rwa [←HCS.out] at this) Try.underlying49 rfl HSZ.out
   try simp only [Act.put,List.setIfInBounds_toArray,List.set_cons_zero,List.set_cons_succ]
   refine bodyPost_ret (v:=.tuple #[.agg cs.toArray,.bool (decide (c2=0))]) (by simp [results,Try.results55,asAddr,hld]) rfl ?_
   exact ⟨by rw [HVC.out],HBS.out⟩
end Go.Proofs.Ytnkmhbiklffjlaa
