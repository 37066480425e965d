import Derived.Test.YtooeabibhjbkoaaGreatBigA
import Derived.Deep.RegionHeld3
import Derived.Deep.CutRange
import Derived.StillTailTactics
set_option linter.unusedVariables false
set_option linter.unusedSimpArgs false
set_option maxRecDepth 100000
set_option maxHeartbeats 2000000
namespace Go.Proofs.YtooeabibhjbkoaaGreat
open Go.RowKit Big
open Lib (hid)
theorem qbB {B:Nat} {a w:World} (h:Below B a w) (p:Addr) (v:Value) (hp:B≤p.block):Below B a (w.setCell p v) :=
 ⟨h.os,h.tape,h.output,by have:=h.size;simpa using this,fun k hk=>by rw [Below.heap_setCell _ _ _ _ (by omega)];exact h.block k hk⟩
theorem qaB {B b:Nat} {a:World} (hb:B≤b):∀ (vs:List Value) (o:Nat) (w:World),Below B a w→Below B a (w.setCells b o vs)
 | [],_,_,h=>h
 | v::vs,o,w,h=>qaB hb vs (o+1) _ (qbB h _ v hb)
def zero33:Array Value:=#[.bool false,.int .u32 0,.int .u32 0,.int .u32 0,.int .u32 0,.int .u32 0,.int .u32 0,.int .u32 0,.int .u32 0,.int .u32 0,.int .u32 0,.int .u32 0,.int .u32 0,.int .u32 0,.int .u32 0,.int .u32 0,.int .u32 0,.int .u32 0,.int .u32 0,.int .u32 0,.int .u32 0,.int .u32 0,.int .u32 0,.int .u32 0,.int .u32 0,.int .u32 0,.int .u32 0,.int .u32 0,.int .u32 0,.int .u32 0,.int .u32 0,.int .u32 0,.int .u32 0]
theorem qkG (X:World) (b:Nat) (hb:b=X.heap.size):(X.alloc (.cells zero33 25)).there b 0 33:=by
 subst hb
 intro j hj
 have hs33:zero33.size=33:=by decide
 have hh:=heap_alloc_new X (.cells zero33 25)
 refine ⟨?_,frozen_of_row _ _ _ _ _ hh⟩
 rw [cell_of_row _ X.heap.size (0+j) zero33 25 (0,0) hh,Array.getElem?_eq_getElem (by omega)];rfl
theorem qkD {P:Program} {ops:Array Oper} {w:World} {Q:Act→Prop} {a:Act} {op:Oper} {rest:List Oper} (hgd:op.guard=none) (ty:TypeId) (x:Operand) (ho:op.op=.load ty x)
  (b o:Nat) (hx:a.eval x=.pointer (some ⟨b,o,none⟩)) (cs:List Value) (d:TypeDesc) (hc:w.rangeAt b o cs)
  (hu:P.underlying ty=some d) (hd:d.isRow=true) (hi:(P.info? ty).map (·.size)=some cs.length) (h:wpStill P ops w Q rest (a.put op.dst (.agg cs.toArray))):wpStill P ops w Q (op::rest) a:=by
 refine wpStill_step (fun K hK=>?_)
 rw [if_pos (by simp [Region.wanted,hgd])]
 unfold Oper.still execOp
 simp only [ho,hx,Instr.loadAt,Instr.sureAddr,Sem.run_bind,Sem.run_pure,Result.andThen_ok,run_loadVar_mid w b o ty cs d hc hu hd hi]
 exact ⟨rfl,hK _ h⟩
theorem qiW {P:Program} {ops:Array Oper} {w:World} {Q:Act→Prop} {a:Act} {op:Oper} {rest:List Oper} (hgd:op.guard=none) (ty:TypeId) (x y:Operand) (ho:op.op=.build ty #[(0,x),(1,y)])
  (v1 v2:Value) (hx:a.eval x=v1) (hy:a.eval y=v2) (C:Array Value) (hb:P.built ty [(0,v1),(1,v2)]=some C) (h:wpStill P ops w Q rest (a.put op.dst (.agg C))):wpStill P ops w Q (op::rest) a:=by
 refine wpStill_step (fun K hK=>?_)
 rw [if_pos (by simp [Region.wanted,hgd])]
 unfold Oper.still execOp
 have hr:=run_build (P:=P) w ty #[(0,v1),(1,v2)] C hb
 simp [ho,hx,hy,hr,Oper.stillUpon]
 exact hK _ h
theorem Tryz.infoI:(Tryz.prog.info? 25).map (·.size)=some 33:=by kernel_rfl
theorem qiD (x:Bool) (cs:List Value) (h:cs.length=32):Tryz.prog.built 25 [(0,.bool x),(1,.agg cs.toArray)]=some (Value.bool x::cs).toArray :=
 match cs,h with
 | [c0,c1,c2,c3,c4,c5,c6,c7,c8,c9,c10,c11,c12,c13,c14,c15,c16,c17,c18,c19,c20,c21,c22,c23,c24,c25,c26,c27,c28,c29,c30,c31],_=>by kernel_rfl
theorem qnT (M:List Nat) (w:World) (h:Mag M) :
  Calls Tryz.prog 113 #[.bool false,magV M] w fun e w'=>e=.returned (intV false M)∧Below w.heap.size w w':=by
 have hl:(cells M).length=32:=by unfold cells;rw [List.length_map];exact h.1
 unfold magV intV
 obtain ⟨cs,hcs⟩:∃ cs,cs=cells M:=⟨_,rfl⟩
 rw [←hcs] at hl ⊢
 have hsz:(Tryz.prog.info? 23).map (·.size)=some cs.length:=by rw [hl];exact Tryz.infoM
 have hldS:∀ W:World,W.rangeAt w.heap.size 0 cs→(Instr.loadAt 23 (.pointer (some ⟨w.heap.size,0,none⟩))).run Tryz.prog W=.ok (.agg cs.toArray) W:=fun W hW=>run_loadAt_mid W _ _ _ _ _ hW Tryz.underlying23 rfl hsz
 have HU:=hid Tryz.underlying23
 have HSZ:=hid hsz
 have HONE:=hid (show ∀ v∈Value.bool false::cs,v.oneCell'=true by
  intro v hv
  rcases List.mem_cons.1 hv with rfl|hv
  ·rfl
  ·rw [hcs] at hv;obtain ⟨x,_,rfl⟩:=List.mem_map.1 hv;rfl)
 have HL:=hid hl
 clear hcs h hldS hl hsz
 go_enter Tryz.func113,Tryz.ntmps113
 go_upto_region 1 with fail
 go_cut [5] from 5 to 12 (fun p5 wx=>Below w.heap.size w wx∧wx.rangeAt (w.heap.size+1) 0 (.bool false::cs))
 case first =>
  refine wp_region_still_tail 8 (by kernel_rfl) (by kernel_rfl) ?_
  simp only [List.take_succ_cons,List.take_zero,List.drop_succ_cons,List.drop_zero]
  repeat still_step
  refine qkD rfl _ _ rfl w.heap.size 0 rfl cs _ (fun j v hv=>World.rangeAt_alloc (qcD w cs 23) _ j v hv) HU.out rfl HSZ.out ?_
  refine qiW rfl _ _ _ rfl _ _ rfl rfl _ (qiD false cs HL.out) ?_
  refine wpStill_nil ?_
  refine wpList_store_mid rfl _ _ _ rfl (w.heap.size+1) 0 _ rfl rfl ?ht ?hi ?h1 ?_
  case ht=>exact fun j hj=>qkG (w.alloc (.cells cs.toArray 23)) (w.heap.size+1) (by simp) j (by simpa [HL.out] using hj)
  case hi=>rw [show (Value.bool false::cs).toArray.size=33 by simp [HL.out]];exact Tryz.infoI
  case h1=>exact all_oneCell_toArray HONE.out
  go_wp2_with fail
  simp only [Act.put,List.setIfInBounds_toArray,List.set_cons_zero,List.set_cons_succ]
  go_meet
  refine ⟨?_,?_⟩
  ·refine qaB (by omega) _ _ _ ?_
   exact below_drewN ((((Below.refl w.heap.size w).alloc (Nat.le_refl _) (.cells cs.toArray 23))).alloc (by simp) (.cells zero33 25)) 1
  ·exact World.rangeAt_setCells_same _ _ _ _ (fun j hj=>qkG (w.alloc (.cells cs.toArray 23)) (w.heap.size+1) (by simp) j (by simpa [HL.out] using hj))
 case rest =>
  obtain ⟨hb,hrg⟩:=hcut
  have hld:=run_loadVar_mid (P:=Tryz.prog) wc (w.heap.size+1) 0 25 (.bool false::cs) _ hrg Tryz.underlying25 rfl (by rw [show (Value.bool false::cs).length=33 by simp [HL.out]];exact Tryz.infoI)
  go_wp2_with fail
  refine bodyPost_ret (v:=.agg (Value.bool false::cs).toArray) (by simp [results,Tryz.results113,asAddr,hld]) rfl ?_
  exact ⟨rfl,hb⟩
end Go.Proofs.YtooeabibhjbkoaaGreat
