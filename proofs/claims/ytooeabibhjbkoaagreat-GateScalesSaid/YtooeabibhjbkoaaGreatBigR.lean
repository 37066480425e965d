import Derived.Test.YtooeabibhjbkoaaGreatBigB
import Derived.Test.YtooeabibhjbkoaaGreatBigQ
set_option linter.unusedVariables false
set_option linter.unusedSimpArgs false
namespace Go.Proofs.YtooeabibhjbkoaaGreat
open Go.RowKit Big
namespace Big
def lv (n v:Nat):List Value:=cells (dg n v)
theorem qlL (n v:Nat):(lv n v).length=n:=by simp [lv,cells,qgC]
theorem lv_get {n k:Nat} (v:Nat) (h:k<n):(lv n v)[k]?=some (.int .u32 (lim v k:Nat)):=by simp [lv,cells,qgD v h]
theorem qbW (n v:Nat):∀ x∈lv n v,x.oneCell'=true:=by
 intro x hx
 obtain ⟨y,_,rfl⟩:=List.mem_map.1 hx
 rfl
theorem qsO (v:Nat):Mag (dg 32 v):=⟨qgC _ _,fun x hx=>by
 obtain ⟨k,_,rfl⟩:=List.mem_map.1 hx
 exact qaC v k⟩
def mV (v:Nat):Value:=.agg (lv 32 v).toArray
def iV (neg:Bool) (v:Nat):Value:=.agg (Value.bool neg::lv 32 v).toArray
theorem qsP {n i x:Nat} (v:Nat) (hi:i<n) (hx:x<BB):(lv n v).set i (.int .u32 (x:Nat))=lv n (upd v i x):=by
 unfold lv cells
 rw [←jbD hi hx,List.map_set]
theorem qnK {v n:Nat} (hn:IsLimbs v n):∀ k,k≤32→v<BB^k→limK (dg 32 v) k=n
 | 0,_,h=>by
  have:v=0:=by simpa using h
  subst this
  exact (hn.zero).symm
 | k+1,hk,h=>by
  rw [limK,qzU v (show k<32 by omega)]
  split
  ·rename_i hz
   exact qnK hn k (by omega) (qcR h hz)
  ·rename_i hz
   exact IsLimbs.unique (n:=k+1) ⟨h,fun _=>qgN hz⟩ hn
theorem qLE (v:Nat):∀ k,v<BB^k→∃ n,n≤k∧IsLimbs v n
 | 0,h=>⟨0,Nat.le_refl _,h,fun h=>by omega⟩
 | k+1,h=>by
  by_cases hz:lim v k=0
  ·obtain ⟨n,hn,hl⟩:=qLE v k (qcR h hz)
   exact ⟨n,by omega,hl⟩
  ·exact ⟨k+1,Nat.le_refl _,h,fun _=>qgN hz⟩
end Big
def MagAt (w:World) (b o n v:Nat):Prop:=w.rangeAt b o (lv n v)
def qMO (w:World) (b o n v:Nat):Prop:=MagAt w b o n v∧∀ j,j<n→w.frozen? ⟨b,o+j,none⟩=false
theorem MagAt.get {w:World} {b o n v k:Nat} (h:MagAt w b o n v) (hk:k<n):w.cell? ⟨b,o+k,none⟩=some (.int .u32 (lim v k:Nat)):=h k _ (lv_get v hk)
theorem MagAt.up {w w':World} {b o n v:Nat} (h:MagAt w b o n v) (hb:Below w.heap.size w w'):MagAt w' b o n v:=fun j u hu=>qcU (h j u hu) hb
theorem qMO.there {w:World} {b o n v:Nat} (h:qMO w b o n v):w.there b o n:=fun j hj=>⟨by rw [h.1.get hj];rfl,h.2 j hj⟩
theorem qMO.set {w:World} {b o n v i x:Nat} (h:qMO w b o n v) (hi:i<n) (hx:x<BB):qMO (w.setCell ⟨b,o+i,none⟩ (.int .u32 (x:Nat))) b o n (upd v i x):=by
 refine ⟨fun j u hu=>?_,fun j hj=>by rw [World.frozen?_setCell];exact h.2 j hj⟩
 rw [←qsP v hi hx,List.getElem?_set] at hu
 by_cases e:i=j
 ·subst e
  rw [if_pos rfl,if_pos (by rw [qlL];exact hi)] at hu
  injection hu with hu
  subst hu
  exact World.cell?_setCell_same _ _ _ (h.1.get hi)
 ·rw [if_neg e] at hu
  rw [World.cell?_setCell_other _ _ _ _ (fun e2=>by injection e2 with _ e3;omega)]
  exact h.1 j u hu
theorem MagAt.setOther {w:World} {b o n v:Nat} (h:MagAt w b o n v) (p:Addr) (u:Value) (hp:p.block≠b):MagAt (w.setCell p u) b o n v:=fun j x hx=>by
 rw [World.cell?_setCell_other _ _ _ _ (fun e=>by subst e;exact hp rfl)]
 exact h j x hx
theorem qMO.setOther {w:World} {b o n v:Nat} (h:qMO w b o n v) (p:Addr) (u:Value) (hp:p.block≠b):qMO (w.setCell p u) b o n v:=⟨h.1.setOther p u hp,fun j hj=>by rw [World.frozen?_setCell];exact h.2 j hj⟩
theorem qMO.up {w w':World} {b o n v:Nat} (h:qMO w b o n v) (hb:Below w.heap.size w w') (hn:b<w.heap.size):qMO w' b o n v:=⟨h.1.up hb,fun j hj=>by rw [hb.frozen (by simpa using hn)];exact h.2 j hj⟩
theorem MagAt.new (w:World) (n v:Nat) (t:TypeId):MagAt (w.alloc (.cells (lv n v).toArray t)) w.heap.size 0 n v:=qcD w _ t
theorem qMO.new (w:World) (n v:Nat) (t:TypeId):qMO (w.alloc (.cells (lv n v).toArray t)) w.heap.size 0 n v:=⟨qcD w _ t,fun j _=>by simp⟩
theorem qsX (w:World) (neg:Bool) (v:Nat) (t:TypeId):(w.alloc (.cells (Value.bool neg::lv 32 v).toArray t)).cell? ⟨w.heap.size,0,none⟩=some (.bool neg)∧MagAt (w.alloc (.cells (Value.bool neg::lv 32 v).toArray t)) w.heap.size 1 32 v:=by
 have h:=qcD w (Value.bool neg::lv 32 v) t
 refine ⟨?_,fun j u hu=>?_⟩
 ·have:=h 0 (.bool neg) rfl
  rwa [Nat.add_zero] at this
 ·have:=h (j+1) u (by simpa using hu)
  rwa [show 0+(j+1)=1+j by omega] at this
theorem qcY (v n:Nat) (w:World) (hv:v<BB^32) (hn:IsLimbs v n) :
  Calls Tryz.prog 114 #[mV v] w fun e w'=>e=.returned (.int .i64 n)∧Below w.heap.size w w':=by
 have:=qmA (dg 32 v) w (qsO v)
 rw [show limbsN (dg 32 v)=n from qnK hn 32 (Nat.le_refl _) hv] at this
 exact this
theorem qhJ (v:Nat) (z:Bool) (w:World) (hv:v<BB^32) (hz:z=decide (v=0)) :
  Calls Tryz.prog 146 #[mV v] w fun e w'=>e=.returned (.bool z)∧Below w.heap.size w w':=by
 obtain ⟨n,_,hn⟩:=qLE v 32 hv
 have:=qtY (dg 32 v) w (qsO v)
 rw [show limbsN (dg 32 v)=n from qnK hn 32 (Nat.le_refl _) hv] at this
 rw [hz,show decide (v=0)=(n==0) from ?_]
 ·exact this
 ·rw [Bool.eq_iff_iff]
  simp only [decide_eq_true_eq,beq_iff_eq]
  exact ⟨fun h=>by subst h;exact hn.zero,fun h=>by subst h;exact hn.eq_zero⟩
theorem qmQ (v:Nat) (w:World) (hv:v<BB^32) :
  Calls Tryz.prog 113 #[.bool false,mV v] w fun e w'=>e=.returned (iV false v)∧Below w.heap.size w w':=qnT (dg 32 v) w (qsO v)
end Go.Proofs.YtooeabibhjbkoaaGreat
