import Derived.WalkKit
import Derived.Lib.Bytealg
set_option linter.unusedVariables false
set_option linter.unusedSimpArgs false
namespace Go.Proofs.YtemoddmadfoaiaaGreat
namespace Reg
open Go.Op (bytesLess)
theorem tl (a:ByteArray):a.toList=a.data.toList:=ByteArray.toList_eq a
theorem jdP:∀ a:List UInt8,bytesLess a a=false
 | []=>rfl
 | a::x=>by simp [bytesLess,jdP x]
theorem qsN:∀ a b c:List UInt8,bytesLess a b=true→bytesLess b c=true→bytesLess a c=true
 | _,_,[],_,h=>by simp [bytesLess] at h
 | _,[],_::_,h,_=>by simp [bytesLess] at h
 | [],_::_,_::_,_,_=>rfl
 | a::x,b::y,c::z,h,k=>by
  simp only [bytesLess,Bool.or_eq_true,Bool.and_eq_true,decide_eq_true_eq,beq_iff_eq] at h k ⊢;rcases h with h|⟨rfl,h⟩
  ·rcases k with k|⟨rfl,k⟩
   ·exact .inl (UInt8.lt_trans h k)
   ·exact .inl h
  ·rcases k with k|⟨rfl,k⟩
   ·exact .inl k
   ·exact .inr ⟨rfl,qsN x y z h k⟩
theorem qsO:∀ a b:List UInt8,bytesLess a b=false→bytesLess b a=false→a=b
 | [],[],_,_=>rfl
 | [],_::_,h,_=>by simp [bytesLess] at h
 | _::_,[],_,h=>by simp [bytesLess] at h
 | a::x,b::y,h,k=>by
  simp only [bytesLess,Bool.or_eq_false_iff,Bool.and_eq_false_iff,decide_eq_false_iff_not,beq_eq_false_iff_ne] at h k
  have e:a=b:=by
   have h1:=h.1;have k1:=k.1;rw [UInt8.not_lt] at h1 k1;exact UInt8.le_antisymm k1 h1
  subst e;have h2:=h.2.resolve_left (fun h=>h rfl);have k2:=k.2.resolve_left (fun h=>h rfl);rw [qsO x y h2 k2]
theorem jhL:∀ a b:List UInt8,Lib.compareBytes a b=if bytesLess a b=true then -1 else if a==b then 0 else 1
 | [],[]=>rfl
 | [],_::_=>rfl
 | _::_,[]=>rfl
 | a::x,b::y=>by
  rw [Lib.compareBytes,jhL x y];by_cases h:a<b
  ·simp [bytesLess,h]
  ·by_cases k:b<a
   ·have hne:a≠b:=fun e=>by subst e;exact h k
    simp [bytesLess,h,k,hne]
   ·have e:a=b:=by
     rw [UInt8.not_lt] at h k;exact UInt8.le_antisymm k h
    subst e;simp [bytesLess,h]
structure Lot where
 nom:ByteArray
 hol:ByteArray
 ser:Int
 units:Int
def Lot.cells (x:Lot):List Value:=[.string x.nom,.string x.hol,.int .i64 x.ser,.int .i64 x.units]
def cellsL (l:List Lot):List Value:=l.flatMap Lot.cells
theorem qcE (l:List Lot):(cellsL l).length=l.length*4:=by
 induction l with
 | nil=>rfl
 | cons a l ih=>simp only [cellsL,List.flatMap_cons,List.length_append,List.length_cons] at ih ⊢;rw [ih];simp [Lot.cells];omega
theorem qhS (a b:List Lot):cellsL (a++b)=cellsL a++cellsL b:=by simp [cellsL]
theorem qdQ (l:List Lot):∀ u∈cellsL l,u.oneCell'=true:=by
 intro u hu;obtain ⟨x,_,hx⟩:=List.mem_flatMap.1 hu;simp [Lot.cells] at hx;rcases hx with rfl|rfl|rfl|rfl<;>rfl
theorem qkR (l:List Lot) (i:Nat) (t:Lot) (h:l[i]?=some t):(cellsL l)[i*4]?=some (.string t.nom)∧(cellsL l)[i*4+1]?=some (.string t.hol)∧(cellsL l)[i*4+2]?=some (.int .i64 t.ser)∧(cellsL l)[i*4+3]?=some (.int .i64 t.units):=by
 induction l generalizing i with
 | nil=>simp at h
 | cons a l ih =>
  cases i with
  | zero=>simp at h;subst h;simp [cellsL,Lot.cells]
  | succ i =>
   have:=ih i (by simpa using h)
   simp only [cellsL,List.flatMap_cons,Lot.cells,List.cons_append,List.nil_append] at this ⊢;have e:∀ j,(i+1)*4+j=(i*4+j)+1+1+1+1:=fun j=>by omega
   refine ⟨?_,?_,?_,?_⟩
   ·rw [show (i+1)*4=(i*4)+1+1+1+1 by omega];simpa using this.1
   ·rw [e 1];simpa using this.2.1
   ·rw [e 2];simpa using this.2.2.1
   ·rw [e 3];simpa using this.2.2.2
def sLt (a b:ByteArray):Bool:=bytesLess a.toList b.toList
def sEq (a b:ByteArray):Bool:=a.toList==b.toList
theorem qdW (a b:ByteArray):sEq a b=true↔a=b:=by
 unfold sEq;rw [beq_iff_eq,tl,tl];exact ⟨fun h=>ByteArray.ext (Array.ext' h),fun h=>by rw [h]⟩
theorem jaK (a:ByteArray):sEq a a=true:=(qdW a a).2 rfl
theorem qqA (a:ByteArray):sLt a a=false:=jdP _
theorem qjA {a b c:ByteArray} (h:sLt a b=true) (k:sLt b c=true):sLt a c=true:=qsN _ _ _ h k
theorem qvK {a b:ByteArray} (h:sLt a b=false) (k:sLt b a=false):a=b :=
 (qdW a b).1 (beq_iff_eq.2 (qsO _ _ h k))
theorem jaJ {a b:ByteArray} (h:sLt a b=true):sLt b a=false:=by
 cases k:sLt b a
 ·rfl
 ·have:=qjA h k;rw [qqA] at this;cases this
theorem qjB {a b:ByteArray} (h:sLt a b=true):a≠b:=by rintro rfl;rw [qqA] at h;cases h
def sCmp (a b:ByteArray):Int:=Lib.compareBytes a.data.toList b.data.toList
theorem qqB (a b:ByteArray):sCmp a b=if sLt a b=true then -1 else if sEq a b=true then 0 else 1:=by
 unfold sCmp sLt sEq;rw [jhL,tl,tl]
theorem qvL {a b:ByteArray} (h:sLt a b=true):sCmp a b=-1:=by rw [qqB,if_pos h]
theorem qnZ (a:ByteArray):sCmp a a=0:=by rw [qqB,if_neg (by rw [qqA];simp),if_pos (jaK a)]
theorem qvM {a b:ByteArray} (h:sLt b a=true):sCmp a b=1:=by
 rw [qqB,if_neg (by rw [jaJ h];simp),if_neg];rw [qdW];exact (qjB h).symm
theorem jaI (a b:ByteArray):sLt a b=true∨a=b∨sLt b a=true:=by
 cases h:sLt a b
 ·cases k:sLt b a
  ·exact .inr (.inl (qvK h k))
  ·exact .inr (.inr rfl)
 ·exact .inl rfl
def lotLt (a b:Lot):Bool:=if a.nom=b.nom then (if a.hol=b.hol then decide (a.ser<b.ser) else sLt a.hol b.hol) else sLt a.nom b.nom
def sameKey (a b:Lot):Prop:=a.nom=b.nom∧a.hol=b.hol∧a.ser=b.ser
theorem qeH (a b:Lot) (h:sameKey a b):lotLt a b=false:=by
 obtain ⟨h1,h2,h3⟩:=h;simp [lotLt,h1,h2,h3]
theorem qmR (a b:Lot):lotLt a b=true∨sameKey a b∨lotLt b a=true:=by
 unfold lotLt sameKey;by_cases h1:a.nom=b.nom
 ·by_cases h2:a.hol=b.hol
  ·simp [h1,h2];omega
  ·rcases jaI a.hol b.hol with h|h|h
   ·simp [h1,h2,h]
   ·exact absurd h h2
   ·simp [h1,h2,Ne.symm h2,h]
 ·rcases jaI a.nom b.nom with h|h|h
  ·simp [h1,h]
  ·exact absurd h h1
  ·simp [h1,Ne.symm h1,h]
theorem qcS {a b c:Lot} (h:lotLt a b=true) (k:lotLt b c=true):lotLt a c=true:=by
 unfold lotLt at *;by_cases h1:a.nom=b.nom
 ·rw [if_pos h1] at h;by_cases k1:b.nom=c.nom
  ·rw [if_pos k1] at k;rw [if_pos (h1.trans k1)];by_cases h2:a.hol=b.hol
   ·rw [if_pos h2] at h;by_cases k2:b.hol=c.hol
    ·rw [if_pos k2] at k;rw [if_pos (h2.trans k2)];simp at h k ⊢;omega
    ·rw [if_neg k2] at k;rw [if_neg (by rw [h2];exact k2),h2];exact k
   ·rw [if_neg h2] at h;by_cases k2:b.hol=c.hol
    ·rw [if_neg (by rw [←k2];exact h2),←k2];exact h
    ·rw [if_neg k2] at k
     have:=qjA h k
     rw [if_neg (qjB this)];exact this
  ·rw [if_neg k1] at k;rw [if_neg (by rw [h1];exact k1),h1];exact k
 ·rw [if_neg h1] at h;by_cases k1:b.nom=c.nom
  ·rw [if_neg (by rw [←k1];exact h1),←k1];exact h
  ·rw [if_neg k1] at k
   have:=qjA h k
   rw [if_neg (qjB this)];exact this
theorem qfM {a b:Lot} (h:lotLt a b=true):lotLt b a=false:=by
 cases k:lotLt b a
 ·rfl
 ·have:=qcS h k;rw [qeH a a ⟨rfl,rfl,rfl⟩] at this;cases this
theorem qeX {a b:Lot} (h:lotLt a b=true):¬sameKey a b:=fun k=>by rw [qeH _ _ k] at h;cases h
def place (a b:Lot):Int:=if lotLt a b=true then -1 else if lotLt b a=true then 1 else 0
theorem qeM {a b:Lot} (h:lotLt a b=true):place a b=-1:=if_pos h
theorem qgP {a b:Lot} (h:lotLt b a=true):place a b=1:=by rw [place,if_neg (by rw [qfM h];simp),if_pos h]
theorem qhK {a b:Lot} (h:sameKey a b):place a b=0:=by
 rw [place,if_neg (by rw [qeH _ _ h];simp),if_neg (by rw [qeH _ _ ⟨h.1.symm,h.2.1.symm,h.2.2.symm⟩];simp)]
theorem qgO (a b:Lot):place a b<0↔lotLt a b=true:=by
 rcases qmR a b with h|h|h
 ·simp [qeM h,h]
 ·simp [qhK h,qeH _ _ h]
 ·simp [qgP h,qfM h]
theorem qfW (a b:Lot):place a b=0↔sameKey a b:=by
 rcases qmR a b with h|h|h
 ·simp [qeM h,qeX h]
 ·simp [qhK h,h]
 ·have:¬sameKey a b:=fun k=>qeX h ⟨k.1.symm,k.2.1.symm,k.2.2.symm⟩
  simp [qgP h,this]
end Reg
end Go.Proofs.YtemoddmadfoaiaaGreat
namespace Go.Proofs.YtemoddmadfoaiaaGreat
namespace Reg
def Srt (l:List Lot):Prop:=l.Pairwise (fun a b=>lotLt a b=true)
def Lot.more (y:Lot) (k:Int):Lot:=⟨y.nom,y.hol,y.ser,y.units+k⟩
instance (a b:Lot):Decidable (sameKey a b):=by unfold sameKey;infer_instance
def putL:List Lot→Lot→List Lot
 | [],x=>[x]
 | y::l,x=>if sameKey y x then y.more x.units::l else if lotLt x y=true then x::y::l else y::putL l x
def sumU:List Lot→Int
 | []=>0
 | x::l=>x.units+sumU l
theorem jaD (a b:List Lot):sumU (a++b)=sumU a+sumU b:=by
 induction a with
 | nil=>simp [sumU]
 | cons x a ih=>simp only [List.cons_append,sumU,ih];omega
theorem jdT (l:List Lot) (m:Int) (hm:0≤m) (h:∀ x∈l,0≤x.units∧x.units≤m):0≤sumU l∧sumU l≤m*l.length:=by
 induction l with
 | nil=>simp [sumU]
 | cons x l ih =>
  have h1:=ih (fun y hy=>h y (by simp [hy]));have h2:=h x (by simp);simp only [sumU,List.length_cons]
  have:m*((l.length+1:Nat):Int)=m*l.length+m:=by rw [Int.natCast_add,Int.mul_add];simp
  omega
theorem qkZ (l:List Lot) (h:∀ x∈l,0≤x.units) (x:Lot) (hx:x∈l):x.units≤sumU l:=by
 induction l with
 | nil=>cases hx
 | cons y l ih =>
  have h1:0≤sumU l:=by
   clear ih hx
   induction l with
   | nil=>simp [sumU]
   | cons z l ih2 =>
    have:=ih2 (fun w hw=>h w (by simp only [List.mem_cons] at hw ⊢;rcases hw with h|h<;>simp [h]))
    have:=h z (by simp)
    simp only [sumU];omega
  rcases List.mem_cons.1 hx with rfl|hx
  ·simp only [sumU];omega
  ·have:=ih (fun w hw=>h w (by simp [hw])) hx
   have:=h y (by simp)
   simp only [sumU];omega
theorem qwA (l:List Lot) (x:Lot):sumU (putL l x)=sumU l+x.units:=by
 induction l with
 | nil=>simp [putL,sumU]
 | cons y l ih =>
  rw [putL];split
  ·simp only [sumU,Lot.more];omega
  ·split
   ·simp only [sumU];omega
   ·simp only [sumU,ih];omega
theorem qwC (l:List Lot) (x:Lot):l.length≤(putL l x).length∧(putL l x).length≤l.length+1:=by
 induction l with
 | nil=>simp [putL]
 | cons y l ih =>
  rw [putL];split
  ·simp
  ·split
   ·simp
   ·simp;omega
theorem qmD (l:List Lot) (x z:Lot) (h:z∈putL l x):z∈l∨z=x∨∃ y∈l,sameKey y x∧z=y.more x.units:=by
 induction l with
 | nil=>simp [putL] at h;exact .inr (.inl h)
 | cons y l ih =>
  rw [putL] at h;split at h
  ·rename_i hk
   rcases List.mem_cons.1 h with h|h
   ·exact .inr (.inr ⟨y,by simp,hk,h⟩)
   ·exact .inl (by simp [h])
  ·split at h
   ·rcases List.mem_cons.1 h with h|h
    ·exact .inr (.inl h)
    ·exact .inl h
   ·rcases List.mem_cons.1 h with h|h
    ·exact .inl (by simp [h])
    ·rcases ih h with h|h|⟨w,hw,h⟩
     ·exact .inl (by simp [h])
     ·exact .inr (.inl h)
     ·exact .inr (.inr ⟨w,by simp [hw],h⟩)
theorem qhO {a b c:Lot} (h:sameKey a b):lotLt a c=lotLt b c:=by
 obtain ⟨h1,h2,h3⟩:=h;simp [lotLt,h1,h2,h3]
theorem qfL {a b c:Lot} (h:sameKey a b):lotLt c a=lotLt c b:=by
 obtain ⟨h1,h2,h3⟩:=h;simp [lotLt,h1,h2,h3]
theorem qdY (y:Lot) (k:Int):sameKey (y.more k) y:=⟨rfl,rfl,rfl⟩
theorem jgQ (l:List Lot) (x y:Lot) (h:∀ z∈l,lotLt y z=true) (hx:lotLt y x=true):∀ z∈putL l x,lotLt y z=true:=by
 intro z hz;rcases qmD l x z hz with h1|h1|⟨w,hw,_,rfl⟩
 ·exact h z h1
 ·rw [h1];exact hx
 ·rw [qfL (qdY w _)];exact h w hw
theorem qqF (l:List Lot) (x:Lot) (h:Srt l):Srt (putL l x):=by
 induction l with
 | nil=>simp [putL,Srt]
 | cons y l ih =>
  have h1:=List.pairwise_cons.1 h;rw [putL];split
  ·exact List.pairwise_cons.2 ⟨fun z hz=>by rw [qhO (qdY y _)];exact h1.1 z hz,h1.2⟩
  ·rename_i hk
   split
   ·rename_i hlt
    exact List.pairwise_cons.2 ⟨fun z hz=>by
     rcases List.mem_cons.1 hz with rfl|hz
     ·exact hlt
     ·exact qcS hlt (h1.1 z hz),h⟩
   ·rename_i hlt
    have hyx:lotLt y x=true:=by
     rcases qmR y x with h|h|h
     ·exact h
     ·exact absurd h hk
     ·exact absurd h hlt
    exact List.pairwise_cons.2 ⟨jgQ l x y h1.1 hyx,ih h1.2⟩
def pos (l:List Lot) (x:Lot):Nat:=(l.takeWhile (fun y=>lotLt y x)).length
theorem jgS (l:List Lot) (x:Lot) (i:Nat) (hi:i≤l.length) (h1:∀ a (h:a<l.length),a<i→lotLt l[a] x=true) (h2:∀ h:i<l.length,lotLt l[i] x=false):pos l x=i:=by
 induction l generalizing i with
 | nil=>simp at hi;subst hi;rfl
 | cons y l ih =>
  cases i with
  | zero=>have:=h2 (by simp);simp at this;simp [pos,List.takeWhile,this]
  | succ i =>
   have h0:=h1 0 (by simp) (by omega);simp at h0
   have:=ih i (by simpa using hi) (fun a h ha=>h1 (a+1) (by simpa using h) (by omega)) (fun h=>h2 (by simpa using h))
   simp only [pos] at this ⊢;simp [List.takeWhile,h0,this]
theorem jgR (l:List Lot) (x:Lot):pos l x≤l.length:=(List.takeWhile_prefix _).length_le
theorem qwB (l:List Lot) (x:Lot):(∀ (h:pos l x<l.length),sameKey l[pos l x] x→putL l x=l.set (pos l x) (l[pos l x].more x.units)) ∧
  ((∀ (h:pos l x<l.length),¬sameKey l[pos l x] x)→putL l x=l.take (pos l x)++x::l.drop (pos l x)):=by
 induction l with
 | nil=>simp [pos,putL]
 | cons y l ih =>
  by_cases hk:sameKey y x
  ·have h0:pos (y::l) x=0:=by simp [pos,List.takeWhile,qeH y x hk]
   refine ⟨fun h hs=>?_,fun h=>?_⟩
   ·simp only [h0] at hs ⊢;simp [putL,hk]
   ·exact absurd (by simpa [h0] using hk) (h (by rw [h0];simp))
  ·by_cases hlt:lotLt x y=true
   ·have h0:pos (y::l) x=0:=by simp [pos,List.takeWhile,qfM hlt]
    refine ⟨fun h hs=>?_,fun h=>?_⟩
    ·simp only [h0] at hs;exact absurd (by simpa using hs) hk
    ·rw [h0];simp [putL,hk,hlt]
   ·have hyx:lotLt y x=true:=by
     rcases qmR y x with h|h|h
     ·exact h
     ·exact absurd h hk
     ·exact absurd h hlt
    have h0:pos (y::l) x=pos l x+1:=by simp [pos,List.takeWhile,hyx]
    refine ⟨fun h hs=>?_,fun h=>?_⟩
    ·simp only [h0] at hs h ⊢
     have:=ih.1 (by simpa using h) (by simpa using hs)
     rw [putL,if_neg hk,if_neg hlt,this];simp
    ·rw [h0]
     have:=ih.2 (fun h'=>by have:=h (by rw [h0];simpa using h');simpa [h0] using this)
     rw [putL,if_neg hk,if_neg hlt,this];simp
theorem jeH (l:List Lot) (x:Lot) (h:∀ y∈l,¬sameKey y x):(putL l x).Perm (x::l):=by
 induction l with
 | nil=>exact List.Perm.refl _
 | cons y l ih =>
  rw [putL,if_neg (h y (by simp))];split
  ·exact List.Perm.refl _
  ·exact ((ih (fun z hz=>h z (by simp [hz]))).cons y).trans (List.Perm.swap x y l)
def giveL (l more:List Lot):List Lot:=more.foldl putL l
theorem qsA (l more:List Lot) (h:Srt l):Srt (giveL l more):=by
 induction more generalizing l with
 | nil=>exact h
 | cons x more ih=>exact ih _ (qqF l x h)
theorem jbP (l more:List Lot) (h1:∀ y∈l,∀ x∈more,¬sameKey y x) (h2:more.Pairwise (fun a b=>¬sameKey a b)):(giveL l more).Perm (more++l):=by
 induction more generalizing l with
 | nil=>exact List.Perm.refl _
 | cons x more ih =>
  have h3:=List.pairwise_cons.1 h2;have hp:=jeH l x (fun y hy=>h1 y hy x (by simp))
  have:=ih (putL l x) (fun y hy z hz=>by
   rcases List.mem_cons.1 (hp.mem_iff.1 hy) with rfl|hy
   ·exact h3.1 z hz
   ·exact h1 y hy z (by simp [hz])) h3.2
  exact (this.trans (hp.append_left more)).trans List.perm_middle
theorem qsV {a b:List Lot} (ha:Srt a) (hb:Srt b) (h:a.Perm b):a=b :=
 List.Perm.eq_of_pairwise (le:=fun a b=>lotLt a b=true) (fun x y _ _ h1 h2=>by rw [qfM h1] at h2;cases h2) ha hb h
def ownB (nm hl:ByteArray) (x:Lot):Bool:=sEq x.nom nm&&sEq x.hol hl
def ownL (nm hl:ByteArray) (l:List Lot):List Lot:=l.filter (ownB nm hl)
def othL (nm hl:ByteArray) (l:List Lot):List Lot:=l.filter (fun x=>!ownB nm hl x)
def takeP:List Lot→Int→List Lot × List Lot
 | [],_=>([],[])
 | x::l,n =>
  let k:=min n x.units
  let r:=takeP l (n - k)
  (if k<x.units then x.more (-k)::r.1 else r.1,if 0<k then ⟨x.nom,x.hol,x.ser,k⟩::r.2 else r.2)
def takeR (nm hl:ByteArray):List Lot→Int→List Lot × List Lot
 | [],_=>([],[])
 | x::l,n =>
  if ownB nm hl x=true∧0<n then
   let k:=min n x.units
   let r:=takeR nm hl l (n - k)
   (if 0<x.units - k then x.more (-k)::r.1 else r.1,⟨nm,hl,x.ser,k⟩::r.2)
  else (if 0<x.units then x::(takeR nm hl l n).1 else (takeR nm hl l n).1,(takeR nm hl l n).2)
theorem qrN {nm hl:ByteArray} {x:Lot} (h:ownB nm hl x=true):x.nom=nm∧x.hol=hl:=by
 simp only [ownB,Bool.and_eq_true,qdW] at h;exact h
theorem qnU (l:List Lot) (n:Int):∀ z∈(takeP l n).1,∃ y∈l,sameKey z y:=by
 induction l generalizing n with
 | nil=>simp [takeP]
 | cons x l ih =>
  intro z hz;simp only [takeP] at hz;split at hz
  ·rcases List.mem_cons.1 hz with rfl|hz
   ·exact ⟨x,by simp,qdY _ _⟩
   ·obtain ⟨y,hy,h⟩:=ih _ z hz;exact ⟨y,by simp [hy],h⟩
  ·obtain ⟨y,hy,h⟩:=ih _ z hz;exact ⟨y,by simp [hy],h⟩
theorem qnR (nm hl:ByteArray) (l:List Lot) (n:Int):∀ z∈(takeR nm hl l n).1,∃ y∈l,sameKey z y:=by
 induction l generalizing n with
 | nil=>simp [takeR]
 | cons x l ih =>
  intro z hz;simp only [takeR] at hz;split at hz
  ·simp only at hz
   split at hz
   ·rcases List.mem_cons.1 hz with rfl|hz
    ·exact ⟨x,by simp,qdY _ _⟩
    ·obtain ⟨y,hy,h⟩:=ih _ z hz;exact ⟨y,by simp [hy],h⟩
   ·obtain ⟨y,hy,h⟩:=ih _ z hz;exact ⟨y,by simp [hy],h⟩
  ·simp only at hz
   split at hz
   ·rcases List.mem_cons.1 hz with rfl|hz
    ·exact ⟨z,by simp,⟨rfl,rfl,rfl⟩⟩
    ·obtain ⟨y,hy,h⟩:=ih _ z hz;exact ⟨y,by simp [hy],h⟩
   ·obtain ⟨y,hy,h⟩:=ih _ z hz;exact ⟨y,by simp [hy],h⟩
theorem quU (l:List Lot) (n:Int) (h:Srt l):Srt (takeP l n).1:=by
 induction l generalizing n with
 | nil=>simp [takeP,Srt]
 | cons x l ih =>
  have h1:=List.pairwise_cons.1 h;simp only [takeP];split
  ·refine List.pairwise_cons.2 ⟨fun z hz=>?_,ih _ h1.2⟩;obtain ⟨y,hy,hk⟩:=qnU l _ z hz;rw [qhO (qdY x _),qfL hk];exact h1.1 y hy
  ·exact ih _ h1.2
theorem qnQ (nm hl:ByteArray) (l:List Lot) (n:Int) (h:Srt l):Srt (takeR nm hl l n).1:=by
 induction l generalizing n with
 | nil=>simp [takeR,Srt]
 | cons x l ih =>
  have h1:=List.pairwise_cons.1 h;simp only [takeR];split
  ·simp only
   split
   ·refine List.pairwise_cons.2 ⟨fun z hz=>?_,ih _ h1.2⟩;obtain ⟨y,hy,hk⟩:=qnR nm hl l _ z hz;rw [qhO (qdY x _),qfL hk];exact h1.1 y hy
   ·exact ih _ h1.2
  ·simp only
   split
   ·refine List.pairwise_cons.2 ⟨fun z hz=>?_,ih _ h1.2⟩;obtain ⟨y,hy,hk⟩:=qnR nm hl l _ z hz;rw [qfL hk];exact h1.1 y hy
   ·exact ih _ h1.2
theorem qiW (nm hl:ByteArray) (l:List Lot) (n:Int) (hn:0≤n) (hu:∀ x∈l,1≤x.units) :
  (takeR nm hl l n).2=(takeP (ownL nm hl l) n).2∧(takeR nm hl l n).1.Perm ((takeP (ownL nm hl l) n).1++othL nm hl l):=by
 induction l generalizing n with
 | nil=>simp [takeR,takeP,ownL,othL]
 | cons x l ih =>
  have hx:=hu x (by simp);have hu':∀ y∈l,1≤y.units:=fun y hy=>hu y (by simp [hy])
  cases ho:ownB nm hl x
  ·have h1:ownL nm hl (x::l)=ownL nm hl l:=by simp [ownL,ho]
   have h2:othL nm hl (x::l)=x::othL nm hl l:=by simp [othL,ho]
   obtain ⟨i1,i2⟩:=ih n hn hu';rw [h1,h2,takeR,ho,if_neg (by simp)];refine ⟨i1,?_⟩;simp only
   rw [if_pos (show 0<x.units by omega)];exact (i2.cons x).trans List.perm_middle.symm
  ·have h1:ownL nm hl (x::l)=x::ownL nm hl l:=by simp [ownL,ho]
   have h2:othL nm hl (x::l)=othL nm hl l:=by simp [othL,ho]
   obtain ⟨e1,e2⟩:=qrN ho;rw [h1,h2,takeR,ho];by_cases h0:0<n
   ·obtain ⟨i1,i2⟩:=ih (n - min n x.units) (by omega) hu';rw [if_pos ⟨rfl,h0⟩];simp only [takeP];rw [if_pos (show 0<min n x.units by omega)];refine ⟨by rw [i1,e1,e2],?_⟩;by_cases hk:min n x.units<x.units
    ·rw [if_pos hk,if_pos (by omega)];exact i2.cons _
    ·rw [if_neg hk,if_neg (by omega)];exact i2
   ·obtain rfl:n=0:=by omega
    obtain ⟨i1,i2⟩:=ih 0 hn hu';rw [if_neg (by simp)];have hm:min 0 x.units=0:=by omega
    simp only [takeP,hm];rw [if_neg (show ¬(0:Int)<0 by omega),if_pos (show (0:Int)<x.units by omega),if_pos (show (0:Int)<x.units by omega)];refine ⟨by simpa using i1,?_⟩
    have:x.more (-0)=x:=by cases x;simp [Lot.more]
    rw [this]
    simpa using i2.cons x
theorem qoD (nm hl:ByteArray) (l:List Lot) (n:Int) (hn:0≤n) (hu:∀ x∈l,1≤x.units) (hs:Srt l) :
  giveL (othL nm hl l) (takeP (ownL nm hl l) n).1=(takeR nm hl l n).1:=by
 have hso:Srt (othL nm hl l):=List.Pairwise.sublist List.filter_sublist hs;have hsw:Srt (ownL nm hl l):=List.Pairwise.sublist List.filter_sublist hs;refine qsV (qsA _ _ hso) (qnQ nm hl l n hs) (List.Perm.trans (jbP _ _ ?_ ?_) (qiW nm hl l n hn hu).2.symm)
 ·intro y hy x hx hk;obtain ⟨z,hz,hk2⟩:=qnU _ _ x hx;have h1:=(List.mem_filter.1 hy).2;have h2:=qrN (List.mem_filter.1 hz).2
  have:ownB nm hl y=true:=by
   simp only [ownB,Bool.and_eq_true,qdW];exact ⟨hk.1.trans (hk2.1.trans h2.1),hk.2.1.trans (hk2.2.1.trans h2.2)⟩
  simp [this] at h1
 ·exact (quU _ n hsw).imp (fun h=>qeX h)
end Reg
end Go.Proofs.YtemoddmadfoaiaaGreat
