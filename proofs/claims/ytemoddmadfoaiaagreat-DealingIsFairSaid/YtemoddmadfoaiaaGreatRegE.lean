import Derived.Test.YtemoddmadfoaiaaGreatScN
import Derived.Lib.Strings
import Derived.Lib.Slices
import Derived.Lib.Walk
import Derived.Lib.Bytealg
set_option linter.unusedVariables false
set_option linter.unusedSimpArgs false
set_option maxRecDepth 100000
set_option maxHeartbeats 2000000
namespace Go.Proofs.YtemoddmadfoaiaaGreat
open Go.RowKit Reg
open Lib (hid)
theorem jcX (a b:ByteArray) (w:World) :
  Calls Tryz.prog 149 #[.string a,.string b] w fun e w'=>e=.returned (.int .i64 (sCmp a b))∧w'=w:=by
 go_enter Tryz.func149,Tryz.ntmps149
 go_wp2
 rw [run_callFunc_extern Tryz.func173 (by kernel_rfl) (by kernel_rfl) (by kernel_rfl) (e:=Extern.BytealgCompare.compare) (by kernel_rfl),Lib.run_compareString];simp only [Result.andThen];rw [Oper.upon_value];go_wp2
 go_ret
 exact ⟨rfl,rfl⟩
theorem qrH (a b:ByteArray) (w:World) :
  Calls Tryz.prog 116 #[.string a,.string b] w fun e w'=>e=.returned (.int .i64 (sCmp a b))∧w'=w:=by
 go_enter Tryz.func116,Tryz.ntmps116
 go_wp2_with (go_at_call 149;refine (jcX _ _ _).mono ?_;rintro e w' ⟨rfl,rfl⟩)
 go_ret
 exact ⟨rfl,rfl⟩
namespace Reg
def iCmp (x y:Int):Int:=if x<y then -1 else if y<x then 1 else 0
def nz (l:List Int):Int:=(l.find? (fun x=>decide (x≠0))).getD 0
theorem qmJ (x:Int) (l:List Int):nz (x::l)=if x=0 then nz l else x:=by
 unfold nz;rw [List.find?_cons];by_cases h:x=0<;>simp [h]
theorem jaV (a b:Lot):nz [sCmp a.nom b.nom,sCmp a.hol b.hol,iCmp a.ser b.ser]=place a b:=by
 rw [qmJ,qmJ,qmJ];rcases jaI a.nom b.nom with h|h|h
 ·have hne:=qjB h;rw [qvL h,if_neg (by omega),qeM (by simp [lotLt,hne,h])]
 ·rw [h,qnZ,if_pos rfl];rcases jaI a.hol b.hol with k|k|k
  ·have hne:=qjB k;rw [qvL k,if_neg (by omega),qeM (by simp [lotLt,h,hne,k])]
  ·rw [k,qnZ,if_pos rfl];unfold iCmp;by_cases h1:a.ser<b.ser
   ·rw [if_pos h1,if_neg (by omega),qeM (by simp [lotLt,h,k,h1])]
   ·by_cases h2:b.ser<a.ser
    ·rw [if_neg h1,if_pos h2,if_neg (by omega),qgP (by simp [lotLt,h,k,h2])]
    ·rw [if_neg h1,if_neg h2,if_pos rfl,qhK ⟨h,k,by omega⟩];rfl
  ·have hne:=qjB k;rw [qvM k,if_neg (by omega),qgP (by simp [lotLt,h,hne,k])]
 ·have hne:=qjB h;rw [qvM h,if_neg (by omega),qgP (by simp [lotLt,hne,h])]
end Reg
theorem jbL (x y:Int) (w:World) :
  Calls Tryz.prog 117 #[.int .i64 x,.int .i64 y] w fun e w'=>e=.returned (.int .i64 (iCmp x y))∧w'=w:=by
 go_enter Tryz.func117,Tryz.ntmps117
 go_wp2
 all_goals (go_ret;refine ⟨?_,rfl⟩;unfold iCmp;(repeat' split)<;>first|rfl|(exfalso;omega))
theorem jgU (g cap n:Nat) (zs:List Int) (w:World) (hn:zs.length=n) (hs:n≤1000) (hc:∀ j u,zs[j]?=some u→w.cell? ⟨g,j,none⟩=some (.int .i64 u)) :
  Calls Tryz.prog 115 #[.slice (some ⟨g,0,none⟩) n cap] w fun e w'=>e=.returned (.int .i64 (nz zs))∧w=w':=by
 have HC:=hid hc;have HN:=hid hn;clear hc hn;go_enter Tryz.func115,Tryz.ntmps115
 go_wp2
 go_loopg [8] n (fun m i wr=>∃ k:Nat,k≤n∧n - k≤m∧i=.int .i64 k∧wr=w∧nz zs=nz (zs.drop k))
 case atStart=>exact ⟨0,by omega,by omega,rfl,rfl,rfl⟩
 case round =>
  obtain ⟨k,hk,hm,rfl,rfl,hz⟩:=hrel;by_cases hlt:k<n
  ·obtain ⟨x,hx⟩:∃ x,zs[k]?=some x:=⟨zs[k]'(by rw [HN.out];exact hlt),by simp [HN.out,hlt]⟩;have hc:=HC.out k x hx
   have hd:zs.drop k=x::zs.drop (k+1):=by
    rw [List.drop_eq_getElem_cons (by rw [HN.out];exact hlt)]
    have:=(List.getElem?_eq_some_iff.1 hx).2
    rw [this]
   rw [hd,qmJ] at hz;clear hd hx;by_cases h0:x=0
   ·rw [if_pos h0] at hz;subst h0;have HZ:=hid hz;clear hz;go_wp2
    go_roundg (gk - 1)
    case measure=>omega
    case rel=>exact ⟨k+1,by omega,by omega,by go_num,rfl,HZ.out⟩
   ·rw [if_neg h0] at hz;have HZ:=hid hz;have h0':(x==0)=false:=beq_eq_false_iff_ne.2 h0;clear hz;go_wp2
    go_ret
    exact ⟨qaK HZ.out.symm,rfl⟩
  ·have hz':nz zs=0:=by rw [hz,List.drop_eq_nil_of_le (by have:=HN.out;omega)];rfl
   have HZ:=hid hz';clear hz hz';go_wp2
   go_ret
   exact ⟨qaK HZ.out.symm,rfl⟩
def lotV (x:Lot):Value:=.agg #[.string x.nom,.string x.hol,.int .i64 x.ser,.int .i64 x.units]
theorem qwH (a b:Lot) (w:World) :
  Calls Tryz.prog 84 #[lotV a,lotV b] w fun e w'=>e=.returned (.int .i64 (place a b))∧Below w.heap.size w w':=by
 have HP:=hid (jaV a b);unfold lotV;go_enter Tryz.func84,Tryz.ntmps84
 go_wp2
 refine wp_region_still_tail 19 (by kernel_rfl) (by kernel_rfl) ?_;simp only [List.take_succ_cons,List.take_zero,List.drop_succ_cons,List.drop_zero];change wpStill _ _ (World.drew _) _ _ _
 repeat still_step
 still_call (qrH _ _ _)
 repeat still_step
 still_call (qrH _ _ _)
 repeat still_step
 still_call (jbL _ _ _)
 refine wpStill_nil ?_;change wpList _ _ _ _ _ (World.drew _)
 obtain ⟨w2,hw2⟩:∃ w2:World,w2=World.drew ((w.alloc (.cells #[.string a.nom,.string a.hol,.int .i64 a.ser,.int .i64 a.units] 56)).alloc (.cells #[.string b.nom,.string b.hol,.int .i64 b.ser,.int .i64 b.units] 56)):=⟨_,rfl⟩;have hb:Below w.heap.size w w2:=by rw [hw2];exact qbN (((Below.refl _ _).alloc (Nat.le_refl _) _).alloc (by simp) _)
 rw [←hw2];clear hw2;go_wp2_with (go_at_call 115;refine (jgU w2.heap.size 3 3 [sCmp a.nom b.nom,sCmp a.hol b.hol,iCmp a.ser b.ser] _ rfl (by omega) (jbK w2 [sCmp a.nom b.nom,sCmp a.hol b.hol,iCmp a.ser b.ser] _)).mono ?_;rintro e w' ⟨rfl,rfl⟩)
 go_ret
 exact ⟨qaK HP.out,hb.alloc hb.size _⟩
set_option maxHeartbeats 2000000
namespace Reg
def rightB (x:Lot):Bool:=acctB x.nom x.hol&&(decide (0≤x.ser)&&decide (x.ser≤73048)&&decide (1≤x.units)&&decide (x.units≤1000000000000000))
def okAt (l:List Lot) (k:Nat):Bool:=match l[k]? with
 | none=>true
 | some x=>rightB x&&(match k with
  | 0=>true
  | j+1=>match l[j]? with
   | none=>true
   | some y=>lotLt y x)
def okL (l:List Lot):Bool:=(List.range l.length).all (okAt l)
def checkB (l:List Lot):Bool:=decide (l.length≤256)&&okL l&&decide (sumU l≤1000000000000000)
theorem qjI {l:List Lot} {x:Lot} (hx:l[0]?=some x):okAt l 0=rightB x:=by simp [okAt,hx]
theorem qgU {l:List Lot} {x y:Lot} {j:Nat} (hx:l[j+1]?=some x) (hy:l[j]?=some y):okAt l (j+1)=(rightB x&&lotLt y x):=by simp [okAt,hx,hy]
theorem okL_no {l:List Lot} {k:Nat} (hk:k<l.length) (h:okAt l k=false):okL l=false:=by
 unfold okL;rw [List.all_eq_false];exact ⟨k,by simpa using hk,by simp [h]⟩
theorem okL_yes {l:List Lot} {n:Nat} (hn:l.length≤n) (h:∀ k,k<n→okAt l k=true):okL l=true:=by
 unfold okL;rw [List.all_eq_true];intro k hk;exact h k (by have:=List.mem_range.1 hk;omega)
theorem okL_at {l:List Lot} (h:okL l=true) (k:Nat) (hk:k<l.length):okAt l k=true:=by
 unfold okL at h;rw [List.all_eq_true] at h;exact h k (by simpa using hk)
theorem qgT {l:List Lot} (h:okL l=true) (x:Lot) (hx:x∈l):rightB x=true:=by
 obtain ⟨k,hk⟩:=List.getElem?_of_mem hx;have h1:=okL_at h k (List.getElem?_eq_some_iff.1 hk).1;simp only [okAt,hk,Bool.and_eq_true] at h1;exact h1.1
theorem qiJ {x:Lot} (h:rightB x=true):1≤x.units∧x.units≤1000000000000000∧0≤x.ser∧x.ser≤73048∧acctB x.nom x.hol=true:=by
 simp only [rightB,Bool.and_eq_true,decide_eq_true_eq] at h;exact ⟨h.2.1.2,h.2.2,h.2.1.1.1,h.2.1.1.2,h.1⟩
theorem jeT {l:List Lot} (h:okL l=true):Srt l:=by
 unfold Srt;rw [List.pairwise_iff_getElem]
 have step:∀ i (hi:i+1<l.length),lotLt (l[i]'(by omega)) l[i+1]=true:=by
  intro i hi;have h1:=okL_at h (i+1) hi;rw [qgU (x:=l[i+1]) (y:=l[i]'(by omega)) (List.getElem?_eq_getElem hi) (List.getElem?_eq_getElem (by omega))] at h1;simp only [Bool.and_eq_true] at h1;exact h1.2
 intro i j hi hj hij;obtain ⟨d,rfl⟩:∃ d,j=i+1+d:=⟨j - i - 1,by omega⟩
 induction d with
 | zero=>exact step i hj
 | succ d ih=>exact qcS (ih (by omega) (by omega)) (step (i+1+d) (by omega))
theorem qqO {α:Type} {l:List α} {k:Nat} {x:α} (h:l[k]?=some x):l.drop k=x::l.drop (k+1):=by
 obtain ⟨h1,h2⟩:=List.getElem?_eq_some_iff.1 h;rw [List.drop_eq_getElem_cons h1,h2]
end Reg
def LotsAt (w:World) (v:Value) (l:List Lot):Prop:=Rd w 4 v l.length (cellsL l)
theorem LotsAt.below {w w':World} {v:Value} {l:List Lot} (h:LotsAt w v l) (hb:Below w.heap.size w w'):LotsAt w' v l:=Rd.below h hb
def CellsAt (w:World) (g o:Nat) (x:Lot):Prop:=w.cell? ⟨g,o,none⟩=some (.string x.nom)∧w.cell? ⟨g,o+1,none⟩=some (.string x.hol)∧w.cell? ⟨g,o+2,none⟩=some (.int .i64 x.ser)∧w.cell? ⟨g,o+3,none⟩=some (.int .i64 x.units)
theorem CellsAt.below {w w':World} {g o:Nat} {x:Lot} (h:CellsAt w g o x) (hb:Below w.heap.size w w'):CellsAt w' g o x:=⟨qcU h.1 hb,qcU h.2.1 hb,qcU h.2.2.1 hb,qcU h.2.2.2 hb⟩
theorem LotsAt.some {w:World} {v:Value} {l:List Lot} (h:LotsAt w v l) (hn:0<l.length):∃ g off cap,v=.slice (some ⟨g,off,none⟩) l.length cap∧∀ k x,l[k]?=some x→CellsAt w g (off+k*4) x:=by
 obtain ⟨h1,h2,A,cap,hv,h3⟩:=h;obtain ⟨g,off,ha,hc⟩:=h3 hn;subst ha;refine ⟨g,off,cap,hv,fun k x hx=>?_⟩;obtain ⟨c0,c1,c2,c3⟩:=qkR l k x hx;exact ⟨hc _ _ c0,by rw [Nat.add_assoc];exact hc _ _ c1,by rw [Nat.add_assoc];exact hc _ _ c2,by rw [Nat.add_assoc];exact hc _ _ c3⟩
theorem LotsAt.nil {w:World} {v:Value} {l:List Lot} (h:LotsAt w v l) (hn:l.length=0):∃ A cap,v=.slice A 0 cap:=by
 obtain ⟨A,cap,hv⟩:=Rd.form h;exact ⟨A,cap,by rw [hv,hn]⟩
theorem qvP (x:Lot) (w:World) :
  Calls Tryz.prog 83 #[lotV x] w fun e w'=>e=.returned (.bool (rightB x))∧Below w.heap.size w w':=by
 have HB:=fun W=>qnJ x.nom x.hol W
 have hF:=rightB.eq_1 x;unfold lotV;obtain ⟨nm,hl,ser,un⟩:=x;simp only at HB hF ⊢
 cases h1:acctB nm hl with
 | false =>
  rw [h1] at HB;have HB:=hid HB;have HF:=hid (show rightB ⟨nm,hl,ser,un⟩=false by rw [hF,h1];rfl);clear hF h1;go_enter Tryz.func83,Tryz.ntmps83
  go_wp2_with fail
  refine (HB.out _).mono ?_;rintro e w1 ⟨rfl,hb⟩;have HB1:=hid hb;clear hb;go_wp2
  go_ret
  exact ⟨qaI HF.out.symm,((Below.refl _ _).alloc (Nat.le_refl _) _).trans (HB1.out.mono (by simp))⟩
 | true =>
  rw [h1] at HB hF;have HB:=hid HB;have HF:=hid (show rightB ⟨nm,hl,ser,un⟩=(decide (0≤ser)&&decide (ser≤73048)&&decide (1≤un)&&decide (un≤1000000000000000)) by rw [hF];rfl);clear hF h1;go_enter Tryz.func83,Tryz.ntmps83
  go_wp2_with fail
  refine (HB.out _).mono ?_;rintro e w1 ⟨rfl,hb⟩;have c2:=qcU (show (w.alloc (.cells #[.string nm,.string hl,.int .i64 ser,.int .i64 un] 56)).cell? ⟨w.heap.size,2,none⟩=some (.int .i64 ser) by go_cell) hb;have c3:=qcU (show (w.alloc (.cells #[.string nm,.string hl,.int .i64 ser,.int .i64 un] 56)).cell? ⟨w.heap.size,3,none⟩=some (.int .i64 un) by go_cell) hb;have HB1:=hid hb;clear hb;go_wp2
  all_goals go_ret
  all_goals refine ⟨qaI ?_,((Below.refl _ _).alloc (Nat.le_refl _) _).trans (HB1.out.mono (by simp))⟩
  all_goals rw [HF.out]
  all_goals (rw [Bool.eq_iff_iff];simp<;>omega)
theorem qgC (v:Value) (l:List Lot) (w:World) (h:LotsAt w v l) (hb:∀ x∈l,0≤x.units∧x.units≤1000000000000000) (hn:l.length≤1000) :
  Calls Tryz.prog 85 #[v] w fun e w'=>e=.returned (.int .i64 (sumU l))∧Below w.heap.size w w':=by
 have HB:=hid hb;clear hb;by_cases h0:l.length=0
 ·obtain ⟨A,cap,rfl⟩:=h.nil h0;have HS:=hid (show sumU l=0 by rw [List.eq_nil_of_length_eq_zero h0];rfl);clear h0 h;go_enter Tryz.func85,Tryz.ntmps85
  go_wp2
  go_loopg [3,8] 1 (fun m sv i wr=>sv=.int .i64 0∧i=.int .i64 0∧wr=w)
  case atStart=>exact ⟨rfl,rfl,rfl⟩
  case round =>
   obtain ⟨rfl,rfl,rfl⟩:=hrel;go_wp2
   go_ret
   exact ⟨qaK HS.out.symm,Below.refl _ _⟩
 ·obtain ⟨g,off,cap,rfl,hc⟩:=h.some (by omega);obtain ⟨n,hnn⟩:∃ n,n=l.length:=⟨_,rfl⟩;rw [←hnn] at hn h0 ⊢;have HN:=hid hnn;have HC:=hid hc;clear hnn hc h;go_enter Tryz.func85,Tryz.ntmps85
  go_wp2
  go_loopg [3,8] n (fun m sv i wr=>∃ (k:Nat) (s:Int),k≤n∧n - k≤m∧i=.int .i64 k∧sv=.int .i64 s∧0≤s∧s≤1000000000000000*(k:Int)∧s+sumU (l.drop k)=sumU l∧Below w.heap.size w wr)
  case atStart=>exact ⟨0,0,by omega,by omega,rfl,rfl,by omega,by omega,by simp,Below.refl _ _⟩
  case round =>
   obtain ⟨k,s,hk,hm,rfl,rfl,hs0,hs1,hs2,hbl⟩:=hrel;have HS2:=hid hs2;have HBL:=hid hbl;clear hs2 hbl;by_cases hlt:k<n
   ·obtain ⟨x,hx⟩:∃ x,l[k]?=some x:=⟨l[k]'(by rw [←HN.out];exact hlt),by simp [←HN.out,hlt]⟩;obtain ⟨c0,c1,c2,c3⟩:=(HC.out k x hx).below HBL.out;have hxb:=HB.out x (List.mem_of_getElem? hx);have HX:=hid (qqO hx);clear hx;obtain ⟨hx0,hx1⟩:=hxb;have hadd:IntKind.i64.wrap (s+x.units)=s+x.units:=IntWalk.i64_in _ (by omega);go_wp2
    go_roundg (gk - 1)
    case measure=>omega
    case rel=>exact ⟨k+1,s+x.units,by omega,by omega,by go_num,by go_num,by omega,by omega,by rw [←HS2.out,HX.out,sumU];omega,HBL.out.alloc HBL.out.size _⟩
   ·go_wp2
    go_ret
    exact ⟨qaK (by rw [←HS2.out,List.drop_eq_nil_of_le (by have:=HN.out;omega)];simp [sumU]),HBL.out⟩
end Go.Proofs.YtemoddmadfoaiaaGreat
