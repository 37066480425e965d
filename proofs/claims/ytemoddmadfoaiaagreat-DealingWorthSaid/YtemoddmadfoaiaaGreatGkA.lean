import Derived.Test.YtemoddmadfoaiaaGreatAlA
import Derived.Test.YtemoddmadfoaiaaGreatBigK
import Derived.Deep.CutRange
import Derived.StillTailTactics
import Derived.Test.YtemoddmadfoaiaaGreatScB
import Derived.Test.YtemoddmadfoaiaaGreatBiX
set_option linter.unusedVariables false
set_option linter.unusedSimpArgs false
set_option maxRecDepth 100000
namespace Go.Proofs.YtemoddmadfoaiaaGreat
open Go.RowKit Al Tok
def OutE (ok:Bool) (bad:Int) (w:World) (e:Ending) (w':World):Prop:=e=.returned (.int .i64 (if ok=true then 0 else bad))∧Below w.heap.size w w'
theorem SetB.put {w:World} {M:Nat} {l:List ByteArray} (h:SetB w M l) (s:ByteArray) (hs:s.size≤maxLen) (hn:l.length<maxLen) :
  ∃ w',(Instr.mapUpdate 121 (.map (some M)) (.string s) (.bool true)).run Tryz.prog w=.ok () w'∧SetB w' M (l++[s])∧w.grownBy w' (some M):=by
 obtain ⟨w',h1,h2,h3⟩:=World.ownsMap.update h (Maps.string_keyed Tryz.underlying9) Tryz.underlying121 hn (WideMaps.keyOf_string_mk Tryz.underlying9 hs) (plainElem_bool Tryz.underlying4 true);refine ⟨w',h1,?_,h3⟩;unfold SetB;rw [List.map_append,List.map_cons,List.map_nil,Maps.setOf_snoc,List.length_append];exact h2
theorem qoM (w:World) {ops:Array Oper} {rest:List Oper} {o:Oper} {a:Act} {Q:Exit→Act→World→Prop} (hg:o.guard=none) (m x v:Operand) (hop:o.op=Op.mapUpdate 121 m x v)
  (M:Nat) (l:List ByteArray) (s:ByteArray) (hm:a.eval m=.map (some M)) (h:SetB w M l) (hs:s.size≤maxLen) (hn:l.length<maxLen) (hx:a.eval x=.string s) (hv:a.eval v=.bool true)
  (hK:∀ w',SetB w' M (l++[s])→w.grownBy w' (some M)→wpList Tryz.prog ops Q rest (a.put o.dst undef) w'):wpList Tryz.prog ops Q (o::rest) a w:=by
 obtain ⟨w',hrun,h1,h2⟩:=h.put s hs hn;refine wpList_plain hg fun K' hK'=>?_
 unfold Oper.wp;simp [execOp,hop,hm,hx,hv,hrun,Result.andThen];exact hK' _ _ (hK w' h1 h2)
end Go.Proofs.YtemoddmadfoaiaaGreat
namespace Go.Proofs.YtemoddmadfoaiaaGreat
open Go.RowKit Reg Al
namespace Ga
structure Rq where
 key:ByteArray
 units:Int
 value:Int
def Rq.cells (b:Rq):List Value:=[.string b.key,.int .i64 b.units,.int .i64 b.value]
def cellsQ (l:List Rq):List Value:=l.flatMap Rq.cells
end Ga
open Ga
def RqsAt (w:World) (v:Value) (l:List Rq):Prop:=Rd w 3 v l.length (cellsQ l)
theorem RqsAt.below {w w':World} {v:Value} {l:List Rq} (h:RqsAt w v l) (hb:Below w.heap.size w w'):RqsAt w' v l:=Rd.below h hb
def QAt (w:World) (g o:Nat) (x:Rq):Prop:=w.cell? ⟨g,o,none⟩=some (.string x.key)∧w.cell? ⟨g,o+1,none⟩=some (.int .i64 x.units)∧w.cell? ⟨g,o+2,none⟩=some (.int .i64 x.value)
theorem QAt.below {w w':World} {g o:Nat} {x:Rq} (h:QAt w g o x) (hb:Below w.heap.size w w'):QAt w' g o x:=⟨qcU h.1 hb,qcU h.2.1 hb,qcU h.2.2 hb⟩
theorem qfF (s:ByteArray) (b:Bool) (h:Reg.nameB s=b) (w:World):Calls Tryz.prog 118 #[.string s] w fun e w'=>e=.returned (.bool b)∧Below w.heap.size w w':=by rw [←h];exact qiF s w
end Go.Proofs.YtemoddmadfoaiaaGreat
namespace Go.Proofs.YtemoddmadfoaiaaGreat
open Go.RowKit Reg Al Ga
namespace Ga
structure Od where
 key:ByteArray
 nom:ByteArray
 hol:ByteArray
 fund:ByteArray
 cls:ByteArray
 kind:Int
 amount:Int
 units:Int
 at_:Int
 known:Int
 void:Bool
def Od.cells (o:Od):List Value:=[.string o.key,.string o.nom,.string o.hol,.string o.fund,.string o.cls,.int .i64 o.kind,.int .i64 o.amount,.int .i64 o.units,.int .i64 o.at_,.int .i64 o.known,.bool o.void]
structure Tk where
 o:Od
 day:Int
 first:Int
def Tk.cells (x:Tk):List Value:=[.string x.o.key,.string x.o.nom,.string x.o.hol,.string x.o.fund,.string x.o.cls,.int .i64 x.o.kind,.int .i64 x.o.amount,.int .i64 x.o.units,.int .i64 x.o.at_,.int .i64 x.o.known,.bool x.o.void,.int .i64 x.day,.int .i64 x.first]
def cellsT (l:List Tk):List Value:=l.flatMap Tk.cells
theorem qsI (l:List Tk):(cellsT l).length=l.length*13:=by
 induction l with
 | nil=>rfl
 | cons b l ih=>simp only [cellsT,List.flatMap_cons,List.length_append,List.length_cons,Tk.cells,List.length_nil] at ih ⊢;rw [ih];omega
theorem qsJ (l:List Tk) (k:Nat) (b:Tk) (h:l[k]?=some b):∀ j u,b.cells[j]?=some u→(cellsT l)[k*13+j]?=some u:=by
 induction l generalizing k with
 | nil=>simp at h
 | cons a l ih =>
  intro j u hu;have hj:j<13:=by have:=(List.getElem?_eq_some_iff.1 hu).1;simpa [Tk.cells] using this
  cases k with
  | zero =>
   simp only [List.getElem?_cons_zero,Option.some.injEq] at h;subst h;rw [cellsT,List.flatMap_cons,List.getElem?_append_left (by simp [Tk.cells];omega),Nat.zero_mul,Nat.zero_add];exact hu
  | succ k =>
   rw [cellsT,List.flatMap_cons,List.getElem?_append_right (by simp [Tk.cells];omega)]
   have:=ih k (by simpa using h) j u hu
   rw [cellsT] at this;rw [←this];congr 1;simp [Tk.cells];omega
def headO (o:Od):Bool:=nameB o.key&&inR o.at_ 0 105190559&&inR o.known 1 2147483647
def askO (o:Od):Bool :=
 if o.kind=1∨o.kind=4 then inR o.amount 1 1000000000000000&&decide (o.units=0)
 else if o.kind=2∨o.kind=3 then inR o.units 1 1000000000000000&&decide (o.amount=0)
 else if o.kind=5 then decide (o.amount=0)&&decide (o.units=0) else false
def okO (o:Od):Bool:=headO o&&(acctB o.nom o.hol&&nameB o.fund&&nameB o.cls&&askO o)
def Tk.over (x:Tk) (n next:Int):Tk:=⟨{ x.o with kind:=3,amount:=0,units:=n },next,x.first⟩
end Ga
open Ga
def TksAt (w:World) (v:Value) (l:List Tk):Prop:=Rd w 13 v l.length (cellsT l)
theorem TksAt.below {w w':World} {v:Value} {l:List Tk} (h:TksAt w v l) (hb:Below w.heap.size w w'):TksAt w' v l:=Rd.below h hb
theorem qpW {w:World} {v:Value} {l:List Tk} (h:TksAt w v l) (hn:0<l.length):∃ g off cap,v=.slice (some ⟨g,off,none⟩) l.length cap∧∀ k x,l[k]?=some x→∀ j u,x.cells[j]?=some u→w.cell? ⟨g,off+k*13+j,none⟩=some u:=by
 obtain ⟨h1,h2,A,cap,hv,h3⟩:=h;obtain ⟨g,off,ha,hc⟩:=h3 hn;subst ha;refine ⟨g,off,cap,hv,fun k x hx j u hu=>?_⟩
 have:=hc _ _ (qsJ l k x hx j u hu)
 rwa [←Nat.add_assoc] at this
end Go.Proofs.YtemoddmadfoaiaaGreat
namespace Go.Proofs.YtemoddmadfoaiaaGreat
open Go.RowKit Reg Al Ga
namespace Ga
end Ga
theorem qbU {B:Nat} {a b:World} (h:Below B a b):Below B a b.drew:=⟨h.os,h.tape,h.output,h.size,h.block⟩
theorem At.drw {w w':World} {b o bt:Nat} {cs:List Value} (h:At w b o cs) (hd:Drew w bt w') (hne:b≠bt):At w' b o cs:=by
 have hk:=hd.2.block b h.lt (fun e=>hne (by injection e));refine ⟨fun j v hj=>?_,fun j hj=>?_,Nat.lt_of_lt_of_le h.lt hd.2.size⟩
 ·rw [World.cell?_of_block (w:=w) hk];exact h.range j v hj
 ·rw [World.cell?_of_block (w:=w) hk,World.frozen?_of_block (w:=w) hk];exact h.there j hj
theorem At.oneSet {w:World} {O k:Nat} {cs:List Value} {v:Value} (h:At w O 0 cs) (hk:k<cs.length):At (w.setCell ⟨O,k,none⟩ v) O 0 (cs.set k v):=by
 have hc:∀ j u,(cs.set k v)[j]?=some u→(w.setCell ⟨O,k,none⟩ v).cell? ⟨O,0+j,none⟩=some u:=by
  intro j u hj;rw [Nat.zero_add];by_cases e:j=k
  ·subst e;rw [List.getElem?_set_self hk] at hj;injection hj with hj
   subst hj
   have:=h.range j _ (List.getElem?_eq_getElem hk)
   rw [Nat.zero_add] at this;exact World.cell?_setCell_same _ _ _ this
  ·rw [List.getElem?_set_ne (fun e2=>e e2.symm)] at hj;rw [World.cell?_setCell_other _ _ _ _ (fun e2=>by injection e2 with e3 e4;omega)]
   have:=h.range j u hj
   rwa [Nat.zero_add] at this
 refine ⟨hc,fun j hj=>?_,by simpa [World.setCell] using h.lt⟩;rw [hc j _ (List.getElem?_eq_getElem hj)];refine ⟨rfl,?_⟩;rw [World.frozen?_setCell];rw [List.length_set] at hj;exact (h.there j hj).2
theorem At.othSet {w:World} {b o:Nat} {cs:List Value} (h:At w b o cs) (p:Addr) (v:Value) (hp:p.block≠b):At (w.setCell p v) b o cs:=by
 refine ⟨fun j u hj=>?_,fun j hj=>?_,by simpa [World.setCell] using h.lt⟩
 ·rw [World.cell?_setCell_other _ _ _ _ (fun e=>hp (congrArg Addr.block e))];exact h.range j u hj
 ·rw [World.cell?_setCell_other _ _ _ _ (fun e=>hp (congrArg Addr.block e)),World.frozen?_setCell];exact h.there j hj
theorem At.cel {w:World} {O k:Nat} {v:Value} {cs:List Value} (h:At w O 0 cs) (hk:cs[k]?=some v):w.cell? ⟨O,k,none⟩=some v:=by
 have:=h.range k v hk
 rwa [Nat.zero_add] at this
theorem At.allSet {w:World} {b:Nat} {cs ds:List Value} (h:At w b 0 cs) (hl:ds.length=cs.length):At (w.setCells b 0 ds) b 0 ds:=by
 have hr:=World.rangeAt_setCells_same w b 0 ds (by rw [hl];exact h.there);refine ⟨hr,fun j hj=>⟨?_,by rw [qcM];exact (h.there j (by omega)).2⟩,by rw [qbH];exact h.lt⟩;rw [hr j _ (List.getElem?_eq_getElem hj)];rfl
theorem Drew.sets {w w':World} {bt b:Nat} (h:Drew w bt w') (hbt:bt<w.heap.size) (hb:w.heap.size≤b) (ds:List Value):Drew w bt (w'.setCells b 0 ds):=by
 have h2:=qaB (B:=b) (b:=b) (Nat.le_refl _) ds 0 w' (Below.refl _ _);have hg:w'.grownBy (w'.setCells b 0 ds) (some b):=⟨h2.os,h2.tape,h2.output,h2.size,fun k hk hr=>qcH k b (fun e=>hr (by rw [e])) ds 0 w'⟩;exact ⟨h.1.grown hg (fun k hk=>by injection hk with hk;omega),h2.os.trans h.2.os,h2.tape.trans h.2.tape,h2.output.trans h.2.output,Nat.le_trans h.2.size h2.size,fun k hk hr=>(h2.block k (by omega)).trans (h.2.block k hk hr)⟩
end Go.Proofs.YtemoddmadfoaiaaGreat
set_option maxHeartbeats 4000000
namespace Go.Proofs.YtemoddmadfoaiaaGreat
open Go.RowKit Reg Al Ga
open Lib (hid)
theorem qaN (n most:Int) (b:Bool) (h:inR n 1 most=b) (w:World) :
  Calls Tryz.prog 119 #[.int .i64 n,.int .i64 most] w fun e w'=>e=.returned (.bool b)∧w=w':=by
 subst h;go_enter Tryz.func119,Tryz.ntmps119
 by_cases h1:1≤n
 ·by_cases h2:n≤most
  ·go_wp2
   go_ret
   exact ⟨qaH (by rw [Bool.eq_iff_iff];simp [inR]<;>omega),rfl⟩
  ·go_wp2
   go_ret
   exact ⟨qaH (by rw [Bool.eq_iff_iff];simp [inR]<;>omega),rfl⟩
 ·go_wp2
  go_ret
  exact ⟨qaH (by rw [Bool.eq_iff_iff];simp [inR]<;>omega),rfl⟩
theorem qjG (o:Od) (b:Bool) (h:askO o=b) (w:World):Calls Tryz.prog 120 #[.agg #[.string o.key,.string o.nom,.string o.hol,.string o.fund,.string o.cls,.int .i64 o.kind,.int .i64 o.amount,.int .i64 o.units,.int .i64 o.at_,.int .i64 o.known,.bool o.void]] w fun e w'=>e=.returned (.bool b)∧Below w.heap.size w w':=by
 obtain ⟨key,nom,hol,fund,cls,K,a,u,at_,known,void⟩:=o;subst h;have HF:=hid (askO.eq_1 ⟨key,nom,hol,fund,cls,K,a,u,at_,known,void⟩);simp only at HF ⊢
 by_cases k1:K=1
 ·subst k1
  cases r1:inR a 1 1000000000000000 with
  | false =>
   go_enter Tryz.func120,Tryz.ntmps120
   go_wp2_with (go_at_call 119;refine (qaN _ _ _ (by assumption) _).mono ?_;rintro e w' ⟨rfl,rfl⟩)
   go_ret
   exact ⟨qaH (by rw [HF.out];simp [r1]),(Below.refl _ _).alloc (Nat.le_refl _) _⟩
  | true =>
   by_cases z0:u=0
   ·subst z0;go_enter Tryz.func120,Tryz.ntmps120
    go_wp2_with (go_at_call 119;refine (qaN _ _ _ (by assumption) _).mono ?_;rintro e w' ⟨rfl,rfl⟩)
    go_ret
    exact ⟨qaH (by rw [HF.out];simp [r1]),(Below.refl _ _).alloc (Nat.le_refl _) _⟩
   ·have y0:(u==0)=false:=beq_eq_false_iff_ne.2 z0;go_enter Tryz.func120,Tryz.ntmps120
    go_wp2_with (go_at_call 119;refine (qaN _ _ _ (by assumption) _).mono ?_;rintro e w' ⟨rfl,rfl⟩)
    go_ret
    exact ⟨qaH (by rw [HF.out];simp [r1,z0]),(Below.refl _ _).alloc (Nat.le_refl _) _⟩
 have j1:(K==1)=false:=beq_eq_false_iff_ne.2 k1;by_cases k4:K=4
 ·subst k4
  cases r1:inR a 1 1000000000000000 with
  | false =>
   go_enter Tryz.func120,Tryz.ntmps120
   go_wp2_with (go_at_call 119;refine (qaN _ _ _ (by assumption) _).mono ?_;rintro e w' ⟨rfl,rfl⟩)
   go_ret
   exact ⟨qaH (by rw [HF.out];simp [k1,r1]),(Below.refl _ _).alloc (Nat.le_refl _) _⟩
  | true =>
   by_cases z0:u=0
   ·subst z0;go_enter Tryz.func120,Tryz.ntmps120
    go_wp2_with (go_at_call 119;refine (qaN _ _ _ (by assumption) _).mono ?_;rintro e w' ⟨rfl,rfl⟩)
    go_ret
    exact ⟨qaH (by rw [HF.out];simp [k1,r1]),(Below.refl _ _).alloc (Nat.le_refl _) _⟩
   ·have y0:(u==0)=false:=beq_eq_false_iff_ne.2 z0;go_enter Tryz.func120,Tryz.ntmps120
    go_wp2_with (go_at_call 119;refine (qaN _ _ _ (by assumption) _).mono ?_;rintro e w' ⟨rfl,rfl⟩)
    go_ret
    exact ⟨qaH (by rw [HF.out];simp [k1,r1,z0]),(Below.refl _ _).alloc (Nat.le_refl _) _⟩
 have j4:(K==4)=false:=beq_eq_false_iff_ne.2 k4;by_cases k2:K=2
 ·subst k2
  cases r1:inR u 1 1000000000000000 with
  | false =>
   go_enter Tryz.func120,Tryz.ntmps120
   go_wp2_with (go_at_call 119;refine (qaN _ _ _ (by assumption) _).mono ?_;rintro e w' ⟨rfl,rfl⟩)
   go_ret
   exact ⟨qaH (by rw [HF.out];simp [k1,k4,r1]),(Below.refl _ _).alloc (Nat.le_refl _) _⟩
  | true =>
   by_cases z0:a=0
   ·subst z0;go_enter Tryz.func120,Tryz.ntmps120
    go_wp2_with (go_at_call 119;refine (qaN _ _ _ (by assumption) _).mono ?_;rintro e w' ⟨rfl,rfl⟩)
    go_ret
    exact ⟨qaH (by rw [HF.out];simp [k1,k4,r1]),(Below.refl _ _).alloc (Nat.le_refl _) _⟩
   ·have y0:(a==0)=false:=beq_eq_false_iff_ne.2 z0;go_enter Tryz.func120,Tryz.ntmps120
    go_wp2_with (go_at_call 119;refine (qaN _ _ _ (by assumption) _).mono ?_;rintro e w' ⟨rfl,rfl⟩)
    go_ret
    exact ⟨qaH (by rw [HF.out];simp [k1,k4,r1,z0]),(Below.refl _ _).alloc (Nat.le_refl _) _⟩
 have j2:(K==2)=false:=beq_eq_false_iff_ne.2 k2;by_cases k3:K=3
 ·subst k3
  cases r1:inR u 1 1000000000000000 with
  | false =>
   go_enter Tryz.func120,Tryz.ntmps120
   go_wp2_with (go_at_call 119;refine (qaN _ _ _ (by assumption) _).mono ?_;rintro e w' ⟨rfl,rfl⟩)
   go_ret
   exact ⟨qaH (by rw [HF.out];simp [k1,k4,k2,r1]),(Below.refl _ _).alloc (Nat.le_refl _) _⟩
  | true =>
   by_cases z0:a=0
   ·subst z0;go_enter Tryz.func120,Tryz.ntmps120
    go_wp2_with (go_at_call 119;refine (qaN _ _ _ (by assumption) _).mono ?_;rintro e w' ⟨rfl,rfl⟩)
    go_ret
    exact ⟨qaH (by rw [HF.out];simp [k1,k4,k2,r1]),(Below.refl _ _).alloc (Nat.le_refl _) _⟩
   ·have y0:(a==0)=false:=beq_eq_false_iff_ne.2 z0;go_enter Tryz.func120,Tryz.ntmps120
    go_wp2_with (go_at_call 119;refine (qaN _ _ _ (by assumption) _).mono ?_;rintro e w' ⟨rfl,rfl⟩)
    go_ret
    exact ⟨qaH (by rw [HF.out];simp [k1,k4,k2,r1,z0]),(Below.refl _ _).alloc (Nat.le_refl _) _⟩
 have j3:(K==3)=false:=beq_eq_false_iff_ne.2 k3;by_cases k5:K=5
 ·subst k5;by_cases z0:a=0
  ·subst z0;by_cases z1:u=0
   ·subst z1;go_enter Tryz.func120,Tryz.ntmps120
    go_wp2_with (go_at_call 119;refine (qaN _ _ _ (by assumption) _).mono ?_;rintro e w' ⟨rfl,rfl⟩)
    go_ret
    exact ⟨qaH (by rw [HF.out];simp [k1,k4,k2,k3]),(Below.refl _ _).alloc (Nat.le_refl _) _⟩
   ·have y1:(u==0)=false:=beq_eq_false_iff_ne.2 z1;go_enter Tryz.func120,Tryz.ntmps120
    go_wp2_with (go_at_call 119;refine (qaN _ _ _ (by assumption) _).mono ?_;rintro e w' ⟨rfl,rfl⟩)
    go_ret
    exact ⟨qaH (by rw [HF.out];simp [k1,k4,k2,k3,z1]),(Below.refl _ _).alloc (Nat.le_refl _) _⟩
  ·have y0:(a==0)=false:=beq_eq_false_iff_ne.2 z0;go_enter Tryz.func120,Tryz.ntmps120
   go_wp2_with (go_at_call 119;refine (qaN _ _ _ (by assumption) _).mono ?_;rintro e w' ⟨rfl,rfl⟩)
   go_ret
   exact ⟨qaH (by rw [HF.out];simp [k1,k4,k2,k3,z0]),(Below.refl _ _).alloc (Nat.le_refl _) _⟩
 have j5:(K==5)=false:=beq_eq_false_iff_ne.2 k5;go_enter Tryz.func120,Tryz.ntmps120
 go_wp2_with (go_at_call 119;refine (qaN _ _ _ (by assumption) _).mono ?_;rintro e w' ⟨rfl,rfl⟩)
 go_ret
 exact ⟨qaH (by rw [HF.out];simp [k1,k4,k2,k3,k5]),(Below.refl _ _).alloc (Nat.le_refl _) _⟩
end Go.Proofs.YtemoddmadfoaiaaGreat
