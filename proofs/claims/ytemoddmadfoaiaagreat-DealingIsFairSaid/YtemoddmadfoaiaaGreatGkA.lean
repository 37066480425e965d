import Derived.Test.YtemoddmadfoaiaaGreatAlA
import Derived.Deep.CutRange
import Derived.StillTailTactics
import Derived.Test.YtemoddmadfoaiaaGreatBiW
set_option linter.unusedVariables false
set_option linter.unusedSimpArgs false
set_option maxRecDepth 100000
namespace Go.Proofs.YtemoddmadfoaiaaGreat
open Go.RowKit Al Tok
def OutE (ok:Bool) (bad:Int) (w:World) (e:Ending) (w':World):Prop:=e=.returned (.int .i64 (if ok=true then 0 else bad))∧Below w.heap.size w w'
theorem SetB.put {w:World} {M:Nat} {l:List ByteArray} (h:SetB w M l) (s:ByteArray) (hs:s.size≤maxLen) (hn:l.length<maxLen) :
  ∃ w',(Instr.mapUpdate 121 (.map (some M)) (.string s) (.bool true)).run Tryz.prog w=.ok () w'∧SetB w' M (l++[s])∧w.grownBy w' (some M):=by
 obtain ⟨w',h1,h2,h3⟩:=World.ownsMap.update h (Maps.string_keyed Tryz.underlying9) Tryz.underlying121 hn (WideMaps.keyOf_string_mk Tryz.underlying9 hs) (plainElem_bool Tryz.underlying4 true);refine ⟨w',h1,?_,h3⟩;unfold SetB;rw [List.map_append,List.map_cons,List.map_nil,Maps.setOf_snoc,List.length_append];exact h2
theorem qpS (w:World) {ops:Array Oper} {rest:List Oper} {o:Oper} {a:Act} {Q:Exit→Act→World→Prop} (hg:o.guard=none) (m x v:Operand) (hop:o.op=Op.mapUpdate 121 m x v)
  (M:Nat) (l:List ByteArray) (s:ByteArray) (hm:a.eval m=.map (some M)) (h:SetB w M l) (hs:s.size≤maxLen) (hn:l.length<maxLen) (hx:a.eval x=.string s) (hv:a.eval v=.bool true)
  (hK:∀ w',SetB w' M (l++[s])→w.grownBy w' (some M)→wpList Tryz.prog ops Q rest (a.put o.dst undef) w'):wpList Tryz.prog ops Q (o::rest) a w:=by
 obtain ⟨w',hrun,h1,h2⟩:=h.put s hs hn;refine wpList_plain hg fun K' hK'=>?_
 unfold Oper.wp;simp [execOp,hop,hm,hx,hv,hrun,Result.andThen];exact hK' _ _ (hK w' h1 h2)
end Go.Proofs.YtemoddmadfoaiaaGreat
namespace Go.Proofs.YtemoddmadfoaiaaGreat
open Go.RowKit Reg Al
namespace Ga
structure Rq where
 key:ByteArray
 units:Int
 value:Int
def Rq.cells (b:Rq):List Value:=[.string b.key,.int .i64 b.units,.int .i64 b.value]
def cellsQ (l:List Rq):List Value:=l.flatMap Rq.cells
end Ga
open Ga
def RqsAt (w:World) (v:Value) (l:List Rq):Prop:=Rd w 3 v l.length (cellsQ l)
theorem RqsAt.below {w w':World} {v:Value} {l:List Rq} (h:RqsAt w v l) (hb:Below w.heap.size w w'):RqsAt w' v l:=Rd.below h hb
def QAt (w:World) (g o:Nat) (x:Rq):Prop:=w.cell? ⟨g,o,none⟩=some (.string x.key)∧w.cell? ⟨g,o+1,none⟩=some (.int .i64 x.units)∧w.cell? ⟨g,o+2,none⟩=some (.int .i64 x.value)
theorem QAt.below {w w':World} {g o:Nat} {x:Rq} (h:QAt w g o x) (hb:Below w.heap.size w w'):QAt w' g o x:=⟨qcU h.1 hb,qcU h.2.1 hb,qcU h.2.2 hb⟩
theorem qfX (s:ByteArray) (b:Bool) (h:Reg.nameB s=b) (w:World):CB 118 #[.string s] (.bool b) w:=by rw [←h];exact qjH s w
end Go.Proofs.YtemoddmadfoaiaaGreat
namespace Go.Proofs.YtemoddmadfoaiaaGreat
open Go.RowKit Reg Al Ga
namespace Ga
structure Od where
 key:ByteArray
 nom:ByteArray
 hol:ByteArray
 fund:ByteArray
 cls:ByteArray
 kind:Int
 amount:Int
 units:Int
 at_:Int
 known:Int
 void:Bool
def Od.cells (o:Od):List Value:=[.string o.key,.string o.nom,.string o.hol,.string o.fund,.string o.cls,.int .i64 o.kind,.int .i64 o.amount,.int .i64 o.units,.int .i64 o.at_,.int .i64 o.known,.bool o.void]
structure Tk where
 o:Od
 day:Int
 first:Int
def Tk.cells (x:Tk):List Value:=[.string x.o.key,.string x.o.nom,.string x.o.hol,.string x.o.fund,.string x.o.cls,.int .i64 x.o.kind,.int .i64 x.o.amount,.int .i64 x.o.units,.int .i64 x.o.at_,.int .i64 x.o.known,.bool x.o.void,.int .i64 x.day,.int .i64 x.first]
def cellsT (l:List Tk):List Value:=l.flatMap Tk.cells
theorem qeI (l:List Tk):(cellsT l).length=l.length*13:=by
 induction l with
 | nil=>rfl
 | cons b l ih=>simp only [cellsT,List.flatMap_cons,List.length_append,List.length_cons,Tk.cells,List.length_nil] at ih ⊢;rw [ih];omega
theorem qkQ (a b:List Tk):cellsT (a++b)=cellsT a++cellsT b:=by simp [cellsT]
theorem qfQ (l:List Tk) (k:Nat) (b:Tk) (h:l[k]?=some b):∀ j u,b.cells[j]?=some u→(cellsT l)[k*13+j]?=some u:=by
 induction l generalizing k with
 | nil=>simp at h
 | cons a l ih =>
  intro j u hu;have hj:j<13:=by have:=(List.getElem?_eq_some_iff.1 hu).1;simpa [Tk.cells] using this
  cases k with
  | zero =>
   simp only [List.getElem?_cons_zero,Option.some.injEq] at h;subst h;rw [cellsT,List.flatMap_cons,List.getElem?_append_left (by simp [Tk.cells];omega),Nat.zero_mul,Nat.zero_add];exact hu
  | succ k =>
   rw [cellsT,List.flatMap_cons,List.getElem?_append_right (by simp [Tk.cells];omega)]
   have:=ih k (by simpa using h) j u hu
   rw [cellsT] at this;rw [←this];congr 1;simp [Tk.cells];omega
def headO (o:Od):Bool:=nameB o.key&&inR o.at_ 0 105190559&&inR o.known 1 2147483647
def askO (o:Od):Bool :=
 if o.kind=1∨o.kind=4 then inR o.amount 1 1000000000000000&&decide (o.units=0)
 else if o.kind=2∨o.kind=3 then inR o.units 1 1000000000000000&&decide (o.amount=0)
 else if o.kind=5 then decide (o.amount=0)&&decide (o.units=0) else false
def okO (o:Od):Bool:=headO o&&(acctB o.nom o.hol&&nameB o.fund&&nameB o.cls&&askO o)
def Tk.over (x:Tk) (n next:Int):Tk:=⟨{ x.o with kind:=3,amount:=0,units:=n },next,x.first⟩
end Ga
open Ga
def TksAt (w:World) (v:Value) (l:List Tk):Prop:=Rd w 13 v l.length (cellsT l)
theorem TksAt.below {w w':World} {v:Value} {l:List Tk} (h:TksAt w v l) (hb:Below w.heap.size w w'):TksAt w' v l:=Rd.below h hb
theorem qrB {w:World} {v:Value} {l:List Tk} (h:TksAt w v l) (hn:0<l.length):∃ g off cap,v=.slice (some ⟨g,off,none⟩) l.length cap∧∀ k x,l[k]?=some x→∀ j u,x.cells[j]?=some u→w.cell? ⟨g,off+k*13+j,none⟩=some u:=by
 obtain ⟨h1,h2,A,cap,hv,h3⟩:=h;obtain ⟨g,off,ha,hc⟩:=h3 hn;subst ha;refine ⟨g,off,cap,hv,fun k x hx j u hu=>?_⟩
 have:=hc _ _ (qfQ l k x hx j u hu)
 rwa [←Nat.add_assoc] at this
end Go.Proofs.YtemoddmadfoaiaaGreat
namespace Go.Proofs.YtemoddmadfoaiaaGreat
open Go.RowKit Reg Al Ga
namespace Ga
def keyO (i:Nat):ByteArray:=⟨#[111,UInt8.ofNat (97+i)]⟩
theorem qxI:∀ i,i<26→nameB (keyO i)=true:=by decide +kernel
theorem jbJ:∀ i,i<26→∀ j,j<26→keyO i=keyO j→i=j:=by
 have h:∀ i,i<26→∀ j,j<26→(keyO i).data.toList=(keyO j).data.toList→i=j:=by decide +kernel
 intro i hi j hj e;exact h i hi j hj (by rw [e])
theorem jfM (i:Nat) (h:i<26):(⟨#[111]⟩:ByteArray)++strOfNums [97+(i:Int)]=keyO i:=by
 have:(97+(i:Int)).toNat=97+i:=by omega
 unfold strOfNums keyO;rw [List.map_cons,List.map_nil,this];rfl
def sAlpha:ByteArray:=⟨#[97,108,112,104,97]⟩
def sA:ByteArray:=⟨#[97]⟩
structure MadeA (o:Od):Prop where
 kind:1≤o.kind∧o.kind≤5
 ask:askO o=true
 amount:0≤o.amount∧o.amount≤100000000
 units:0≤o.units∧o.units≤1000000
structure MadeT (i:Nat) (x:Tk):Prop where
 key:x.o.key=keyO i
 acc:(x.o.nom,x.o.hol)∈accs
 fund:x.o.fund=sAlpha
 cls:x.o.cls=sA
 ask:MadeA x.o
 at_:0≤x.o.at_∧x.o.at_<100000
 known:x.o.known=(i:Int)+1
 void:x.o.void=false
 day:0≤x.day∧x.day<60
 first:0≤x.first∧x.first≤x.day
def MadeTs (most:Nat) (l:List Tk):Prop:=l.length≤most∧∀ k x,l[k]?=some x→MadeT k x
theorem qwZ {i:Nat} {x:Tk} (h:MadeT i x) (hi:i<26):okO x.o=true:=by
 unfold okO headO;rw [h.key,qxI i hi,qrZ h.at_.1 (by have:=h.at_.2;omega),qrZ (by rw [h.known];omega) (by rw [h.known];omega),qzN _ h.acc,h.fund,h.cls,h.ask.ask];decide +kernel
end Ga
end Go.Proofs.YtemoddmadfoaiaaGreat
set_option maxHeartbeats 8000000
namespace Go.Proofs.YtemoddmadfoaiaaGreat
open Go.RowKit Reg Al Ga
open Lib (hid)
theorem qcB {B:Nat} {a b:World} (h:Below B a b):Below B a b.drew:=⟨h.os,h.tape,h.output,h.size,h.block⟩
theorem At.drw {w w':World} {b o bt:Nat} {cs:List Value} (h:At w b o cs) (hd:Drew w bt w') (hne:b≠bt):At w' b o cs:=by
 have hk:=hd.2.block b h.lt (fun e=>hne (by injection e));refine ⟨fun j v hj=>?_,fun j hj=>?_,Nat.lt_of_lt_of_le h.lt hd.2.size⟩
 ·rw [World.cell?_of_block (w:=w) hk];exact h.range j v hj
 ·rw [World.cell?_of_block (w:=w) hk,World.frozen?_of_block (w:=w) hk];exact h.there j hj
theorem At.oneSet {w:World} {O k:Nat} {cs:List Value} {v:Value} (h:At w O 0 cs) (hk:k<cs.length):At (w.setCell ⟨O,k,none⟩ v) O 0 (cs.set k v):=by
 have hc:∀ j u,(cs.set k v)[j]?=some u→(w.setCell ⟨O,k,none⟩ v).cell? ⟨O,0+j,none⟩=some u:=by
  intro j u hj;rw [Nat.zero_add];by_cases e:j=k
  ·subst e;rw [List.getElem?_set_self hk] at hj;injection hj with hj
   subst hj
   have:=h.range j _ (List.getElem?_eq_getElem hk)
   rw [Nat.zero_add] at this;exact World.cell?_setCell_same _ _ _ this
  ·rw [List.getElem?_set_ne (fun e2=>e e2.symm)] at hj;rw [World.cell?_setCell_other _ _ _ _ (fun e2=>by injection e2 with e3 e4;omega)]
   have:=h.range j u hj
   rwa [Nat.zero_add] at this
 refine ⟨hc,fun j hj=>?_,by simpa [World.setCell] using h.lt⟩;rw [hc j _ (List.getElem?_eq_getElem hj)];refine ⟨rfl,?_⟩;rw [World.frozen?_setCell];rw [List.length_set] at hj;exact (h.there j hj).2
theorem At.othSet {w:World} {b o:Nat} {cs:List Value} (h:At w b o cs) (p:Addr) (v:Value) (hp:p.block≠b):At (w.setCell p v) b o cs:=by
 refine ⟨fun j u hj=>?_,fun j hj=>?_,by simpa [World.setCell] using h.lt⟩
 ·rw [World.cell?_setCell_other _ _ _ _ (fun e=>hp (congrArg Addr.block e))];exact h.range j u hj
 ·rw [World.cell?_setCell_other _ _ _ _ (fun e=>hp (congrArg Addr.block e)),World.frozen?_setCell];exact h.there j hj
theorem At.frz {w:World} {O k:Nat} {cs:List Value} (h:At w O 0 cs) (hk:k<cs.length):w.frozen? ⟨O,k,none⟩=false:=by
 have:=(h.there k hk).2
 rwa [Nat.zero_add] at this
theorem At.cel {w:World} {O k:Nat} {v:Value} {cs:List Value} (h:At w O 0 cs) (hk:cs[k]?=some v):w.cell? ⟨O,k,none⟩=some v:=by
 have:=h.range k v hk
 rwa [Nat.zero_add] at this
theorem At.allSet {w:World} {b:Nat} {cs ds:List Value} (h:At w b 0 cs) (hl:ds.length=cs.length):At (w.setCells b 0 ds) b 0 ds:=by
 have hr:=World.rangeAt_setCells_same w b 0 ds (by rw [hl];exact h.there);refine ⟨hr,fun j hj=>⟨?_,by rw [qcV];exact (h.there j (by omega)).2⟩,by rw [qaU];exact h.lt⟩;rw [hr j _ (List.getElem?_eq_getElem hj)];rfl
theorem Drew.sets {w w':World} {bt b:Nat} (h:Drew w bt w') (hbt:bt<w.heap.size) (hb:w.heap.size≤b) (ds:List Value):Drew w bt (w'.setCells b 0 ds):=by
 have h2:=qaC (B:=b) (b:=b) (Nat.le_refl _) ds 0 w' (Below.refl _ _);have hg:w'.grownBy (w'.setCells b 0 ds) (some b):=⟨h2.os,h2.tape,h2.output,h2.size,fun k hk hr=>qcC k b (fun e=>hr (by rw [e])) ds 0 w'⟩;exact ⟨h.1.grown hg (fun k hk=>by injection hk with hk;omega),h2.os.trans h.2.os,h2.tape.trans h.2.tape,h2.output.trans h.2.output,Nat.le_trans h.2.size h2.size,fun k hk hr=>(h2.block k (by omega)).trans (h.2.block k hk hr)⟩
theorem qsM (bt:Nat) (n:Int) (w:World) (ht:IsTp w bt) (hn1:1≤n) (hn:n≤9223372036854775807) :
  Calls Tryz.prog 36 #[.pointer (some ⟨bt,0,none⟩),.int .i64 n] w fun e w'=>∃ b:Bool,e=.returned (.bool b)∧Drew w bt w':=by
 go_enter Tryz.func36,Tryz.ntmps36
 go_wp2_with fail
 refine (qbA bt n w ht hn1 hn).mono ?_;rintro e w1 ⟨v,rfl,hv0,hv1,hd⟩;have HD:=hid hd;clear hd;go_wp2
 all_goals go_ret
 all_goals exact ⟨_,rfl,HD.out⟩
theorem qzL (bt:Nat) (o:Od) (w:World) (ht:IsTp w bt) :
  Calls Tryz.prog 53 #[.pointer (some ⟨bt,0,none⟩),.agg #[.string o.key,.string o.nom,.string o.hol,.string o.fund,.string o.cls,.int .i64 0,.int .i64 0,.int .i64 0,.int .i64 o.at_,.int .i64 o.known,.bool o.void]] w fun e w'=>∃ k a u:Int,e=.returned (.agg #[.string o.key,.string o.nom,.string o.hol,.string o.fund,.string o.cls,.int .i64 k,.int .i64 a,.int .i64 u,.int .i64 o.at_,.int .i64 o.known,.bool o.void])∧MadeA { o with kind:=k,amount:=a,units:=u }∧Drew w bt w':=by
 have hbt:=ht.lt;obtain ⟨X,hX⟩:=nqx (w.heap.size);obtain ⟨w0,hw0⟩:∃ w0,w0=(w.alloc (.cells #[.string o.key,.string o.nom,.string o.hol,.string o.fund,.string o.cls,.int .i64 0,.int .i64 0,.int .i64 0,.int .i64 o.at_,.int .i64 o.known,.bool o.void] 58)).alloc (.cells #[.string ⟨#[]⟩,.string ⟨#[]⟩,.string ⟨#[]⟩,.string ⟨#[]⟩,.string ⟨#[]⟩,.int .i64 0,.int .i64 0,.int .i64 0,.int .i64 0,.int .i64 0,.bool false] 58):=⟨_,rfl⟩;have A0:=hid (show At w0 X 0 [.string o.key,.string o.nom,.string o.hol,.string o.fund,.string o.cls,.int .i64 0,.int .i64 0,.int .i64 0,.int .i64 o.at_,.int .i64 o.known,.bool o.void] by rw [hw0];exact (At.fresh w [.string o.key,.string o.nom,.string o.hol,.string o.fund,.string o.cls,.int .i64 0,.int .i64 0,.int .i64 0,.int .i64 o.at_,.int .i64 o.known,.bool o.void] _ hX).alloc _);have A1:=hid (show At w0 (X+1) 0 [.string ⟨#[]⟩,.string ⟨#[]⟩,.string ⟨#[]⟩,.string ⟨#[]⟩,.string ⟨#[]⟩,.int .i64 0,.int .i64 0,.int .i64 0,.int .i64 0,.int .i64 0,.bool false] by rw [hw0];exact At.fresh _ [.string ⟨#[]⟩,.string ⟨#[]⟩,.string ⟨#[]⟩,.string ⟨#[]⟩,.string ⟨#[]⟩,.int .i64 0,.int .i64 0,.int .i64 0,.int .i64 0,.int .i64 0,.bool false] _ (by simp [hX]));have D0:=hid (show Drew w bt w0 by rw [hw0];exact ((Drew.refl ht).alloc _).alloc _);have hbX:bt<X:=by omega
 have HX:=hid hX;have SZ:=hid (show (Tryz.prog.info? 58).map (·.size)=some 11 by kernel_rfl);go_enter Tryz.func53,Tryz.ntmps53
 go_upto_region 1 with fail
 rw [←hw0,←hX];clear hw0 hX ht;go_wp2_with fail
 refine (qbA bt 5 w0 D0.out.1 (by omega) (by omega)).mono ?_;rintro e w1 ⟨v,rfl,hv0,hv1,hd⟩;obtain ⟨k,hk⟩:∃ k,k=1+v:=⟨_,rfl⟩;have wk:IntKind.i64.wrap (1+v)=k:=by rw [IntWalk.i64_in _ (by omega)];exact hk.symm
 have hkb:k=1∨k=2∨k=3∨k=4∨k=5:=by omega
 replace A0:=hid (A0.out.drw hd (by omega));replace A1:=hid (A1.out.drw hd (by omega));replace D0:=hid (D0.out.trans hd);have f5:=A0.out.cel (k:=5) rfl;have z5:=A0.out.frz (k:=5) (by show 5<11;decide);clear hd hk hv0 hv1;go_upto_region 2 with fail
 obtain ⟨w2,hw2⟩:=nqx (w1.setCell ⟨X,5,none⟩ (.int .i64 k));rw [←hw2];replace A0:=hid (show At w2 X 0 [.string o.key,.string o.nom,.string o.hol,.string o.fund,.string o.cls,.int .i64 k,.int .i64 0,.int .i64 0,.int .i64 o.at_,.int .i64 o.known,.bool o.void] by rw [hw2];exact A0.out.oneSet (k:=5) (by show 5<11;decide));replace A1:=hid (show At w2 (X+1) 0 [.string ⟨#[]⟩,.string ⟨#[]⟩,.string ⟨#[]⟩,.string ⟨#[]⟩,.string ⟨#[]⟩,.int .i64 0,.int .i64 0,.int .i64 0,.int .i64 0,.int .i64 0,.bool false] by rw [hw2];exact A1.out.othSet _ _ (by show X≠X+1;omega));replace D0:=hid (show Drew w bt w2 by rw [hw2];exact D0.out.setCell hbt _ _ (by rw [←HX.out];exact Nat.le_refl X));replace f5:=A0.out.cel (k:=5) rfl;clear hw2 z5 wk;rcases hkb with rfl|rfl|rfl|rfl|rfl
 ·go_wp2_with fail
  refine (qbA bt 100000 w2 D0.out.1 (by omega) (by omega)).mono ?_;rintro e w3 ⟨x,rfl,hx0,hx1,hd⟩;replace A0:=hid (A0.out.drw hd (by omega));replace A1:=hid (A1.out.drw hd (by omega));replace D0:=hid (D0.out.trans hd);clear hd f5;go_wp2_with fail
  refine (qbA bt 100000000 w3 D0.out.1 (by omega) (by omega)).mono ?_;rintro e w4 ⟨y,rfl,hy0,hy1,hd⟩;replace A0:=hid (A0.out.drw hd (by omega));replace A1:=hid (A1.out.drw hd (by omega));replace D0:=hid (D0.out.trans hd);have hz4:=A1.out.lt;clear hd;go_wp2_with fail
  have HP:=hid (qjM w4 [1,99,1000,1+x,1+y] 3 w4.heap.size rfl);refine (qgQ bt w4.heap.size 5 5 [1,99,1000,1+x,1+y] _ rfl (D0.out.alloc _).1 (by omega) (by omega) (by omega) HP.out).mono ?_;rintro e w5 ⟨s,hs,rfl,hd⟩
  have hsb:1≤s∧s≤100000000:=by
   simp only [List.mem_cons,List.not_mem_nil,or_false] at hs;omega
  replace A0:=hid ((A0.out.alloc _).drw hd (by omega));replace A1:=hid ((A1.out.alloc _).drw hd (by omega));replace D0:=hid ((D0.out.alloc _).trans hd);have g6:=A0.out.cel (k:=6) rfl;have z6:=A0.out.frz (k:=6) (by show 6<11;decide);clear hd hs HP;go_upto_region 9 with fail
  obtain ⟨w6,hw6⟩:=nqx (w5.setCell ⟨X,6,none⟩ (.int .i64 s));rw [←hw6];replace A0:=hid (show At w6 X 0 [.string o.key,.string o.nom,.string o.hol,.string o.fund,.string o.cls,.int .i64 1,.int .i64 s,.int .i64 0,.int .i64 o.at_,.int .i64 o.known,.bool o.void] by rw [hw6];exact A0.out.oneSet (k:=6) (by show 6<11;decide));replace A1:=hid (show At w6 (X+1) 0 [.string ⟨#[]⟩,.string ⟨#[]⟩,.string ⟨#[]⟩,.string ⟨#[]⟩,.string ⟨#[]⟩,.int .i64 0,.int .i64 0,.int .i64 0,.int .i64 0,.int .i64 0,.bool false] by rw [hw6];exact A1.out.othSet _ _ (by show X≠X+1;omega));replace D0:=hid (show Drew w bt w6 by rw [hw6];exact D0.out.setCell hbt _ _ (by rw [←HX.out];exact Nat.le_refl X));clear hw6 g6 z6 hz4;have HM:=hid (show MadeA { o with kind:=1,amount:=s,units:=0 } from ⟨⟨show (1:Int)≤1 by decide,show (1:Int)≤5 by decide⟩,by unfold askO;simp [inR];omega,by show 0≤s∧s≤100000000;omega,by show 0≤(0:Int)∧(0:Int)≤1000000;omega⟩);obtain ⟨cs,hcs⟩:=nqx ([.string o.key,.string o.nom,.string o.hol,.string o.fund,.string o.cls,.int .i64 1,.int .i64 s,.int .i64 0,.int .i64 o.at_,.int .i64 o.known,.bool o.void]:List Value);have HQl:=hid hcs;have A0:=hid (show At w6 X 0 cs by rw [hcs];exact A0.out);have HR:=hid A0.out.range;have hln:cs.length=11:=by rw [hcs];rfl
  have HTH:=hid (show w6.there (X+1) 0 cs.toArray.size by rw [List.size_toArray,hln];exact A1.out.there);have HS2:=hid (show (Tryz.prog.info? 58).map (·.size)=some cs.toArray.size by rw [List.size_toArray,hln];exact SZ.out);have HS1:=hid (show (Tryz.prog.info? 58).map (·.size)=some cs.length by rw [hln];exact SZ.out);have HO2:=hid (show cs.toArray.all (·.oneCell')=true by rw [hcs];simp [Value.oneCell']);have HE:=hid (A1.out.allSet (ds:=cs) (by rw [hln];rfl));have DE:=hid (D0.out.sets hbt (b:=X+1) (by rw [←HX.out];omega) cs);clear hcs hln;go_wp2_with (first|(refine wpList_load_mid rfl _ _ rfl X 0 rfl cs _ HR.out Tryz.underlying58 rfl HS1.out ?_)|(refine wpList_store_mid rfl _ _ _ rfl (X+1) 0 cs.toArray rfl rfl HTH.out HS2.out HO2.out ?_))
  have hld:=HE.out.read (P:=Tryz.prog) Tryz.underlying58 rfl HS1.out;refine bodyPost_ret (v:=.agg cs.toArray) (by simp [results,Tryz.results53,asAddr,hld,Act.put]) rfl ?_;exact ⟨1,s,0,by rw [HQl.out],HM.out,DE.out⟩
 ·go_wp2_with fail
  refine (qiT bt w2 D0.out.1).mono ?_;rintro e w5 ⟨s,rfl,hs1,hs2,hd⟩;replace A0:=hid (A0.out.drw hd (by omega));replace A1:=hid (A1.out.drw hd (by omega));replace D0:=hid (D0.out.trans hd);have g7:=A0.out.cel (k:=7) rfl;have z7:=A0.out.frz (k:=7) (by show 7<11;decide);clear hd f5;go_upto_region 9 with fail
  obtain ⟨w6,hw6⟩:=nqx (w5.setCell ⟨X,7,none⟩ (.int .i64 s));rw [←hw6];replace A0:=hid (show At w6 X 0 [.string o.key,.string o.nom,.string o.hol,.string o.fund,.string o.cls,.int .i64 2,.int .i64 0,.int .i64 s,.int .i64 o.at_,.int .i64 o.known,.bool o.void] by rw [hw6];exact A0.out.oneSet (k:=7) (by show 7<11;decide));replace A1:=hid (show At w6 (X+1) 0 [.string ⟨#[]⟩,.string ⟨#[]⟩,.string ⟨#[]⟩,.string ⟨#[]⟩,.string ⟨#[]⟩,.int .i64 0,.int .i64 0,.int .i64 0,.int .i64 0,.int .i64 0,.bool false] by rw [hw6];exact A1.out.othSet _ _ (by show X≠X+1;omega));replace D0:=hid (show Drew w bt w6 by rw [hw6];exact D0.out.setCell hbt _ _ (by rw [←HX.out];exact Nat.le_refl X));clear hw6 g7 z7;have HM:=hid (show MadeA { o with kind:=2,amount:=0,units:=s } from ⟨⟨show (1:Int)≤2 by decide,show (2:Int)≤5 by decide⟩,by unfold askO;simp [inR];omega,by show 0≤(0:Int)∧(0:Int)≤100000000;omega,by show 0≤s∧s≤1000000;omega⟩);obtain ⟨cs,hcs⟩:=nqx ([.string o.key,.string o.nom,.string o.hol,.string o.fund,.string o.cls,.int .i64 2,.int .i64 0,.int .i64 s,.int .i64 o.at_,.int .i64 o.known,.bool o.void]:List Value);have HQl:=hid hcs;have A0:=hid (show At w6 X 0 cs by rw [hcs];exact A0.out);have HR:=hid A0.out.range;have hln:cs.length=11:=by rw [hcs];rfl
  have HTH:=hid (show w6.there (X+1) 0 cs.toArray.size by rw [List.size_toArray,hln];exact A1.out.there);have HS2:=hid (show (Tryz.prog.info? 58).map (·.size)=some cs.toArray.size by rw [List.size_toArray,hln];exact SZ.out);have HS1:=hid (show (Tryz.prog.info? 58).map (·.size)=some cs.length by rw [hln];exact SZ.out);have HO2:=hid (show cs.toArray.all (·.oneCell')=true by rw [hcs];simp [Value.oneCell']);have HE:=hid (A1.out.allSet (ds:=cs) (by rw [hln];rfl));have DE:=hid (D0.out.sets hbt (b:=X+1) (by rw [←HX.out];omega) cs);clear hcs hln;go_wp2_with (first|(refine wpList_load_mid rfl _ _ rfl X 0 rfl cs _ HR.out Tryz.underlying58 rfl HS1.out ?_)|(refine wpList_store_mid rfl _ _ _ rfl (X+1) 0 cs.toArray rfl rfl HTH.out HS2.out HO2.out ?_))
  have hld:=HE.out.read (P:=Tryz.prog) Tryz.underlying58 rfl HS1.out;refine bodyPost_ret (v:=.agg cs.toArray) (by simp [results,Tryz.results53,asAddr,hld,Act.put]) rfl ?_;exact ⟨2,0,s,by rw [HQl.out],HM.out,DE.out⟩
 ·go_wp2_with fail
  refine (qiT bt w2 D0.out.1).mono ?_;rintro e w5 ⟨s,rfl,hs1,hs2,hd⟩;replace A0:=hid (A0.out.drw hd (by omega));replace A1:=hid (A1.out.drw hd (by omega));replace D0:=hid (D0.out.trans hd);have g7:=A0.out.cel (k:=7) rfl;have z7:=A0.out.frz (k:=7) (by show 7<11;decide);clear hd f5;go_upto_region 9 with fail
  obtain ⟨w6,hw6⟩:=nqx (w5.setCell ⟨X,7,none⟩ (.int .i64 s));rw [←hw6];replace A0:=hid (show At w6 X 0 [.string o.key,.string o.nom,.string o.hol,.string o.fund,.string o.cls,.int .i64 3,.int .i64 0,.int .i64 s,.int .i64 o.at_,.int .i64 o.known,.bool o.void] by rw [hw6];exact A0.out.oneSet (k:=7) (by show 7<11;decide));replace A1:=hid (show At w6 (X+1) 0 [.string ⟨#[]⟩,.string ⟨#[]⟩,.string ⟨#[]⟩,.string ⟨#[]⟩,.string ⟨#[]⟩,.int .i64 0,.int .i64 0,.int .i64 0,.int .i64 0,.int .i64 0,.bool false] by rw [hw6];exact A1.out.othSet _ _ (by show X≠X+1;omega));replace D0:=hid (show Drew w bt w6 by rw [hw6];exact D0.out.setCell hbt _ _ (by rw [←HX.out];exact Nat.le_refl X));clear hw6 g7 z7;have HM:=hid (show MadeA { o with kind:=3,amount:=0,units:=s } from ⟨⟨show (1:Int)≤3 by decide,show (3:Int)≤5 by decide⟩,by unfold askO;simp [inR];omega,by show 0≤(0:Int)∧(0:Int)≤100000000;omega,by show 0≤s∧s≤1000000;omega⟩);obtain ⟨cs,hcs⟩:=nqx ([.string o.key,.string o.nom,.string o.hol,.string o.fund,.string o.cls,.int .i64 3,.int .i64 0,.int .i64 s,.int .i64 o.at_,.int .i64 o.known,.bool o.void]:List Value);have HQl:=hid hcs;have A0:=hid (show At w6 X 0 cs by rw [hcs];exact A0.out);have HR:=hid A0.out.range;have hln:cs.length=11:=by rw [hcs];rfl
  have HTH:=hid (show w6.there (X+1) 0 cs.toArray.size by rw [List.size_toArray,hln];exact A1.out.there);have HS2:=hid (show (Tryz.prog.info? 58).map (·.size)=some cs.toArray.size by rw [List.size_toArray,hln];exact SZ.out);have HS1:=hid (show (Tryz.prog.info? 58).map (·.size)=some cs.length by rw [hln];exact SZ.out);have HO2:=hid (show cs.toArray.all (·.oneCell')=true by rw [hcs];simp [Value.oneCell']);have HE:=hid (A1.out.allSet (ds:=cs) (by rw [hln];rfl));have DE:=hid (D0.out.sets hbt (b:=X+1) (by rw [←HX.out];omega) cs);clear hcs hln;go_wp2_with (first|(refine wpList_load_mid rfl _ _ rfl X 0 rfl cs _ HR.out Tryz.underlying58 rfl HS1.out ?_)|(refine wpList_store_mid rfl _ _ _ rfl (X+1) 0 cs.toArray rfl rfl HTH.out HS2.out HO2.out ?_))
  have hld:=HE.out.read (P:=Tryz.prog) Tryz.underlying58 rfl HS1.out;refine bodyPost_ret (v:=.agg cs.toArray) (by simp [results,Tryz.results53,asAddr,hld,Act.put]) rfl ?_;exact ⟨3,0,s,by rw [HQl.out],HM.out,DE.out⟩
 ·go_wp2_with fail
  refine (qbA bt 100000 w2 D0.out.1 (by omega) (by omega)).mono ?_;rintro e w3 ⟨x,rfl,hx0,hx1,hd⟩;replace A0:=hid (A0.out.drw hd (by omega));replace A1:=hid (A1.out.drw hd (by omega));replace D0:=hid (D0.out.trans hd);clear hd f5;go_wp2_with fail
  refine (qbA bt 100000000 w3 D0.out.1 (by omega) (by omega)).mono ?_;rintro e w4 ⟨y,rfl,hy0,hy1,hd⟩;replace A0:=hid (A0.out.drw hd (by omega));replace A1:=hid (A1.out.drw hd (by omega));replace D0:=hid (D0.out.trans hd);have hz4:=A1.out.lt;clear hd;go_wp2_with fail
  have HP:=hid (qjM w4 [1,99,1000,1+x,1+y] 3 w4.heap.size rfl);refine (qgQ bt w4.heap.size 5 5 [1,99,1000,1+x,1+y] _ rfl (D0.out.alloc _).1 (by omega) (by omega) (by omega) HP.out).mono ?_;rintro e w5 ⟨s,hs,rfl,hd⟩
  have hsb:1≤s∧s≤100000000:=by
   simp only [List.mem_cons,List.not_mem_nil,or_false] at hs;omega
  replace A0:=hid ((A0.out.alloc _).drw hd (by omega));replace A1:=hid ((A1.out.alloc _).drw hd (by omega));replace D0:=hid ((D0.out.alloc _).trans hd);have g6:=A0.out.cel (k:=6) rfl;have z6:=A0.out.frz (k:=6) (by show 6<11;decide);clear hd hs HP;go_upto_region 9 with fail
  obtain ⟨w6,hw6⟩:=nqx (w5.setCell ⟨X,6,none⟩ (.int .i64 s));rw [←hw6];replace A0:=hid (show At w6 X 0 [.string o.key,.string o.nom,.string o.hol,.string o.fund,.string o.cls,.int .i64 4,.int .i64 s,.int .i64 0,.int .i64 o.at_,.int .i64 o.known,.bool o.void] by rw [hw6];exact A0.out.oneSet (k:=6) (by show 6<11;decide));replace A1:=hid (show At w6 (X+1) 0 [.string ⟨#[]⟩,.string ⟨#[]⟩,.string ⟨#[]⟩,.string ⟨#[]⟩,.string ⟨#[]⟩,.int .i64 0,.int .i64 0,.int .i64 0,.int .i64 0,.int .i64 0,.bool false] by rw [hw6];exact A1.out.othSet _ _ (by show X≠X+1;omega));replace D0:=hid (show Drew w bt w6 by rw [hw6];exact D0.out.setCell hbt _ _ (by rw [←HX.out];exact Nat.le_refl X));clear hw6 g6 z6 hz4;have HM:=hid (show MadeA { o with kind:=4,amount:=s,units:=0 } from ⟨⟨show (1:Int)≤4 by decide,show (4:Int)≤5 by decide⟩,by unfold askO;simp [inR];omega,by show 0≤s∧s≤100000000;omega,by show 0≤(0:Int)∧(0:Int)≤1000000;omega⟩);obtain ⟨cs,hcs⟩:=nqx ([.string o.key,.string o.nom,.string o.hol,.string o.fund,.string o.cls,.int .i64 4,.int .i64 s,.int .i64 0,.int .i64 o.at_,.int .i64 o.known,.bool o.void]:List Value);have HQl:=hid hcs;have A0:=hid (show At w6 X 0 cs by rw [hcs];exact A0.out);have HR:=hid A0.out.range;have hln:cs.length=11:=by rw [hcs];rfl
  have HTH:=hid (show w6.there (X+1) 0 cs.toArray.size by rw [List.size_toArray,hln];exact A1.out.there);have HS2:=hid (show (Tryz.prog.info? 58).map (·.size)=some cs.toArray.size by rw [List.size_toArray,hln];exact SZ.out);have HS1:=hid (show (Tryz.prog.info? 58).map (·.size)=some cs.length by rw [hln];exact SZ.out);have HO2:=hid (show cs.toArray.all (·.oneCell')=true by rw [hcs];simp [Value.oneCell']);have HE:=hid (A1.out.allSet (ds:=cs) (by rw [hln];rfl));have DE:=hid (D0.out.sets hbt (b:=X+1) (by rw [←HX.out];omega) cs);clear hcs hln;go_wp2_with (first|(refine wpList_load_mid rfl _ _ rfl X 0 rfl cs _ HR.out Tryz.underlying58 rfl HS1.out ?_)|(refine wpList_store_mid rfl _ _ _ rfl (X+1) 0 cs.toArray rfl rfl HTH.out HS2.out HO2.out ?_))
  have hld:=HE.out.read (P:=Tryz.prog) Tryz.underlying58 rfl HS1.out;refine bodyPost_ret (v:=.agg cs.toArray) (by simp [results,Tryz.results53,asAddr,hld,Act.put]) rfl ?_;exact ⟨4,s,0,by rw [HQl.out],HM.out,DE.out⟩
 ·have HM:=hid (show MadeA { o with kind:=5,amount:=0,units:=0 } from ⟨⟨show (1:Int)≤5 by decide,show (5:Int)≤5 by decide⟩,by unfold askO;simp,by show 0≤(0:Int)∧(0:Int)≤100000000;omega,by show 0≤(0:Int)∧(0:Int)≤1000000;omega⟩);go_upto_region 9 with fail
  obtain ⟨cs,hcs⟩:=nqx ([.string o.key,.string o.nom,.string o.hol,.string o.fund,.string o.cls,.int .i64 5,.int .i64 0,.int .i64 0,.int .i64 o.at_,.int .i64 o.known,.bool o.void]:List Value);have HQl:=hid hcs;have A0:=hid (show At w2 X 0 cs by rw [hcs];exact A0.out);have HR:=hid A0.out.range;have hln:cs.length=11:=by rw [hcs];rfl
  have HTH:=hid (show w2.there (X+1) 0 cs.toArray.size by rw [List.size_toArray,hln];exact A1.out.there);have HS2:=hid (show (Tryz.prog.info? 58).map (·.size)=some cs.toArray.size by rw [List.size_toArray,hln];exact SZ.out);have HS1:=hid (show (Tryz.prog.info? 58).map (·.size)=some cs.length by rw [hln];exact SZ.out);have HO2:=hid (show cs.toArray.all (·.oneCell')=true by rw [hcs];simp [Value.oneCell']);have HE:=hid (A1.out.allSet (ds:=cs) (by rw [hln];rfl));have DE:=hid (D0.out.sets hbt (b:=X+1) (by rw [←HX.out];omega) cs);clear hcs hln;go_wp2_with (first|(refine wpList_load_mid rfl _ _ rfl X 0 rfl cs _ HR.out Tryz.underlying58 rfl HS1.out ?_)|(refine wpList_store_mid rfl _ _ _ rfl (X+1) 0 cs.toArray rfl rfl HTH.out HS2.out HO2.out ?_))
  have hld:=HE.out.read (P:=Tryz.prog) Tryz.underlying58 rfl HS1.out;refine bodyPost_ret (v:=.agg cs.toArray) (by simp [results,Tryz.results53,asAddr,hld,Act.put]) rfl ?_;exact ⟨5,0,0,by rw [HQl.out],HM.out,DE.out⟩
set_option maxHeartbeats 4000000
theorem qaP (n most:Int) (b:Bool) (h:inR n 1 most=b) (w:World) :
  Calls Tryz.prog 119 #[.int .i64 n,.int .i64 most] w fun e w'=>e=.returned (.bool b)∧w=w':=by
 subst h;go_enter Tryz.func119,Tryz.ntmps119
 by_cases h1:1≤n
 ·by_cases h2:n≤most
  ·go_wp2
   go_ret
   exact ⟨qaI (by rw [Bool.eq_iff_iff];simp [inR]<;>omega),rfl⟩
  ·go_wp2
   go_ret
   exact ⟨qaI (by rw [Bool.eq_iff_iff];simp [inR]<;>omega),rfl⟩
 ·go_wp2
  go_ret
  exact ⟨qaI (by rw [Bool.eq_iff_iff];simp [inR]<;>omega),rfl⟩
theorem qkJ (o:Od) (b:Bool) (h:askO o=b) (w:World):CB 120 #[.agg #[.string o.key,.string o.nom,.string o.hol,.string o.fund,.string o.cls,.int .i64 o.kind,.int .i64 o.amount,.int .i64 o.units,.int .i64 o.at_,.int .i64 o.known,.bool o.void]] (.bool b) w:=by
 obtain ⟨key,nom,hol,fund,cls,K,a,u,at_,known,void⟩:=o;subst h;have HF:=hid (askO.eq_1 ⟨key,nom,hol,fund,cls,K,a,u,at_,known,void⟩);simp only at HF ⊢
 by_cases k1:K=1
 ·subst k1
  cases r1:inR a 1 1000000000000000 with
  | false =>
   go_enter Tryz.func120,Tryz.ntmps120
   go_wp2_with (go_at_call 119;refine (qaP _ _ _ (by assumption) _).mono ?_;rintro e w' ⟨rfl,rfl⟩)
   go_ret
   exact ⟨qaI (by rw [HF.out];simp [r1]),(Below.refl _ _).alloc (Nat.le_refl _) _⟩
  | true =>
   by_cases z0:u=0
   ·subst z0;go_enter Tryz.func120,Tryz.ntmps120
    go_wp2_with (go_at_call 119;refine (qaP _ _ _ (by assumption) _).mono ?_;rintro e w' ⟨rfl,rfl⟩)
    go_ret
    exact ⟨qaI (by rw [HF.out];simp [r1]),(Below.refl _ _).alloc (Nat.le_refl _) _⟩
   ·have y0:(u==0)=false:=beq_eq_false_iff_ne.2 z0;go_enter Tryz.func120,Tryz.ntmps120
    go_wp2_with (go_at_call 119;refine (qaP _ _ _ (by assumption) _).mono ?_;rintro e w' ⟨rfl,rfl⟩)
    go_ret
    exact ⟨qaI (by rw [HF.out];simp [r1,z0]),(Below.refl _ _).alloc (Nat.le_refl _) _⟩
 have j1:(K==1)=false:=beq_eq_false_iff_ne.2 k1;by_cases k4:K=4
 ·subst k4
  cases r1:inR a 1 1000000000000000 with
  | false =>
   go_enter Tryz.func120,Tryz.ntmps120
   go_wp2_with (go_at_call 119;refine (qaP _ _ _ (by assumption) _).mono ?_;rintro e w' ⟨rfl,rfl⟩)
   go_ret
   exact ⟨qaI (by rw [HF.out];simp [k1,r1]),(Below.refl _ _).alloc (Nat.le_refl _) _⟩
  | true =>
   by_cases z0:u=0
   ·subst z0;go_enter Tryz.func120,Tryz.ntmps120
    go_wp2_with (go_at_call 119;refine (qaP _ _ _ (by assumption) _).mono ?_;rintro e w' ⟨rfl,rfl⟩)
    go_ret
    exact ⟨qaI (by rw [HF.out];simp [k1,r1]),(Below.refl _ _).alloc (Nat.le_refl _) _⟩
   ·have y0:(u==0)=false:=beq_eq_false_iff_ne.2 z0;go_enter Tryz.func120,Tryz.ntmps120
    go_wp2_with (go_at_call 119;refine (qaP _ _ _ (by assumption) _).mono ?_;rintro e w' ⟨rfl,rfl⟩)
    go_ret
    exact ⟨qaI (by rw [HF.out];simp [k1,r1,z0]),(Below.refl _ _).alloc (Nat.le_refl _) _⟩
 have j4:(K==4)=false:=beq_eq_false_iff_ne.2 k4;by_cases k2:K=2
 ·subst k2
  cases r1:inR u 1 1000000000000000 with
  | false =>
   go_enter Tryz.func120,Tryz.ntmps120
   go_wp2_with (go_at_call 119;refine (qaP _ _ _ (by assumption) _).mono ?_;rintro e w' ⟨rfl,rfl⟩)
   go_ret
   exact ⟨qaI (by rw [HF.out];simp [k1,k4,r1]),(Below.refl _ _).alloc (Nat.le_refl _) _⟩
  | true =>
   by_cases z0:a=0
   ·subst z0;go_enter Tryz.func120,Tryz.ntmps120
    go_wp2_with (go_at_call 119;refine (qaP _ _ _ (by assumption) _).mono ?_;rintro e w' ⟨rfl,rfl⟩)
    go_ret
    exact ⟨qaI (by rw [HF.out];simp [k1,k4,r1]),(Below.refl _ _).alloc (Nat.le_refl _) _⟩
   ·have y0:(a==0)=false:=beq_eq_false_iff_ne.2 z0;go_enter Tryz.func120,Tryz.ntmps120
    go_wp2_with (go_at_call 119;refine (qaP _ _ _ (by assumption) _).mono ?_;rintro e w' ⟨rfl,rfl⟩)
    go_ret
    exact ⟨qaI (by rw [HF.out];simp [k1,k4,r1,z0]),(Below.refl _ _).alloc (Nat.le_refl _) _⟩
 have j2:(K==2)=false:=beq_eq_false_iff_ne.2 k2;by_cases k3:K=3
 ·subst k3
  cases r1:inR u 1 1000000000000000 with
  | false =>
   go_enter Tryz.func120,Tryz.ntmps120
   go_wp2_with (go_at_call 119;refine (qaP _ _ _ (by assumption) _).mono ?_;rintro e w' ⟨rfl,rfl⟩)
   go_ret
   exact ⟨qaI (by rw [HF.out];simp [k1,k4,k2,r1]),(Below.refl _ _).alloc (Nat.le_refl _) _⟩
  | true =>
   by_cases z0:a=0
   ·subst z0;go_enter Tryz.func120,Tryz.ntmps120
    go_wp2_with (go_at_call 119;refine (qaP _ _ _ (by assumption) _).mono ?_;rintro e w' ⟨rfl,rfl⟩)
    go_ret
    exact ⟨qaI (by rw [HF.out];simp [k1,k4,k2,r1]),(Below.refl _ _).alloc (Nat.le_refl _) _⟩
   ·have y0:(a==0)=false:=beq_eq_false_iff_ne.2 z0;go_enter Tryz.func120,Tryz.ntmps120
    go_wp2_with (go_at_call 119;refine (qaP _ _ _ (by assumption) _).mono ?_;rintro e w' ⟨rfl,rfl⟩)
    go_ret
    exact ⟨qaI (by rw [HF.out];simp [k1,k4,k2,r1,z0]),(Below.refl _ _).alloc (Nat.le_refl _) _⟩
 have j3:(K==3)=false:=beq_eq_false_iff_ne.2 k3;by_cases k5:K=5
 ·subst k5;by_cases z0:a=0
  ·subst z0;by_cases z1:u=0
   ·subst z1;go_enter Tryz.func120,Tryz.ntmps120
    go_wp2_with (go_at_call 119;refine (qaP _ _ _ (by assumption) _).mono ?_;rintro e w' ⟨rfl,rfl⟩)
    go_ret
    exact ⟨qaI (by rw [HF.out];simp [k1,k4,k2,k3]),(Below.refl _ _).alloc (Nat.le_refl _) _⟩
   ·have y1:(u==0)=false:=beq_eq_false_iff_ne.2 z1;go_enter Tryz.func120,Tryz.ntmps120
    go_wp2_with (go_at_call 119;refine (qaP _ _ _ (by assumption) _).mono ?_;rintro e w' ⟨rfl,rfl⟩)
    go_ret
    exact ⟨qaI (by rw [HF.out];simp [k1,k4,k2,k3,z1]),(Below.refl _ _).alloc (Nat.le_refl _) _⟩
  ·have y0:(a==0)=false:=beq_eq_false_iff_ne.2 z0;go_enter Tryz.func120,Tryz.ntmps120
   go_wp2_with (go_at_call 119;refine (qaP _ _ _ (by assumption) _).mono ?_;rintro e w' ⟨rfl,rfl⟩)
   go_ret
   exact ⟨qaI (by rw [HF.out];simp [k1,k4,k2,k3,z0]),(Below.refl _ _).alloc (Nat.le_refl _) _⟩
 have j5:(K==5)=false:=beq_eq_false_iff_ne.2 k5;go_enter Tryz.func120,Tryz.ntmps120
 go_wp2_with (go_at_call 119;refine (qaP _ _ _ (by assumption) _).mono ?_;rintro e w' ⟨rfl,rfl⟩)
 go_ret
 exact ⟨qaI (by rw [HF.out];simp [k1,k4,k2,k3,k5]),(Below.refl _ _).alloc (Nat.le_refl _) _⟩
end Go.Proofs.YtemoddmadfoaiaaGreat
