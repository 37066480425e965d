import Derived.Test.YtemoddmadfoaiaaGreatBiF
import Derived.Test.YtemoddmadfoaiaaGreatBigK
import Derived.Test.YtemoddmadfoaiaaGreatBiD
import Derived.StillTailTactics
set_option linter.unusedVariables false
set_option linter.unusedSimpArgs false
set_option maxRecDepth 100000
namespace Go.Proofs.YtemoddmadfoaiaaGreat
open Go.RowKit Big
theorem Tryz.laysI:LaysAs Tryz.prog 25 zero33:=by
 intro o h b w;unfold execOp;simp only [h];rfl
theorem FlowE.below {pl:List Pl} {W w:World} {β:Nat→Nat} (E:FlowE pl W β w) (h:pl.all (·.new)=true):Below W.heap.size W w :=
 ⟨E.os,E.tape,E.output,E.big,fun k hk=>E.keep k hk fun p hp hn=>by have:=List.all_eq_true.1 h p hp;rw [hn] at this;cases this⟩
structure At (w:World) (b o:Nat) (cs:List Value):Prop where
 range:w.rangeAt b o cs
 there:w.there b o cs.length
 lt:b<w.heap.size
theorem At.below {w w':World} {b o:Nat} {cs:List Value} (h:At w b o cs) (hb:Below w.heap.size w w'):At w' b o cs :=
 ⟨qaJ h.range hb,qaT h.there hb h.lt,Nat.lt_of_lt_of_le h.lt hb.size⟩
theorem At.alloc {w:World} {b o:Nat} {cs:List Value} (h:At w b o cs) (ob:Obj):At (w.alloc ob) b o cs:=h.below ((Below.refl _ _).alloc (Nat.le_refl _) ob)
theorem At.fresh (w:World) (cs:List Value) (ty:TypeId) {b:Nat} (hb:b=w.heap.size):At (w.alloc (.cells cs.toArray ty)) b 0 cs:=by
 subst hb;exact ⟨qcP w cs ty,qhS w cs.toArray ty (by simp),by simp⟩
theorem At.zero (w:World) (ty:TypeId) {b:Nat} (hb:b=w.heap.size):At (w.alloc (.cells zero33 ty)) b 0 (.bool false::lv 32 0):=by
 have:zero33=(Value.bool false::lv 32 0).toArray:=by rw [qbP];rfl
 rw [this];exact At.fresh w _ ty hb
theorem At.sub {w:World} {b o:Nat} {xs ys zs:List Value} (h:At w b o (xs++(ys++zs))) {k:Nat} (hk:k=o+xs.length):At w b k ys:=by
 subst hk;refine ⟨fun j v hj=>?_,fun j hj=>?_,h.lt⟩
 ·have hl:=(List.getElem?_eq_some_iff.1 hj).1
  have:=h.range (xs.length+j) v (by rw [List.getElem?_append_right (by omega),List.getElem?_append_left (by omega)];rw [←hj];congr 1;omega)
  rwa [←Nat.add_assoc] at this
 ·have:=h.there (xs.length+j) (by simp;omega)
  rwa [←Nat.add_assoc] at this
theorem At.head {w:World} {b o:Nat} {ys zs:List Value} (h:At w b o (ys++zs)):At w b o ys:=At.sub (xs:=[]) h (by simp)
theorem At.tail {w:World} {b o k:Nat} {xs ys:List Value} (h:At w b o (xs++ys)) (hk:k=o+xs.length):At w b k ys:=At.sub (zs:=[]) (by simpa using h) hk
theorem At.cell {w:World} {b o:Nat} {cs:List Value} (h:At w b o cs) {j:Nat} {v:Value} (hj:cs[j]?=some v):w.cell? ⟨b,o+j,none⟩=some v:=h.range j v hj
theorem At.flow {pl:List Pl} {w w':World} {β:Nat→Nat} (E:FlowE pl w β w') {b o:Nat} {cs:List Value} (h:At w b o cs) (hne:∀ p∈pl,p.new=false→p.b≠b):At w' b o cs:=by
 have hk:=E.keep b h.lt hne;refine ⟨fun j v hj=>?_,fun j hj=>?_,Nat.lt_of_lt_of_le h.lt E.big⟩
 ·rw [World.cell?_of_block (w:=w) hk];exact h.range j v hj
 ·rw [World.cell?_of_block (w:=w) hk,World.frozen?_of_block (w:=w) hk];exact h.there j hj
theorem At.keep {pl:List Pl} {w w':World} (E:FlowK pl w w') {b o:Nat} {cs:List Value} (h:At w b o cs) (hne:∀ p∈pl,p.new=false→p.b≠b):At w' b o cs:=by
 have hk:=E.keep b h.lt hne;refine ⟨fun j v hj=>?_,fun j hj=>?_,Nat.lt_of_lt_of_le h.lt E.big⟩
 ·rw [World.cell?_of_block (w:=w) hk];exact h.range j v hj
 ·rw [World.cell?_of_block (w:=w) hk,World.frozen?_of_block (w:=w) hk];exact h.there j hj
theorem FlowE.atNew {pl:List Pl} {w w':World} {β:Nat→Nat} (E:FlowE pl w β w') {p:Pl} (hp:p∈pl) (hn:p.new=true):w.heap.size≤β p.i∧At w' (β p.i) 0 p.cs:=by
 obtain ⟨h1,h2,h3,h4⟩:=E.laid p hp hn;exact ⟨h1,h4,h3,h2⟩
theorem FlowE.atOld {pl:List Pl} {w w':World} {β:Nat→Nat} (E:FlowE pl w β w') {p:Pl} (hp:p∈pl) (hn:p.new=false) (hb:p.b<w.heap.size):At w' p.b p.o p.cs:=by
 obtain ⟨h3,h4⟩:=E.old p hp hn;exact ⟨h4,h3,Nat.lt_of_lt_of_le hb E.big⟩
structure Fr (Z:Nat) (w w':World):Prop where
 below:Below Z w w'
 le:Z≤w'.heap.size
theorem Fr.step {Z:Nat} {w w1 w2:World} (h:Fr Z w w1) (hb:Below w1.heap.size w1 w2):Fr Z w w2:=⟨h.below.trans (hb.mono h.le),Nat.le_trans h.le hb.size⟩
theorem Fr.flow {Z:Nat} {w w1 w2:World} {pl:List Pl} {β:Nat→Nat} (h:Fr Z w w1) (E:FlowE pl w1 β w2) (hz:∀ p∈pl,p.new=false→Z≤p.b):Fr Z w w2 :=
 ⟨h.below.trans ⟨E.os,E.tape,E.output,E.big,fun k hk=>E.keep k (Nat.lt_of_lt_of_le hk h.le) fun p hp hn e=>by have:=hz p hp hn;omega⟩,Nat.le_trans h.le E.big⟩
theorem Fr.alloc {Z:Nat} {w w1:World} (h:Fr Z w w1) (ob:Obj):Fr Z w (w1.alloc ob):=h.step ((Below.refl _ _).alloc (Nat.le_refl _) ob)
theorem Fr.start (w:World):Fr w.heap.size w w:=⟨Below.refl _ _,Nat.le_refl _⟩
theorem wlg {P:Program} {ops:Array Oper} {w:World} {Q:Act→Prop} {a:Act} {op:Oper} {rest:List Oper} {ty:TypeId} {x:Operand} {b o:Nat} {cs:List Value} {d:TypeDesc} (hgd:Region.wanted op (yielded ops a.tmps)=true) (ho:op.op=.load ty x)
  (hx:a.eval x=.pointer (some ⟨b,o,none⟩)) (hA:At w b o cs) (hu:P.underlying ty=some d) (hd:d.isRow=true) (hi:(P.info? ty).map (·.size)=some cs.length)
  (h:wpQuiet P ops (fun w'=>∃ p:GB,w'=gw w p.d p.os) Q rest (a.put op.dst (.agg cs.toArray))) :
  wpQuiet P ops (fun w'=>∃ p:GB,w'=gw w p.d p.os) Q (op::rest) a :=
 wlq hgd ty x ho b o hx cs d hA.range hu hd hi h
theorem Tryz.laysM:LaysAs Tryz.prog 23 (lv 32 0).toArray:=by
 rw [qbO];intro o h b w;unfold execOp;simp only [h];rfl
theorem oP {f:Pl→Prop} (p:Pl) (l:List Pl) (h:f p) (h2:∀ x∈l,f x):∀ x∈p::l,f x:=fun x hx=>by
 rcases List.mem_cons.1 hx with e|hx
 ·rw [e];exact h
 ·exact h2 x hx
theorem oN {f:Pl→Prop}:∀ x∈([]:List Pl),f x:=fun x hx=>by cases hx
theorem bnc {P:Prop} (h:false=true):P:=Bool.noConfusion h
theorem fend {B:Nat} {w w1:World} (h:Hid (B=w.heap.size)) (f:Hid (Fr B w w1)):Below w.heap.size w w1:=by
 have h1:=h.out;subst h1;exact f.out.below
theorem uno {p:Pl}:∀ q∈[p],∀ r∈[p],q.new=false→r.new=false→q.b=r.b→q=r:=fun q hq r hr _ _ _=>by rw [List.mem_singleton.1 hq,List.mem_singleton.1 hr]
theorem qcI {cs:List Value} {v:Nat} (h:cs=lv 32 v):(Tryz.prog.info? 23).map (·.size)=some cs.length:=by rw [h];exact qbK v
theorem qI {cs:List Value} {n:Bool} {v:Nat} (h:cs=.bool n::lv 32 v):(Tryz.prog.info? 25).map (·.size)=some cs.length:=by rw [h];exact infoI33 n v
theorem jcC {cs:List Value} {v:Nat} (h:cs=lv 32 v):cs.toArray.all (·.oneCell')=true:=by rw [h];exact all_oneCell_toArray (qcE 32 v)
theorem qfM {cs:List Value} {n:Bool} {v:Nat} (h:cs=.bool n::lv 32 v):cs.toArray.all (·.oneCell')=true:=by rw [h];exact all_oneCell_toArray (qeL n v)
theorem Tryz.alI {cs:List Value} (h:(Tryz.prog.info? 25).map (·.size)=some cs.length):∃ z,LaysAs Tryz.prog 25 z∧cs.length≤z.size :=
 ⟨zero33,Tryz.laysI,by rw [Tryz.infoI] at h;injection h with h;rw [←h];decide⟩
theorem Tryz.alM {cs:List Value} (h:(Tryz.prog.info? 23).map (·.size)=some cs.length):∃ z,LaysAs Tryz.prog 23 z∧cs.length≤z.size :=
 ⟨_,Tryz.laysM,by rw [Tryz.infoM] at h;injection h with h;rw [←h,List.size_toArray,qlL];exact Nat.le_refl _⟩
theorem At.room {P:Program} {t:TypeId} {w:World} {b o:Nat} {cs ds:List Value} (h:At w b o cs) (h1:(P.info? t).map (·.size)=some cs.length) (h2:(P.info? t).map (·.size)=some ds.length):w.there b o ds.length∧w.rangeAt b o []:=by
 rw [h1] at h2;injection h2 with h2;rw [←h2];exact ⟨h.there,fun j v hv=>by simp at hv⟩
theorem FlowE.nn {pl:List Pl} (h:pl.all (·.new)=true):∀ p∈pl,p.new=false→False:=fun p hp hn=>by
 have:=List.all_eq_true.1 h p hp;rw [hn] at this;cases this
theorem At.fnw {pl:List Pl} {w w':World} {β:Nat→Nat} {b o:Nat} {cs:List Value} (h:At w b o cs) (E:FlowE pl w β w') (hn:pl.all (·.new)=true):At w' b o cs:=h.flow E fun p hp hp2=>(FlowE.nn hn p hp hp2).elim
theorem Fr.fnw {Z:Nat} {w w1 w2:World} {pl:List Pl} {β:Nat→Nat} (h:Fr Z w w1) (E:FlowE pl w1 β w2) (hn:pl.all (·.new)=true):Fr Z w w2:=h.flow E fun p hp hp2=>(FlowE.nn hn p hp hp2).elim
theorem fP1 {f:Pl→Prop} {p:Pl} (h:f p):∀ x ∈ [p],f x:=oP _ _ h (oN)
theorem fo2 {P:Program} {ops:Array Oper} {C:World→Prop} {fin:Act} {s:Nat→Bool} {k:Nat} {a b:Oper} {l:List Oper} (h1:wpQuiet P ops C (fun a'=>a'=fin) [a] fin) (h2:wpQuiet P ops C (fun a'=>a'=fin) [b] fin) (h:flowX P ops C fin s (k+1+1) l):flowX P ops C fin s k (a::b::l):=fxo h1 (fxo h2 h)
theorem fo3 {P:Program} {ops:Array Oper} {C:World→Prop} {fin:Act} {s:Nat→Bool} {k:Nat} {a b c:Oper} {l:List Oper} (h1:wpQuiet P ops C (fun a'=>a'=fin) [a] fin) (h2:wpQuiet P ops C (fun a'=>a'=fin) [b] fin) (h3:wpQuiet P ops C (fun a'=>a'=fin) [c] fin) (h:flowX P ops C fin s (k+1+1+1) l):flowX P ops C fin s k (a::b::c::l):=fxo h1 (fxo h2 (fxo h3 h))
theorem fo4 {P:Program} {ops:Array Oper} {C:World→Prop} {fin:Act} {s:Nat→Bool} {k:Nat} {a b c d:Oper} {l:List Oper} (h1:wpQuiet P ops C (fun a'=>a'=fin) [a] fin) (h2:wpQuiet P ops C (fun a'=>a'=fin) [b] fin) (h3:wpQuiet P ops C (fun a'=>a'=fin) [c] fin) (h4:wpQuiet P ops C (fun a'=>a'=fin) [d] fin) (h:flowX P ops C fin s (k+1+1+1+1) l):flowX P ops C fin s k (a::b::c::d::l):=fxo h1 (fxo h2 (fxo h3 (fxo h4 h)))
theorem fxi {P:Program} {ops:Array Oper} {C:World→Prop} {fin:Act} {s:Nat→Bool} {k:Nat} {o:Oper} {l:List Oper} (h:s k=true∨wpQuiet P ops C (fun a'=>a'=fin) [o] fin) (h2:flowX P ops C fin s (k+1) l):flowX P ops C fin s k (o::l):=⟨h,h2⟩
theorem fxl {P:Program} {ops:Array Oper} {w:World} {fin:Act} {s:Nat→Bool} {k:Nat} {op:Oper} {l:List Oper} {ty:TypeId} {x:Operand} {b o:Nat} {cs:List Value} {d:TypeDesc} (hA:At w b o cs) (hi:(P.info? ty).map (·.size)=some cs.length) (hu:P.underlying ty=some d) (hd:d.isRow=true) (h:(Region.wanted op (yielded ops fin.tmps),op.op,fin.eval x,fin.put op.dst (.agg cs.toArray))=(true,.load ty x,.pointer (some ⟨b,o,none⟩),fin)) (h2:flowX P ops (fun w'=>∃ p:GB,w'=gw w p.d p.os) fin s (k+1) l):flowX P ops (fun w'=>∃ p:GB,w'=gw w p.d p.os) fin s k (op::l):=by
 simp only [Prod.mk.injEq] at h;exact fxo (wlg h.1 h.2.1 h.2.2.1 hA hu hd hi (wqn h.2.2.2)) h2
theorem fxb {P:Program} {ops:Array Oper} {C:World→Prop} {fin:Act} {s:Nat→Bool} {k:Nat} {op:Oper} {l:List Oper} {ty:TypeId} {xs:Array (Nat×Operand)} {vs:List (Nat×Value)} {Z:Array Value} (hb:P.built ty vs=some Z) (h:(op.guard,op.op,xs.toList.map (fun p=>(p.1,fin.eval p.2)),fin.put op.dst (.agg Z))=(none,.build ty xs,vs,fin)) (h2:flowX P ops C fin s (k+1) l):flowX P ops C fin s k (op::l):=by
 simp only [Prod.mk.injEq] at h;exact fxo (wqB h.1 ty xs h.2.1 vs h.2.2.1 Z hb (wqn h.2.2.2)) h2
theorem fnh {pl:List Pl} {w w':World} {β:Nat→Nat} {b o:Nat} {cs:List Value} (h:Hid (At w b o cs)) (E:FlowE pl w β w') (hn:pl.all (·.new)=true):Hid (At w' b o cs):=Lib.hid (h.out.fnw E hn)
theorem fnf {Z:Nat} {w w1 w2:World} {pl:List Pl} {β:Nat→Nat} (h:Hid (Fr Z w w1)) (E:FlowE pl w1 β w2) (hn:pl.all (·.new)=true):Hid (Fr Z w w2):=Lib.hid (h.out.fnw E hn)
theorem afh {p:Pl} {w w':World} {β:Nat→Nat} {b o:Nat} {cs:List Value} (h:Hid (At w b o cs)) (E:FlowE [p] w β w') (hn:p.b≠b):Hid (At w' b o cs):=Lib.hid (At.flow E h.out (fP1 (fun _=>hn)))
theorem ffh {p:Pl} {Z:Nat} {w w1 w2:World} {β:Nat→Nat} (h:Hid (Fr Z w w1)) (E:FlowE [p] w1 β w2) (hn:Z≤p.b):Hid (Fr Z w w2):=Lib.hid (h.out.flow E (fP1 (fun _=>hn)))
theorem akh {p:Pl} {w w':World} {b o:Nat} {cs:List Value} (h:Hid (At w b o cs)) (E:FlowK [p] w w') (hn:p.b≠b):At w' b o cs:=At.keep E h.out (fP1 (fun _=>hn))
theorem ltb {w:World} {b o n:Nat} {cs:List Value} (h:Hid (At w b o cs)) (e:w.heap.size≤n):b<n:=Nat.lt_of_lt_of_le h.out.lt e
theorem en1 (w:World) {z0:Array Value} {c0:List Value} (t0:TypeId) (h0:z0=c0.toArray):∃ B0 w0,w0=(w.alloc (.cells z0 t0))∧B0=w.heap.size∧Hid (At w0 B0 0 c0)∧Hid (Fr B0 w w0)∧Hid (B0≤w0.heap.size)∧Hid (B0=w.heap.size)∧B0≤B0:=by
 subst h0;refine ⟨w.heap.size,_,rfl,rfl,Lib.hid (show At (w.alloc (.cells c0.toArray t0)) (w.heap.size) 0 c0 from At.fresh _ c0 _ (by simp)),Lib.hid ((Fr.start w).alloc _),Lib.hid ((Fr.start w).alloc _).le,Lib.hid rfl,Nat.le_refl _⟩
theorem en2 (w:World) {z0 z1:Array Value} {c0 c1:List Value} (t0 t1:TypeId) (h0:z0=c0.toArray) (h1:z1=c1.toArray):∃ B0 B1 w0,w0=((w.alloc (.cells z0 t0)).alloc (.cells z1 t1))∧B0=w.heap.size∧B1=w.heap.size+1∧Hid (At w0 B0 0 c0)∧Hid (At w0 B1 0 c1)∧Hid (Fr B0 w w0)∧Hid (B0≤w0.heap.size)∧Hid (B0=w.heap.size)∧B0≤B0∧B0<B1∧B0≤B1:=by
 subst h0 h1;refine ⟨w.heap.size,w.heap.size+1,_,rfl,rfl,rfl,Lib.hid ((show At (w.alloc (.cells c0.toArray t0)) (w.heap.size) 0 c0 from At.fresh _ c0 _ (by simp)).alloc _),Lib.hid (show At ((w.alloc (.cells c0.toArray t0)).alloc (.cells c1.toArray t1)) (w.heap.size+1) 0 c1 from At.fresh _ c1 _ (by simp)),Lib.hid (((Fr.start w).alloc _).alloc _),Lib.hid (((Fr.start w).alloc _).alloc _).le,Lib.hid rfl,Nat.le_refl _,by omega,by omega⟩
theorem en3 (w:World) {z0 z1 z2:Array Value} {c0 c1 c2:List Value} (t0 t1 t2:TypeId) (h0:z0=c0.toArray) (h1:z1=c1.toArray) (h2:z2=c2.toArray):∃ B0 B1 B2 w0,w0=(((w.alloc (.cells z0 t0)).alloc (.cells z1 t1)).alloc (.cells z2 t2))∧B0=w.heap.size∧B1=w.heap.size+1∧B2=w.heap.size+1+1∧Hid (At w0 B0 0 c0)∧Hid (At w0 B1 0 c1)∧Hid (At w0 B2 0 c2)∧Hid (Fr B0 w w0)∧Hid (B0≤w0.heap.size)∧Hid (B0=w.heap.size)∧B0≤B0∧B0<B1∧B0≤B1∧B1<B2∧B0≤B2:=by
 subst h0 h1 h2;refine ⟨w.heap.size,w.heap.size+1,w.heap.size+1+1,_,rfl,rfl,rfl,rfl,Lib.hid (((show At (w.alloc (.cells c0.toArray t0)) (w.heap.size) 0 c0 from At.fresh _ c0 _ (by simp)).alloc _).alloc _),Lib.hid ((show At ((w.alloc (.cells c0.toArray t0)).alloc (.cells c1.toArray t1)) (w.heap.size+1) 0 c1 from At.fresh _ c1 _ (by simp)).alloc _),Lib.hid (show At (((w.alloc (.cells c0.toArray t0)).alloc (.cells c1.toArray t1)).alloc (.cells c2.toArray t2)) (w.heap.size+1+1) 0 c2 from At.fresh _ c2 _ (by simp)),Lib.hid ((((Fr.start w).alloc _).alloc _).alloc _),Lib.hid ((((Fr.start w).alloc _).alloc _).alloc _).le,Lib.hid rfl,Nat.le_refl _,by omega,by omega,by omega,by omega⟩
theorem en4 (w:World) {z0 z1 z2 z3:Array Value} {c0 c1 c2 c3:List Value} (t0 t1 t2 t3:TypeId) (h0:z0=c0.toArray) (h1:z1=c1.toArray) (h2:z2=c2.toArray) (h3:z3=c3.toArray):∃ B0 B1 B2 B3 w0,w0=((((w.alloc (.cells z0 t0)).alloc (.cells z1 t1)).alloc (.cells z2 t2)).alloc (.cells z3 t3))∧B0=w.heap.size∧B1=w.heap.size+1∧B2=w.heap.size+1+1∧B3=w.heap.size+1+1+1∧Hid (At w0 B0 0 c0)∧Hid (At w0 B1 0 c1)∧Hid (At w0 B2 0 c2)∧Hid (At w0 B3 0 c3)∧Hid (Fr B0 w w0)∧Hid (B0≤w0.heap.size)∧Hid (B0=w.heap.size)∧B0≤B0∧B0<B1∧B0≤B1∧B1<B2∧B0≤B2∧B2<B3∧B0≤B3:=by
 subst h0 h1 h2 h3;refine ⟨w.heap.size,w.heap.size+1,w.heap.size+1+1,w.heap.size+1+1+1,_,rfl,rfl,rfl,rfl,rfl,Lib.hid ((((show At (w.alloc (.cells c0.toArray t0)) (w.heap.size) 0 c0 from At.fresh _ c0 _ (by simp)).alloc _).alloc _).alloc _),Lib.hid (((show At ((w.alloc (.cells c0.toArray t0)).alloc (.cells c1.toArray t1)) (w.heap.size+1) 0 c1 from At.fresh _ c1 _ (by simp)).alloc _).alloc _),Lib.hid ((show At (((w.alloc (.cells c0.toArray t0)).alloc (.cells c1.toArray t1)).alloc (.cells c2.toArray t2)) (w.heap.size+1+1) 0 c2 from At.fresh _ c2 _ (by simp)).alloc _),Lib.hid (show At ((((w.alloc (.cells c0.toArray t0)).alloc (.cells c1.toArray t1)).alloc (.cells c2.toArray t2)).alloc (.cells c3.toArray t3)) (w.heap.size+1+1+1) 0 c3 from At.fresh _ c3 _ (by simp)),Lib.hid (((((Fr.start w).alloc _).alloc _).alloc _).alloc _),Lib.hid (((((Fr.start w).alloc _).alloc _).alloc _).alloc _).le,Lib.hid rfl,Nat.le_refl _,by omega,by omega,by omega,by omega,by omega,by omega⟩
theorem en5 (w:World) {z0 z1 z2 z3 z4:Array Value} {c0 c1 c2 c3 c4:List Value} (t0 t1 t2 t3 t4:TypeId) (h0:z0=c0.toArray) (h1:z1=c1.toArray) (h2:z2=c2.toArray) (h3:z3=c3.toArray) (h4:z4=c4.toArray):∃ B0 B1 B2 B3 B4 w0,w0=(((((w.alloc (.cells z0 t0)).alloc (.cells z1 t1)).alloc (.cells z2 t2)).alloc (.cells z3 t3)).alloc (.cells z4 t4))∧B0=w.heap.size∧B1=w.heap.size+1∧B2=w.heap.size+1+1∧B3=w.heap.size+1+1+1∧B4=w.heap.size+1+1+1+1∧Hid (At w0 B0 0 c0)∧Hid (At w0 B1 0 c1)∧Hid (At w0 B2 0 c2)∧Hid (At w0 B3 0 c3)∧Hid (At w0 B4 0 c4)∧Hid (Fr B0 w w0)∧Hid (B0≤w0.heap.size)∧Hid (B0=w.heap.size)∧B0≤B0∧B0<B1∧B0≤B1∧B1<B2∧B0≤B2∧B2<B3∧B0≤B3∧B3<B4∧B0≤B4:=by
 subst h0 h1 h2 h3 h4;refine ⟨w.heap.size,w.heap.size+1,w.heap.size+1+1,w.heap.size+1+1+1,w.heap.size+1+1+1+1,_,rfl,rfl,rfl,rfl,rfl,rfl,Lib.hid (((((show At (w.alloc (.cells c0.toArray t0)) (w.heap.size) 0 c0 from At.fresh _ c0 _ (by simp)).alloc _).alloc _).alloc _).alloc _),Lib.hid ((((show At ((w.alloc (.cells c0.toArray t0)).alloc (.cells c1.toArray t1)) (w.heap.size+1) 0 c1 from At.fresh _ c1 _ (by simp)).alloc _).alloc _).alloc _),Lib.hid (((show At (((w.alloc (.cells c0.toArray t0)).alloc (.cells c1.toArray t1)).alloc (.cells c2.toArray t2)) (w.heap.size+1+1) 0 c2 from At.fresh _ c2 _ (by simp)).alloc _).alloc _),Lib.hid ((show At ((((w.alloc (.cells c0.toArray t0)).alloc (.cells c1.toArray t1)).alloc (.cells c2.toArray t2)).alloc (.cells c3.toArray t3)) (w.heap.size+1+1+1) 0 c3 from At.fresh _ c3 _ (by simp)).alloc _),Lib.hid (show At (((((w.alloc (.cells c0.toArray t0)).alloc (.cells c1.toArray t1)).alloc (.cells c2.toArray t2)).alloc (.cells c3.toArray t3)).alloc (.cells c4.toArray t4)) (w.heap.size+1+1+1+1) 0 c4 from At.fresh _ c4 _ (by simp)),Lib.hid ((((((Fr.start w).alloc _).alloc _).alloc _).alloc _).alloc _),Lib.hid ((((((Fr.start w).alloc _).alloc _).alloc _).alloc _).alloc _).le,Lib.hid rfl,Nat.le_refl _,by omega,by omega,by omega,by omega,by omega,by omega,by omega,by omega⟩
theorem bxq (c:List Value):c.toArray=c.toArray:=rfl
theorem zQI {c:List Value} (h:Hid (c=.bool false::lv 32 0)):zero33=c.toArray:=by rw [h.out,qbP];rfl
theorem zM {n:Nat} {c:List Value} (h:Hid (c=lv n 0)):(lv n 0).toArray=c.toArray:=by rw [h.out]
theorem nwb {pl:List Pl} {w w':World} {β:Nat→Nat} (E:FlowE pl w β w') {i s b o so:Nat} {d x:Tmp} {ty:TypeId} {cs scs pre:List Value} (hp:(⟨true,i,d,s,b,o,ty,x,cs,so,scs,pre⟩:Pl)∈pl):∃ b,b=β i∧w.heap.size≤b∧At w' b 0 cs:=⟨_,rfl,E.atNew hp rfl⟩
theorem bnC {P:Prop} (h:false=true):P:=Bool.noConfusion h
theorem abl {w w':World} {b o:Nat} {cs:List Value} (h:Hid (At w b o cs)) (hb:Below w.heap.size w w'):At w' b o cs:=h.out.below hb
theorem ldI {ops:Array Oper} {w:World} {fin:Act} {s:Nat→Bool} {k:Nat} {op:Oper} {l:List Oper} {x:Operand} {b o:Nat} {cs:List Value} {n:Bool} {v:Nat} (hA:At w b o cs) (hV:Hid (cs=.bool n::lv 32 v)) (h:(Region.wanted op (yielded ops fin.tmps),op.op,fin.eval x,fin.put op.dst (.agg cs.toArray))=(true,.load 25 x,.pointer (some ⟨b,o,none⟩),fin)) (h2:flowX Tryz.prog ops (fun w'=>∃ p:GB,w'=gw w p.d p.os) fin s (k+1) l):flowX Tryz.prog ops (fun w'=>∃ p:GB,w'=gw w p.d p.os) fin s k (op::l):=fxl hA (qI hV.out) Tryz.underlying25 rfl h h2
theorem sI {fin:Act} {new:Bool} {i s b o:Nat} {d x:Tmp} {cs:List Value} {n:Bool} {v:Nat} (hV:Hid (cs=.bool n::lv 32 v)) (h0:new=true→o=0) (h:fin.tmps[x]?=some (.agg cs.toArray)):StOk Tryz.prog fin ⟨new,i,d,s,b,o,25,x,cs,o,cs,[]⟩:=stw h (qI hV.out) (qfM hV.out) h0
theorem wfn {P:Program} {id:Nat} {dr:Bool} {Q:Exit→Act→World→Prop} {a:Act} {w:World} {l:List Oper} (pl:List Pl) (vs:List (Tmp × Value)) (fin:Act) (hfin:vs.foldl (fun a p=>a.put (some p.1) p.2) a=fin)
  (hm:P.follows .mixedOrders=true) (hB:flowB l.toArray pl (vs.map (·.1)) a.tmps.size=true) (hn:pl.all (·.new)=true)
  (hX:∀ W',Below w.heap.size w W'→flowX P l.toArray (fun w'=>∃ p:GB,w'=gw W' p.d p.os) fin (fun k=>isA pl k || isS pl k) 0 l)
  (hAl:∀ p∈pl,∃ z,LaysAs P p.ty z∧p.cs.length≤z.size)
  (hSt:∀ p∈pl,StOk P fin p)
  (hQ:∀ β w',FlowE pl w β w'→Q .normal (nP β pl fin) w'):(Code.region id l.toArray dr).wp P Q a w:=by
 have nw:∀ p∈pl,p.new=true:=fun p hp=>List.all_eq_true.1 hn p hp
 have he:∀ k,early l.toArray pl k=true:=fun k=>List.all_eq_true.2 fun p hp=>by simp [nw p hp]
 have mono:∀ (C:World→Prop) (s t:Nat→Bool) (h:∀ k,s k=t k) (l':List Oper) (k:Nat),flowX P l.toArray C fin s k l'→flowX P l.toArray C fin t k l':=fun C s t h l' k hx=>by
  have:s=t:=funext h
  rwa [←this]
 have all:∀ (C:World→Prop) (s:Nat→Bool) (h:∀ k,s k=true) (l':List Oper) (k:Nat),flowX P l.toArray C fin s k l':=by
  intro C s h l'
  induction l' with
  | nil=>intro k;trivial
  | cons o l' ih=>intro k;exact ⟨.inl (h k),ih (k+1)⟩
 exact qwf pl vs fin hfin hm hB (fun W' hW'=>mono _ _ _ (fun k=>by simp [he k]) _ _ (hX W' hW')) (fun W' _=>all _ _ (fun k=>by simp [he k]) _ _) (fun p hp _=>hAl p hp) (fun q hq h=>(FlowE.nn hn q hq h).elim) (fun q hq r hr h _ _=>(FlowE.nn hn q hq h).elim) hSt hQ
theorem wT {id:Nat} {dr:Bool} {Q:Exit→Act→World→Prop} {a:Act} {w:World} {l:List Oper} (pl:List Pl) (vs:List (Tmp × Value)) {fin:Act} (hfin:vs.foldl (fun a p=>a.put (some p.1) p.2) a=fin) (hB:flowB l.toArray pl (vs.map (·.1)) a.tmps.size=true) (hn:pl.all (·.new)=true)
  (hX:∀ W',Below w.heap.size w W'→flowX Tryz.prog l.toArray (fun w'=>∃ p:GB,w'=gw W' p.d p.os) fin (fun k=>isA pl k || isS pl k) 0 l)
  (hAl:∀ p∈pl,∃ z,LaysAs Tryz.prog p.ty z∧p.cs.length≤z.size)
  (hSt:∀ p∈pl,StOk Tryz.prog fin p)
  (hQ:∀ β w',FlowE pl w β w'→Q .normal (nP β pl fin) w'):(Code.region id l.toArray dr).wp Tryz.prog Q a w:=wfn (P:=Tryz.prog) pl vs fin hfin (by kernel_rfl) hB hn hX hAl hSt hQ
theorem wF {id:Nat} {dr:Bool} {Q:Exit→Act→World→Prop} {a:Act} {w:World} {l:List Oper} (pl:List Pl) (vs:List (Tmp × Value)) {fin:Act} (hfin:vs.foldl (fun a p=>a.put (some p.1) p.2) a=fin) (hB:flowB l.toArray pl (vs.map (·.1)) a.tmps.size=true)
    (hX:∀ W',Below w.heap.size w W'→flowX Tryz.prog l.toArray (fun w'=>∃ p:GB,w'=gw W' p.d p.os) fin (fun k=>isA pl k || isS pl k || !early l.toArray pl k) 0 l)
    (hY:∀ W',FlowK pl w W'→flowX Tryz.prog l.toArray (fun w'=>∃ p:GB,w'=gw W' p.d p.os) fin (fun k=>isA pl k || isS pl k || early l.toArray pl k) 0 l)
    (hAl:∀ p∈pl,p.new=true→∃ z,LaysAs Tryz.prog p.ty z∧p.cs.length≤z.size)
    (hOld:∀ q∈pl,q.new=false→q.b<w.heap.size∧fin.tmps[q.d]?=some (.pointer (some ⟨q.b,q.so,none⟩))∧w.there q.b q.o q.cs.length∧w.rangeAt q.b q.o q.pre)
    (hDb:∀ q∈pl,∀ r∈pl,q.new=false→r.new=false→q.b=r.b→q=r)
    (hSt:∀ p∈pl,StOk Tryz.prog fin p)
    (hQ:∀ β w',FlowE pl w β w'→Q .normal (nP β pl fin) w'):(Code.region id l.toArray dr).wp Tryz.prog Q a w:=qwf (P:=Tryz.prog) pl vs fin hfin (by kernel_rfl) hB hX hY hAl hOld hDb hSt hQ
theorem qeK {P:Program} {fin:Act} {i s b k:Nat} {d x:Tmp} {ty:TypeId} {cs pre:List Value} {v:Value} (h:fin.tmps[x]?=some v) (hv:v.cells=#[v]) (hs:(P.info? ty).map (·.size)=some 1) (h1:v.oneCell'=true) (hk:k<pre.length) (hcs:cs=pre.set k v) :
  StOk P fin ⟨false,i,d,s,b,0,ty,x,cs,k,[v],pre⟩:=by
 have:=jdP (P:=P) (fin:=fin) (i:=i) (s:=s) (b:=b) (o:=0) (k:=k) (d:=d) (x:=x) (ty:=ty) h hv hs h1 hk hcs
 rwa [Nat.zero_add] at this
theorem At.roomC {w:World} {b o k:Nat} {cs pre:List Value} {v:Value} (h:At w b o pre) (hcs:cs=pre.set k v):w.there b o cs.length∧w.rangeAt b o pre:=by
 subst hcs;rw [List.length_set];exact ⟨h.there,h.range⟩
theorem valI {c:List Value} {n:Bool} {v:Nat} (h:c=.bool n::lv 32 v):iV n v=.agg c.toArray:=by rw [h];rfl
theorem At.mag {w:World} {b o:Nat} {c:List Value} {n:Bool} {v:Nat} (h:At w b o c) (hc:c=.bool n::lv 32 v) {m:List Value} (hm:m=lv 32 v):At w b (o+1) m:=by
 subst hm hc;exact At.tail (xs:=[.bool n]) h rfl
theorem At.neg {w:World} {b o:Nat} {c:List Value} {n:Bool} {v:Nat} (h:At w b o c) (hc:c=.bool n::lv 32 v):w.cell? ⟨b,o,none⟩=some (.bool n):=by
 subst hc;exact h.cell (j:=0) rfl
theorem At.read {P:Program} {t:TypeId} {d:TypeDesc} {w:World} {b o:Nat} {c:List Value} (h:At w b o c) (hu:P.underlying t=some d) (hd:d.isRow=true) (hi:(P.info? t).map (·.size)=some c.length):(loadVar t ⟨b,o,none⟩).run P w=.ok (.agg c.toArray) w :=
 run_loadVar_mid w b o t c d h.range hu hd hi
theorem jeX {f:Tmp × Value→Prop} (p:Tmp × Value) (l:List (Tmp × Value)) (h:f p) (h2:∀ x∈l,f x):∀ x∈p::l,f x:=fun x hx=>by
 rcases List.mem_cons.1 hx with e|hx
 ·rw [e];exact h
 ·exact h2 x hx
theorem qzD {f:Tmp × Value→Prop}:∀ x∈([]:List (Tmp × Value)),f x:=fun x hx=>by cases hx
end Go.Proofs.YtemoddmadfoaiaaGreat
set_option maxHeartbeats 4000000
namespace Go.Proofs.YtemoddmadfoaiaaGreat
open Go.RowKit Big
open Lib (hid)
theorem At.limb {w:World} {b o v:Nat} (h:At w b o (lv 32 v)) {j:Nat} (hj:j<32):w.cell? ⟨b,o+j,none⟩=some (.int .u32 (lim v j:Nat)):=h.range j _ (lv_get v hj)
theorem qeH (v N b o:Nat) (w:World) (h:At w b o (lv 32 v)) (hv:v<BB^32) (hN:IsLimbs v N) :
  Calls Tryz.prog 164 #[.pointer (some ⟨b,o,none⟩)] w fun e w'=>e=.returned (.int .i64 (N:Int))∧w=w':=by
 have HA:=hid h;have HN:=hid hN;have HV:=hid hv;clear h hv hN;go_enter Tryz.func164,Tryz.ntmps164
 go_wp2
 go_loopg [3] 32 (fun m kv wr=>∃ k:Nat,kv=.int .i64 (k:Int)∧k≤32∧k≤m∧v<BB^k∧w=wr)
 case atStart=>exact ⟨32,rfl,by omega,by omega,HV.out,rfl⟩
 case round =>
  obtain ⟨k,rfl,hk,hm,hvk,rfl⟩:=hrel;have HVK:=hid hvk;clear hvk
  cases k with
  | zero =>
   have HE:=hid (show (0:Int)=(N:Int) by
    have h0:v=0:=by have:=HVK.out;simpa using this
    have:=HN.out
    rw [h0] at this;rw [this.zero];rfl)
   go_wp2
   go_ret
   exact ⟨qaI HE.out,rfl⟩
  | succ j =>
   have hc:=HA.out.limb (j:=j) (by omega);obtain ⟨x,hx⟩:∃ x,x=lim v j:=⟨_,rfl⟩;rw [←hx] at hc;have e1:((j+1:Nat):Int) - 1=(j:Int):=by omega
   have e2:IntKind.i64.wrap (((j+1:Nat):Int) - 1)=(j:Int):=by rw [IntWalk.i64_in _ (by omega)];omega
   have e3:(0:Int)<((j+1:Nat):Int):=by omega
   obtain ⟨J,hJ⟩:∃ J:Nat,J=j+1:=⟨_,rfl⟩;rw [←hJ] at e1 e2 e3 ⊢;have hj32:j<32:=by omega
   by_cases h0:x=0
   ·have hx0:((x:Int)==0)=true:=by simp [h0]
    have HZ:=hid (And.intro hx (And.intro h0 hJ));clear hx h0 hJ;go_wp2
    go_roundg (gk - 1)
    case measure=>have:=HZ.out;omega
    case rel=>exact ⟨j,rfl,by omega,by have:=HZ.out;omega,qdE HVK.out (by rw [←HZ.out.1];exact HZ.out.2.1),rfl⟩
   ·have hx0:((x:Int)==0)=false:=beq_eq_false_iff_ne.2 (by omega)
    have HE:=hid (show (J:Int)=(N:Int) by
     have h1:IsLimbs v (j+1):=⟨HVK.out,fun _=>by rw [Nat.add_sub_cancel];exact qgR (by rw [←hx];exact h0)⟩;rw [hJ,h1.unique HN.out])
    clear hx h0 hJ;go_wp2
    go_ret
    exact ⟨qaI HE.out,rfl⟩
theorem qkV (a b b1 o1 b2 o2:Nat) (w:World) (hA:At w b1 o1 (lv 32 a)) (hB:At w b2 o2 (lv 32 b)) (ha:a<BB^32) (hb:b<BB^32) :
  Calls Tryz.prog 165 #[.pointer (some ⟨b1,o1,none⟩),.pointer (some ⟨b2,o2,none⟩)] w fun e w'=>e=.returned (.int .i64 (cmpI a b))∧Below w.heap.size w w':=by
 have H0:=hid (show a / BB^32=b / BB^32 by rw [Nat.div_eq_of_lt ha,Nat.div_eq_of_lt hb]);have HA:=hid hA;have HB:=hid hB;have HW:=hid (Below.refl w.heap.size w);clear ha hb hA hB;go_enter Tryz.func165,Tryz.ntmps165
 go_wp2
 go_loopg [5] 33 (fun g i wr=>∃ (k d:Nat) (z:Int),k≤32∧k≤g∧z=(k:Int) - 1∧i=.int .i64 z∧a / BB^k=b / BB^k∧wr=w.drewN d)
 case atStart=>exact ⟨32,0,31,by omega,by omega,by omega,rfl,H0.out,by cases w;rfl⟩
 case round =>
  obtain ⟨k,d,z,hk,hg,hz,rfl,he,rfl⟩:=hrel;have HE:=hid he;clear he
  cases k with
  | zero =>
   have hz1:z=-1:=by omega
   subst hz1
   have HR:=hid (show cmpI a b=0 by
    have h:=HE.out;simp only [Nat.pow_zero,Nat.div_one] at h;unfold cmpI;rw [if_neg (by omega),if_pos h])
   clear hz;go_wp2
   go_ret
   exact ⟨qaI HR.out.symm,by first|exact below_drewN HW.out _|exact below_drewN (below_drewN HW.out _) _|exact below_drewN (below_drewN (below_drewN HW.out _) _) _⟩
  | succ k =>
   have hz1:z=(k:Int):=by omega
   subst hz1;have hk32:k<32:=by omega
   have ca:=HA.out.limb hk32;have cb:=HB.out.limb hk32;obtain ⟨x,hx⟩:∃ x,x=lim a k:=⟨_,rfl⟩;obtain ⟨y,hy⟩:∃ y,y=lim b k:=⟨_,rfl⟩;rw [←hx] at ca;rw [←hy] at cb;have hj:(k:Int) - 1=((k:Int) - 1):=rfl;have hwk:IntKind.i64.wrap ((k:Int) - 1)=(k:Int) - 1:=IntWalk.i64_in _ (by omega);have hk0:(0:Int)≤(k:Int):=by omega
   clear hz;by_cases h1:x<y
   ·have HR:=hid (show cmpI a b=-1 by
     have:=qfZ HE.out (by rw [←hx,←hy];exact h1)
     unfold cmpI;rw [if_pos this])
    clear hx hy;go_wp2
    go_quiet (fail)
    go_wp2
    go_ret
    exact ⟨qaI HR.out.symm,by first|exact below_drewN HW.out _|exact below_drewN (below_drewN HW.out _) _|exact below_drewN (below_drewN (below_drewN HW.out _) _) _⟩
   ·by_cases h2:y<x
    ·have HR:=hid (show cmpI a b=1 by
      have:=qfZ HE.out.symm (by rw [←hx,←hy];exact h2)
      unfold cmpI;rw [if_neg (by omega),if_neg (by omega)])
     clear hx hy;go_wp2
     go_quiet (fail)
     go_wp2
     go_quiet (fail)
     go_wp2
     go_ret
     exact ⟨qaI HR.out.symm,by first|exact below_drewN HW.out _|exact below_drewN (below_drewN HW.out _) _|exact below_drewN (below_drewN (below_drewN HW.out _) _) _⟩
    ·have HD:=hid (qiR HE.out (show lim a k=lim b k by omega));clear hx hy;go_wp2
     go_quiet (fail)
     go_wp2
     go_quiet (fail)
     go_wp2
     go_roundg (gk - 1)
     case measure=>omega
     case rel=>exact ⟨k,_,_,by omega,by omega,rfl,rfl,HD.out,rfl⟩
set_option maxHeartbeats 8000000
theorem Tryz.infoU:(Tryz.prog.info? 22).map (·.size)=some 1:=by kernel_rfl
theorem Tryz.infoG:(Tryz.prog.info? 140).map (·.size)=some 32:=by kernel_rfl
theorem qG {cs:List Value} {v:Nat} (h:cs=lv 32 v):(Tryz.prog.info? 140).map (·.size)=some cs.length:=by rw [h,qlL];exact Tryz.infoG
theorem qoI {cs:List Value} {v:Nat} (h:cs=lv 32 v):cs.toArray.all (·.oneCell')=true:=jcC h
theorem ldG {ops:Array Oper} {w:World} {fin:Act} {s:Nat→Bool} {k:Nat} {op:Oper} {l:List Oper} {x:Operand} {b o:Nat} {cs:List Value} {v:Nat} (hA:At w b o cs) (hV:Hid (cs=lv 32 v)) (h:(Region.wanted op (yielded ops fin.tmps),op.op,fin.eval x,fin.put op.dst (.agg cs.toArray))=(true,.load 140 x,.pointer (some ⟨b,o,none⟩),fin)) (h2:flowX Tryz.prog ops (fun w'=>∃ p:GB,w'=gw w p.d p.os) fin s (k+1) l):flowX Tryz.prog ops (fun w'=>∃ p:GB,w'=gw w p.d p.os) fin s k (op::l):=fxl hA (qG hV.out) Tryz.underlying140 rfl h h2
theorem sG {fin:Act} {new:Bool} {i s b o:Nat} {d x:Tmp} {cs:List Value} {v:Nat} (hV:Hid (cs=lv 32 v)) (h0:new=true→o=0) (h:fin.tmps[x]?=some (.agg cs.toArray)):StOk Tryz.prog fin ⟨new,i,d,s,b,o,140,x,cs,o,cs,[]⟩:=stw h (qG hV.out) (qoI hV.out) h0
theorem Tryz.laysG:LaysAs Tryz.prog 140 (lv 32 0).toArray:=by
 rw [qbO];intro o h b w;unfold execOp;simp only [h];rfl
theorem Tryz.alG {cs:List Value} (h:(Tryz.prog.info? 140).map (·.size)=some cs.length):∃ z,LaysAs Tryz.prog 140 z∧cs.length≤z.size :=
 ⟨_,Tryz.laysG,by rw [Tryz.infoG] at h;injection h with h;rw [←h,List.size_toArray,qlL];exact Nat.le_refl _⟩
theorem qdP {c c2:List Value} {P i d:Nat} (h:c=lv 32 P) (h2:c2=lv 32 (upd P i d)) (hi:i<32) (hd:d<BB):c2=c.set i (.int .u32 (d:Int)):=by
 subst h h2;exact (quZ P hi hd).symm
theorem At.limbV {w:World} {b v j x:Nat} {c:List Value} (h:At w b 0 c) (hc:c=lv 32 v) (hx:x=lim v j) (hj:j<32):w.cell? ⟨b,j,none⟩=some (.int .u32 (x:Int)):=by
 subst hc hx
 have:=h.limb (j:=j) hj
 rwa [Nat.zero_add] at this
theorem At.limbO {w:World} {b o v j x:Nat} {c:List Value} (h:At w b o c) (hc:c=lv 32 v) (hx:x=lim v j) (hj:j<32):w.cell? ⟨b,o+j,none⟩=some (.int .u32 (x:Int)):=by
 subst hc hx;exact h.limb (j:=j) hj
theorem qtG {x y c:Nat} (hx:x<BB) (hy:y<BB) (hc:c≤1):∃ d c':Nat,d<BB∧c'≤1∧d+c'*BB=x+y+c :=
 ⟨(x+y+c)%BB,(x+y+c) / BB,Nat.mod_lt _ qaX,by unfold BB at *;omega,by unfold BB;omega⟩
theorem qkU {x y c:Nat} (hx:x<BB) (hy:y<BB) (hc:c≤1):∃ d c':Nat,d<BB∧c'≤1∧d+y+c=x+c'*BB:=by
 by_cases h:x<y+c
 ·exact ⟨x+BB - y - c,1,by unfold BB at *;omega,by omega,by unfold BB at *;omega⟩
 ·exact ⟨x - y - c,0,by omega,by omega,by omega⟩
theorem quJ {ca cb cv:List Value} {a b v ba oa bb ob:Nat} {c2:Nat} (w:World) (h1:At w ba oa ca) (h2:At w bb ob cb) (hca:ca=lv 32 a) (hcb:cb=lv 32 b) (hcv:cv=lv 32 v) (ha:a<BB^32) (hb:b<BB^32) (hv:v<BB^32) (hd:a+b=v+c2*BB^32) :
  Calls Tryz.prog 170 #[.pointer (some ⟨ba,oa,none⟩),.pointer (some ⟨bb,ob,none⟩)] w fun e w'=>e=.returned (.tuple #[.agg cv.toArray,.bool (decide (c2=0))])∧Below w.heap.size w w':=by
 have V_ca:=hid hca;have V_cb:=hid hcb;have V_cv:=hid hcv;have HV:=hid (And.intro ha (And.intro hb (And.intro hv hd)));have Aba:=hid h1;have Abb:=hid h2;have lba:=h1.lt;have lbb:=h2.lt;clear hca hcb hcv ha hb hv hd h1 h2;obtain ⟨cz,V_cz⟩:∃ c:List Value,Hid (c=lv 32 0):=⟨_,hid rfl⟩;obtain ⟨B0,B1,w0,hw0,hB0,hB1,AB0,AB1,FR,FR0,HB0,hZB0,l01,hZB1⟩:=en2 w 140 140 (zM V_cz) (zM V_cz);rw [qbO] at hw0;go_enter Tryz.func170,Tryz.ntmps170
 go_wp2
 rw [←hw0,←hB1,←hB0];clear hw0 hB0 hB1;replace Aba:=hid (Aba.out.below (by have:=FR.out.below;rwa [HB0.out] at this));replace Abb:=hid (Abb.out.below (by have:=FR.out.below;rwa [HB0.out] at this));rw [←HB0.out] at lba lbb;go_loopg [7,9] 32 (fun g bw iv wr=>∃ (i P c:Nat),i≤32∧32 - i≤g∧c≤1∧P<BB^i∧P+c*BB^i=a%BB^i+b%BB^i∧bw=.int .u32 (c:Int)∧iv=.int .i64 (i:Int)∧At wr ba oa ca∧At wr bb ob cb∧At wr B0 0 cz∧At wr B1 0 (lv 32 P)∧Fr B0 w wr)
 case atStart=>exact ⟨0,0,0,by omega,by omega,by omega,BP 0,by simp [Nat.mod_one],rfl,rfl,Aba.out,Abb.out,AB0.out,by have:=AB1.out;rwa [V_cz.out] at this,FR.out⟩
 case round =>
  obtain ⟨i,P,c,hi,hg,hc,hP,he,rfl,rfl,hA,hB,hR,hO,hF⟩:=hrel;replace Aba:=hid hA;replace Abb:=hid hB;replace AB0:=hid hR;replace FR:=hid hF;obtain ⟨cp,V_cp⟩:∃ c:List Value,Hid (c=lv 32 P):=⟨_,hid rfl⟩;have AB1:=hid (show At wr B1 0 cp by rw [V_cp.out];exact hO);have HE:=hid (And.intro hP (And.intro he hc));clear hP he hA hB hR hO hF;by_cases hlt:i<32
  ·obtain ⟨x,hx⟩:∃ x,x=lim a i:=⟨_,rfl⟩;obtain ⟨y,hy⟩:∃ y,y=lim b i:=⟨_,rfl⟩;obtain ⟨d,c',hd,hc',hn⟩:=qtG (x:=x) (y:=y) (hx ▸ qaD a i) (hy ▸ qaD b i) hc;have HXY:=hid (And.intro hx (And.intro hy (And.intro hd hlt)));have HAD:=hid (fun W=>qqZ x y c d c' W (hx ▸ qaD a i) (hy ▸ qaD b i) hc hn hd);have HS:=hid (qpY HE.out.2.1 (by rw [←hx,←hy];exact hn.symm));have HPL:=hid (qgP HE.out.1 hd);have HU:=hid (qdN (d:=d) HE.out.1);have HC:=hid hc';obtain ⟨cq,V_cq⟩:∃ c:List Value,Hid (c=lv 32 (upd P i d)):=⟨_,hid rfl⟩;clear hx hy hd hc hn hc';go_upto_region 6 with fail
   refine qfO [⟨false,0,28,17,B1,0,22,26,cq,i,[.int .u32 (d:Int)],cp⟩] [(13,.int .i64 (i:Int)),(14,.pointer (some ⟨ba,oa,none⟩)),(15,.int .i64 (i:Int)),(16,.pointer (some ⟨ba,oa,none⟩)),(17,.pointer (some ⟨ba,(oa+i),none⟩)),(18,.int .u32 (x:Int)),(19,.pointer (some ⟨bb,ob,none⟩)),(20,.int .i64 (i:Int)),(21,.pointer (some ⟨bb,ob,none⟩)),(22,.pointer (some ⟨bb,(ob+i),none⟩)),(23,.int .u32 (y:Int)),(24,.int .u32 (c:Int)),(25,.tuple #[.int .u32 (d:Int),.int .u32 (c':Int)]),(12,.tuple #[.int .u32 (d:Int),.int .u32 (c':Int)]),(26,.int .u32 (d:Int)),(27,.int .u32 (c':Int)),(28,.pointer (some ⟨B1,i,none⟩)),(7,.int .u32 (c':Int))] [(7,.int .u32 (c:Int))] _ _ (by simp only [zz4,zz5,zq];rfl) (by simp only [zz4,zz5,zq];rfl) (jeX _ _ rfl (qzD)) (by kernel_rfl) (by kernel_rfl) ?_ ?_ ?_ ?_ ?_ ?_ ?_
   ·intro W' hW';have cl1:=fun p os=>qaC ((Aba.out.below hW').limbO V_ca.out HXY.out.1 hlt) p os
    have cl2:=fun p os=>qaC ((Abb.out.below hW').limbO V_cb.out HXY.out.2.1 hlt) p os
    iterate 11 (refine qfN (by kernel_rfl) ?_ ?_;(go_big_quiet_step (fail);(try simp only [zq]);exact wqn rfl))
    refine jbA (by kernel_rfl) ?_ ?_;(go_big_quiet_step (fail);(try simp only [zq]);exact wqn rfl);refine qfN (by kernel_rfl) ?_ ?_;(go_big_quiet_step ((go_at_call 169;exact qaG (HAD.out _)));(try simp only [zq]);exact wqn rfl);iterate 4 (refine qfN (by kernel_rfl) ?_ ?_;(go_big_quiet_step (fail);(try simp only [zq]);exact wqn rfl))
    refine qgB (by rfl) ?_;refine qfN (by kernel_rfl) ?_ ?_;(go_big_quiet_step (fail);(try simp only [zq]);exact wqn rfl);exact qcF
   ·intro W' hK';iterate 11 (first|(refine qfN (by kernel_rfl) ?_ ?_;(go_big_quiet_step (fail);(try simp only [zq]);exact wqn rfl))|(refine qgB (by kernel_rfl) ?_))
    first|(refine jbA (by kernel_rfl) ?_ ?_;(go_big_quiet_step (fail);(try simp only [zq]);exact wqn rfl))|(refine qgB (by kernel_rfl) ?_)
    refine qgB (by kernel_rfl) ?_;iterate 4 (first|(refine qfN (by kernel_rfl) ?_ ?_;(go_big_quiet_step (fail);(try simp only [zq]);exact wqn rfl))|(refine qgB (by kernel_rfl) ?_))
    refine qgB (by kernel_rfl) ?_
    first|(refine qfN (by kernel_rfl) ?_ ?_;(go_big_quiet_step (fail);(try simp only [zq]);exact wqn rfl))|(refine qgB (by kernel_rfl) ?_)
    exact qcF
   ·exact fP1 (bnc)
   ·exact fP1 (fun _=>⟨AB1.out.lt,rfl,At.roomC AB1.out ((qdP V_cp.out V_cq.out hlt HXY.out.2.2.1))⟩)
   ·exact uno
   ·exact fP1 (qeK rfl rfl Tryz.infoU rfl (by rw [V_cp.out,qlL];omega) (qdP V_cp.out V_cq.out hlt HXY.out.2.2.1))
   intro β wx1 E;replace FR:=ffh FR E (by show B0≤B1;omega);replace AB0:=afh AB0 E (by show B1≠B0;omega);replace AB1:=hid (show At wx1 B1 0 cq from E.atOld mms rfl AB1.out.lt);replace Aba:=afh Aba E (by show B1≠ba;omega);replace Abb:=afh Abb E (by show B1≠bb;omega);simp only [nP,zr,zq];clear E;go_wp2
   go_roundg (gk - 1)
   case measure=>omega
   case rel=>exact ⟨i+1,P+d*BB^i,c',by omega,by omega,HC.out,HPL.out,HS.out,rfl,by go_num,Aba.out,Abb.out,AB0.out,by have:=AB1.out;rwa [V_cq.out,HU.out] at this,FR.out⟩
  ·have hi32:i=32:=by omega
   subst hi32
   have hPv:P=v∧c=c2:=by
    obtain ⟨h1,h2,h3,h4⟩:=HV.out;have h5:=HE.out.2.1;rw [Nat.mod_eq_of_lt h1,Nat.mod_eq_of_lt h2,h4] at h5;exact qoP h3 HE.out.1 hc h5
   obtain ⟨hPv,hcc⟩:=hPv;have hcb:((c:Int)==0)=decide (c2=0):=by rw [hcc,Bool.eq_iff_iff];simp only [beq_iff_eq,decide_eq_true_eq];omega
   have HCV:=hid (show cp=cv by rw [V_cp.out,V_cv.out,hPv]);clear hPv hcc;go_upto_region 8 with fail
   refine wF [⟨false,0,4,3,B0,0,140,30,cp,0,cp,[]⟩] [(30,.agg cp.toArray),(31,.int .u32 (c:Int)),(32,.bool (decide (c2=0))),(5,.bool (decide (c2=0)))] (by simp only [zr,zq];rfl) (by kernel_rfl) ?_ ?_ (fP1 bnC) ?_ uno ?_ ?_
   ·intro W' hW';refine ldG (abl AB1 hW') V_cp rfl<|fo2 ?_ ?_<|fxs rfl<|fxo ?_<|fxn;all_goals (go_big_quiet_step (fail);exact wqn rfl)
   ·intro W' hK';have rd0:=akh AB1 hK' (by show B0≠B1;omega);refine ldG rd0 V_cp rfl<|fxi ?_<|fxi ?_<|fxs (by kernel_rfl)<|fxi ?_<|fxn;all_goals (first|(refine .inr ?_;go_big_quiet_step (fail);exact wqn rfl)|exact .inl (by kernel_rfl))
   ·exact fP1 (fun _=>⟨AB0.out.lt,rfl,At.room AB0.out (qG V_cz.out) (qG V_cp.out)⟩)
   ·exact fP1 (sG V_cp (fun _=>rfl) rfl)
   intro β wx1 E;replace FR:=ffh FR E (by show B0≤B0;omega);replace AB0:=hid (show At wx1 B0 0 cp from E.atOld mms rfl AB0.out.lt);replace AB1:=afh AB1 E (by show B0≠B1;omega);replace Aba:=afh Aba E (by show B0≠ba;omega);replace Abb:=afh Abb E (by show B0≠bb;omega);simp only [nP,zr,zq];clear E;rw [HCV.out] at AB0;go_wp2_with fail
   have hld:=AB0.out.read (P:=Tryz.prog) Tryz.underlying140 rfl (qG V_cv.out);refine bodyPost_ret (v:=.tuple #[.agg cv.toArray,.bool (decide (c2=0))]) (by simp [results,Tryz.results170,asAddr,hld]) rfl ?_;exact ⟨rfl,fend HB0 FR⟩
theorem qkJ {ca cb cv:List Value} {a b v ba oa bb ob:Nat} {c2:Nat} (w:World) (h1:At w ba oa ca) (h2:At w bb ob cb) (hca:ca=lv 32 a) (hcb:cb=lv 32 b) (hcv:cv=lv 32 v) (ha:a<BB^32) (hb:b<BB^32) (hv:v<BB^32) (hd:v+b=a+c2*BB^32) :
  Calls Tryz.prog 171 #[.pointer (some ⟨ba,oa,none⟩),.pointer (some ⟨bb,ob,none⟩)] w fun e w'=>e=.returned (.agg cv.toArray)∧Below w.heap.size w w':=by
 have V_ca:=hid hca;have V_cb:=hid hcb;have V_cv:=hid hcv;have HV:=hid (And.intro ha (And.intro hb (And.intro hv hd)));have Aba:=hid h1;have Abb:=hid h2;have lba:=h1.lt;have lbb:=h2.lt;clear hca hcb hcv ha hb hv hd h1 h2;obtain ⟨cz,V_cz⟩:∃ c:List Value,Hid (c=lv 32 0):=⟨_,hid rfl⟩;obtain ⟨B0,B1,w0,hw0,hB0,hB1,AB0,AB1,FR,FR0,HB0,hZB0,l01,hZB1⟩:=en2 w 140 140 (zM V_cz) (zM V_cz);rw [qbO] at hw0;go_enter Tryz.func171,Tryz.ntmps171
 go_wp2
 rw [←hw0,←hB1,←hB0];clear hw0 hB0 hB1;replace Aba:=hid (Aba.out.below (by have:=FR.out.below;rwa [HB0.out] at this));replace Abb:=hid (Abb.out.below (by have:=FR.out.below;rwa [HB0.out] at this));rw [←HB0.out] at lba lbb;go_loopg [6,8] 32 (fun g bw iv wr=>∃ (i P c:Nat),i≤32∧32 - i≤g∧c≤1∧P<BB^i∧P+b%BB^i=a%BB^i+c*BB^i∧bw=.int .u32 (c:Int)∧iv=.int .i64 (i:Int)∧At wr ba oa ca∧At wr bb ob cb∧At wr B0 0 cz∧At wr B1 0 (lv 32 P)∧Fr B0 w wr)
 case atStart=>exact ⟨0,0,0,by omega,by omega,by omega,BP 0,by simp [Nat.mod_one],rfl,rfl,Aba.out,Abb.out,AB0.out,by have:=AB1.out;rwa [V_cz.out] at this,FR.out⟩
 case round =>
  obtain ⟨i,P,c,hi,hg,hc,hP,he,rfl,rfl,hA,hB,hR,hO,hF⟩:=hrel;replace Aba:=hid hA;replace Abb:=hid hB;replace AB0:=hid hR;replace FR:=hid hF;obtain ⟨cp,V_cp⟩:∃ c:List Value,Hid (c=lv 32 P):=⟨_,hid rfl⟩;have AB1:=hid (show At wr B1 0 cp by rw [V_cp.out];exact hO);have HE:=hid (And.intro hP (And.intro he hc));clear hP he hA hB hR hO hF;by_cases hlt:i<32
  ·obtain ⟨x,hx⟩:∃ x,x=lim a i:=⟨_,rfl⟩;obtain ⟨y,hy⟩:∃ y,y=lim b i:=⟨_,rfl⟩;obtain ⟨d,c',hd,hc',hn⟩:=qkU (x:=x) (y:=y) (hx ▸ qaD a i) (hy ▸ qaD b i) hc;have HXY:=hid (And.intro hx (And.intro hy (And.intro hd hlt)));have HAD:=hid (fun W=>qjY x y c d c' W (hx ▸ qaD a i) (hy ▸ qaD b i) hc hn hd);have HS:=hid (qnW HE.out.2.1 (by rw [←hx,←hy];exact hn));have HPL:=hid (qgP HE.out.1 hd);have HU:=hid (qdN (d:=d) HE.out.1);have HC:=hid hc';obtain ⟨cq,V_cq⟩:∃ c:List Value,Hid (c=lv 32 (upd P i d)):=⟨_,hid rfl⟩;clear hx hy hd hc hn hc';go_upto_region 6 with fail
   refine qfO [⟨false,0,27,17,B1,0,22,25,cq,i,[.int .u32 (d:Int)],cp⟩] [(12,.int .i64 (i:Int)),(13,.pointer (some ⟨ba,oa,none⟩)),(14,.int .i64 (i:Int)),(15,.pointer (some ⟨ba,oa,none⟩)),(16,.pointer (some ⟨ba,(oa+i),none⟩)),(17,.int .u32 (x:Int)),(18,.pointer (some ⟨bb,ob,none⟩)),(19,.int .i64 (i:Int)),(20,.pointer (some ⟨bb,ob,none⟩)),(21,.pointer (some ⟨bb,(ob+i),none⟩)),(22,.int .u32 (y:Int)),(23,.int .u32 (c:Int)),(24,.tuple #[.int .u32 (d:Int),.int .u32 (c':Int)]),(11,.tuple #[.int .u32 (d:Int),.int .u32 (c':Int)]),(25,.int .u32 (d:Int)),(26,.int .u32 (c':Int)),(27,.pointer (some ⟨B1,i,none⟩)),(6,.int .u32 (c':Int))] [(6,.int .u32 (c:Int))] _ _ (by simp only [zz4,zz5,zq];rfl) (by simp only [zz4,zz5,zq];rfl) (jeX _ _ rfl (qzD)) (by kernel_rfl) (by kernel_rfl) ?_ ?_ ?_ ?_ ?_ ?_ ?_
   ·intro W' hW';have cl1:=fun p os=>qaC ((Aba.out.below hW').limbO V_ca.out HXY.out.1 hlt) p os
    have cl2:=fun p os=>qaC ((Abb.out.below hW').limbO V_cb.out HXY.out.2.1 hlt) p os
    iterate 11 (refine qfN (by kernel_rfl) ?_ ?_;(go_big_quiet_step (fail);(try simp only [zq]);exact wqn rfl))
    refine jbA (by kernel_rfl) ?_ ?_;(go_big_quiet_step (fail);(try simp only [zq]);exact wqn rfl);refine qfN (by kernel_rfl) ?_ ?_;(go_big_quiet_step ((go_at_call 168;exact qaG (HAD.out _)));(try simp only [zq]);exact wqn rfl);iterate 4 (refine qfN (by kernel_rfl) ?_ ?_;(go_big_quiet_step (fail);(try simp only [zq]);exact wqn rfl))
    refine qgB (by rfl) ?_;refine qfN (by kernel_rfl) ?_ ?_;(go_big_quiet_step (fail);(try simp only [zq]);exact wqn rfl);exact qcF
   ·intro W' hK';iterate 11 (first|(refine qfN (by kernel_rfl) ?_ ?_;(go_big_quiet_step (fail);(try simp only [zq]);exact wqn rfl))|(refine qgB (by kernel_rfl) ?_))
    first|(refine jbA (by kernel_rfl) ?_ ?_;(go_big_quiet_step (fail);(try simp only [zq]);exact wqn rfl))|(refine qgB (by kernel_rfl) ?_)
    refine qgB (by kernel_rfl) ?_;iterate 4 (first|(refine qfN (by kernel_rfl) ?_ ?_;(go_big_quiet_step (fail);(try simp only [zq]);exact wqn rfl))|(refine qgB (by kernel_rfl) ?_))
    refine qgB (by kernel_rfl) ?_
    first|(refine qfN (by kernel_rfl) ?_ ?_;(go_big_quiet_step (fail);(try simp only [zq]);exact wqn rfl))|(refine qgB (by kernel_rfl) ?_)
    exact qcF
   ·exact fP1 (bnc)
   ·exact fP1 (fun _=>⟨AB1.out.lt,rfl,At.roomC AB1.out ((qdP V_cp.out V_cq.out hlt HXY.out.2.2.1))⟩)
   ·exact uno
   ·exact fP1 (qeK rfl rfl Tryz.infoU rfl (by rw [V_cp.out,qlL];omega) (qdP V_cp.out V_cq.out hlt HXY.out.2.2.1))
   intro β wx1 E;replace FR:=ffh FR E (by show B0≤B1;omega);replace AB0:=afh AB0 E (by show B1≠B0;omega);replace AB1:=hid (show At wx1 B1 0 cq from E.atOld mms rfl AB1.out.lt);replace Aba:=afh Aba E (by show B1≠ba;omega);replace Abb:=afh Abb E (by show B1≠bb;omega);simp only [nP,zr,zq];clear E;go_wp2
   go_roundg (gk - 1)
   case measure=>omega
   case rel=>exact ⟨i+1,P+d*BB^i,c',by omega,by omega,HC.out,HPL.out,HS.out,rfl,by go_num,Aba.out,Abb.out,AB0.out,by have:=AB1.out;rwa [V_cq.out,HU.out] at this,FR.out⟩
  ·have hi32:i=32:=by omega
   subst hi32
   have hPv:P=v:=by
    obtain ⟨h1,h2,h3,h4⟩:=HV.out;have h5:=HE.out.2.1;rw [Nat.mod_eq_of_lt h1,Nat.mod_eq_of_lt h2] at h5;exact qqR h1 h2 h3 HE.out.1 hc h5 h4
   have HCV:=hid (show cp=cv by rw [V_cp.out,V_cv.out,hPv]);clear hPv;go_upto_region 8 with fail
   refine wF [⟨false,0,4,1,B0,0,140,29,cp,0,cp,[]⟩] [(29,.agg cp.toArray)] (by simp only [zr,zq];rfl) (by kernel_rfl) ?_ ?_ (fP1 bnC) ?_ uno ?_ ?_
   ·intro W' hW';exact ldG (abl AB1 hW') V_cp rfl<|fxs rfl<|fxn
   ·intro W' hK';have rd0:=akh AB1 hK' (by show B0≠B1;omega);exact ldG rd0 V_cp rfl<|fxs (by kernel_rfl)<|fxn
   ·exact fP1 (fun _=>⟨AB0.out.lt,rfl,At.room AB0.out (qG V_cz.out) (qG V_cp.out)⟩)
   ·exact fP1 (sG V_cp (fun _=>rfl) rfl)
   intro β wx1 E;replace FR:=ffh FR E (by show B0≤B0;omega);replace AB0:=hid (show At wx1 B0 0 cp from E.atOld mms rfl AB0.out.lt);replace AB1:=afh AB1 E (by show B0≠B1;omega);replace Aba:=afh Aba E (by show B0≠ba;omega);replace Abb:=afh Abb E (by show B0≠bb;omega);simp only [nP,zr,zq];clear E;rw [HCV.out] at AB0;go_wp2_with fail
   have hld:=AB0.out.read (P:=Tryz.prog) Tryz.underlying140 rfl (qG V_cv.out);refine bodyPost_ret (v:=.agg cv.toArray) (by simp [results,Tryz.results171,asAddr,hld]) rfl ?_;exact ⟨rfl,fend HB0 FR⟩
set_option maxHeartbeats 4000000
theorem qsP {c:List Value} {v:Nat} (h:c=lv 32 v) (hv:v<BB^32) {z:Bool} (hz:z=decide (v=0)) (W:World) :
  Calls Tryz.prog 137 #[.agg c.toArray] W fun e w'=>e=.returned (.bool z)∧Below W.heap.size W w':=by
 subst h;exact qhP v z W hv hz
theorem qvU {c d q r:List Value} {a b:Nat} (hc:c=lv 32 a) (hd:d=lv 32 b) (hq:q=lv 32 (a / b)) (hr:r=lv 32 (a%b)) (ha:a<BB^32) (hb:b<BB^32) (h0:b≠0) (W:World) :
  Calls Tryz.prog 163 #[.agg c.toArray,.agg d.toArray] W fun e w'=>e=.returned (.tuple #[.agg q.toArray,.agg r.toArray])∧Below W.heap.size W w':=by
 subst hc hd hq hr;exact qnU a b W ha hb h0
theorem qqV {c d:List Value} {neg n:Bool} {v:Nat} (hc:c=lv 32 v) (hd:d=.bool n::lv 32 v) (hn:n=cs1 neg v) (hv:v<BB^32) (W:World) :
  Calls Tryz.prog 139 #[.bool neg,.agg c.toArray] W fun e w'=>e=.returned (.agg d.toArray)∧Below W.heap.size W w':=by
 subst hc hd hn;exact qkW neg v W hv
theorem qjL {a b n:Nat} (ha:a<n) (hb:b<n):Nat.gcd a b<n:=by
 by_cases h:a=0
 ·subst h;rw [Nat.gcd_zero_left];exact hb
 ·exact Nat.lt_of_le_of_lt (Nat.gcd_le_left b (Nat.pos_of_ne_zero h)) ha
theorem jeK (na nb:Bool) (a b:Nat) (w:World) (ha:a<BB^32) (hb:b<BB^32) :
  Calls Tryz.prog 133 #[iV na a,iV nb b] w fun e w'=>e=.returned (iV false (Nat.gcd a b))∧Below w.heap.size w w':=by
 obtain ⟨G,hG⟩:∃ G,G=Nat.gcd a b:=⟨_,rfl⟩;rw [←hG];have HGB:=hid (show G<BB^32 by rw [hG];exact qjL ha hb);obtain ⟨ca,V_ca⟩:∃ c:List Value,Hid (c=.bool na::lv 32 a):=⟨_,hid rfl⟩;obtain ⟨cb,V_cb⟩:∃ c:List Value,Hid (c=.bool nb::lv 32 b):=⟨_,hid rfl⟩;obtain ⟨cg,V_cg⟩:∃ c:List Value,Hid (c=.bool false::lv 32 G):=⟨_,hid rfl⟩;obtain ⟨cz,V_cz⟩:∃ c:List Value,Hid (c=.bool false::lv 32 0):=⟨_,hid rfl⟩;obtain ⟨ma,V_ma⟩:∃ c:List Value,Hid (c=lv 32 a):=⟨_,hid rfl⟩;obtain ⟨mb,V_mb⟩:∃ c:List Value,Hid (c=lv 32 b):=⟨_,hid rfl⟩;rw [valI V_ca.out,valI V_cb.out,valI V_cg.out];have HA:=hid (And.intro ha (And.intro hb hG));clear ha hb hG;obtain ⟨B0,hB0⟩:∃ B,B=w.heap.size:=⟨_,rfl⟩;obtain ⟨B1,hB1⟩:∃ B,B=w.heap.size+1:=⟨_,rfl⟩;obtain ⟨B2,hB2⟩:∃ B,B=w.heap.size+1+1:=⟨_,rfl⟩;obtain ⟨w0,hw0⟩:∃ w0,w0=((w.alloc (.cells ca.toArray 25)).alloc (.cells cb.toArray 25)).alloc (.cells zero33 25):=⟨_,rfl⟩;have AB0_1:=hid (show At w0 B0 1 ma by rw [hw0];exact (((At.fresh w ca _ hB0).alloc _).alloc _).mag V_ca.out V_ma.out);have AB1_1:=hid (show At w0 B1 1 mb by rw [hw0];exact ((At.fresh _ cb _ (by simp [hB1])).alloc _).mag V_cb.out V_mb.out);have AB2:=hid (show At w0 B2 0 cz by rw [hw0,V_cz.out];exact At.zero _ _ (by simp [hB2]));have FR:=hid (show Fr B0 w w0 by rw [hw0,hB0];exact (((Fr.start w).alloc _).alloc _).alloc _);have FR0:=hid FR.out.le;have l01:B0<B1:=by omega
 have l12:B1<B2:=by omega
 have hZB2:B0≤B2:=by omega
 unfold zero33 at hw0;go_enter Tryz.func133,Tryz.ntmps133
 go_upto_region 1 with fail
 rw [←hw0,←hB2,←hB1,←hB0];have HB0:=hid hB0;clear hw0 hB1 hB2 hB0;refine wT [⟨true,4,5,6,0,0,23,10,ma,0,ma,[]⟩,⟨true,5,6,7,0,0,23,12,mb,0,mb,[]⟩] [(9,.pointer (some ⟨B0,1,none⟩)),(10,.agg ma.toArray),(11,.pointer (some ⟨B1,1,none⟩)),(12,.agg mb.toArray)] (by simp only [zr,zq];rfl) (by kernel_rfl) rfl ?_ ?_ ?_ ?_
 ·intro W' hW';refine fxo ?_<|fxl (abl AB0_1 hW') (qcI V_ma.out) Tryz.underlying23 rfl rfl<|fxo ?_<|fxl (abl AB1_1 hW') (qcI V_mb.out) Tryz.underlying23 rfl rfl<|fxs rfl<|fxs rfl<|fxs rfl<|fxs rfl<|fxn;all_goals (go_big_quiet_step (fail);exact wqn rfl)
 ·exact oP _ _ (Tryz.alM (qcI V_ma.out)) (oP _ _ (Tryz.alM (qcI V_mb.out)) (oN))
 ·exact oP _ _ (stw rfl (qcI V_ma.out) (jcC V_ma.out) (fun _=>rfl)) (oP _ _ (stw rfl (qcI V_mb.out) (jcC V_mb.out) (fun _=>rfl)) (oN))
 intro β wx1 E;replace FR:=fnf FR E rfl;obtain ⟨b5,hb5,eb5⟩:=nwb E mms;have lB0_b5:B0<b5:=ltb AB0_1 eb5.1;have lB1_b5:B1<b5:=ltb AB1_1 eb5.1;have lB2_b5:B2<b5:=ltb AB2 eb5.1;have hZb5:B0≤b5:=Nat.le_trans FR0.out eb5.1;obtain ⟨b6,hb6,eb6⟩:=nwb E (List.mem_cons_of_mem _ mms);have lB0_b6:B0<b6:=ltb AB0_1 eb6.1;have lB1_b6:B1<b6:=ltb AB1_1 eb6.1;have lB2_b6:B2<b6:=ltb AB2 eb6.1;have hZb6:B0≤b6:=Nat.le_trans FR0.out eb6.1;have nb5_b6:b5≠b6:=fun e=>absurd (E.apart _ mms _ (List.mem_cons_of_mem _ mms) rfl rfl (by rw [hb5,hb6] at e;exact e)) (show ¬(4:Nat)=5 by decide)
 clear AB0_1;clear AB1_1;replace AB2:=fnh AB2 E rfl;have Ab5:=hid eb5.2;have Ab6:=hid eb6.2;simp only [nP,zr,zq];rw [←hb5];rw [←hb6];replace FR0:=hid FR.out.le;clear E eb5 hb5 eb6 hb6;clear l01;go_wp2
 go_loopg [] b (fun m wr=>∃ vm vn,At wr b5 0 (lv 32 vm)∧At wr b6 0 (lv 32 vn)∧At wr B2 0 cz∧Fr B0 w wr∧vm<BB^32∧vn<BB^32∧G=Nat.gcd vm vn∧vn≤m)
 case atStart=>exact ⟨a,b,by have:=Ab5.out;rwa [V_ma.out] at this,by have:=Ab6.out;rwa [V_mb.out] at this,AB2.out,FR.out,HA.out.1,HA.out.2.1,HA.out.2.2,Nat.le_refl _⟩
 case round =>
  obtain ⟨vm,vn,h5,h6,h2,hf,hm,hn,hg,hle⟩:=hrel;obtain ⟨cm,V_cm⟩:∃ c:List Value,Hid (c=lv 32 vm):=⟨_,hid rfl⟩;obtain ⟨cn,V_cn⟩:∃ c:List Value,Hid (c=lv 32 vn):=⟨_,hid rfl⟩;replace Ab5:=hid (show At wr b5 0 cm by rw [V_cm.out];exact h5);replace Ab6:=hid (show At wr b6 0 cn by rw [V_cn.out];exact h6);replace AB2:=hid h2;replace FR:=hid hf;replace FR0:=hid FR.out.le;have HV:=hid (And.intro hm (And.intro hn hg));clear h5 h6 h2 hf hm hn hg;by_cases h0:vn=0
  ·have HE:=hid (show cm=lv 32 G by rw [HV.out.2.2,h0,Nat.gcd_zero_right];exact V_cm.out);have HZ:=hid (qsP V_cn.out HV.out.2.1 (z:=true) (by simp [h0]));clear h0 hle;go_upto_region 2 with fail
   refine wT [] [(13,.agg cn.toArray),(14,.bool true),(15,.bool false)] (by simp only [zr,zq];rfl) (by kernel_rfl) rfl ?_ oN oN ?_
   ·intro W' hW';refine fxl (abl Ab6 hW') (qcI V_cn.out) Tryz.underlying23 rfl rfl<|fo2 ?_ ?_<|fxn;all_goals (go_big_quiet_step ((go_at_call 137;exact qaA (HZ.out _)));exact wqn rfl)
   intro β wx2 E;replace FR:=fnf FR E rfl;replace AB2:=fnh AB2 E rfl;replace Ab5:=fnh Ab5 E rfl;replace Ab6:=fnh Ab6 E rfl;simp only [nP,zr,zq];replace FR0:=hid FR.out.le;clear E;go_upto_region 5 with fail
   refine wF [⟨false,0,4,2,B2,0,25,25,cg,0,cg,[]⟩] [(24,.agg cm.toArray),(25,.agg cg.toArray)] (by simp only [zr,zq];rfl) (by kernel_rfl) ?_ ?_ (fP1 bnC) ?_ uno ?_ ?_
   ·intro W' hW';refine fxl (abl Ab5 hW') (qcI V_cm.out) Tryz.underlying23 rfl rfl<|fxo ?_<|fxs rfl<|fxn
    go_big_quiet_step ((go_at_call 139;exact qaA (qqV HE.out V_cg.out rfl HGB.out _)));exact wqn rfl
   ·intro W' hK';have rd0:=akh Ab5 hK' (by show B2≠b5;omega);exact fxl rd0 (qcI V_cm.out) Tryz.underlying23 rfl rfl<|fxs (by kernel_rfl)<|fxs (by kernel_rfl)<|fxn
   ·exact fP1 (fun _=>⟨AB2.out.lt,rfl,At.room AB2.out (qI V_cz.out) (qI V_cg.out)⟩)
   ·exact fP1 (sI V_cg (fun _=>rfl) rfl)
   intro β wx3 E;replace FR:=ffh FR E (by show B0≤B2;omega);replace AB2:=hid (show At wx3 B2 0 cg from E.atOld mms rfl AB2.out.lt);replace Ab5:=afh Ab5 E (by show B2≠b5;omega);replace Ab6:=afh Ab6 E (by show B2≠b6;omega);simp only [nP,zr,zq];replace FR0:=hid FR.out.le;clear E;go_wp2_with fail
   have hld:=AB2.out.read (P:=Tryz.prog) Tryz.underlying25 rfl (qI V_cg.out);refine bodyPost_ret (v:=.agg cg.toArray) (by simp [results,Tryz.results133,asAddr,hld]) rfl ?_;exact ⟨rfl,fend HB0 FR⟩
  ·have HZ:=hid (qsP V_cn.out HV.out.2.1 (z:=false) (by simp [h0]));have H0:=hid h0;clear h0;obtain ⟨cq,V_cq⟩:∃ c:List Value,Hid (c=lv 32 (vm / vn)):=⟨_,hid rfl⟩;obtain ⟨cr,V_cr⟩:∃ c:List Value,Hid (c=lv 32 (vm%vn)):=⟨_,hid rfl⟩;go_upto_region 2 with fail
   refine wT [] [(13,.agg cn.toArray),(14,.bool false),(15,.bool true)] (by simp only [zr,zq];rfl) (by kernel_rfl) rfl ?_ oN oN ?_
   ·intro W' hW';refine fxl (abl Ab6 hW') (qcI V_cn.out) Tryz.underlying23 rfl rfl<|fo2 ?_ ?_<|fxn;all_goals (go_big_quiet_step ((go_at_call 137;exact qaA (HZ.out _)));exact wqn rfl)
   intro β wx2 E;replace FR:=fnf FR E rfl;replace AB2:=fnh AB2 E rfl;replace Ab5:=fnh Ab5 E rfl;replace Ab6:=fnh Ab6 E rfl;simp only [nP,zr,zq];replace FR0:=hid FR.out.le;clear E;go_upto_region 3 with fail
   refine wT [⟨true,6,7,8,0,0,23,20,cq,0,cq,[]⟩,⟨true,7,8,9,0,0,23,21,cr,0,cr,[]⟩] [(17,.agg cm.toArray),(18,.agg cn.toArray),(19,.tuple #[.agg cq.toArray,.agg cr.toArray]),(16,.tuple #[.agg cq.toArray,.agg cr.toArray]),(20,.agg cq.toArray),(21,.agg cr.toArray)] (by simp only [zr,zq];rfl) (by kernel_rfl) rfl ?_ ?_ ?_ ?_
   ·intro W' hW';refine fxl (abl Ab5 hW') (qcI V_cm.out) Tryz.underlying23 rfl rfl<|fxl (abl Ab6 hW') (qcI V_cn.out) Tryz.underlying23 rfl rfl<|fo4 ?_ ?_ ?_ ?_<|fxs rfl<|fxs rfl<|fxs rfl<|fxs rfl<|fxn;all_goals (go_big_quiet_step ((go_at_call 163;exact qaA (qvU V_cm.out V_cn.out V_cq.out V_cr.out HV.out.1 HV.out.2.1 H0.out _)));exact wqn rfl)
   ·exact oP _ _ (Tryz.alM (qcI V_cq.out)) (oP _ _ (Tryz.alM (qcI V_cr.out)) (oN))
   ·exact oP _ _ (stw rfl (qcI V_cq.out) (jcC V_cq.out) (fun _=>rfl)) (oP _ _ (stw rfl (qcI V_cr.out) (jcC V_cr.out) (fun _=>rfl)) (oN))
   intro β wx3 E;replace FR:=fnf FR E rfl;obtain ⟨b7,hb7,eb7⟩:=nwb E mms;have lB2_b7:B2<b7:=ltb AB2 eb7.1;have lb5_b7:b5<b7:=ltb Ab5 eb7.1;have lb6_b7:b6<b7:=ltb Ab6 eb7.1;have hZb7:B0≤b7:=Nat.le_trans FR0.out eb7.1;obtain ⟨b8,hb8,eb8⟩:=nwb E (List.mem_cons_of_mem _ mms);have lB2_b8:B2<b8:=ltb AB2 eb8.1;have lb5_b8:b5<b8:=ltb Ab5 eb8.1;have lb6_b8:b6<b8:=ltb Ab6 eb8.1;have hZb8:B0≤b8:=Nat.le_trans FR0.out eb8.1;have nb7_b8:b7≠b8:=fun e=>absurd (E.apart _ mms _ (List.mem_cons_of_mem _ mms) rfl rfl (by rw [hb7,hb8] at e;exact e)) (show ¬(6:Nat)=7 by decide)
   replace AB2:=fnh AB2 E rfl;replace Ab5:=fnh Ab5 E rfl;replace Ab6:=fnh Ab6 E rfl;have Ab7:=hid eb7.2;have Ab8:=hid eb8.2;simp only [nP,zr,zq];rw [←hb7];rw [←hb8];replace FR0:=hid FR.out.le;clear E eb7 hb7 eb8 hb8;go_upto_region 4 with fail
   refine wF [⟨false,0,5,2,b5,0,23,22,cn,0,cn,[]⟩,⟨false,0,6,3,b6,0,23,23,cr,0,cr,[]⟩] [(22,.agg cn.toArray),(23,.agg cr.toArray)] (by simp only [zr,zq];rfl) (by kernel_rfl) ?_ ?_ (oP _ _ bnC (fP1 bnC)) ?_ ?_ ?_ ?_
   ·intro W' hW';exact fxl (abl Ab6 hW') (qcI V_cn.out) Tryz.underlying23 rfl rfl<|fxl (abl Ab8 hW') (qcI V_cr.out) Tryz.underlying23 rfl rfl<|fxs rfl<|fxs rfl<|fxn
   ·intro W' hK';have rd1:=At.keep hK' Ab8.out (oP _ _ (fun _=>(by show b5≠b8;omega)) (oP _ _ (fun _=>(by show b6≠b8;omega)) (oN)));exact fxs (by kernel_rfl)<|fxl rd1 (qcI V_cr.out) Tryz.underlying23 rfl rfl<|fxs (by kernel_rfl)<|fxs (by kernel_rfl)<|fxn
   ·exact oP _ _ (fun _=>⟨Ab5.out.lt,rfl,At.room Ab5.out (qcI V_cm.out) (qcI V_cn.out)⟩) (oP _ _ (fun _=>⟨Ab6.out.lt,rfl,At.room Ab6.out (qcI V_cn.out) (qcI V_cr.out)⟩) (oN))
   ·intro q hq r hr hqn hrn e;simp only [List.mem_cons,List.not_mem_nil,or_false] at hq hr;rcases hq with rfl|rfl<;>rcases hr with rfl|rfl<;>first|rfl|(exact Bool.noConfusion hqn)|(exact Bool.noConfusion hrn)|(exfalso;simp only at e;omega)
   ·exact oP _ _ (stw rfl (qcI V_cn.out) (jcC V_cn.out) (fun _=>rfl)) (oP _ _ (stw rfl (qcI V_cr.out) (jcC V_cr.out) (fun _=>rfl)) (oN))
   intro β wx4 E;replace FR:=hid (FR.out.flow E (oP _ _ (fun _=>(by show B0≤b5;omega)) (oP _ _ (fun _=>(by show B0≤b6;omega)) (oN))));replace AB2:=hid (At.flow E AB2.out (oP _ _ (fun _=>(by show b5≠B2;omega)) (oP _ _ (fun _=>(by show b6≠B2;omega)) (oN))));replace Ab5:=hid (show At wx4 b5 0 cn from E.atOld mms rfl Ab5.out.lt);replace Ab6:=hid (show At wx4 b6 0 cr from E.atOld (List.mem_cons_of_mem _ mms) rfl Ab6.out.lt);replace Ab7:=hid (At.flow E Ab7.out (oP _ _ (fun _=>(by show b5≠b7;omega)) (oP _ _ (fun _=>(by show b6≠b7;omega)) (oN))));replace Ab8:=hid (At.flow E Ab8.out (oP _ _ (fun _=>(by show b5≠b8;omega)) (oP _ _ (fun _=>(by show b6≠b8;omega)) (oN))));simp only [nP,zr,zq];replace FR0:=hid FR.out.le;clear E;go_wp2_with fail
   go_roundg (gk - 1)
   case measure=>have:=H0.out;omega
   case rel =>
    have hlt:vm%vn<vn:=Nat.mod_lt _ (Nat.pos_of_ne_zero H0.out);exact ⟨vn,vm%vn,by have:=Ab5.out;rwa [V_cn.out] at this,by have:=Ab6.out;rwa [V_cr.out] at this,AB2.out,FR.out,HV.out.2.1,Nat.lt_trans hlt HV.out.2.1,by rw [HV.out.2.2,Nat.gcd_comm,Nat.gcd_rec vn vm,Nat.gcd_comm],by omega⟩
end Go.Proofs.YtemoddmadfoaiaaGreat
namespace Go.Proofs.YtemoddmadfoaiaaGreat
open Go.RowKit
section
variable {P:Program} {ops:Array Oper} {pl:List Pl} {fin ini:Act} {W:World} {β:Nat→Nat} {seen:Array Bool} {a:Act} {w:World}
end
def GY (P:Program) (fin:Act) (o:Oper) (W:World) (D:Value→World→Prop):Prop:=match (execOp fin.eval o).run P W with
 | .ok (.value v) w''=>D v w''
 | .ok (.enter f args) w''=>w''=W∧Calls P f args W (fun e w3=>∃ v,e=.returned v∧D v w3)
 | _=>False
theorem GY.value {P:Program} {fin:Act} {o:Oper} {W w':World} {D:Value→World→Prop} {v:Value} (h:(execOp fin.eval o).run P W=.ok (.value v) w') (hD:D v w'):GY P fin o W D:=by
 unfold GY;rw [h];exact hD
theorem GY.call {P:Program} {fin:Act} {o:Oper} {W:World} {D:Value→World→Prop} {f:FuncId} {args:Array Value} (h:(execOp fin.eval o).run P W=.ok (.enter f args) W) (hD:Calls P f args W (fun e w3=>∃ v,e=.returned v∧D v w3)):GY P fin o W D:=by
 unfold GY;rw [h];exact ⟨rfl,hD⟩
section
variable {P:Program} {ops:Array Oper} {pl:List Pl} {L:List Tmp} {fin ini:Act} {W:World} {β:Nat→Nat} {seen:Array Bool} {a:Act} {w:World}
section
variable {G:List Nat} {R:Nat→Value→World→Prop} {ft:Nat→Value→Nat→Prop} {F:(Nat→Value)→Act}
end
end
section
variable {P:Program} {l:List Oper} {n:Nat}
section
variable {ops:Array Oper} {fin:Act} {G:List Nat} {Rw:Nat→Prop}
end
end
end Go.Proofs.YtemoddmadfoaiaaGreat
