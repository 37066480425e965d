import Derived.Test.YtemoddmadfoaiaaGreatEvF
import Derived.Laws.AppendOwnNone
import Derived.Deep.CutRange
set_option linter.unusedVariables false
set_option linter.unusedSimpArgs false
set_option maxRecDepth 100000
namespace Go.Proofs.YtemoddmadfoaiaaGreat
open Go.RowKit Big Reg Al Ga Dl
theorem qiG {P:Program} {ops:Array Oper} {o:Oper} {a:Act} {w:World} {K:Act→World→Prop} {Q:Exit→Act→World→Prop} {E:Prop} (hgd:o.guard=none) (s x:Operand) (t:TypeId)
  (ho:o.op=.call { callee:=.builtin .append,args:=#[s,x],argTypes:=#[t,t] })
  (base:Nat) (e:TypeId) (i:TypeInfo) (size:Nat) (ht:P.underlying t=some (.slice e)) (hi:P.info? e=some i)
  (v:Value) (n:Nat) (xs:List Value) (hs:a.eval s=v) (hown:w.ownsRow base e size v n xs) (hx:a.eval x=.slice none 0 0)
  (h:K (a.put o.dst v) w):if Region.wanted o (yielded ops a.tmps)=true then Oper.wp P o a w K Q else E:=by
 rw [if_pos (by simp [Region.wanted,hgd])];have hrun:=run_append_owned_none (P:=P) (w:=w) base t o.type e i size ht hi v n xs hown;unfold Oper.wp;simp [execOp,ho,resolve,invoke,builtin,hs,hx,hrun,Result.andThen];exact h
theorem qmB {W:World} {ad:Addr} {A:Option Addr} {n c:Nat} (h:W.cell? ad=some (.slice A n c)):(loadVar 38 ad).run Tryz.prog W=.ok (.slice A n c) W:=by
 simp [loadVar,h,go_sem]
theorem At.setsO {b o:Nat} {cs:List Value}:∀ (ds:List Value) (k:Nat) (w:World),At w b o cs→(k+ds.length≤o∨o+cs.length≤k)→At (w.setCells b k ds) b o cs
 | [],k,w,h,_=>h
 | d::ds,k,w,h,hk=>by
  rw [List.length_cons] at hk;exact At.setsO ds (k+1) (w.setCell ⟨b,k,none⟩ d) (h.setO (by omega)) (by omega)
theorem At.setsS {w:World} {b o:Nat} {cs ds:List Value} (h:At w b o cs) (hl:ds.length=cs.length):At (w.setCells b o ds) b o ds:=by
 have hr:=World.rangeAt_setCells_same w b o ds (by rw [hl];exact h.there);refine ⟨hr,fun j hj=>⟨?_,by rw [qcV];exact (h.there j (by omega)).2⟩,by rw [qaU];exact h.lt⟩;rw [hr j _ (List.getElem?_eq_getElem hj)];rfl
def ntX (x:Nt) (v:Value):List Value:=ntC x.key x.nom x.hol x.kind x.units x.money v
def NtsAt (w:World) (b:Nat) (N:List Nt):Prop:=∀ k x,N[k]?=some x→∃ v,At w b (k*7) (ntX x v)∧Own w (b+1) v x.lots
theorem NtsAt.grown {w w':World} {b:Nat} {N:List Nt} {r:Nat} (h:NtsAt w b N) (hg:w.grownBy w' (some r)) (hr:r<b):NtsAt w' b N:=by
 intro k x hx;obtain ⟨v,h1,h2⟩:=h k x hx;exact ⟨v,h1.gro hg (by omega),World.ownsRow.kept h2 hg (.inr fun e=>by have:=(h2.lt r e).1;omega)⟩
theorem NtsAt.below {w w':World} {b:Nat} {N:List Nt} (h:NtsAt w b N) (hb:Below w.heap.size w w'):NtsAt w' b N:=by
 intro k x hx;obtain ⟨v,h1,h2⟩:=h k x hx;exact ⟨v,h1.below hb,h2.below hb⟩
theorem qwP (x:Nt) (v:Value):(ntX x v).length=7:=rfl
theorem NtsAt.put {w:World} {b k:Nat} {N:List Nt} {x:Nt} {v:Value} (h:NtsAt w b N) (hk:k<N.length) (hv:Own w (b+1) v x.lots):NtsAt (w.setCells b (k*7) (ntX x v)) b (N.set k x):=by
 have hg:w.grownBy (w.setCells b (k*7) (ntX x v)) (some b):=by
  have h2:=qaC (B:=b) (b:=b) (Nat.le_refl _) (ntX x v) (k*7) w (Below.refl _ _);exact ⟨h2.os,h2.tape,h2.output,h2.size,fun q hq hr=>qcC q b (fun e=>hr (by rw [e])) (ntX x v) (k*7) w⟩
 have ho:∀ {u:Value} {l:List Lot},Own w (b+1) u l→Own (w.setCells b (k*7) (ntX x v)) (b+1) u l:=fun hu=>World.ownsRow.kept hu hg (.inr fun e=>by have:=(hu.lt b e).1;omega)
 intro j y hy;by_cases e:j=k
 ·subst e;rw [List.getElem?_set_self hk] at hy;injection hy with hy
  subst hy;obtain ⟨v0,h1,_⟩:=h j _ (List.getElem?_eq_getElem hk);exact ⟨v,h1.setsS rfl,ho hv⟩
 ·rw [List.getElem?_set_ne (fun e2=>e e2.symm)] at hy;obtain ⟨v0,h1,h2⟩:=h j y hy;exact ⟨v0,h1.setsO _ _ _ (by simp only [qwP];omega),ho h2⟩
theorem jbW (L:List Value) (n j:Nat) (hj:j<n*L.length):(List.replicate n L).flatten[j]?=L[j%L.length]?:=by
 induction n generalizing j with
 | zero=>omega
 | succ n ih =>
  rw [List.replicate_succ,List.flatten_cons];by_cases h:j<L.length
  ·rw [List.getElem?_append_left h,Nat.mod_eq_of_lt h]
  ·rw [List.getElem?_append_right (by omega),ih _ (by rw [Nat.add_mul] at hj;omega)];congr 1
   exact (Nat.mod_eq_sub_mod (by omega)).symm
theorem jbA (n:Nat):madeCells zeroNt.toArray (n*7)=(List.replicate n zeroNt).flatten.toArray:=by
 apply Array.ext
 ·rw [size_madeCells,List.size_toArray,List.length_flatten];simp [zeroNt,ntC]
 ·intro i h1 h2;rw [size_madeCells] at h1;have h3:=jbW zeroNt n i (by simpa [zeroNt,ntC] using h1);have h4:i%7<7:=Nat.mod_lt _ (by omega);have h5:zeroNt.length=7:=rfl;rw [h5] at h3
  have h6:(List.replicate n zeroNt).flatten.toArray[i]=zeroNt[i%7]'(by rw [h5];exact h4):=by
   rw [List.getElem?_eq_getElem (show i%7<zeroNt.length by rw [h5];exact h4)] at h3
   have:=(List.getElem?_eq_some_iff.1 h3).2
   simpa using this
  rw [h6];simp only [madeCells,Array.getElem_map,Array.getElem_range,List.size_toArray,h5];rw [getElem!_pos _ _ (by rw [List.size_toArray,h5];exact h4)];rfl
theorem jaX {w:World} {b n:Nat} (h:At w b 0 (List.replicate n zeroNt).flatten):NtsAt w b (List.replicate n zeroN):=by
 intro k x hx;have hk:k<n:=by simpa using (List.getElem?_eq_some_iff.1 hx).1
 obtain rfl:x=zeroN:=by
  rw [List.getElem?_replicate,if_pos hk] at hx;injection hx with hx
  exact hx.symm
 refine ⟨.slice none 0 0,?_,Own.nil _ _⟩
 have e:(List.replicate n zeroNt).flatten=(List.replicate k zeroNt).flatten++(zeroNt++(List.replicate (n - k - 1) zeroNt).flatten):=by
  rw [show n=k+(1+(n - k - 1)) by omega,←List.replicate_append_replicate,List.flatten_append,←List.replicate_append_replicate,List.flatten_append];simp
 rw [e] at h;exact At.sub h (by simp [List.length_flatten,zeroNt,ntC])
theorem qeT {P:Program} {ops:Array Oper} {rest:List Oper} {o1 o2:Oper} {a:Act} {w:World} {Q:Exit→Act→World→Prop} {t:TypeId} {z:Array Value} (hL:LaysAs P t z) (hg1:o1.guard=none) (hg2:o2.guard=none) (ho1:o1.op=.alloc t) {x y:Operand} (ho2:o2.op=.store t x y) {cs:List Value}
  (hx:(a.put o1.dst (.pointer (some ⟨w.heap.size,0,none⟩))).eval x=.pointer (some ⟨w.heap.size,0,none⟩)) (hy:(a.put o1.dst (.pointer (some ⟨w.heap.size,0,none⟩))).eval y=.agg cs.toArray) (hz:cs.length=z.size) (hs:(P.info? t).map (·.size)=some cs.length) (h1:cs.toArray.all (·.oneCell')=true)
  (h:∀ w',Below w.heap.size w w'→At w' w.heap.size 0 cs→wpList P ops Q rest ((a.put o1.dst (.pointer (some ⟨w.heap.size,0,none⟩))).put o2.dst undef) w'):wpList P ops Q (o1::o2::rest) a w:=by
 refine wpList_plain hg1 fun K hK=>?_
 have hrun:=hL o1 ho1 a w;unfold Oper.wp;rw [hrun];refine hK _ _ ?_;have hA:At (w.alloc (.cells z t)) w.heap.size 0 z.toList:=by have:=At.fresh w z.toList t rfl;simpa using this
 have hth:(w.alloc (.cells z t)).there w.heap.size 0 cs.length:=fun j hj=>hA.there j (by simp;omega)
 refine wpList_store_mid hg2 _ _ _ ho2 w.heap.size 0 cs.toArray hx hy (by simpa using hth) (by simpa using hs) h1 ?_;refine h _ ?_ ?_
 ·exact qaC (Nat.le_refl _) _ _ _ ((Below.refl _ _).alloc (Nat.le_refl _) _)
 ·exact ⟨World.rangeAt_setCells_same _ _ _ _ hth,World.there_setCells hth _ _ _,by rw [qaU];simp⟩
theorem Tryz.callR (xs:Array Value) (W:World):(callFunc 56 xs).run Tryz.prog W=.ok (.enter 56 xs) W:=by kernel_rfl
theorem Tryz.callS (xs:Array Value) (W:World):(callFunc 57 xs).run Tryz.prog W=.ok (.enter 57 xs) W:=by kernel_rfl
theorem qhW {P:Program} {ops:Array Oper} {rest:List Oper} {o:Oper} {a:Act} {w:World} {Q:Exit→Act→World→Prop} (hg:o.guard=none) {y:Operand} {os:Array Operand} {tys:Array TypeId} (ho:o.op=.call { callee:=.value y,args:=os,argTypes:=tys }) {F:FuncId} {bd args:Array Value} (hy:a.eval y=.func (.func F) bd #[]) (ha:bd++os.map a.eval=args) (hF:∀ (xs:Array Value) (W:World),(callFunc F xs).run P W=.ok (.enter F xs) W)
  {D:Value→World→Prop} (hD:Calls P F args w (fun e w3=>∃ v,e=.returned v∧D v w3)) (h:∀ v w',D v w'→wpList P ops Q rest (a.put o.dst v) w'):wpList P ops Q (o::rest) a w:=by
 refine wpList_plain hg fun K hK=>?_
 refine GY.wp (GY.callOf (f:=F) (args:=args) ?_ hD) (fun v w' hd=>hK _ _ (h v w' hd));subst ha;simp [execOp,ho,resolve,invoke,hy,Result.andThen,Deferred.ofValue,hF]
structure DSt (w:World) (g bn bp br:Nat) (cof cbd cps crz:List Value) (z ser:Int) (wr:World) (v:Value) (l:List Lot) (N:List Nt):Prop where
 cnt:Cnt wr g v cof cbd z ser
 own:Own wr w.heap.size v l
 ng:v.ownBlock≠some g
 nn:v.ownBlock≠some bn
 nr:v.ownBlock≠some br
 brl:br<wr.heap.size
 nts:NtsAt wr bn N
 res:At wr br 0 crz
 pas:At wr bp 0 cps
 bel:Below w.heap.size w wr
 bnl:bn<wr.heap.size
structure DLy (w:World) (g bn bp br:Nat):Prop where
 wr:w.heap.size≤br
 rg:br<g
 gn:g<bn
 np:bn<bp
section
variable {w wr w2:World} {g bn bp br:Nat} {cof cbd cps crz:List Value} {z ser:Int} {v v':Value} {l l':List Lot} {N:List Nt}
theorem DSt.up (h:DSt w g bn bp br cof cbd cps crz z ser wr v l N) (hb:Below wr.heap.size wr w2):DSt w g bn bp br cof cbd cps crz z ser w2 v l N :=
 ⟨h.cnt.below hb,h.own.below hb,h.ng,h.nn,h.nr,Nat.lt_of_lt_of_le h.brl hb.size,h.nts.below hb,h.res.below hb,h.pas.below hb,h.bel.trans (hb.mono h.bel.size),Nat.lt_of_lt_of_le h.bnl hb.size⟩
theorem DSt.exe (hL:DLy w g bn bp br) (h:DSt w g bn bp br cof cbd cps crz z ser wr v l N) (hg:wr.grownBy w2 (some g)) (hc:Cnt w2 g v' cof cbd z ser) (ho:Own w2 wr.heap.size v' l'∨v'=v∧l'=l):DSt w g bn bp br cof cbd cps crz z ser w2 v' l' N:=by
 have h1:=hL.wr;have h2:=hL.rg;have h3:=hL.gn;have h4:=hL.np;have h5:=h.bnl;have h6:=h.brl;refine ⟨hc,?_,?_,?_,?_,Nat.lt_of_lt_of_le h.brl hg.size,h.nts.grown hg h3,h.res.gro hg (by omega),h.pas.gro hg (by omega),h.bel.grown hg h.bel.size (by intro r hr;injection hr with hr;omega),Nat.lt_of_lt_of_le h5 hg.size⟩
 ·rcases ho with ho|⟨rfl,rfl⟩
  ·exact ho.base h.bel.size
  ·exact World.ownsRow.kept h.own hg (.inr h.ng)
 ·rcases ho with ho|⟨rfl,rfl⟩
  ·exact fun e=>by have:=(ho.lt _ e).1;omega
  ·exact h.ng
 ·rcases ho with ho|⟨rfl,rfl⟩
  ·exact fun e=>by have:=(ho.lt _ e).1;omega
  ·exact h.nn
 ·rcases ho with ho|⟨rfl,rfl⟩
  ·exact fun e=>by have:=(ho.lt _ e).1;omega
  ·exact h.nr
theorem DSt.put (hL:DLy w g bn bp br) (h:DSt w g bn bp br cof cbd cps crz z ser wr v l N) {k:Nat} {x:Nt} {vl:Value} (hk:k<N.length) (hv:Own wr (bn+1) vl x.lots):DSt w g bn bp br cof cbd cps crz z ser (wr.setCells bn (k*7) (ntX x vl)) v l (N.set k x):=by
 have h1:=hL.wr;have h2:=hL.rg;have h3:=hL.gn;have h4:=hL.np
 have hg:wr.grownBy (wr.setCells bn (k*7) (ntX x vl)) (some bn):=by
  have h2:=qaC (B:=bn) (b:=bn) (Nat.le_refl _) (ntX x vl) (k*7) wr (Below.refl _ _);exact ⟨h2.os,h2.tape,h2.output,h2.size,fun q hq hr=>qcC q bn (fun e=>hr (by rw [e])) (ntX x vl) (k*7) wr⟩
 exact ⟨h.cnt.grown hg (by omega),World.ownsRow.kept h.own hg (.inr h.nn),h.ng,h.nn,h.nr,Nat.lt_of_lt_of_le h.brl hg.size,h.nts.put hk hv,h.res.gro hg (by omega),h.pas.gro hg (by omega),h.bel.grown hg h.bel.size (by intro r hr;injection hr with hr;omega),Nat.lt_of_lt_of_le h.bnl hg.size⟩
end
theorem qzU {w wr:World} {A:Option Addr} {n cap:Nat} {ts:List Tk} (h:TksAt w (.slice A n cap) ts) (hb:Below w.heap.size w wr) {k:Nat} {x:Tk} (hx:ts[k]?=some x):∃ g off,A=some ⟨g,off,none⟩∧∀ j u,x.cells[j]?=some u→wr.cell? ⟨g,off+k*13+j,none⟩=some u:=by
 have hk:=(List.getElem?_eq_some_iff.1 hx).1;obtain ⟨g,off,cap',e,hc⟩:=qrB h (by omega);injection e with e1 e2 e3
 exact ⟨g,off,e1,fun j u hu=>qcU (hc k x hx j u hu) hb⟩
namespace Dl
theorem qqI {sel:Od→Bool} {f:List Lot→Od→Except Int (List Lot × Nt)} {ts:List Tk} {k:Nat} {t:Tk} {l:List Lot} {N:List Nt} (ht:ts[k]?=some t) :
  passP sel f (ts.drop k) k l N=if sel t.o=true then match f l t.o with|.error e=>.error e|.ok (l',x)=>passP sel f (ts.drop (k+1)) (k+1) l' (N.set k x) else passP sel f (ts.drop (k+1)) (k+1) l N:=by
 rw [qqO ht,passP];rfl
end Dl
end Go.Proofs.YtemoddmadfoaiaaGreat
set_option maxHeartbeats 16000000
namespace Go.Proofs.YtemoddmadfoaiaaGreat
open Go.RowKit Big Reg Al Ga Dl
open Lib (hid)
def DealP (r:Except Int (List Lot × List Nt)) (w:World) (e:Ending) (w':World):Prop:=Below w.heap.size w w'∧match r with
 | .error c=>e=.returned (.tuple #[.agg #[.slice none 0 0],.slice none 0 0,.int .i64 c])
 | .ok (l',N)=>∃ v' bn,e=.returned (.tuple #[.agg #[v'],.slice (some ⟨bn,0,none⟩) N.length N.length,.int .i64 0])∧Own w' w.heap.size v' l'∧NtsAt w' bn N∧w.heap.size≤bn∧bn<w'.heap.size
def cntC (v:Value) (cof cbd:List Value) (z ser:Int):List Value:=v::(cof++(cbd++[.int .i64 z,.int .i64 ser]))
theorem Tryz.infoNt7:(Tryz.prog.info? 66).map (fun i=>(i.zero,i.size,i.bytes))=some (some (.agg #[.string ⟨#[]⟩,.string ⟨#[]⟩,.string ⟨#[]⟩,.int .i64 0,.int .i64 0,.int .i64 0,.slice none 0 0]),7,96):=by kernel_rfl
theorem Tryz.layPs:LaysAs Tryz.prog 98 #[.bool false,.nilFunc]:=by intro o ho b w;unfold execOp;simp only [ho];rfl
theorem Tryz.layNt:LaysAs Tryz.prog 66 zeroNt.toArray:=by intro o ho b w;unfold execOp;simp only [ho];rfl
theorem jgY {c:Prop} [Decidable c] {A E:Prop} (hc:c) (h:if c then A else E):A:=by rwa [if_pos hc] at h
theorem qpK {w w':World} (h:w.drew.grownBy w' (Value.ownBlock (.slice none 0 0))):Below w.heap.size w w':=⟨h.os,h.tape,h.output,h.size,fun k hk=>h.block k hk (by simp [Value.ownBlock])⟩
theorem jgI {P:Program} {op:Oper} {a:Act} {w:World} {K:Act→World→Prop} {Q:Exit→Act→World→Prop} {t:TypeId} {x:Operand} {cs:Array Value} (ho:op.op=.box t x) (hx:a.eval x=.agg cs) (h:K (a.put op.dst (.pointer (some ⟨w.heap.size,0,none⟩))) (w.alloc (.cells cs t))):op.wp P a w K Q:=by
 unfold Oper.wp execOp;simp only [ho,hx];exact h
theorem jcP {A:Option Addr} {n c:Nat}:Tryz.prog.built 40 [(0,.slice A n c)]=some #[.slice A n c]:=by kernel_rfl
theorem qzC {A:Option Addr} {n c:Nat} {cof cbd:List Value} {n1 m1 n2 m2:Bool} {p1 q1 p2 q2:Nat} {z ser:Int} (h1:cof=rat n1 p1 m1 q1) (h2:cbd=rat n2 p2 m2 q2) :
  Tryz.prog.built 96 [(0,.agg #[.slice A n c]),(1,.agg cof.toArray),(2,.agg cbd.toArray),(3,.int .i64 z),(4,.int .i64 ser)]=some (cntC (.slice A n c) cof cbd z ser).toArray:=by
 subst h1 h2;unfold cntC rat;kernel_rfl
theorem jfY {W:World} {g:Nat} {v:Value} {cof cbd:List Value} {z ser:Int} (l1:cof.length=66) (l2:cbd.length=66) (h:At W g 0 (cntC v cof cbd z ser)):Cnt W g v cof cbd z ser :=
 ⟨At.sub (xs:=[]) (ys:=[v]) h rfl,At.sub (xs:=[v]) (ys:=cof) h rfl,At.sub (xs:=v::cof) (ys:=cbd) (zs:=[.int .i64 z,.int .i64 ser]) (by unfold cntC at h;simpa using h) (by simp [l1]),At.sub (xs:=v::(cof++cbd)) (ys:=[.int .i64 z]) (zs:=[.int .i64 ser]) (by unfold cntC at h;simpa using h) (by simp [l1,l2]),
  At.sub (xs:=v::(cof++(cbd++[.int .i64 z]))) (ys:=[.int .i64 ser]) (zs:=[]) (by unfold cntC at h;simpa using h) (by simp [l1,l2])⟩
theorem qjR {cof cbd:List Value} {A:Option Addr} {cap pl:Nat} {vt:Value} {z ser:Int} {l:List Lot} {ts:List Tk} {offer bid:Qn} (hof:cof=ratZ offer.1 offer.2) (hbd:cbd=ratZ bid.1 bid.2) (hpo:Pc offer) (hpb:Pc bid) (hz:z=(pl:Int)) (h6:pl≤6) (hs0:0≤ser) (hs1:ser≤73048) (hC:checkB l=true) (hT:okT ts=true)
  (hnil:A=none→cap=0) (w:World) (hl:LotsAt w (.slice A l.length cap) l) (ht:TksAt w vt ts) :
  Calls Tryz.prog 19 #[.agg #[.slice A l.length cap],vt,.agg cof.toArray,.agg cbd.toArray,.int .i64 z,.int .i64 ser] w (DealP (dealL l ts offer bid pl ser) w):=by
 obtain ⟨nS,hnS⟩:=nqx (l.length);rw [←hnS] at hl ⊢;obtain ⟨AT,capT,hvt⟩:=Rd.form ht;obtain ⟨n,hn⟩:=nqx (ts.length);rw [←hn] at hvt;subst hvt;have hn64:n≤64:=by unfold okT at hT;simp only [Bool.and_eq_true,decide_eq_true_eq] at hT;omega
 obtain ⟨RES,hRES⟩:=nqx (dealL l ts offer bid pl ser);have HREM:=hid (show remO offer bid pl ser ts 0 l (List.replicate n zeroN)=RES by rw [hRES,hn];rfl);rw [←hRES];have V_cof:=hid (show cof=rat (decide (offer.1<0)) offer.1.natAbs false offer.2 from hof);have V_cbd:=hid (show cbd=rat (decide (bid.1<0)) bid.1.natAbs false bid.2 from hbd);obtain ⟨crg,V_crg⟩:=nvx ([.slice A nS cap]);obtain ⟨crz,V_crz⟩:=nvx ([.slice none 0 0]);rw [show (Value.agg #[.slice A nS cap])=.agg crg.toArray by rw [V_crg.out]]
 have HCK:=hid (fun W (h:Below w.heap.size w W)=>show CB 54 #[.agg crg.toArray] (.int .i64 0) W by
  rw [V_crg.out]
  have:=qjS (.slice A nS cap) l W (hl.below h)
  unfold OutE at this;rw [hC] at this;exact this)
 have HDC:=hid (fun W (h:Below w.heap.size w W)=>show CB 55 #[.slice AT n capT] (.int .i64 0) W by
  have:=qtX _ ts W (ht.below h)
  unfold OutE at this;rw [hT] at this;exact this)
 have HP1:=hid (fun W=>(qmI hpo) ▸ qjD (cr:=cof) V_cof.out (qaT hpo.vq.num) (qaT hpo.vq.den) W);have HP2:=hid (fun W=>(qmI hpb) ▸ qjD (cr:=cbd) V_cbd.out (qaT hpb.vq.num) (qaT hpb.vq.den) W);have z1:¬z<0:=by omega
 have z2:¬6<z:=by omega
 have s1:¬ser<0:=by omega
 have s2:¬73048<ser:=by omega
 have HOKD:=hid (fun (k:Nat) (x:Tk) (hx:ts[k]?=some x)=>show OkD x.o∧(x.o.kind=1∨x.o.kind=2∨x.o.kind=3∨x.o.kind=4∨x.o.kind=5) from by
  have h2:okTAt ts k=true:=by
   unfold okT at hT;simp only [Bool.and_eq_true] at hT;exact List.all_eq_true.1 hT.2 k (List.mem_range.2 (List.getElem?_eq_some_iff.1 hx).1)
  simp only [okTAt,hx,Bool.and_eq_true,Bool.not_eq_true'] at h2;have h3:=h2.1.1;unfold okA at h3;rw [if_neg (by rw [h2.1.2];decide)] at h3;have h4:=jdH h3;have h5:=h4.ask.knd;exact ⟨h4,by omega⟩)
 have HRED:=hid (fun (g:Nat) (A:Option Addr) (cap:Nat) (l:List Lot) (o:Od) (ho:OkD o) (hk:subs o=false) (hc:checkB l=true) W hcn hll=>qvR (crg:=[]) (cod:=o.cells) (co:=cof) (cb:=cbd) (A:=A) (cap:=cap) (pl:=pl) (g:=g) (z:=z) (ser:=ser) (o:=o) (l:=l) (bid:=bid) rfl hbd hpb hz h6 ho.ask hk ho.acc hc W hcn hll);have HSUB:=hid (fun (g:Nat) (A:Option Addr) (cap:Nat) (l:List Lot) (o:Od) (ho:OkD o) (hk:subs o=true) (hc:checkB l=true) W hcn hll=>qnV (cod:=o.cells) (co:=cof) (cb:=cbd) (A:=A) (cap:=cap) (pl:=pl) (g:=g) (z:=z) (ser:=ser) (o:=o) (l:=l) (offer:=offer) rfl hof hpo hz h6 ho.ask ho.unt hk ho.acc hc hs0 hs1 W hcn hll)
 have HKEEP:=hid (fun (i:Nat) (l l':List Lot) (o:Od) (x:Nt) (ho:OkD o) (hk:selB i o=true) (hc:checkB l=true) (h:exeO offer bid pl ser i l o=.ok (l',x))=>show checkB l'=true by
  unfold exeO at h;unfold selB at hk;by_cases h0:i=0
  ·rw [if_pos h0] at h;exact qrI hpb h6 ho hc h
  ·rw [if_neg h0] at h hk;exact qrE hpo h6 ho hk hs0 hs1 hc h)
 have HC0:=hid hC;have HL0:=hid hl;have HT0:=hid ht;have HNS:=hid hnS;have HNT:=hid hn;have HNIL:=hid hnil;have HL66:=hid (show cof.length=66∧cbd.length=66 from ⟨by rw [V_cof.out,qbE],by rw [V_cbd.out,qbE]⟩);clear hnS hn hRES hof hbd hpo hpb hz h6 hs0 hs1 hC hT hnil hl ht;obtain ⟨B0,hB0⟩:=nqx (w.heap.size);obtain ⟨B1,hB1⟩:=nqx (w.heap.size+1);obtain ⟨B2,hB2⟩:=nqx (w.heap.size+1+1);obtain ⟨B3,hB3⟩:=nqx (w.heap.size+1+1+1);obtain ⟨w0,hw0⟩:∃ w0,w0=((((w.alloc (.cells crg.toArray 40)).alloc (.cells cof.toArray 27)).alloc (.cells cbd.toArray 27)).alloc (.cells #[.slice none 0 0] 40)):=⟨_,rfl⟩;have AB0:=hid (show At w0 B0 0 crg by rw [hw0];exact ((((show At (w.alloc (.cells crg.toArray 40)) B0 0 crg from At.fresh _ crg _ (by simp [hB0])).alloc _).alloc _).alloc _));have AB1:=hid (show At w0 B1 0 cof by rw [hw0];exact (((show At ((w.alloc (.cells crg.toArray 40)).alloc (.cells cof.toArray 27)) B1 0 cof from At.fresh _ cof _ (by simp [hB1])).alloc _).alloc _));have AB2:=hid (show At w0 B2 0 cbd by rw [hw0];exact ((show At (((w.alloc (.cells crg.toArray 40)).alloc (.cells cof.toArray 27)).alloc (.cells cbd.toArray 27)) B2 0 cbd from At.fresh _ cbd _ (by simp [hB2])).alloc _));have AB3:=hid (show At w0 B3 0 crz by rw [hw0];exact (show At ((((w.alloc (.cells crg.toArray 40)).alloc (.cells cof.toArray 27)).alloc (.cells cbd.toArray 27)).alloc (.cells #[.slice none 0 0] 40)) B3 0 crz from (by rw [V_crz.out];exact At.fresh _ [.slice none 0 0] _ (by simp [hB3]))));have FR:=hid (show Fr B0 w w0 by rw [hw0,hB0];exact ((((Fr.start w).alloc _).alloc _).alloc _).alloc _);have FR0:=hid FR.out.le;have l01:B0<B1:=by omega
 have hZB1:B0≤B1:=by omega
 have l12:B1<B2:=by omega
 have hZB2:B0≤B2:=by omega
 have l23:B2<B3:=by omega
 have hZB3:B0≤B3:=by omega
 have hZB0:B0≤B0:=Nat.le_refl _;have HB0:=hid hB0;go_enter Tryz.func19,Tryz.ntmps19
 go_upto_region 1 with fail
 rw [←hw0,←hB3,←hB2,←hB1,←hB0];clear hw0 hB0 hB1 hB2 hB3;refine wE [(25,aT crg),(26,iT 0),(15,iT 0)] (by simp only [zu];rfl) (by kernel_rfl) ?_ ?_
 ·intro W' hW';have hWW:∀ p:GB,Below w.heap.size w (gw W' p.d p.os):=fun p=>(show Below w.heap.size w W' from (by have:=FR.out.below;rw [HB0.out] at this;exact this.trans (hW'.mono (by have:=FR.out.le;have:=HB0.out;omega)))).trans ((qbG W' p.d p.os).mono (by have h1:=FR.out.le;have h2:=HB0.out;have h3:=hW'.size;omega))
  refine fxl (abl AB0 hW') (qiY V_crg.out) Tryz.underlying40 rfl rfl<|fo2 ?_ ?_<|fxn;all_goals (go_big_quiet_step (exact qaA (HCK.out _ (hWW ⟨_,_⟩)));exact wqn rfl)
 intro β wx1 E;replace FR:=fnf FR E rfl;replace AB0:=fnh AB0 E rfl;replace AB1:=fnh AB1 E rfl;replace AB2:=fnh AB2 E rfl;replace AB3:=fnh AB3 E rfl;simp only [nP,zu];replace FR0:=hid FR.out.le;go_upto_region 4 with fail
 refine wE [(31,.slice AT n capT),(32,iT 0),(16,iT 0)] (by simp only [zu];rfl) (by kernel_rfl) ?_ ?_
 ·intro W' hW';have hWW:∀ p:GB,Below w.heap.size w (gw W' p.d p.os):=fun p=>(show Below w.heap.size w W' from (by have:=FR.out.below;rw [HB0.out] at this;exact this.trans (hW'.mono (by have:=FR.out.le;have:=HB0.out;omega)))).trans ((qbG W' p.d p.os).mono (by have h1:=FR.out.le;have h2:=HB0.out;have h3:=hW'.size;omega))
  refine fo3 ?_ ?_ ?_<|fxn;all_goals (go_big_quiet_step (exact qaA (HDC.out _ (hWW ⟨_,_⟩)));exact wqn rfl)
 intro β wx2 E;replace FR:=fnf FR E rfl;replace AB0:=fnh AB0 E rfl;replace AB1:=fnh AB1 E rfl;replace AB2:=fnh AB2 E rfl;replace AB3:=fnh AB3 E rfl;simp only [nP,zu];replace FR0:=hid FR.out.le;go_upto_region 7 with fail
 refine wE [(38,aT cof),(39,bT),(40,bF),(41,bF),(42,aT cbd),(43,bT),(44,bF),(45,bF),(37,bF)] (by simp only [zu];rfl) (by kernel_rfl) ?_ ?_
 ·intro W' hW';refine lhR AB1 hW' V_cof rfl<|fo3 ?_ ?_ ?_<|lhR AB2 hW' V_cbd rfl<|fxo (by go_big_quiet_step (exact qaA (HP2.out _));exact wqn rfl)<|fo3 ?_ ?_ ?_<|fxn;all_goals (go_big_quiet_step (exact qaA (HP1.out _));exact wqn rfl)
 intro β wx3 E;replace FR:=fnf FR E rfl;replace AB0:=fnh AB0 E rfl;replace AB1:=fnh AB1 E rfl;replace AB2:=fnh AB2 E rfl;replace AB3:=fnh AB3 E rfl;simp only [nP,zu];replace FR0:=hid FR.out.le;go_upto_region 13 with fail
 have HBW:=hid (show Below w.heap.size w wx3 by have:=FR.out.below;rwa [HB0.out] at this);have HLX:=hid (HL0.out.below HBW.out)
 refine qjX [(0,63,.pointer (some ⟨B0,0,none⟩)),(1,64,.slice A nS cap),(4,67,.agg cof.toArray),(5,68,.agg cbd.toArray),(6,69,.int .i64 z),(7,70,.int .i64 ser)] (fun v=>[(3,66,.agg #[v]),(8,71,.agg (cntC v cof cbd z ser).toArray)]) (fun v u=>[(10,17,u)]) 2 9 [3,8] [10] 65 72 (fun W=>Below wx3.heap.size wx3 W)
  (fun v W=>Below wx3.heap.size wx3 W∧Own W wx3.heap.size v l) (fun v u W=>∃ g,u=.pointer (some ⟨g,0,none⟩)∧Cnt W g v cof cbd z ser∧Own W wx3.heap.size v l∧Below wx3.heap.size wx3 W∧wx3.heap.size≤g∧v.ownBlock≠some g) _ _ (by kernel_rfl) (by kernel_rfl) (by rfl) (by rfl) (by rfl) (by rfl) (by rfl) (by rfl) (fun _=>rfl) (fun _ _=>rfl)
  (by intro v;simp only [putsA,List.foldl_cons,List.foldl_nil,zq];rfl) (by intro v u;simp only [putsA,List.foldl_cons,List.foldl_nil,zq];rfl) (qcB (Below.refl _ _)) ?_ ?_ ?_ ?_ ?_ ?_
 ·have c0:=fun W (h:Below wx3.heap.size wx3 W)=>qmB (((AB0.out.below h).one (k:=0) (v:=.slice A nS cap) (by rw [V_crg.out];rfl) rfl).1)
  have r1:=fun W (h:Below wx3.heap.size wx3 W)=>(AB1.out.below h).read (P:=Tryz.prog) Tryz.underlying27 rfl (qR V_cof.out)
  have r2:=fun W (h:Below wx3.heap.size wx3 W)=>(AB2.out.below h).read (P:=Tryz.prog) Tryz.underlying27 rfl (qR V_cbd.out)
  refine ⟨⟨_,rfl,rfl,.inl ⟨by rfl,fun _ _=>by rfl⟩⟩,?_⟩;simp only [zq];refine ⟨⟨_,rfl,rfl,.inl ⟨by rfl,fun W hW=>qaF rfl rfl (c0 W hW)⟩⟩,?_⟩;simp only [zq];refine ⟨⟨_,rfl,rfl,.inl ⟨by rfl,fun W hW=>qaF rfl rfl (r1 W hW)⟩⟩,?_⟩;simp only [zq];refine ⟨⟨_,rfl,rfl,.inl ⟨by rfl,fun W hW=>qaF rfl rfl (r2 W hW)⟩⟩,?_⟩;simp only [zq];refine ⟨⟨_,rfl,rfl,.inl ⟨by rfl,fun _ _=>by rfl⟩⟩,?_⟩;simp only [zq];refine ⟨⟨_,rfl,rfl,.inl ⟨by rfl,fun _ _=>by rfl⟩⟩,?_⟩;simp only [zq];exact trivial
 ·intro K hK;simp only [putsA,List.foldl_cons,List.foldl_nil,zq] at hK ⊢;obtain ⟨i0,hi,hz0,hz1,hz2⟩:=info_parts Tryz.info56;have hd:=qcB (Below.refl wx3.heap.size wx3);by_cases hA:A=none
  ·subst hA;have hc:=HNIL.out rfl
   have hl0:nS=0:=by
    obtain ⟨_,_,A',cap',hv,h3⟩:=HLX.out;rw [←HNS.out] at hv h3;injection hv with e1 e2 e3
    by_cases h:nS=0
    ·exact h
    ·obtain ⟨g,off,e,_⟩:=h3 (by omega);rw [←e1] at e;cases e
   subst hl0 hc;have hl1:l=[]:=List.eq_nil_of_length_eq_zero HNS.out.symm;refine jgY (E:=True) (by rfl) (qiG (P:=Tryz.prog) (ops:=#[]) rfl _ _ 38 rfl 0 56 i0 4 Tryz.underlying38 hi (.slice none 0 0) 0 [] rfl (World.ownsRow_nil _ _ _ _) rfl (hK _ _ hd ⟨hd,by rw [hl1];exact Own.nil _ _⟩))
  ·obtain ⟨ad,rfl⟩:∃ ad,A=some ad:=by cases A with|none=>exact absurd rfl hA|some ad=>exact ⟨ad,rfl⟩
   have hnews:∀ j u,(cellsL l)[j]?=some u→wx3.drew.cell? (ad.add j)=some u:=by
    obtain ⟨_,_,A',cap',hv,h3⟩:=HLX.out;injection hv with e1 e2 e3
    intro j u hj
    have hn0:0<l.length:=by
     have:=(List.getElem?_eq_some_iff.1 hj).1
     rw [qcE] at this;omega
    obtain ⟨g,off,e,hc⟩:=h3 hn0;rw [←e1] at e;injection e with e
    subst e;have e5:(⟨g,off,none⟩:Addr).add j=⟨g,off+j,none⟩:=by simp [Addr.add]
    rw [e5];exact quB (hc j u hj)
   have hn256:nS≤256:=by rw [HNS.out];exact (qaS HC0.out).1
   refine jgY (E:=True) (by rfl) (qiX (P:=Tryz.prog) (ops:=#[]) rfl _ _ 38 rfl wx3.heap.size 56 i0 _ 4 48 Tryz.underlying38 hi hz0 hz1 hz2 rfl (by decide) (.slice none 0 0) 0 [] rfl (World.ownsRow_nil _ _ _ _) ad nS cap (cellsL l) rfl (by rw [qcE,HNS.out]) hnews (qdQ l) (by unfold maxLen;omega) (by omega) (Nat.le_refl _)
    (fun v' w' ho hg _=>hK v' w' (qpK hg) ⟨qpK hg,by
     rw [List.nil_append,Nat.zero_add] at ho;unfold Own;rw [←HNS.out];exact ho⟩))
 ·rintro v w1 ⟨hb1,ho1⟩;obtain ⟨A1,c1,rfl⟩:=Rd.form ho1.lots;simp only [putsA,List.foldl_cons,List.foldl_nil,zq];have hbc:=qzC (A:=A1) (n:=l.length) (c:=c1) (z:=z) (ser:=ser) V_cof.out V_cbd.out;refine ⟨⟨_,rfl,rfl,.inl ⟨by rfl,fun W _=>qdH rfl rfl jcP⟩⟩,?_⟩;simp only [zq];refine ⟨⟨_,rfl,rfl,.inl ⟨by rfl,fun W _=>qdH rfl rfl hbc⟩⟩,?_⟩;simp only [zq];exact trivial
 ·rintro v w1 K hS ⟨hb1,ho1⟩ hK;have hb2:=qaX w1 (.cells (cntC v cof cbd z ser).toArray 96);have hs1:=hb1.size;refine jgI rfl rfl (hK _ _ (hb1.trans (hb2.mono hs1)) ⟨w1.heap.size,rfl,jfY HL66.out.1 HL66.out.2 (At.fresh w1 _ _ rfl),ho1.below hb2,hb1.trans (hb2.mono hs1),hs1,fun e=>by have:=(ho1.lt _ e).2;omega⟩)
 ·rintro v u w2 _;refine ⟨⟨_,rfl,rfl,.inl ⟨by rfl,fun _ _=>by rfl⟩⟩,?_⟩;simp only [zq];exact trivial
 rintro v u w4 ⟨g,rfl,hcn,hown,hb4,hg4,hne⟩;replace HBW:=hid (HBW.out.trans (hb4.mono HBW.out.size));have HA3:=hid (AB3.out.below hb4);have HCN:=hid hcn;have HOW:=hid (hown.base (show w.heap.size≤wx3.heap.size by have h1:=FR.out.le;have h2:=HB0.out;omega));have HNE:=hid hne;have HNR:=hid (show v.ownBlock≠some B3 from fun e=>by have h1:=(hown.lt _ e).1;have h2:=AB3.out.lt;omega);have hB3g:B3<g:=by have:=AB3.out.lt;omega
 have hwB3:w.heap.size≤B3:=by have:=HB0.out;omega
 have HGL:=hid hcn.reg.lt;clear hcn hown hb4 hg4 hne AB0 AB1 AB2 AB3 FR FR0 HLX;obtain ⟨i0,hi,hz0,hz1,hz2⟩:=info_parts Tryz.infoNt7
 have hmk:∀ W:World,(Instr.makeSlice 45 (.int .i64 (n:Int)) (.int .i64 (n:Int))).run Tryz.prog W=.ok (.slice (some ⟨W.heap.size,0,none⟩) n n) (W.alloc (.cells (List.replicate n zeroNt).flatten.toArray 66)):=by
  intro W;have h:=run_make (P:=Tryz.prog) W 45 66 i0 _ Tryz.underlying45 hi hz0 .i64 .i64 (n:Int) (n:Int) (by omega) (Int.le_refl _) (by rw [hz2];omega) (by omega);rw [hz1,Int.toNat_natCast] at h;rw [h,←jbA n];rfl
 clear hi hz0 hz1 hz2;go_upto_region 15 with fail
 obtain ⟨bn,hbn⟩:=nqx (w4.heap.size);obtain ⟨w5,hw5⟩:=nqx (w4.alloc (.cells (List.replicate n zeroNt).flatten.toArray 66));rw [←hbn,←hw5];have hb5:Below w4.heap.size w4 w5:=by rw [hw5];exact qaX _ _
 have HN5:=hid (show NtsAt w5 bn (List.replicate n zeroN) from jaX (by rw [hw5,hbn];exact At.fresh _ _ _ rfl));replace HA3:=hid (HA3.out.below hb5);replace HCN:=hid (HCN.out.below hb5);replace HBW:=hid (HBW.out.trans (hb5.mono HBW.out.size));have HNN:=hid (show v.ownBlock≠some bn from fun e=>by have:=(HOW.out.lt _ e).2;omega);replace HOW:=hid (HOW.out.below hb5);have hgbn:g<bn:=by have:=HGL.out;omega
 have hbn5:w5.heap.size=bn+1:=by rw [hw5,hbn];simp
 have HS5:=hid hbn5;clear hbn hw5 hb5 hmk hbn5;obtain ⟨cps,V_cps⟩:=nvx ([.bool false,.func (.func 56) #[.pointer (some ⟨g,0,none⟩)] #[],.bool true,.func (.func 57) #[.pointer (some ⟨g,0,none⟩)] #[]]);have HBR:=hid (show ([[.bool false,.func (.func 56) #[.pointer (some ⟨g,0,none⟩)] #[]],[.bool true,.func (.func 57) #[.pointer (some ⟨g,0,none⟩)] #[]]]:List (List Value)).flatten=cps by rw [V_cps.out];rfl)
 go_upto_block 1 with (refine qiF rfl (len:=2) (s:=2) [[.bool false,.func (.func 56) #[.pointer (some ⟨g,0,none⟩)] #[]],[.bool true,.func (.func 57) #[.pointer (some ⟨g,0,none⟩)] #[]]] rfl (by simp [Act.eval]) rfl (by decide) (by decide) (by intro c hc;simp at hc;rcases hc with rfl|rfl<;>rfl) (by decide) Tryz.underlying99 (by kernel_rfl) (by kernel_rfl) ?_)
 obtain ⟨bp,hbp⟩:=nqx (w5.heap.size);obtain ⟨w6,hw6⟩:=nqx (w5.alloc (.cells #[.bool false,.func (.func 56) #[.pointer (some ⟨g,0,none⟩)] #[],.bool true,.func (.func 57) #[.pointer (some ⟨g,0,none⟩)] #[]] 98));rw [←hbp,←hw6];have hb6:Below w5.heap.size w5 w6:=by rw [hw6];exact qaX _ _
 have HST0:=hid (show DSt w g bn bp B3 cof cbd cps crz z ser w6 v l (List.replicate n zeroN) from
  ⟨HCN.out.below hb6,HOW.out.below hb6,HNE.out,HNN.out,HNR.out,(HA3.out.below hb6).lt,HN5.out.below hb6,HA3.out.below hb6,by rw [hw6,V_cps.out];exact At.fresh _ [.bool false,.func (.func 56) #[.pointer (some ⟨g,0,none⟩)] #[],.bool true,.func (.func 57) #[.pointer (some ⟨g,0,none⟩)] #[]] _ hbp,HBW.out.trans (hb6.mono HBW.out.size),by have:=HS5.out;have:=hb6.size;omega⟩)
 have HLY:=hid (show DLy w g bn bp B3 from ⟨hwB3,hB3g,hgbn,by rw [hbp,HS5.out];omega⟩);have HZC:=hid V_crz.out;clear hbp hw6 hb6 HCN HOW HNE HNN HN5 HA3 HBW HS5 HGL HBR hB3g hwB3 hgbn;go_wp2_with fail
 go_loopg [84] 2 (fun m iv wr=>∃ (i:Nat) (lk:List Lot) (Nk:List Nt) (vk:Value),iv=.int .i64 i∧i≤2∧2≤m+i∧remO offer bid pl ser ts i lk Nk=RES∧checkB lk=true∧Nk.length=n∧DSt w g bn bp B3 cof cbd cps crz z ser wr vk lk Nk)
 case atStart=>exact ⟨0,l,_,v,rfl,by omega,by omega,HREM.out,HC0.out,by simp,HST0.out⟩
 case round =>
  obtain ⟨i,lk,Nk,vk,rfl,hi2,hmm,hrem,hck,hnk,hst⟩:=hrel;have HR:=hid hrem;have HCK2:=hid hck;have HNK:=hid hnk;have HST:=hid hst;clear hrem hck hnk hst;by_cases hlt:i<2
  ·obtain ⟨inB,F,hfn,hq0,hq1,hsel,hexe⟩:∃ (inB:Bool) (F:FuncId),(∀ (xs:Array Value) (W:World),(callFunc F xs).run Tryz.prog W=.ok (.enter F xs) W)∧wr.cell? ⟨bp,i*2,none⟩=some (.bool inB)∧wr.cell? ⟨bp,i*2+1,none⟩=some (.func (.func F) #[.pointer (some ⟨g,0,none⟩)] #[])∧(∀ o:Od,selB i o=!((decide (o.kind=1) || decide (o.kind=2)) != inB)) ∧
     (∀ (A:Option Addr) (cap:Nat) (lk:List Lot) (o:Od),OkD o→selB i o=true→checkB lk=true→∀ W,Cnt W g (.slice A lk.length cap) cof cbd z ser→LotsAt W (.slice A lk.length cap) lk→Calls Tryz.prog F #[.pointer (some ⟨g,0,none⟩),.agg o.cells.toArray] W (ExeP g (.slice A lk.length cap) lk cof cbd z ser (exeO offer bid pl ser i lk o) W)):=by
    have hp:=HST.out.pas;rw [V_cps.out] at hp;obtain rfl|rfl:i=0∨i=1:=by omega
    ·refine ⟨false,_,Tryz.callR,(hp.one (k:=0) rfl rfl).1,(hp.one (k:=1) rfl rfl).1,fun o=>by simp [selB,subs],fun A cap lk o ho hs hc W h1 h2=>?_⟩;exact HRED.out g A cap lk o ho (by simpa [selB] using hs) hc W h1 h2
    ·refine ⟨true,_,Tryz.callS,(hp.one (k:=2) rfl rfl).1,(hp.one (k:=3) rfl rfl).1,fun o=>by simp [selB,subs],fun A cap lk o ho hs hc W h1 h2=>?_⟩;exact HSUB.out g A cap lk o ho (by simpa [selB] using hs) hc W h1 h2
   have HEXE:=hid hexe;have HFN:=hid hfn;clear hfn;have HSEL:=hid hsel;clear hexe hsel;obtain ⟨bq,hbq⟩:=nqx (wr.heap.size);go_upto_region 18 with (refine qeT Tryz.layPs rfl rfl rfl rfl (cs:=[.bool inB,.func (.func F) #[.pointer (some ⟨g,0,none⟩)] #[]]) rfl rfl rfl (by kernel_rfl) (by simp [Value.oneCell']) ?_;intro w7 hb7 hA7)
   rw [←hbq] at hA7 ⊢;have HQ:=hid hA7;clear hA7;have hgq:g<bq∧bn<bq:=by have h1:=HST.out.bnl;have h2:=HLY.out.gn;omega
   replace HST:=hid (HST.out.up hb7);obtain ⟨T,hT⟩:=nqx (passP (selB i) (exeO offer bid pl ser i) ts 0 lk Nk);have HT:=hid (show passP (selB i) (exeO offer bid pl ser i) (ts.drop 0) 0 lk Nk=T by rw [hT];rfl);have HRT:=hid (show RES=nextO offer bid pl ser ts i T by rw [←HR.out,jaO _ _ _ _ _ i hlt,←hT]);obtain ⟨G0,hG0⟩:=nqx gk;have HG0:=hid hG0;clear hbq hb7 hT hq0 hq1 hG0;go_wp2_with fail
   go_loopg [90] n (fun m iv wr2=>∃ (k:Nat) (lq:List Lot) (Nq:List Nt) (vq:Value),iv=.int .i64 k∧k≤n∧n≤m+k∧passP (selB i) (exeO offer bid pl ser i) (ts.drop k) k lq Nq=T∧checkB lq=true∧Nq.length=n∧DSt w g bn bp B3 cof cbd cps crz z ser wr2 vq lq Nq∧At wr2 bq 0 [.bool inB,.func (.func F) #[.pointer (some ⟨g,0,none⟩)] #[]])
   case atStart=>exact ⟨0,lk,Nk,vk,rfl,by omega,by omega,HT.out,HCK2.out,HNK.out,HST.out,HQ.out⟩
   case round =>
    obtain ⟨k,lq,Nq,vq,rfl,hkn,hmk2,hpas,hcq,hnq,hsq,haq⟩:=hrel;have HP:=hid hpas;have HCQ:=hid hcq;have HNQ:=hid hnq;have HSQ:=hid hsq;have HAQ:=hid haq;clear hpas hcq hnq hsq haq HST HQ HT HCK2 HNK HR;by_cases hkl:k<n
    ·obtain ⟨x,hx⟩:∃ x,ts[k]?=some x:=⟨ts[k]'(by rw [←HNT.out];exact hkl),by simp [←HNT.out,hkl]⟩;have HX:=hid hx;obtain ⟨gt,ot,hAT,hcx⟩:=qzU HT0.out HSQ.out.bel hx;subst hAT;have c0:=hcx 0 (.string x.o.key) rfl;have c1:=hcx 1 (.string x.o.nom) rfl;have c2:=hcx 2 (.string x.o.hol) rfl;have c3:=hcx 3 (.string x.o.fund) rfl;have c4:=hcx 4 (.string x.o.cls) rfl;have c5:=hcx 5 (.int .i64 x.o.kind) rfl;have c6:=hcx 6 (.int .i64 x.o.amount) rfl;have c7:=hcx 7 (.int .i64 x.o.units) rfl;have c8:=hcx 8 (.int .i64 x.o.at_) rfl;have c9:=hcx 9 (.int .i64 x.o.known) rfl;have c10:=hcx 10 (.bool x.o.void) rfl;have c11:=hcx 11 (.int .i64 x.day) rfl;have c12:=hcx 12 (.int .i64 x.first) rfl;rw [Nat.add_zero] at c0;clear hcx hx;obtain ⟨Aq,cq,rfl⟩:=Rd.form HSQ.out.own.lots;go_upto_region 21 with fail
     obtain ⟨bx,hbx⟩:=nqx (wr.heap.size);obtain ⟨w8,hw8⟩:=nqx (wr.alloc (.cells #[.string x.o.key,.string x.o.nom,.string x.o.hol,.string x.o.fund,.string x.o.cls,.int .i64 x.o.kind,.int .i64 x.o.amount,.int .i64 x.o.units,.int .i64 x.o.at_,.int .i64 x.o.known,.bool x.o.void,.int .i64 x.day,.int .i64 x.first] 60));rw [←hbx,←hw8];have hb8:Below wr.heap.size wr w8:=by rw [hw8];exact qaX _ _
     have HAX:=hid (show At w8 bx 0 [.string x.o.key,.string x.o.nom,.string x.o.hol,.string x.o.fund,.string x.o.cls,.int .i64 x.o.kind,.int .i64 x.o.amount,.int .i64 x.o.units,.int .i64 x.o.at_,.int .i64 x.o.known,.bool x.o.void,.int .i64 x.day,.int .i64 x.first] by rw [hw8];exact At.fresh _ [.string x.o.key,.string x.o.nom,.string x.o.hol,.string x.o.fund,.string x.o.cls,.int .i64 x.o.kind,.int .i64 x.o.amount,.int .i64 x.o.units,.int .i64 x.o.at_,.int .i64 x.o.known,.bool x.o.void,.int .i64 x.day,.int .i64 x.first] _ hbx);replace HSQ:=hid (HSQ.out.up hb8);replace HAQ:=hid (HAQ.out.below hb8);obtain ⟨sb,hsb⟩:∃ b,b=(decide (x.o.kind=1) || decide (x.o.kind=2)):=⟨_,rfl⟩;have HDS:=hid (hsb ▸ jcA x.o.kind);have HSB:=hid (show selB i x.o=!(sb != inB) by rw [hsb];exact HSEL.out x.o);have HKX:=hid (HOKD.out k x HX.out).1;have FR:=hid (Fr.start w8);have FR0:=hid FR.out.le;clear c0 c1 c2 c3 c4 c5 c6 c7 c8 c9 c10 c11 c12 hbx hw8 hb8 hsb;refine wE [(95,pT bx 0),(96,pT bx 5),(97,iT x.o.kind),(98,.bool sb),(99,pT bq 0),(100,.bool inB),(101,.bool (sb != inB))] (by simp only [zu];rfl) (by kernel_rfl) ?_ ?_
     ·intro W' hW';have zk:=((HAX.out.below hW').one (k:=5) (v:=.int .i64 x.o.kind) rfl rfl).1;have zi:=((HAQ.out.below hW').one (k:=0) (v:=.bool inB) rfl rfl).1;refine fo2 ?_ ?_<|fxc zk (fun W h=>by simp [loadVar,h,go_sem]) rfl<|fo2 ?_ ?_<|fxc zi (fun W h=>by simp [loadVar,h,go_sem]) rfl<|fxo ?_<|fxn;all_goals (go_big_quiet_step (exact qaA (HDS.out _));exact wqn rfl)
     intro β wx1 E;replace FR:=fnf FR E rfl;simp only [nP,zu];replace FR0:=hid FR.out.le;replace HSQ:=hid (HSQ.out.up FR.out.below);replace HAQ:=hid (HAQ.out.below FR.out.below);replace HAX:=hid (HAX.out.below FR.out.below);clear FR FR0;obtain ⟨w9,hw9⟩:=nqx wx1;rw [←hw9] at HSQ HAQ HAX ⊢;clear hw9;obtain ⟨nb,hnb⟩:∃ b,b=(sb != inB):=⟨_,rfl⟩;rw [←hnb];have HNB:=hid hnb;clear hnb;by_cases hs:selB i x.o=true
     ·obtain rfl:nb=false:=by rw [HNB.out];have:=HSB.out;rw [hs] at this;exact (show ∀ a b:Bool,true=!(a != b)→(a != b)=false by decide) _ _ this
      have HSL:=hid hs;have q1:w9.cell? ⟨bq,1,none⟩=some (.func (.func F) #[.pointer (some ⟨g,0,none⟩)] #[]):=(HAQ.out.one (k:=1) rfl rfl).1;have x0:=(HAX.out.one (k:=0) (v:=.string x.o.key) rfl rfl).1;have x1:=(HAX.out.one (k:=1) (v:=.string x.o.nom) rfl rfl).1;have x2:=(HAX.out.one (k:=2) (v:=.string x.o.hol) rfl rfl).1;have x3:=(HAX.out.one (k:=3) (v:=.string x.o.fund) rfl rfl).1;have x4:=(HAX.out.one (k:=4) (v:=.string x.o.cls) rfl rfl).1;have x5:=(HAX.out.one (k:=5) (v:=.int .i64 x.o.kind) rfl rfl).1;have x6:=(HAX.out.one (k:=6) (v:=.int .i64 x.o.amount) rfl rfl).1;have x7:=(HAX.out.one (k:=7) (v:=.int .i64 x.o.units) rfl rfl).1;have x8:=(HAX.out.one (k:=8) (v:=.int .i64 x.o.at_) rfl rfl).1;have x9:=(HAX.out.one (k:=9) (v:=.int .i64 x.o.known) rfl rfl).1;have x10:=(HAX.out.one (k:=10) (v:=.bool x.o.void) rfl rfl).1;have hexr:=HEXE.out Aq cq lq x.o HKX.out hs HCQ.out w9 HSQ.out.cnt HSQ.out.own.lots;clear hs
      cases hres:exeO offer bid pl ser i lq x.o with
      | error c =>
       rw [hres] at hexr;have HXR:=hid hexr;have hc0:(c==0)=false:=beq_eq_false_iff_ne.2 (jfQ hres)
       have HTE:=hid (show RES=.error c by
        have h1:=HP.out;rw [qqI HX.out,if_pos HSL.out,hres] at h1;rw [HRT.out,←h1];rfl)
       clear hexr hres;go_upto_region 23 with (first|(refine qhW (args:=#[.pointer (some ⟨g,0,none⟩),.agg x.o.cells.toArray]) rfl rfl rfl (by simp [Act.eval,Od.cells]) HFN.out (D:=fun v w10=>w9.grownBy w10 (some g)∧v=.tuple #[.agg zeroNt.toArray,.int .i64 c]) (HXR.out.mono ?_) ?_;(rintro e w10 ⟨hg,rfl⟩;exact ⟨_,rfl,hg,rfl⟩);rintro v w10 ⟨hg,rfl⟩;have HG10:=hid hg;clear hg)|(refine qeT Tryz.layNt rfl rfl rfl rfl (cs:=zeroNt) rfl rfl rfl (by kernel_rfl) (by simp [zeroNt,ntC,Value.oneCell']) ?_;intro w11 hb11 hA11))
       have h2:=HLY.out.wr;have h3:=HLY.out.rg;have r0:=(HSQ.out.res.gro HG10.out (by omega)).below hb11;rw [HZC.out] at r0;have r0c:=(r0.one (k:=0) rfl rfl).1;have r0f:=(r0.one (k:=0) rfl rfl).2;have HR0:=hid r0;have HBZ:=hid (show Below w.heap.size w w11 from (HSQ.out.bel.grown HG10.out HSQ.out.bel.size (by intro r hr;injection hr with hr;omega)).trans (hb11.mono (Nat.le_trans HSQ.out.bel.size HG10.out.size)));clear r0 hb11 hA11;go_wp2_with fail
       have A3:=HR0.out.set (k:=0) (v:=.slice none 0 0) (by rfl) (by decide);have hld:=A3.read (P:=Tryz.prog) Tryz.underlying40 rfl (qiY rfl);refine bodyPost_ret (v:=.tuple #[.agg #[.slice none 0 0],.slice none 0 0,.int .i64 c]) (by simp [results,Tryz.results19,asAddr,hld]) rfl ?_;rw [HTE.out];exact ⟨qbK HBZ.out _ _ h2,rfl⟩
      | ok p =>
       obtain ⟨l',x'⟩:=p;rw [hres] at hexr;have HXR:=hid hexr;have HKE:=hid (HKEEP.out i lq l' x.o x' HKX.out HSL.out HCQ.out hres)
       have HTE:=hid (show passP (selB i) (exeO offer bid pl ser i) (ts.drop (k+1)) (k+1) l' (Nq.set k x')=T by
        have h1:=HP.out;rw [qqI HX.out,if_pos HSL.out,hres] at h1;exact h1)
       clear hexr hres;go_upto_region 25 with (first|(refine qhW (args:=#[.pointer (some ⟨g,0,none⟩),.agg x.o.cells.toArray]) rfl rfl rfl (by simp [Act.eval,Od.cells]) HFN.out (D:=fun v w10=>w9.grownBy w10 (some g)∧∃ v' vl,v=.tuple #[.agg (ntX x' vl).toArray,.int .i64 0]∧Cnt w10 g v' cof cbd z ser∧(Own w10 w9.heap.size v' l'∨v'=.slice Aq lq.length cq∧l'=lq)∧Own w10 w9.heap.size vl x'.lots) (HXR.out.mono ?_) ?_;(rintro e w10 ⟨hg,v',vl,rfl,h1,h2,h3⟩;exact ⟨_,rfl,hg,v',vl,rfl,h1,h2,h3⟩);rintro v w10 ⟨hg,v',vl,rfl,hc,ho,hl2⟩;have HS10:=hid (HSQ.out.exe HLY.out hg hc ho);have HG10:=hid hg;obtain ⟨A2,c2,rfl⟩:=Rd.form hl2.lots;have HL2:=hid hl2;clear hg hc ho hl2)|(refine qeT Tryz.layNt rfl rfl rfl rfl (cs:=ntX x' (.slice A2 x'.lots.length c2)) rfl rfl rfl (qaY rfl) (qgS rfl rfl) ?_;intro w11 hb11 hA11))
       have hbnq:=HLY.out.gn;have h4:=HLY.out.np;obtain ⟨bz,hbz⟩:=nqx (w10.heap.size);rw [←hbz] at hA11 ⊢;obtain ⟨cs,hcs⟩:=nqx (ntX x' (.slice A2 x'.lots.length c2));rw [←hcs] at hA11;have HCS:=hid hcs;have HA11:=hid hA11;have HS11:=hid (HS10.out.up hb11);have HL11:=hid (show Own w11 (bn+1) (.slice A2 x'.lots.length c2) x'.lots from (HL2.out.below hb11).base (by have:=HSQ.out.bnl;omega));have HQ11:=hid ((HAQ.out.gro HG10.out (by omega)).below hb11);have hkN:k<Nq.length:=by rw [HNQ.out];exact hkl
       have HZ:=hid (show (Tryz.prog.info? 66).map (·.size)=some cs.length by rw [hcs];exact qaY rfl);have HZ2:=hid (show (Tryz.prog.info? 66).map (·.size)=some cs.toArray.size by rw [List.size_toArray];exact HZ.out);have HON:=hid (show cs.toArray.all (·.oneCell')=true by rw [hcs];exact qgS rfl rfl)
       have HTH:=hid (show w11.there bn (k*7) cs.toArray.size by
        obtain ⟨v0,h1,_⟩:=HS11.out.nts k _ (List.getElem?_eq_getElem hkN);have h2:=h1.there;rw [qwP] at h2;rw [List.size_toArray,hcs];exact h2)
       clear hb11 hA11 hbz hcs;go_wp2_with (first|(refine wpList_load_mid rfl _ _ rfl bz 0 rfl cs _ HA11.out.range Tryz.underlying66 rfl HZ.out ?_)|(refine wpList_store_mid rfl _ _ _ rfl bn (k*7) _ rfl rfl HTH.out HZ2.out HON.out ?_))
       obtain ⟨w12,hw12⟩:=nqx (w11.setCells bn (k*7) cs);have HS12:=hid (show DSt w g bn bp B3 cof cbd cps crz z ser w12 v' l' (Nq.set k x') by rw [hw12,HCS.out];exact HS11.out.put HLY.out hkN HL11.out)
       have HQ12:=hid (show At w12 bq 0 [.bool inB,.func (.func F) #[.pointer (some ⟨g,0,none⟩)] #[]] by
        rw [hw12]
        have hgx:w11.grownBy (w11.setCells bn (k*7) cs) (some bn):=by
         have h2:=qaC (B:=bn) (b:=bn) (Nat.le_refl _) cs (k*7) w11 (Below.refl _ _);exact ⟨h2.os,h2.tape,h2.output,h2.size,fun q hq hr=>qcC q bn (fun e=>hr (by rw [e])) cs (k*7) w11⟩
        exact HQ11.out.gro hgx (by omega))
       first|rw [List.toList_toArray,←hw12]|rw [←hw12]
       clear hw12;go_roundg (gk - 1)
       case measure=>omega
       case rel=>exact ⟨k+1,l',Nq.set k x',v',by go_num,by omega,by omega,HTE.out,HKE.out,by rw [List.length_set];exact HNQ.out,HS12.out,HQ12.out⟩
     ·obtain rfl:nb=true:=by rw [HNB.out];have:=HSB.out;rw [Bool.eq_false_iff.2 hs] at this;exact (show ∀ a b:Bool,false=!(a != b)→(a != b)=true by decide) _ _ this
      have HTE:=hid (show passP (selB i) (exeO offer bid pl ser i) (ts.drop (k+1)) (k+1) lq Nq=T by
       have h1:=HP.out;rw [qqI HX.out,if_neg hs] at h1;exact h1)
      clear hs;go_wp2_with fail
      go_roundg (gk - 1)
      case measure=>omega
      case rel=>exact ⟨k+1,lq,Nq,_,by go_num,by omega,by omega,HTE.out,HCQ.out,HNQ.out,HSQ.out,HAQ.out⟩
    ·have hkn2:k=n:=by omega
     have HTE:=hid (show T=.ok (lq,Nq) by
      have h1:=HP.out;rw [List.drop_eq_nil_of_le (by have:=HNT.out;omega)] at h1;exact h1.symm)
     clear hkn2;go_wp2_with fail
     go_roundg (G0 - 1)
     case measure=>have:=HG0.out;omega
     case rel=>exact ⟨i+1,lq,Nq,vq,by go_num,by omega,by (have:=HG0.out;omega),by rw [HRT.out,HTE.out];rfl,HCQ.out,HNQ.out,HSQ.out⟩
  ·have hi:i=2:=by omega
   subst hi;have HE:=hid (show RES=.ok (lk,Nk) from HR.out.symm);obtain ⟨Ak,ck,rfl⟩:=Rd.form HST.out.own.lots;obtain ⟨NL,hNL⟩:=nqx (lk.length);rw [←hNL] at HST;have g0:=(HST.out.cnt.reg.one (k:=0) rfl rfl).1;have r0:=HST.out.res;rw [HZC.out] at r0;have r0c:=(r0.one (k:=0) rfl rfl).1;have r0f:=(r0.one (k:=0) rfl rfl).2;have HR0:=hid r0;clear r0 hNL;go_wp2_with fail
   have A3:=HR0.out.set (k:=0) (v:=.slice Ak NL ck) (by rfl) (by decide);have hld:=A3.read (P:=Tryz.prog) Tryz.underlying40 rfl (qiY rfl);refine bodyPost_ret (v:=.tuple #[.agg #[.slice Ak NL ck],.slice (some ⟨bn,0,none⟩) n n,.int .i64 0]) (by simp [results,Tryz.results19,asAddr,hld]) rfl ?_;rw [HE.out];have h1:=HLY.out.wr;have h2:=HLY.out.rg;have h3:=HLY.out.gn;have hgs:=qbB (w:=wr) ⟨B3,0,none⟩ rfl (.slice Ak NL ck);refine ⟨qbK HST.out.bel _ _ h1,.slice Ak NL ck,bn,by rw [HNK.out],?_,?_,by omega,?_⟩
   ·exact World.ownsRow.kept HST.out.own hgs (.inr HST.out.nr)
   ·exact HST.out.nts.grown hgs (show B3<bn by omega)
   ·have:=HST.out.bnl;simpa [World.setCell] using this
end Go.Proofs.YtemoddmadfoaiaaGreat
set_option maxHeartbeats 4000000
namespace Go.Proofs.YtemoddmadfoaiaaGreat
open Go.RowKit Big Reg Al Ga Dl
def tkO (key:ByteArray) (kind amount units:Int):Tk:=⟨⟨key,⟨#[]⟩,⟨#[97,110,110]⟩,⟨#[97,108,112,104,97]⟩,⟨#[97]⟩,kind,amount,units,0,1,false⟩,0,0⟩
theorem qmH (key:ByteArray) (k m u:Int) (w:World) :
  CB 48 #[.string key,.int .i64 k,.int .i64 m,.int .i64 u] (.agg (tkO key k m u).cells.toArray) w:=by
 go_enter Tryz.func48,Tryz.ntmps48
 go_upto_region 1 with fail
 obtain ⟨X,hX⟩:=nqx (w.heap.size);go_wp2_with fail
 have A:=At.fresh w (tkO key k m u).cells 60 rfl;have hld:=A.read (P:=Tryz.prog) Tryz.underlying60 rfl (by kernel_rfl);refine bodyPost_ret (v:=.agg (tkO key k m u).cells.toArray) (by simp only [results,Tryz.results48];simp [asAddr];exact hld) rfl ?_;exact ⟨rfl,qaX w _⟩
end Go.Proofs.YtemoddmadfoaiaaGreat
set_option maxHeartbeats 8000000
namespace Go.Proofs.YtemoddmadfoaiaaGreat
open Go.RowKit Big Reg Al Ga Dl
open Lib (hid)
def ann:ByteArray:=⟨#[97,110,110]⟩
def tA:Tk:=tkO ⟨#[97]⟩ 1 1000 0
def tB:Tk:=tkO ⟨#[98]⟩ 2 0 3
def nA:Nt:=⟨⟨#[97]⟩,⟨#[]⟩,ann,1,3,1000,[⟨⟨#[]⟩,ann,0,3⟩]⟩
def nB:Nt:=⟨⟨#[98]⟩,⟨#[]⟩,ann,2,3,900,[⟨⟨#[]⟩,ann,0,3⟩]⟩
theorem jfW:dealL [] [tA,tB] (3,1) (3,1) 0 0=.ok ([⟨⟨#[]⟩,ann,0,6⟩],[nA,nB]):=by kernel_rfl
theorem jgX:okT [tA,tB]=true:=by decide +kernel
def tC:Tk:=tkO ⟨#[97]⟩ 4 1000 0
def lC:Lot:=⟨⟨#[]⟩,ann,0,9⟩
def nC:Nt:=⟨⟨#[97]⟩,⟨#[]⟩,ann,4,4,1000,[⟨⟨#[]⟩,ann,0,4⟩]⟩
theorem jhK:dealL [lC] [tC] (3,1) (3,1) 0 0=.ok ([⟨⟨#[]⟩,ann,0,5⟩],[nC]):=by kernel_rfl
theorem okT_c:okT [tC]=true:=by decide +kernel
def Dld (b:Nat) (l:List Lot) (N:List Nt) (v:Value) (W:World):Prop:=∃ v' bn,v=.tuple #[.agg #[v'],.slice (some ⟨bn,0,none⟩) N.length N.length,.int .i64 0]∧Own W b v' l∧NtsAt W bn N∧b≤bn∧bn<W.heap.size
theorem Dld.upB {b:Nat} {l:List Lot} {N:List Nt} {v:Value} {x y:World} (h:Dld b l N v x) (hb:Below x.heap.size x y):Dld b l N v y:=by
 obtain ⟨v',bn,e,h1,h2,h3,h4⟩:=h;exact ⟨v',bn,e,h1.below hb,h2.below hb,h3,by have:=hb.size;omega⟩
theorem Dld.upG {b:Nat} {l:List Lot} {N:List Nt} {v:Value} {x y:World} {X:Nat} (h:Dld b l N v x) (hg:x.grownBy y (some X)) (hX:X<b):Dld b l N v y:=by
 obtain ⟨v',bn,e,h1,h2,h3,h4⟩:=h;exact ⟨v',bn,e,World.ownsRow.kept h1 hg (.inr fun e=>by have:=(h1.lt X e).1;omega),h2.grown hg (by omega),h3,by have:=hg.size;omega⟩
theorem pc3:Pc ((3,1):Qn):=⟨⟨by decide +kernel,by decide +kernel,by decide,by decide⟩,by decide⟩
theorem Dld.nts {b bn n m:Nat} {l:List Lot} {N:List Nt} {v e:Value} {W:World} (h:Dld b l N (.tuple #[.agg #[v],.slice (some ⟨bn,0,none⟩) n m,e]) W):Own W b v l∧NtsAt W bn N∧b≤bn∧bn<W.heap.size:=by
 obtain ⟨v',bn',he,h1,h2,h3,h4⟩:=h;simp at he
 obtain ⟨rfl,⟨rfl,_⟩,_⟩:=he;exact ⟨h1,h2,h3,h4⟩
theorem NtsAt.cel {W:World} {bn k:Nat} {N:List Nt} {x:Nt} (h:NtsAt W bn N) (hx:N[k]?=some x) {p q:Nat} (hp:p=k*7+4) (hq:q=k*7+5):W.cell? ⟨bn,p,none⟩=some (.int .i64 x.units)∧W.cell? ⟨bn,q,none⟩=some (.int .i64 x.money):=by
 obtain ⟨v,h1,_⟩:=h k x hx;subst hp hq;exact ⟨h1.cell (j:=4) rfl,h1.cell (j:=5) rfl⟩
theorem jeQ {W:World} {b g o q n:Nat} {x:Lot} (h:Own W b (.slice (some ⟨g,o,none⟩) n q) [x]):W.cell? ⟨g,o+3,none⟩=some (.int .i64 x.units):=by
 obtain ⟨_,_,A,cap,he,h3⟩:=h.lots;obtain ⟨g',o',rfl,h4⟩:=h3 (by simp);simp at he
 obtain ⟨⟨rfl,rfl⟩,_⟩:=he;exact h4 3 _ rfl
theorem qxC {W:World} {l:List Lot} (hn:0<l.length) (h64:l.length≤64):LotsAt (W.alloc (.cells (cellsL l).toArray 56)) (.slice (some ⟨W.heap.size,0,none⟩) l.length l.length) l:=by
 have h:=(At.fresh W (cellsL l) 56 rfl).range;refine ⟨by rw [qcE],by omega,_,_,rfl,fun _=>⟨_,0,rfl,fun k u hu=>?_⟩⟩
 have:=h k u hu;rwa [Nat.zero_add] at this ⊢
theorem jbC {W:World}:LotsAt W (.slice none (([]:List Lot).length) 0) []:=(Own.nil W 0).lots
theorem qzB:Tryz.prog.built 40 []=some #[.slice none 0 0]:=by kernel_rfl
theorem qvO {W:World} {ts:List Tk} (hn:0<ts.length) (h64:ts.length≤64):TksAt (W.alloc (.cells (cellsT ts).toArray 60)) (.slice (some ⟨W.heap.size,0,none⟩) ts.length ts.length) ts:=by
 have h:=(At.fresh W (cellsT ts) 60 rfl).range;refine ⟨by rw [qeI],by omega,_,_,rfl,fun _=>⟨_,0,rfl,fun k u hu=>?_⟩⟩
 have:=h k u hu;rwa [Nat.zero_add] at this ⊢
theorem qsP (w:World) :
  CB 13 #[] (.bool true) w:=by
 obtain ⟨cR,V_cR⟩:=nvx (rat false 3 false 1);have HR:=hid (fun W=>qrF (cR:=cR) (x:=3) (y:=1) (d:=1) rfl (by decide) (by rw [V_cR.out];kernel_rfl) (by decide) (by decide) (by decide) W);obtain ⟨B0,hB0⟩:=nqx (w.heap.size);have FR:=hid (show Fr B0 w w by rw [hB0];exact Fr.start w);have FR0:=hid FR.out.le;have hZB0:B0≤B0:=Nat.le_refl _;have HB0:=hid hB0;go_enter Tryz.func13,Tryz.ntmps13
 go_upto_region 1 with fail
 clear hB0;refine wT [⟨true,1,1,2,0,0,27,9,cR,0,cR,[]⟩] [(9,aT cR)] (by simp only [zu];rfl) (by kernel_rfl) rfl ?_ ?_ ?_ ?_
 ·intro W' hW';refine fxo ?_<|fxs rfl<|fxs rfl<|fxn
  go_big_quiet_step (exact qaA (HR.out _));exact wqn rfl
 ·exact fP1 (Tryz.alR (qR V_cR.out))
 ·exact fP1 (sR V_cR (fun _=>rfl) rfl)
 intro β wx1 E;replace FR:=fnf FR E rfl;obtain ⟨b1,hb1,eb1⟩:=nwb E mms;have hZb1:B0≤b1:=Nat.le_trans FR0.out eb1.1;have Ab1:=hid eb1.2;simp only [nP,zu];rw [←hb1];clear E eb1 hb1;go_upto_region 2 with fail
 have HB1:=hid (show Below w.heap.size w wx1 by have:=FR.out.below;rwa [HB0.out] at this);refine qdS [(0,11,.agg #[.slice none 0 0]),(4,15,.agg cR.toArray),(5,16,.agg cR.toArray)] [(1,[]),(2,[]),(3,[])] 6 11 12 [7,8,9,10] [13,14] 17 2 40 (.tmp 2) (.tmp 18) #[.slice none 0 0] undef (by kernel_rfl) (by kernel_rfl) (by rfl) (by rfl) (by rfl) (by rfl) (by rfl) (by rfl) (by rfl) (by rfl) (by rfl) (by rfl) (by rfl) Tryz.layRg (by kernel_rfl) (by simp only [putsA,List.foldl_cons,List.foldl_nil,zq]) ?_ ?_
 ·have r1:=fun W (h:Below wx1.heap.size wx1 W)=>(Ab1.out.below h).read (P:=Tryz.prog) Tryz.underlying27 rfl (qR V_cR.out)
  refine ⟨⟨_,rfl,rfl,.inl ⟨by rfl,fun W _=>qdH rfl rfl qzB⟩⟩,?_⟩;simp only [zq];refine ⟨⟨_,rfl,rfl,.inl ⟨by rfl,fun W hW=>qaF rfl rfl (r1 W hW)⟩⟩,?_⟩;simp only [zq];refine ⟨⟨_,rfl,rfl,.inl ⟨by rfl,fun W hW=>qaF rfl rfl (r1 W hW)⟩⟩,?_⟩;simp only [zq];exact trivial
 ·simp only [putsA,List.foldl_cons,List.foldl_nil,zq];refine ⟨_,_,by rfl,by rfl,by rfl,fun v _=>v=.agg tA.cells.toArray,fun _ _ _ h=>h,fun u W hW _=>GY.callOf (f:=48) (args:=#[.string ⟨#[97]⟩,.int .i64 1,.int .i64 1000,.int .i64 0]) (by simp [execOp,Act.eval,go_sem]) ((qmH _ _ _ _ W).mono ?_),?_⟩
  ·rintro e w3 ⟨rfl,hb⟩;exact ⟨_,rfl,hb,rfl⟩
  rintro v ⟨_,rfl⟩;refine ⟨[],_,rfl,fun _=>trivial,fun u=>by simp only [putsA,List.foldl_cons,List.foldl_nil,zq];rfl,fun u p=>by simp only [putsA,List.foldl_cons,List.foldl_nil,zq],?_⟩;refine ⟨_,_,by rfl,by rfl,by rfl,fun v _=>v=.agg tB.cells.toArray,fun _ _ _ h=>h,fun u W hW _=>GY.callOf (f:=48) (args:=#[.string ⟨#[98]⟩,.int .i64 2,.int .i64 0,.int .i64 3]) (by simp [execOp,Act.eval,go_sem]) ((qmH _ _ _ _ W).mono ?_),?_⟩
  ·rintro e w3 ⟨rfl,hb⟩;exact ⟨_,rfl,hb,rfl⟩
  rintro v ⟨_,rfl⟩;refine ⟨[],_,rfl,fun _=>trivial,fun u=>by simp only [putsA,List.foldl_cons,List.foldl_nil,zq];rfl,fun u p=>by simp only [putsA,List.foldl_cons,List.foldl_nil,zq],?_⟩;refine ⟨_,_,by rfl,by rfl,by rfl,fun v W=>TksAt W v [tA,tB],fun v W ob h=>h.below (qaX W ob),fun u W hW _=>GY.rowB (s:=13) (e:=60) [.agg tA.cells.toArray,.agg tB.cells.toArray] (by rfl) (by simp [Act.eval]) (by rfl) (by decide) (by decide) (by intro x hx;simp only [List.mem_cons,List.not_mem_nil,or_false] at hx;rcases hx with rfl|rfl<;>rfl) (by decide) Tryz.underlying42 (by kernel_rfl) (by kernel_rfl) ⟨qaX W _,qvO (ts:=[tA,tB]) (by decide) (by decide)⟩,?_⟩;rintro v ⟨_,hv0⟩;refine ⟨[],_,rfl,fun _=>trivial,fun u=>by simp only [putsA,List.foldl_cons,List.foldl_nil,zq];rfl,fun u p=>by simp only [putsA,List.foldl_cons,List.foldl_nil,zq],?_⟩;clear hv0;unfold chY TailH;refine ⟨fun b v W=>Dld b [⟨⟨#[]⟩,ann,0,6⟩] [nA,nB] v W,fun u W hW hK=>GY.callOf (f:=19) (args:=#[.agg #[.slice none 0 0],v,.agg cR.toArray,.agg cR.toArray,.int .i64 0,.int .i64 0]) (by simp [execOp,Act.eval,go_sem]) ((qjR (A:=none) (cap:=0) (pl:=0) (l:=[]) (ts:=[tA,tB]) (offer:=(3,1)) (bid:=(3,1)) (by rw [V_cR.out];rfl) (by rw [V_cR.out];rfl) pc3 pc3 rfl (by decide) (by decide) (by decide) (by decide +kernel) jgX (fun _=>rfl) W jbC hK).mono ?_),fun b v x y h hb=>h.upB hb,fun b v x y X h hg hX=>h.upG hg hX,?_⟩
  ·rintro e w3 ⟨hb,h⟩;rw [jfW] at h;obtain ⟨v',bn,rfl,h1,h2,h3,h4⟩:=h;exact ⟨_,rfl,hb,v',bn,rfl,h1,h2,h3,h4⟩
  rintro b v2 ⟨_,v',bn,rfl,h1,_,_,_⟩;have ho1:=qfK h1;obtain ⟨A1,q1,rfl⟩:=Rd.form h1.lots;refine ⟨[(7,10,.tuple #[.agg #[.slice A1 1 q1],.slice (some ⟨bn,0,none⟩) 2 2,.int .i64 0]),(8,18,.agg #[.slice A1 1 q1]),(9,19,.slice (some ⟨bn,0,none⟩) 2 2),(10,20,.int .i64 0)],[(13,3,.slice (some ⟨bn,0,none⟩) 2 2),(14,4,.int .i64 0)],#[.slice A1 1 q1],_,rfl,rfl,fun u=>?_,fun u=>by simp only [putsA,List.foldl_cons,List.foldl_nil,zq];rfl,fun u p=>by simp only [putsA,List.foldl_cons,List.foldl_nil,zq],fun p=>by rfl,fun p=>by rfl,by rfl,ho1,fun X W hW hR hA=>⟨?_,?_⟩⟩
  ·skip
   refine ⟨⟨_,rfl,rfl,.inl ⟨by rfl,fun _ _=>by rfl⟩⟩,?_⟩;simp only [zq];refine ⟨⟨_,rfl,rfl,.inl ⟨by rfl,fun _ _=>by rfl⟩⟩,?_⟩;simp only [zq];refine ⟨⟨_,rfl,rfl,.inl ⟨by rfl,fun _ _=>by rfl⟩⟩,?_⟩;simp only [zq];refine ⟨⟨_,rfl,rfl,.inl ⟨by rfl,fun _ _=>by rfl⟩⟩,?_⟩;simp only [zq];exact trivial
  ·skip
   refine ⟨⟨_,rfl,rfl,.inl ⟨by rfl,fun _ _=>by rfl⟩⟩,?_⟩;simp only [zq];refine ⟨⟨_,rfl,rfl,.inl ⟨by rfl,fun _ _=>by rfl⟩⟩,?_⟩;simp only [zq];exact trivial
  simp only [putsA,List.foldl_cons,List.foldl_nil,zq];have HW2:=hid (HB1.out.trans (hW.mono HB1.out.size));have HR2:=hid hR;have HWX:=hid hW;clear hW hR h1 hA;go_upto_region 4 with fail
  obtain ⟨g,hg⟩:=nqx (W.heap.size);obtain ⟨W2,hW2⟩:∃ x,x=((W.alloc (.cells #[.string ⟨#[]⟩,.string ⟨#[97,110,110]⟩,.int .i64 0,.int .i64 9] 56)).alloc (.cells #[.slice (some ⟨W.heap.size,0,none⟩) 1 1] 40)):=⟨_,rfl⟩;rw [←hW2,←hg];have hb2:Below W.heap.size W W2:=by rw [hW2];exact ((Below.refl _ _).alloc (Nat.le_refl _) _).alloc (by simp) _
  have HLC:=hid (show LotsAt W2 (.slice (some ⟨g,0,none⟩) [lC].length 1) [lC] by rw [hW2,hg];exact (qxC (l:=[lC]) (by decide) (by decide)).below (qaX _ _));have ARG:=hid (show At W2 (g+1) 0 [.slice (some ⟨g,0,none⟩) 1 1] by rw [hW2,hg];exact At.fresh _ [.slice (some ⟨W.heap.size,0,none⟩) 1 1] _ (by simp));have AB2:=hid (show At W2 b1 0 cR from (Ab1.out.below HWX.out).below hb2);have HN2:=hid (HR2.out.nts.2.1.below hb2);have HB2:=hid (HW2.out.trans (hb2.mono HW2.out.size));clear hW2 hg hb2 HR2 HWX;refine qdS [(0,26,.agg #[.slice (some ⟨g,0,none⟩) 1 1]),(3,29,.agg cR.toArray),(4,30,.agg cR.toArray)] [(1,[]),(2,[])] 5 10 11 [6,7,8,9] [12,13] 31 6 40 (.tmp 6) (.tmp 32) #[.slice none 0 0] undef (by kernel_rfl) (by kernel_rfl) (by rfl) (by rfl) (by rfl) (by rfl) (by rfl) (by rfl) (by rfl) (by rfl) (by rfl) (by rfl) (by rfl) Tryz.layRg (by kernel_rfl) (by simp only [putsA,List.foldl_cons,List.foldl_nil,zq]) ?_ ?_
  ·have r0:=fun V (h:Below W2.heap.size W2 V)=>(ARG.out.below h).read (P:=Tryz.prog) Tryz.underlying40 rfl (by kernel_rfl)
   have r1:=fun V (h:Below W2.heap.size W2 V)=>(AB2.out.below h).read (P:=Tryz.prog) Tryz.underlying27 rfl (qR V_cR.out)
   refine ⟨⟨_,rfl,rfl,.inl ⟨by rfl,fun V hV=>qaF rfl rfl (r0 V hV)⟩⟩,?_⟩;simp only [zq];refine ⟨⟨_,rfl,rfl,.inl ⟨by rfl,fun W hW=>qaF rfl rfl (r1 W hW)⟩⟩,?_⟩;simp only [zq];refine ⟨⟨_,rfl,rfl,.inl ⟨by rfl,fun W hW=>qaF rfl rfl (r1 W hW)⟩⟩,?_⟩;simp only [zq];exact trivial
  simp only [putsA,List.foldl_cons,List.foldl_nil,zq];refine ⟨_,_,by rfl,by rfl,by rfl,fun v _=>v=.agg tC.cells.toArray,fun _ _ _ h=>h,fun u W hW _=>GY.callOf (f:=48) (args:=#[.string ⟨#[97]⟩,.int .i64 4,.int .i64 1000,.int .i64 0]) (by simp [execOp,Act.eval,go_sem]) ((qmH _ _ _ _ W).mono ?_),?_⟩
  ·rintro e w3 ⟨rfl,hb⟩;exact ⟨_,rfl,hb,rfl⟩
  rintro v ⟨_,rfl⟩;refine ⟨[],_,rfl,fun _=>trivial,fun u=>by simp only [putsA,List.foldl_cons,List.foldl_nil,zq];rfl,fun u p=>by simp only [putsA,List.foldl_cons,List.foldl_nil,zq],?_⟩;refine ⟨_,_,by rfl,by rfl,by rfl,fun v W=>TksAt W v [tC],fun v W ob h=>h.below (qaX W ob),fun u W hW _=>GY.rowB (s:=13) (e:=60) [.agg tC.cells.toArray] (by rfl) (by simp [Act.eval]) (by rfl) (by decide) (by decide) (by intro x hx;simp only [List.mem_cons,List.not_mem_nil,or_false] at hx;rcases hx with rfl;rfl) (by decide) Tryz.underlying42 (by kernel_rfl) (by kernel_rfl) ⟨qaX W _,qvO (ts:=[tC]) (by decide) (by decide)⟩,?_⟩;rintro v2 ⟨_,hv0⟩;refine ⟨[],_,rfl,fun _=>trivial,fun u=>by simp only [putsA,List.foldl_cons,List.foldl_nil,zq];rfl,fun u p=>by simp only [putsA,List.foldl_cons,List.foldl_nil,zq],?_⟩;clear hv0;unfold chY TailH;refine ⟨fun b v W=>Dld b [⟨⟨#[]⟩,ann,0,5⟩] [nC] v W,fun u W hW hK=>GY.callOf (f:=19) (args:=#[.agg #[.slice (some ⟨g,0,none⟩) 1 1],v2,.agg cR.toArray,.agg cR.toArray,.int .i64 0,.int .i64 0]) (by simp [execOp,Act.eval,go_sem]) ((qjR (A:=some ⟨g,0,none⟩) (cap:=1) (pl:=0) (l:=[lC]) (ts:=[tC]) (offer:=(3,1)) (bid:=(3,1)) (by rw [V_cR.out];rfl) (by rw [V_cR.out];rfl) pc3 pc3 rfl (by decide) (by decide) (by decide) (by decide +kernel) okT_c (fun h=>by cases h) W (HLC.out.below hW) hK).mono ?_),fun b v x y h hb=>h.upB hb,fun b v x y X h hg hX=>h.upG hg hX,?_⟩
  ·rintro e w3 ⟨hb,h⟩;rw [jhK] at h;obtain ⟨v',bn,rfl,h1,h2,h3,h4⟩:=h;exact ⟨_,rfl,hb,v',bn,rfl,h1,h2,h3,h4⟩
  rintro b4 v4 ⟨_,v',bm,rfl,h1,_,_,_⟩;have ho1:=qfK h1;obtain ⟨g4,o4,q4,rfl,_⟩:=LotsAt.some h1.lots (by decide);refine ⟨[(6,25,.tuple #[.agg #[.slice (some ⟨g4,o4,none⟩) 1 q4],.slice (some ⟨bm,0,none⟩) 1 1,.int .i64 0]),(7,32,.agg #[.slice (some ⟨g4,o4,none⟩) 1 q4]),(8,33,.slice (some ⟨bm,0,none⟩) 1 1),(9,34,.int .i64 0)],[(12,7,.slice (some ⟨bm,0,none⟩) 1 1),(13,8,.int .i64 0)],#[.slice (some ⟨g4,o4,none⟩) 1 q4],_,rfl,rfl,fun u=>?_,fun u=>by simp only [putsA,List.foldl_cons,List.foldl_nil,zq];rfl,fun u p=>by simp only [putsA,List.foldl_cons,List.foldl_nil,zq],fun p=>by rfl,fun p=>by rfl,by rfl,ho1,fun X4 W4 hW hR hA=>⟨?_,?_⟩⟩
  ·skip
   refine ⟨⟨_,rfl,rfl,.inl ⟨by rfl,fun _ _=>by rfl⟩⟩,?_⟩;simp only [zq];refine ⟨⟨_,rfl,rfl,.inl ⟨by rfl,fun _ _=>by rfl⟩⟩,?_⟩;simp only [zq];refine ⟨⟨_,rfl,rfl,.inl ⟨by rfl,fun _ _=>by rfl⟩⟩,?_⟩;simp only [zq];refine ⟨⟨_,rfl,rfl,.inl ⟨by rfl,fun _ _=>by rfl⟩⟩,?_⟩;simp only [zq];exact trivial
  ·skip
   refine ⟨⟨_,rfl,rfl,.inl ⟨by rfl,fun _ _=>by rfl⟩⟩,?_⟩;simp only [zq];refine ⟨⟨_,rfl,rfl,.inl ⟨by rfl,fun _ _=>by rfl⟩⟩,?_⟩;simp only [zq];exact trivial
  simp only [putsA,List.foldl_cons,List.foldl_nil,zq];have HB4:=hid (HB2.out.trans (hW.mono HB2.out.size));have hN4:=HN2.out.below hW;obtain ⟨c0,c1⟩:=hN4.cel (k:=0) (x:=nA) rfl (p:=4) (q:=5) rfl rfl;obtain ⟨_,c2⟩:=hN4.cel (k:=1) (x:=nB) rfl (p:=11) (q:=12) rfl rfl;obtain ⟨hOw,hNm,_,_⟩:=Dld.nts hR;obtain ⟨c3,c4⟩:=hNm.cel (k:=0) (x:=nC) rfl (p:=4) (q:=5) rfl rfl;have c5:=hA.cell0;have c6:=jeQ hOw;change W4.cell? ⟨bn,4,none⟩=some (.int .i64 3) at c0
  change W4.cell? ⟨bn,5,none⟩=some (.int .i64 1000) at c1
  change W4.cell? ⟨bn,12,none⟩=some (.int .i64 900) at c2
  change W4.cell? ⟨bm,4,none⟩=some (.int .i64 4) at c3
  change W4.cell? ⟨bm,5,none⟩=some (.int .i64 1000) at c4
  change W4.cell? ⟨g4,o4+3,none⟩=some (.int .i64 5) at c6
  clear hW hR h1 hA hN4 hOw hNm ho1;go_wp2_with fail
  refine bodyPost_ret (v:=.bool true) (by simp [results,Tryz.results13]) rfl ⟨rfl,HB4.out⟩
end Go.Proofs.YtemoddmadfoaiaaGreat
namespace Go.Proofs.YtemoddmadfoaiaaGreat
open Go.RowKit Big Reg Ga Dl
theorem qpT {P:Program} {ops:Array Oper} {rest:List Oper} {o1 o2 o3 o4:Oper} {a:Act} {w:World} {Q:Exit→Act→World→Prop} {t u:TypeId} (hg1:o1.guard=none) (hg2:o2.guard=none) (hg3:o3.guard=none) (hg4:o4.guard=none) (ho1:o1.op=.alloc t) (ho2:o2.op=.alloc u) {x y x' y':Operand} (ho3:o3.op=.store t x y) (ho4:o4.op=.store u x' y') {cs ds:List Value} (hL:∃ z,LaysAs P t z∧cs.length≤z.size) (hM:∃ z,LaysAs P u z∧ds.length≤z.size)
  (hx:((a.put o1.dst (.pointer (some ⟨w.heap.size,0,none⟩))).put o2.dst (.pointer (some ⟨w.heap.size+1,0,none⟩))).eval x=.pointer (some ⟨w.heap.size,0,none⟩)) (hy:((a.put o1.dst (.pointer (some ⟨w.heap.size,0,none⟩))).put o2.dst (.pointer (some ⟨w.heap.size+1,0,none⟩))).eval y=.agg cs.toArray)
  (hx':(((a.put o1.dst (.pointer (some ⟨w.heap.size,0,none⟩))).put o2.dst (.pointer (some ⟨w.heap.size+1,0,none⟩))).put o3.dst undef).eval x'=.pointer (some ⟨w.heap.size+1,0,none⟩)) (hy':(((a.put o1.dst (.pointer (some ⟨w.heap.size,0,none⟩))).put o2.dst (.pointer (some ⟨w.heap.size+1,0,none⟩))).put o3.dst undef).eval y'=.agg ds.toArray)
  (hs:(P.info? t).map (·.size)=some cs.length) (h1:cs.toArray.all (·.oneCell')=true) (hs2:(P.info? u).map (·.size)=some ds.length) (h2:ds.toArray.all (·.oneCell')=true)
  (h:∀ w',Below w.heap.size w w'→At w' w.heap.size 0 cs→At w' (w.heap.size+1) 0 ds→w'.heap.size=w.heap.size+2→wpList P ops Q rest ((((a.put o1.dst (.pointer (some ⟨w.heap.size,0,none⟩))).put o2.dst (.pointer (some ⟨w.heap.size+1,0,none⟩))).put o3.dst undef).put o4.dst undef) w'):wpList P ops Q (o1::o2::o3::o4::rest) a w:=by
 obtain ⟨z,hL,hz⟩:=hL;obtain ⟨z2,hM,hz2⟩:=hM;refine wpList_plain hg1 fun K hK=>?_
 have hrun:=hL o1 ho1 a w;unfold Oper.wp;rw [hrun];refine hK _ _ ?_;refine wpList_plain hg2 fun K hK=>?_
 have hrun2:=hM o2 ho2 (a.put o1.dst (.pointer (some ⟨w.heap.size,0,none⟩))) (w.alloc (.cells z t));unfold Oper.wp;rw [hrun2];rw [World.size_alloc] at *;refine hK _ _ ?_;obtain ⟨w2,hw2⟩:∃ w2,w2=(w.alloc (.cells z t)).alloc (.cells z2 u):=⟨_,rfl⟩;have hA:At w2 w.heap.size 0 z.toList:=by rw [hw2];have:=(At.fresh w z.toList t rfl).alloc (.cells z2 u);simpa using this
 have hB:At w2 (w.heap.size+1) 0 z2.toList:=by rw [hw2];have:=At.fresh (w.alloc (.cells z t)) z2.toList u (b:=w.heap.size+1) (by simp);simpa using this
 have hb2:Below w.heap.size w w2:=by rw [hw2];exact ((Below.refl _ _).alloc (Nat.le_refl _) _).alloc (by simp) _
 have hsz:w2.heap.size=w.heap.size+2:=by rw [hw2];simp
 rw [←hw2];clear hw2;have hth:w2.there w.heap.size 0 cs.length:=fun j hj=>hA.there j (by simp;omega)
 have hth2:w2.there (w.heap.size+1) 0 ds.length:=fun j hj=>hB.there j (by simp;omega)
 refine wpList_store_mid hg3 _ _ _ ho3 w.heap.size 0 cs.toArray hx hy (by simpa using hth) (by simpa using hs) h1 ?_;refine wpList_store_mid hg4 _ _ _ ho4 (w.heap.size+1) 0 ds.toArray hx' hy' (by simpa using World.there_setCells hth2 _ _ _) (by simpa using hs2) h2 ?_;refine h _ ?_ ?_ ?_ (by simp [qaU,hsz])
 ·exact qaC (by omega) _ _ _ (qaC (Nat.le_refl _) _ _ _ hb2)
 ·have hA2:At (w2.setCells w.heap.size 0 cs) w.heap.size 0 cs:=⟨World.rangeAt_setCells_same _ _ _ _ hth,World.there_setCells hth _ _ _,by rw [qaU];omega⟩;have hk:=qcC w.heap.size (w.heap.size+1) (by omega) ds 0 (w2.setCells w.heap.size 0 cs);refine ⟨fun j v hj=>?_,fun j hj=>?_,by rw [qaU];exact hA2.lt⟩
  ·rw [World.cell?_of_block hk];exact hA2.range j v hj
  ·rw [World.cell?_of_block hk,World.frozen?_of_block hk];exact hA2.there j hj
 ·exact ⟨World.rangeAt_setCells_same _ _ _ _ (by simpa using World.there_setCells hth2 _ _ _),World.there_setCells (by simpa using World.there_setCells hth2 _ _ _) _ _ _,by rw [qaU,qaU];omega⟩
def DlR (r:Except Int (List Lot × List Nt)) (b:Nat) (v:Value) (W:World):Prop:=(∃ A n q vn e,v=.tuple #[.agg #[.slice A n q],vn,.int .i64 e])∧match r with
 | .error c=>v=.tuple #[.agg #[.slice none 0 0],.slice none 0 0,.int .i64 c]
 | .ok p=>Dld b p.1 p.2 v W
theorem DlR.upB {r:Except Int (List Lot × List Nt)} {b:Nat} {v:Value} {x y:World} (h:DlR r b v x) (hb:Below x.heap.size x y):DlR r b v y:=by
 cases r with
 | error c=>exact h
 | ok p=>exact ⟨h.1,Dld.upB h.2 hb⟩
theorem DlR.upG {r:Except Int (List Lot × List Nt)} {b:Nat} {v:Value} {x y:World} {X:Nat} (h:DlR r b v x) (hg:x.grownBy y (some X)) (hX:X<b):DlR r b v y:=by
 cases r with
 | error c=>exact h
 | ok p=>exact ⟨h.1,Dld.upG h.2 hg hX⟩
theorem DlR.of {r:Except Int (List Lot × List Nt)} {w w':World} {e:Ending} (h:DealP r w e w'):∃ v,e=.returned v∧Below w.heap.size w w'∧DlR r w.heap.size v w':=by
 obtain ⟨hb,h⟩:=h
 cases r with
 | error c=>exact ⟨_,h,hb,⟨_,_,_,_,_,rfl⟩,rfl⟩
 | ok p =>
  obtain ⟨v',bn,rfl,h1,h2,h3,h4⟩:=h;obtain ⟨A,q,rfl⟩:=Rd.form h1.lots;exact ⟨_,rfl,hb,⟨_,_,_,_,_,rfl⟩,_,bn,rfl,h1,h2,h3,h4⟩
theorem jaZ {most:Nat} {ts:List Tk} (h:MadeTs most ts) (h8:most≤8):okT ts=true∧(∀ t∈ts,okO t.o=true)∧ts.length≤8:=by
 have hl:=h.1;refine ⟨qwM (by omega) fun k hk=>?_,fun t ht=>?_,by omega⟩
 ·obtain ⟨x,hx⟩:∃ x,ts[k]?=some x:=⟨_,List.getElem?_eq_getElem hk⟩;have m:=h.2 k x hx;unfold okTAt;rw [hx];simp only
  have h1:okA x.o=true:=by unfold okA;rw [m.void,if_neg (by simp)];exact qwZ m (by omega)
  have h2:((ts.take k).any fun c=>decide (c.o.key=x.o.key))=false:=by
   rw [List.any_eq_false];intro y hy e;obtain ⟨j,hj⟩:=List.mem_iff_getElem?.1 hy;have hjk:j<k:=by have:=(List.getElem?_eq_some_iff.1 hj).1;rw [List.length_take] at this;omega
   rw [List.getElem?_take_of_lt hjk] at hj;have e2:=of_decide_eq_true e;rw [(h.2 j y hj).key,m.key] at e2
   have:=jbJ j (by omega) k (by omega) e2
   omega
  rw [h1,m.void,h2];rfl
 ·obtain ⟨j,hj⟩:=List.mem_iff_getElem?.1 ht;have hjl:=(List.getElem?_eq_some_iff.1 hj).1;exact qwZ (h.2 j t hj) (by omega)
theorem tup3 {a b c d e f:Value} (h:Value.tuple #[a,b,c]=.tuple #[d,e,f]):a=d∧b=e∧c=f:=by simpa using h
theorem DealP.dlr {r:Except Int (List Lot × List Nt)} {w w':World} {e:Ending} (h:DealP r w e w'):∃ v,e=.returned v∧Below w.heap.size w w'∧DlR r w.heap.size v w':=DlR.of h
theorem qtK {w:World} {B n q:Nat} {A:Option Addr} {l:List Lot} (h:Own w B (.slice A n q) l):A=none→q=0:=by
 intro hA;subst hA;obtain ⟨_,h|⟨g,cap,cur,hv,_⟩⟩:=h
 ·have:=h.1;injection this
 ·injection hv with h1;cases h1
theorem Drew.fram {w w1 w2:World} {bt:Nat} (h:Drew w1 bt w2) (hbt:bt=w.heap.size) (hb:Below w.heap.size w w1):Below w.heap.size w w2:=hb.trans (qeR h.2 (by omega) hb.size)
end Go.Proofs.YtemoddmadfoaiaaGreat
namespace Go.Proofs.YtemoddmadfoaiaaGreat
open Go.RowKit Big Reg Al Ga Dl
structure Rn where
 key:ByteArray
 nom:ByteArray
 hol:ByteArray
 kind:Int
 units:Int
 money:Int
 a:Option Addr
 n:Nat
 c:Nat
def Rn.cells (x:Rn):List Value:=[.string x.key,.string x.nom,.string x.hol,.int .i64 x.kind,.int .i64 x.units,.int .i64 x.money,.slice x.a x.n x.c]
end Go.Proofs.YtemoddmadfoaiaaGreat
