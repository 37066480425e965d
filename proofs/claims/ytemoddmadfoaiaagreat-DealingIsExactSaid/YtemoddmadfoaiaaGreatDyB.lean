import Derived.Test.YtemoddmadfoaiaaGreatDyQ
import Derived.Laws.AppendOwnNone
import Derived.Deep.CutRange
set_option linter.unusedVariables false
set_option linter.unusedSimpArgs false
set_option maxRecDepth 100000
namespace Go.Proofs.YtemoddmadfoaiaaGreat
open Go.RowKit Big Reg Al Ga Dl
theorem qiL {P:Program} {ops:Array Oper} {o:Oper} {a:Act} {w:World} {K:Act→World→Prop} {Q:Exit→Act→World→Prop} {E:Prop} (hgd:o.guard=none) (s x:Operand) (t:TypeId)
  (ho:o.op=.call { callee:=.builtin .append,args:=#[s,x],argTypes:=#[t,t] })
  (base:Nat) (e:TypeId) (i:TypeInfo) (size:Nat) (ht:P.underlying t=some (.slice e)) (hi:P.info? e=some i)
  (v:Value) (n:Nat) (xs:List Value) (hs:a.eval s=v) (hown:w.ownsRow base e size v n xs) (hx:a.eval x=.slice none 0 0)
  (h:K (a.put o.dst v) w):if Region.wanted o (yielded ops a.tmps)=true then Oper.wp P o a w K Q else E:=by
 rw [if_pos (by simp [Region.wanted,hgd])];have hrun:=run_append_owned_none (P:=P) (w:=w) base t o.type e i size ht hi v n xs hown;unfold Oper.wp;simp [execOp,ho,resolve,invoke,builtin,hs,hx,hrun,Result.andThen];exact h
theorem qmN {W:World} {ad:Addr} {A:Option Addr} {n c:Nat} (h:W.cell? ad=some (.slice A n c)):(loadVar 38 ad).run Tryz.prog W=.ok (.slice A n c) W:=by
 simp [loadVar,h,go_sem]
theorem At.setsO {b o:Nat} {cs:List Value}:∀ (ds:List Value) (k:Nat) (w:World),At w b o cs→(k+ds.length≤o∨o+cs.length≤k)→At (w.setCells b k ds) b o cs
 | [],k,w,h,_=>h
 | d::ds,k,w,h,hk=>by
  rw [List.length_cons] at hk;exact At.setsO ds (k+1) (w.setCell ⟨b,k,none⟩ d) (h.setO (by omega)) (by omega)
theorem At.setsS {w:World} {b o:Nat} {cs ds:List Value} (h:At w b o cs) (hl:ds.length=cs.length):At (w.setCells b o ds) b o ds:=by
 have hr:=World.rangeAt_setCells_same w b o ds (by rw [hl];exact h.there);refine ⟨hr,fun j hj=>⟨?_,by rw [qcX];exact (h.there j (by omega)).2⟩,by rw [qaW];exact h.lt⟩;rw [hr j _ (List.getElem?_eq_getElem hj)];rfl
def ntX (x:Nt) (v:Value):List Value:=ntC x.key x.nom x.hol x.kind x.units x.money v
def NtsAt (w:World) (b:Nat) (N:List Nt):Prop:=∀ k x,N[k]?=some x→∃ v,At w b (k*7) (ntX x v)∧Own w (b+1) v x.lots
theorem NtsAt.grown {w w':World} {b:Nat} {N:List Nt} {r:Nat} (h:NtsAt w b N) (hg:w.grownBy w' (some r)) (hr:r<b):NtsAt w' b N:=by
 intro k x hx;obtain ⟨v,h1,h2⟩:=h k x hx;exact ⟨v,h1.gro hg (by omega),World.ownsRow.kept h2 hg (.inr fun e=>by have:=(h2.lt r e).1;omega)⟩
theorem NtsAt.below {w w':World} {b:Nat} {N:List Nt} (h:NtsAt w b N) (hb:Below w.heap.size w w'):NtsAt w' b N:=by
 intro k x hx;obtain ⟨v,h1,h2⟩:=h k x hx;exact ⟨v,h1.below hb,h2.below hb⟩
theorem qxM (x:Nt) (v:Value):(ntX x v).length=7:=rfl
theorem NtsAt.put {w:World} {b k:Nat} {N:List Nt} {x:Nt} {v:Value} (h:NtsAt w b N) (hk:k<N.length) (hv:Own w (b+1) v x.lots):NtsAt (w.setCells b (k*7) (ntX x v)) b (N.set k x):=by
 have hg:w.grownBy (w.setCells b (k*7) (ntX x v)) (some b):=by
  have h2:=qaC (B:=b) (b:=b) (Nat.le_refl _) (ntX x v) (k*7) w (Below.refl _ _);exact ⟨h2.os,h2.tape,h2.output,h2.size,fun q hq hr=>qcJ q b (fun e=>hr (by rw [e])) (ntX x v) (k*7) w⟩
 have ho:∀ {u:Value} {l:List Lot},Own w (b+1) u l→Own (w.setCells b (k*7) (ntX x v)) (b+1) u l:=fun hu=>World.ownsRow.kept hu hg (.inr fun e=>by have:=(hu.lt b e).1;omega)
 intro j y hy;by_cases e:j=k
 ·subst e;rw [List.getElem?_set_self hk] at hy;injection hy with hy
  subst hy;obtain ⟨v0,h1,_⟩:=h j _ (List.getElem?_eq_getElem hk);exact ⟨v,h1.setsS rfl,ho hv⟩
 ·rw [List.getElem?_set_ne (fun e2=>e e2.symm)] at hy;obtain ⟨v0,h1,h2⟩:=h j y hy;exact ⟨v0,h1.setsO _ _ _ (by simp only [qxM];omega),ho h2⟩
theorem jcR (L:List Value) (n j:Nat) (hj:j<n*L.length):(List.replicate n L).flatten[j]?=L[j%L.length]?:=by
 induction n generalizing j with
 | zero=>omega
 | succ n ih =>
  rw [List.replicate_succ,List.flatten_cons];by_cases h:j<L.length
  ·rw [List.getElem?_append_left h,Nat.mod_eq_of_lt h]
  ·rw [List.getElem?_append_right (by omega),ih _ (by rw [Nat.add_mul] at hj;omega)];congr 1
   exact (Nat.mod_eq_sub_mod (by omega)).symm
theorem jbV (n:Nat):madeCells zeroNt.toArray (n*7)=(List.replicate n zeroNt).flatten.toArray:=by
 apply Array.ext
 ·rw [size_madeCells,List.size_toArray,List.length_flatten];simp [zeroNt,ntC]
 ·intro i h1 h2;rw [size_madeCells] at h1;have h3:=jcR zeroNt n i (by simpa [zeroNt,ntC] using h1);have h4:i%7<7:=Nat.mod_lt _ (by omega);have h5:zeroNt.length=7:=rfl;rw [h5] at h3
  have h6:(List.replicate n zeroNt).flatten.toArray[i]=zeroNt[i%7]'(by rw [h5];exact h4):=by
   rw [List.getElem?_eq_getElem (show i%7<zeroNt.length by rw [h5];exact h4)] at h3
   have:=(List.getElem?_eq_some_iff.1 h3).2
   simpa using this
  rw [h6];simp only [madeCells,Array.getElem_map,Array.getElem_range,List.size_toArray,h5];rw [getElem!_pos _ _ (by rw [List.size_toArray,h5];exact h4)];rfl
theorem jbR {w:World} {b n:Nat} (h:At w b 0 (List.replicate n zeroNt).flatten):NtsAt w b (List.replicate n zeroN):=by
 intro k x hx;have hk:k<n:=by simpa using (List.getElem?_eq_some_iff.1 hx).1
 obtain rfl:x=zeroN:=by
  rw [List.getElem?_replicate,if_pos hk] at hx;injection hx with hx
  exact hx.symm
 refine ⟨.slice none 0 0,?_,Own.nil _ _⟩
 have e:(List.replicate n zeroNt).flatten=(List.replicate k zeroNt).flatten++(zeroNt++(List.replicate (n - k - 1) zeroNt).flatten):=by
  rw [show n=k+(1+(n - k - 1)) by omega,←List.replicate_append_replicate,List.flatten_append,←List.replicate_append_replicate,List.flatten_append];simp
 rw [e] at h;exact At.sub h (by simp [List.length_flatten,zeroNt,ntC])
theorem qfB {P:Program} {ops:Array Oper} {rest:List Oper} {o1 o2:Oper} {a:Act} {w:World} {Q:Exit→Act→World→Prop} {t:TypeId} {z:Array Value} (hL:LaysAs P t z) (hg1:o1.guard=none) (hg2:o2.guard=none) (ho1:o1.op=.alloc t) {x y:Operand} (ho2:o2.op=.store t x y) {cs:List Value}
  (hx:(a.put o1.dst (.pointer (some ⟨w.heap.size,0,none⟩))).eval x=.pointer (some ⟨w.heap.size,0,none⟩)) (hy:(a.put o1.dst (.pointer (some ⟨w.heap.size,0,none⟩))).eval y=.agg cs.toArray) (hz:cs.length=z.size) (hs:(P.info? t).map (·.size)=some cs.length) (h1:cs.toArray.all (·.oneCell')=true)
  (h:∀ w',Below w.heap.size w w'→At w' w.heap.size 0 cs→wpList P ops Q rest ((a.put o1.dst (.pointer (some ⟨w.heap.size,0,none⟩))).put o2.dst undef) w'):wpList P ops Q (o1::o2::rest) a w:=by
 refine wpList_plain hg1 fun K hK=>?_
 have hrun:=hL o1 ho1 a w;unfold Oper.wp;rw [hrun];refine hK _ _ ?_;have hA:At (w.alloc (.cells z t)) w.heap.size 0 z.toList:=by have:=At.fresh w z.toList t rfl;simpa using this
 have hth:(w.alloc (.cells z t)).there w.heap.size 0 cs.length:=fun j hj=>hA.there j (by simp;omega)
 refine wpList_store_mid hg2 _ _ _ ho2 w.heap.size 0 cs.toArray hx hy (by simpa using hth) (by simpa using hs) h1 ?_;refine h _ ?_ ?_
 ·exact qaC (Nat.le_refl _) _ _ _ ((Below.refl _ _).alloc (Nat.le_refl _) _)
 ·exact ⟨World.rangeAt_setCells_same _ _ _ _ hth,World.there_setCells hth _ _ _,by rw [qaW];simp⟩
theorem Tryz.callR (xs:Array Value) (W:World):(callFunc 56 xs).run Tryz.prog W=.ok (.enter 56 xs) W:=by kernel_rfl
theorem Tryz.callS (xs:Array Value) (W:World):(callFunc 57 xs).run Tryz.prog W=.ok (.enter 57 xs) W:=by kernel_rfl
theorem qiC {P:Program} {ops:Array Oper} {rest:List Oper} {o:Oper} {a:Act} {w:World} {Q:Exit→Act→World→Prop} (hg:o.guard=none) {y:Operand} {os:Array Operand} {tys:Array TypeId} (ho:o.op=.call { callee:=.value y,args:=os,argTypes:=tys }) {F:FuncId} {bd args:Array Value} (hy:a.eval y=.func (.func F) bd #[]) (ha:bd++os.map a.eval=args) (hF:∀ (xs:Array Value) (W:World),(callFunc F xs).run P W=.ok (.enter F xs) W)
  {D:Value→World→Prop} (hD:Calls P F args w (fun e w3=>∃ v,e=.returned v∧D v w3)) (h:∀ v w',D v w'→wpList P ops Q rest (a.put o.dst v) w'):wpList P ops Q (o::rest) a w:=by
 refine wpList_plain hg fun K hK=>?_
 refine GY.wp (GY.callOf (f:=F) (args:=args) ?_ hD) (fun v w' hd=>hK _ _ (h v w' hd));subst ha;simp [execOp,ho,resolve,invoke,hy,Result.andThen,Deferred.ofValue,hF]
structure DSt (w:World) (g bn bp br:Nat) (cof cbd cps crz:List Value) (z ser:Int) (wr:World) (v:Value) (l:List Lot) (N:List Nt):Prop where
 cnt:Cnt wr g v cof cbd z ser
 own:Own wr w.heap.size v l
 ng:v.ownBlock≠some g
 nn:v.ownBlock≠some bn
 nr:v.ownBlock≠some br
 brl:br<wr.heap.size
 nts:NtsAt wr bn N
 res:At wr br 0 crz
 pas:At wr bp 0 cps
 bel:Below w.heap.size w wr
 bnl:bn<wr.heap.size
structure DLy (w:World) (g bn bp br:Nat):Prop where
 wr:w.heap.size≤br
 rg:br<g
 gn:g<bn
 np:bn<bp
section
variable {w wr w2:World} {g bn bp br:Nat} {cof cbd cps crz:List Value} {z ser:Int} {v v':Value} {l l':List Lot} {N:List Nt}
theorem DSt.up (h:DSt w g bn bp br cof cbd cps crz z ser wr v l N) (hb:Below wr.heap.size wr w2):DSt w g bn bp br cof cbd cps crz z ser w2 v l N :=
 ⟨h.cnt.below hb,h.own.below hb,h.ng,h.nn,h.nr,Nat.lt_of_lt_of_le h.brl hb.size,h.nts.below hb,h.res.below hb,h.pas.below hb,h.bel.trans (hb.mono h.bel.size),Nat.lt_of_lt_of_le h.bnl hb.size⟩
theorem DSt.exe (hL:DLy w g bn bp br) (h:DSt w g bn bp br cof cbd cps crz z ser wr v l N) (hg:wr.grownBy w2 (some g)) (hc:Cnt w2 g v' cof cbd z ser) (ho:Own w2 wr.heap.size v' l'∨v'=v∧l'=l):DSt w g bn bp br cof cbd cps crz z ser w2 v' l' N:=by
 have h1:=hL.wr;have h2:=hL.rg;have h3:=hL.gn;have h4:=hL.np;have h5:=h.bnl;have h6:=h.brl;refine ⟨hc,?_,?_,?_,?_,Nat.lt_of_lt_of_le h.brl hg.size,h.nts.grown hg h3,h.res.gro hg (by omega),h.pas.gro hg (by omega),h.bel.grown hg h.bel.size (by intro r hr;injection hr with hr;omega),Nat.lt_of_lt_of_le h5 hg.size⟩
 ·rcases ho with ho|⟨rfl,rfl⟩
  ·exact ho.base h.bel.size
  ·exact World.ownsRow.kept h.own hg (.inr h.ng)
 ·rcases ho with ho|⟨rfl,rfl⟩
  ·exact fun e=>by have:=(ho.lt _ e).1;omega
  ·exact h.ng
 ·rcases ho with ho|⟨rfl,rfl⟩
  ·exact fun e=>by have:=(ho.lt _ e).1;omega
  ·exact h.nn
 ·rcases ho with ho|⟨rfl,rfl⟩
  ·exact fun e=>by have:=(ho.lt _ e).1;omega
  ·exact h.nr
theorem DSt.put (hL:DLy w g bn bp br) (h:DSt w g bn bp br cof cbd cps crz z ser wr v l N) {k:Nat} {x:Nt} {vl:Value} (hk:k<N.length) (hv:Own wr (bn+1) vl x.lots):DSt w g bn bp br cof cbd cps crz z ser (wr.setCells bn (k*7) (ntX x vl)) v l (N.set k x):=by
 have h1:=hL.wr;have h2:=hL.rg;have h3:=hL.gn;have h4:=hL.np
 have hg:wr.grownBy (wr.setCells bn (k*7) (ntX x vl)) (some bn):=by
  have h2:=qaC (B:=bn) (b:=bn) (Nat.le_refl _) (ntX x vl) (k*7) wr (Below.refl _ _);exact ⟨h2.os,h2.tape,h2.output,h2.size,fun q hq hr=>qcJ q bn (fun e=>hr (by rw [e])) (ntX x vl) (k*7) wr⟩
 exact ⟨h.cnt.grown hg (by omega),World.ownsRow.kept h.own hg (.inr h.nn),h.ng,h.nn,h.nr,Nat.lt_of_lt_of_le h.brl hg.size,h.nts.put hk hv,h.res.gro hg (by omega),h.pas.gro hg (by omega),h.bel.grown hg h.bel.size (by intro r hr;injection hr with hr;omega),Nat.lt_of_lt_of_le h.bnl hg.size⟩
end
theorem jaN {w wr:World} {A:Option Addr} {n cap:Nat} {ts:List Tk} (h:TksAt w (.slice A n cap) ts) (hb:Below w.heap.size w wr) {k:Nat} {x:Tk} (hx:ts[k]?=some x):∃ g off,A=some ⟨g,off,none⟩∧∀ j u,x.cells[j]?=some u→wr.cell? ⟨g,off+k*13+j,none⟩=some u:=by
 have hk:=(List.getElem?_eq_some_iff.1 hx).1;obtain ⟨g,off,cap',e,hc⟩:=qmK h (by omega);injection e with e1 e2 e3
 exact ⟨g,off,e1,fun j u hu=>qcU (hc k x hx j u hu) hb⟩
namespace Dl
theorem qqU {sel:Od→Bool} {f:List Lot→Od→Except Int (List Lot × Nt)} {ts:List Tk} {k:Nat} {t:Tk} {l:List Lot} {N:List Nt} (ht:ts[k]?=some t) :
  passP sel f (ts.drop k) k l N=if sel t.o=true then match f l t.o with|.error e=>.error e|.ok (l',x)=>passP sel f (ts.drop (k+1)) (k+1) l' (N.set k x) else passP sel f (ts.drop (k+1)) (k+1) l N:=by
 rw [qrA ht,passP];rfl
end Dl
end Go.Proofs.YtemoddmadfoaiaaGreat
set_option maxHeartbeats 16000000
namespace Go.Proofs.YtemoddmadfoaiaaGreat
open Go.RowKit Big Reg Al Ga Dl
open Lib (hid)
def DealP (r:Except Int (List Lot × List Nt)) (w:World) (e:Ending) (w':World):Prop:=Below w.heap.size w w'∧match r with
 | .error c=>e=.returned (.tuple #[.agg #[.slice none 0 0],.slice none 0 0,.int .i64 c])
 | .ok (l',N)=>∃ v' bn,e=.returned (.tuple #[.agg #[v'],.slice (some ⟨bn,0,none⟩) N.length N.length,.int .i64 0])∧Own w' w.heap.size v' l'∧NtsAt w' bn N∧w.heap.size≤bn∧bn<w'.heap.size
def cntC (v:Value) (cof cbd:List Value) (z ser:Int):List Value:=v::(cof++(cbd++[.int .i64 z,.int .i64 ser]))
theorem Tryz.infoNt7:(Tryz.prog.info? 66).map (fun i=>(i.zero,i.size,i.bytes))=some (some (.agg #[.string ⟨#[]⟩,.string ⟨#[]⟩,.string ⟨#[]⟩,.int .i64 0,.int .i64 0,.int .i64 0,.slice none 0 0]),7,96):=by kernel_rfl
theorem Tryz.layPs:LaysAs Tryz.prog 98 #[.bool false,.nilFunc]:=by intro o ho b w;unfold execOp;simp only [ho];rfl
theorem Tryz.layNt:LaysAs Tryz.prog 66 zeroNt.toArray:=by intro o ho b w;unfold execOp;simp only [ho];rfl
theorem jhT {c:Prop} [Decidable c] {A E:Prop} (hc:c) (h:if c then A else E):A:=by rwa [if_pos hc] at h
theorem qpW {w w':World} (h:w.drew.grownBy w' (Value.ownBlock (.slice none 0 0))):Below w.heap.size w w':=⟨h.os,h.tape,h.output,h.size,fun k hk=>h.block k hk (by simp [Value.ownBlock])⟩
theorem jhB {P:Program} {op:Oper} {a:Act} {w:World} {K:Act→World→Prop} {Q:Exit→Act→World→Prop} {t:TypeId} {x:Operand} {cs:Array Value} (ho:op.op=.box t x) (hx:a.eval x=.agg cs) (h:K (a.put op.dst (.pointer (some ⟨w.heap.size,0,none⟩))) (w.alloc (.cells cs t))):op.wp P a w K Q:=by
 unfold Oper.wp execOp;simp only [ho,hx];exact h
theorem jdM {A:Option Addr} {n c:Nat}:Tryz.prog.built 40 [(0,.slice A n c)]=some #[.slice A n c]:=by kernel_rfl
theorem qzS {A:Option Addr} {n c:Nat} {cof cbd:List Value} {n1 m1 n2 m2:Bool} {p1 q1 p2 q2:Nat} {z ser:Int} (h1:cof=rat n1 p1 m1 q1) (h2:cbd=rat n2 p2 m2 q2) :
  Tryz.prog.built 96 [(0,.agg #[.slice A n c]),(1,.agg cof.toArray),(2,.agg cbd.toArray),(3,.int .i64 z),(4,.int .i64 ser)]=some (cntC (.slice A n c) cof cbd z ser).toArray:=by
 subst h1 h2;unfold cntC rat;kernel_rfl
theorem jgS {W:World} {g:Nat} {v:Value} {cof cbd:List Value} {z ser:Int} (l1:cof.length=66) (l2:cbd.length=66) (h:At W g 0 (cntC v cof cbd z ser)):Cnt W g v cof cbd z ser :=
 ⟨At.sub (xs:=[]) (ys:=[v]) h rfl,At.sub (xs:=[v]) (ys:=cof) h rfl,At.sub (xs:=v::cof) (ys:=cbd) (zs:=[.int .i64 z,.int .i64 ser]) (by unfold cntC at h;simpa using h) (by simp [l1]),At.sub (xs:=v::(cof++cbd)) (ys:=[.int .i64 z]) (zs:=[.int .i64 ser]) (by unfold cntC at h;simpa using h) (by simp [l1,l2]),
  At.sub (xs:=v::(cof++(cbd++[.int .i64 z]))) (ys:=[.int .i64 ser]) (zs:=[]) (by unfold cntC at h;simpa using h) (by simp [l1,l2])⟩
theorem qkD {cof cbd:List Value} {A:Option Addr} {cap pl:Nat} {vt:Value} {z ser:Int} {l:List Lot} {ts:List Tk} {offer bid:Qn} (hof:cof=ratZ offer.1 offer.2) (hbd:cbd=ratZ bid.1 bid.2) (hpo:Pc offer) (hpb:Pc bid) (hz:z=(pl:Int)) (h6:pl≤6) (hs0:0≤ser) (hs1:ser≤73048) (hC:checkB l=true) (hT:okT ts=true)
  (hnil:A=none→cap=0) (w:World) (hl:LotsAt w (.slice A l.length cap) l) (ht:TksAt w vt ts) :
  Calls Tryz.prog 19 #[.agg #[.slice A l.length cap],vt,.agg cof.toArray,.agg cbd.toArray,.int .i64 z,.int .i64 ser] w (DealP (dealL l ts offer bid pl ser) w):=by
 obtain ⟨nS,hnS⟩:=nqx (l.length);rw [←hnS] at hl ⊢;obtain ⟨AT,capT,hvt⟩:=Rd.form ht;obtain ⟨n,hn⟩:=nqx (ts.length);rw [←hn] at hvt;subst hvt;have hn64:n≤64:=by unfold okT at hT;simp only [Bool.and_eq_true,decide_eq_true_eq] at hT;omega
 obtain ⟨RES,hRES⟩:=nqx (dealL l ts offer bid pl ser);have HREM:=hid (show remO offer bid pl ser ts 0 l (List.replicate n zeroN)=RES by rw [hRES,hn];rfl);rw [←hRES];have V_cof:=hid (show cof=rat (decide (offer.1<0)) offer.1.natAbs false offer.2 from hof);have V_cbd:=hid (show cbd=rat (decide (bid.1<0)) bid.1.natAbs false bid.2 from hbd);obtain ⟨crg,V_crg⟩:=nvx ([.slice A nS cap]);obtain ⟨crz,V_crz⟩:=nvx ([.slice none 0 0]);rw [show (Value.agg #[.slice A nS cap])=.agg crg.toArray by rw [V_crg.out]]
 have HCK:=hid (fun W (h:Below w.heap.size w W)=>show CB 54 #[.agg crg.toArray] (.int .i64 0) W by
  rw [V_crg.out]
  have:=qkE (.slice A nS cap) l W (hl.below h)
  unfold OutE at this;rw [hC] at this;exact this)
 have HDC:=hid (fun W (h:Below w.heap.size w W)=>show CB 55 #[.slice AT n capT] (.int .i64 0) W by
  have:=quS _ ts W (ht.below h)
  unfold OutE at this;rw [hT] at this;exact this)
 have HP1:=hid (fun W=>(qiQ hpo) ▸ qjL (cr:=cof) V_cof.out (qaG hpo.vq.num) (qaG hpo.vq.den) W);have HP2:=hid (fun W=>(qiQ hpb) ▸ qjL (cr:=cbd) V_cbd.out (qaG hpb.vq.num) (qaG hpb.vq.den) W);have z1:¬z<0:=by omega
 have z2:¬6<z:=by omega
 have s1:¬ser<0:=by omega
 have s2:¬73048<ser:=by omega
 have HOKD:=hid (fun (k:Nat) (x:Tk) (hx:ts[k]?=some x)=>show OkD x.o∧(x.o.kind=1∨x.o.kind=2∨x.o.kind=3∨x.o.kind=4∨x.o.kind=5) from by
  have h2:okTAt ts k=true:=by
   unfold okT at hT;simp only [Bool.and_eq_true] at hT;exact List.all_eq_true.1 hT.2 k (List.mem_range.2 (List.getElem?_eq_some_iff.1 hx).1)
  simp only [okTAt,hx,Bool.and_eq_true,Bool.not_eq_true'] at h2;have h3:=h2.1.1;unfold okA at h3;rw [if_neg (by rw [h2.1.2];decide)] at h3;have h4:=jeE h3;have h5:=h4.ask.knd;exact ⟨h4,by omega⟩)
 have HRED:=hid (fun (g:Nat) (A:Option Addr) (cap:Nat) (l:List Lot) (o:Od) (ho:OkD o) (hk:subs o=false) (hc:checkB l=true) W hcn hll=>qwO (crg:=[]) (cod:=o.cells) (co:=cof) (cb:=cbd) (A:=A) (cap:=cap) (pl:=pl) (g:=g) (z:=z) (ser:=ser) (o:=o) (l:=l) (bid:=bid) rfl hbd hpb hz h6 ho.ask hk ho.acc hc W hcn hll);have HSUB:=hid (fun (g:Nat) (A:Option Addr) (cap:Nat) (l:List Lot) (o:Od) (ho:OkD o) (hk:subs o=true) (hc:checkB l=true) W hcn hll=>qoF (cod:=o.cells) (co:=cof) (cb:=cbd) (A:=A) (cap:=cap) (pl:=pl) (g:=g) (z:=z) (ser:=ser) (o:=o) (l:=l) (offer:=offer) rfl hof hpo hz h6 ho.ask ho.unt hk ho.acc hc hs0 hs1 W hcn hll)
 have HKEEP:=hid (fun (i:Nat) (l l':List Lot) (o:Od) (x:Nt) (ho:OkD o) (hk:selB i o=true) (hc:checkB l=true) (h:exeO offer bid pl ser i l o=.ok (l',x))=>show checkB l'=true by
  unfold exeO at h;unfold selB at hk;by_cases h0:i=0
  ·rw [if_pos h0] at h;exact qrX hpb h6 ho hc h
  ·rw [if_neg h0] at h hk;exact qrR hpo h6 ho hk hs0 hs1 hc h)
 have HC0:=hid hC;have HL0:=hid hl;have HT0:=hid ht;have HNS:=hid hnS;have HNT:=hid hn;have HNIL:=hid hnil;have HL66:=hid (show cof.length=66∧cbd.length=66 from ⟨by rw [V_cof.out,qaS],by rw [V_cbd.out,qaS]⟩);clear hnS hn hRES hof hbd hpo hpb hz h6 hs0 hs1 hC hT hnil hl ht;obtain ⟨B0,hB0⟩:=nqx (w.heap.size);obtain ⟨B1,hB1⟩:=nqx (w.heap.size+1);obtain ⟨B2,hB2⟩:=nqx (w.heap.size+1+1);obtain ⟨B3,hB3⟩:=nqx (w.heap.size+1+1+1);obtain ⟨w0,hw0⟩:∃ w0,w0=((((w.alloc (.cells crg.toArray 40)).alloc (.cells cof.toArray 27)).alloc (.cells cbd.toArray 27)).alloc (.cells #[.slice none 0 0] 40)):=⟨_,rfl⟩;have AB0:=hid (show At w0 B0 0 crg by rw [hw0];exact ((((show At (w.alloc (.cells crg.toArray 40)) B0 0 crg from At.fresh _ crg _ (by simp [hB0])).alloc _).alloc _).alloc _));have AB1:=hid (show At w0 B1 0 cof by rw [hw0];exact (((show At ((w.alloc (.cells crg.toArray 40)).alloc (.cells cof.toArray 27)) B1 0 cof from At.fresh _ cof _ (by simp [hB1])).alloc _).alloc _));have AB2:=hid (show At w0 B2 0 cbd by rw [hw0];exact ((show At (((w.alloc (.cells crg.toArray 40)).alloc (.cells cof.toArray 27)).alloc (.cells cbd.toArray 27)) B2 0 cbd from At.fresh _ cbd _ (by simp [hB2])).alloc _));have AB3:=hid (show At w0 B3 0 crz by rw [hw0];exact (show At ((((w.alloc (.cells crg.toArray 40)).alloc (.cells cof.toArray 27)).alloc (.cells cbd.toArray 27)).alloc (.cells #[.slice none 0 0] 40)) B3 0 crz from (by rw [V_crz.out];exact At.fresh _ [.slice none 0 0] _ (by simp [hB3]))));have FR:=hid (show Fr B0 w w0 by rw [hw0,hB0];exact ((((Fr.start w).alloc _).alloc _).alloc _).alloc _);have FR0:=hid FR.out.le;have l01:B0<B1:=by omega
 have hZB1:B0≤B1:=by omega
 have l12:B1<B2:=by omega
 have hZB2:B0≤B2:=by omega
 have l23:B2<B3:=by omega
 have hZB3:B0≤B3:=by omega
 have hZB0:B0≤B0:=Nat.le_refl _;have HB0:=hid hB0;go_enter Tryz.func19,Tryz.ntmps19
 go_upto_region 1 with fail
 rw [←hw0,←hB3,←hB2,←hB1,←hB0];clear hw0 hB0 hB1 hB2 hB3;refine wE [(25,aT crg),(26,iT 0),(15,iT 0)] (by simp only [zu];rfl) (by kernel_rfl) ?_ ?_
 ·intro W' hW';have hWW:∀ p:GB,Below w.heap.size w (gw W' p.d p.os):=fun p=>(show Below w.heap.size w W' from (by have:=FR.out.below;rw [HB0.out] at this;exact this.trans (hW'.mono (by have:=FR.out.le;have:=HB0.out;omega)))).trans ((qbG W' p.d p.os).mono (by have h1:=FR.out.le;have h2:=HB0.out;have h3:=hW'.size;omega))
  refine fxl (abl AB0 hW') (qjE V_crg.out) Tryz.underlying40 rfl rfl<|fo2 ?_ ?_<|fxn;all_goals (go_big_quiet_step (exact qaA (HCK.out _ (hWW ⟨_,_⟩)));exact wqn rfl)
 intro β wx1 E;replace FR:=fnf FR E rfl;replace AB0:=fnh AB0 E rfl;replace AB1:=fnh AB1 E rfl;replace AB2:=fnh AB2 E rfl;replace AB3:=fnh AB3 E rfl;simp only [nP,zu];replace FR0:=hid FR.out.le;go_upto_region 4 with fail
 refine wE [(31,.slice AT n capT),(32,iT 0),(16,iT 0)] (by simp only [zu];rfl) (by kernel_rfl) ?_ ?_
 ·intro W' hW';have hWW:∀ p:GB,Below w.heap.size w (gw W' p.d p.os):=fun p=>(show Below w.heap.size w W' from (by have:=FR.out.below;rw [HB0.out] at this;exact this.trans (hW'.mono (by have:=FR.out.le;have:=HB0.out;omega)))).trans ((qbG W' p.d p.os).mono (by have h1:=FR.out.le;have h2:=HB0.out;have h3:=hW'.size;omega))
  refine fo3 ?_ ?_ ?_<|fxn;all_goals (go_big_quiet_step (exact qaA (HDC.out _ (hWW ⟨_,_⟩)));exact wqn rfl)
 intro β wx2 E;replace FR:=fnf FR E rfl;replace AB0:=fnh AB0 E rfl;replace AB1:=fnh AB1 E rfl;replace AB2:=fnh AB2 E rfl;replace AB3:=fnh AB3 E rfl;simp only [nP,zu];replace FR0:=hid FR.out.le;go_upto_region 7 with fail
 refine wE [(38,aT cof),(39,bT),(40,bF),(41,bF),(42,aT cbd),(43,bT),(44,bF),(45,bF),(37,bF)] (by simp only [zu];rfl) (by kernel_rfl) ?_ ?_
 ·intro W' hW';refine lhR AB1 hW' V_cof rfl<|fo3 ?_ ?_ ?_<|lhR AB2 hW' V_cbd rfl<|fxo (by go_big_quiet_step (exact qaA (HP2.out _));exact wqn rfl)<|fo3 ?_ ?_ ?_<|fxn;all_goals (go_big_quiet_step (exact qaA (HP1.out _));exact wqn rfl)
 intro β wx3 E;replace FR:=fnf FR E rfl;replace AB0:=fnh AB0 E rfl;replace AB1:=fnh AB1 E rfl;replace AB2:=fnh AB2 E rfl;replace AB3:=fnh AB3 E rfl;simp only [nP,zu];replace FR0:=hid FR.out.le;go_upto_region 13 with fail
 have HBW:=hid (show Below w.heap.size w wx3 by have:=FR.out.below;rwa [HB0.out] at this);have HLX:=hid (HL0.out.below HBW.out)
 refine qkJ [(0,63,.pointer (some ⟨B0,0,none⟩)),(1,64,.slice A nS cap),(4,67,.agg cof.toArray),(5,68,.agg cbd.toArray),(6,69,.int .i64 z),(7,70,.int .i64 ser)] (fun v=>[(3,66,.agg #[v]),(8,71,.agg (cntC v cof cbd z ser).toArray)]) (fun v u=>[(10,17,u)]) 2 9 [3,8] [10] 65 72 (fun W=>Below wx3.heap.size wx3 W)
  (fun v W=>Below wx3.heap.size wx3 W∧Own W wx3.heap.size v l) (fun v u W=>∃ g,u=.pointer (some ⟨g,0,none⟩)∧Cnt W g v cof cbd z ser∧Own W wx3.heap.size v l∧Below wx3.heap.size wx3 W∧wx3.heap.size≤g∧v.ownBlock≠some g) _ _ (by kernel_rfl) (by kernel_rfl) (by rfl) (by rfl) (by rfl) (by rfl) (by rfl) (by rfl) (fun _=>rfl) (fun _ _=>rfl)
  (by intro v;simp only [putsA,List.foldl_cons,List.foldl_nil,zq];rfl) (by intro v u;simp only [putsA,List.foldl_cons,List.foldl_nil,zq];rfl) (qcC (Below.refl _ _)) ?_ ?_ ?_ ?_ ?_ ?_
 ·have c0:=fun W (h:Below wx3.heap.size wx3 W)=>qmN (((AB0.out.below h).one (k:=0) (v:=.slice A nS cap) (by rw [V_crg.out];rfl) rfl).1)
  have r1:=fun W (h:Below wx3.heap.size wx3 W)=>(AB1.out.below h).read (P:=Tryz.prog) Tryz.underlying27 rfl (qR V_cof.out)
  have r2:=fun W (h:Below wx3.heap.size wx3 W)=>(AB2.out.below h).read (P:=Tryz.prog) Tryz.underlying27 rfl (qR V_cbd.out)
  refine ⟨⟨_,rfl,rfl,.inl ⟨by rfl,fun _ _=>by rfl⟩⟩,?_⟩;simp only [zq];refine ⟨⟨_,rfl,rfl,.inl ⟨by rfl,fun W hW=>qaP rfl rfl (c0 W hW)⟩⟩,?_⟩;simp only [zq];refine ⟨⟨_,rfl,rfl,.inl ⟨by rfl,fun W hW=>qaP rfl rfl (r1 W hW)⟩⟩,?_⟩;simp only [zq];refine ⟨⟨_,rfl,rfl,.inl ⟨by rfl,fun W hW=>qaP rfl rfl (r2 W hW)⟩⟩,?_⟩;simp only [zq];refine ⟨⟨_,rfl,rfl,.inl ⟨by rfl,fun _ _=>by rfl⟩⟩,?_⟩;simp only [zq];refine ⟨⟨_,rfl,rfl,.inl ⟨by rfl,fun _ _=>by rfl⟩⟩,?_⟩;simp only [zq];exact trivial
 ·intro K hK;simp only [putsA,List.foldl_cons,List.foldl_nil,zq] at hK ⊢;obtain ⟨i0,hi,hz0,hz1,hz2⟩:=info_parts Tryz.info56;have hd:=qcC (Below.refl wx3.heap.size wx3);by_cases hA:A=none
  ·subst hA;have hc:=HNIL.out rfl
   have hl0:nS=0:=by
    obtain ⟨_,_,A',cap',hv,h3⟩:=HLX.out;rw [←HNS.out] at hv h3;injection hv with e1 e2 e3
    by_cases h:nS=0
    ·exact h
    ·obtain ⟨g,off,e,_⟩:=h3 (by omega);rw [←e1] at e;cases e
   subst hl0 hc;have hl1:l=[]:=List.eq_nil_of_length_eq_zero HNS.out.symm;refine jhT (E:=True) (by rfl) (qiL (P:=Tryz.prog) (ops:=#[]) rfl _ _ 38 rfl 0 56 i0 4 Tryz.underlying38 hi (.slice none 0 0) 0 [] rfl (World.ownsRow_nil _ _ _ _) rfl (hK _ _ hd ⟨hd,by rw [hl1];exact Own.nil _ _⟩))
  ·obtain ⟨ad,rfl⟩:∃ ad,A=some ad:=by cases A with|none=>exact absurd rfl hA|some ad=>exact ⟨ad,rfl⟩
   have hnews:∀ j u,(cellsL l)[j]?=some u→wx3.drew.cell? (ad.add j)=some u:=by
    obtain ⟨_,_,A',cap',hv,h3⟩:=HLX.out;injection hv with e1 e2 e3
    intro j u hj
    have hn0:0<l.length:=by
     have:=(List.getElem?_eq_some_iff.1 hj).1
     rw [qcE] at this;omega
    obtain ⟨g,off,e,hc⟩:=h3 hn0;rw [←e1] at e;injection e with e
    subst e;have e5:(⟨g,off,none⟩:Addr).add j=⟨g,off+j,none⟩:=by simp [Addr.add]
    rw [e5];exact quY (hc j u hj)
   have hn256:nS≤256:=by rw [HNS.out];exact (qaU HC0.out).1
   refine jhT (E:=True) (by rfl) (qjD (P:=Tryz.prog) (ops:=#[]) rfl _ _ 38 rfl wx3.heap.size 56 i0 _ 4 48 Tryz.underlying38 hi hz0 hz1 hz2 rfl (by decide) (.slice none 0 0) 0 [] rfl (World.ownsRow_nil _ _ _ _) ad nS cap (cellsL l) rfl (by rw [qcE,HNS.out]) hnews (qdU l) (by unfold maxLen;omega) (by omega) (Nat.le_refl _)
    (fun v' w' ho hg _=>hK v' w' (qpW hg) ⟨qpW hg,by
     rw [List.nil_append,Nat.zero_add] at ho;unfold Own;rw [←HNS.out];exact ho⟩))
 ·rintro v w1 ⟨hb1,ho1⟩;obtain ⟨A1,c1,rfl⟩:=Rd.form ho1.lots;simp only [putsA,List.foldl_cons,List.foldl_nil,zq];have hbc:=qzS (A:=A1) (n:=l.length) (c:=c1) (z:=z) (ser:=ser) V_cof.out V_cbd.out;refine ⟨⟨_,rfl,rfl,.inl ⟨by rfl,fun W _=>qdL rfl rfl jdM⟩⟩,?_⟩;simp only [zq];refine ⟨⟨_,rfl,rfl,.inl ⟨by rfl,fun W _=>qdL rfl rfl hbc⟩⟩,?_⟩;simp only [zq];exact trivial
 ·rintro v w1 K hS ⟨hb1,ho1⟩ hK;have hb2:=qaZ w1 (.cells (cntC v cof cbd z ser).toArray 96);have hs1:=hb1.size;refine jhB rfl rfl (hK _ _ (hb1.trans (hb2.mono hs1)) ⟨w1.heap.size,rfl,jgS HL66.out.1 HL66.out.2 (At.fresh w1 _ _ rfl),ho1.below hb2,hb1.trans (hb2.mono hs1),hs1,fun e=>by have:=(ho1.lt _ e).2;omega⟩)
 ·rintro v u w2 _;refine ⟨⟨_,rfl,rfl,.inl ⟨by rfl,fun _ _=>by rfl⟩⟩,?_⟩;simp only [zq];exact trivial
 rintro v u w4 ⟨g,rfl,hcn,hown,hb4,hg4,hne⟩;replace HBW:=hid (HBW.out.trans (hb4.mono HBW.out.size));have HA3:=hid (AB3.out.below hb4);have HCN:=hid hcn;have HOW:=hid (hown.base (show w.heap.size≤wx3.heap.size by have h1:=FR.out.le;have h2:=HB0.out;omega));have HNE:=hid hne;have HNR:=hid (show v.ownBlock≠some B3 from fun e=>by have h1:=(hown.lt _ e).1;have h2:=AB3.out.lt;omega);have hB3g:B3<g:=by have:=AB3.out.lt;omega
 have hwB3:w.heap.size≤B3:=by have:=HB0.out;omega
 have HGL:=hid hcn.reg.lt;clear hcn hown hb4 hg4 hne AB0 AB1 AB2 AB3 FR FR0 HLX;obtain ⟨i0,hi,hz0,hz1,hz2⟩:=info_parts Tryz.infoNt7
 have hmk:∀ W:World,(Instr.makeSlice 45 (.int .i64 (n:Int)) (.int .i64 (n:Int))).run Tryz.prog W=.ok (.slice (some ⟨W.heap.size,0,none⟩) n n) (W.alloc (.cells (List.replicate n zeroNt).flatten.toArray 66)):=by
  intro W;have h:=run_make (P:=Tryz.prog) W 45 66 i0 _ Tryz.underlying45 hi hz0 .i64 .i64 (n:Int) (n:Int) (by omega) (Int.le_refl _) (by rw [hz2];omega) (by omega);rw [hz1,Int.toNat_natCast] at h;rw [h,←jbV n];rfl
 clear hi hz0 hz1 hz2;go_upto_region 15 with fail
 obtain ⟨bn,hbn⟩:=nqx (w4.heap.size);obtain ⟨w5,hw5⟩:=nqx (w4.alloc (.cells (List.replicate n zeroNt).flatten.toArray 66));rw [←hbn,←hw5];have hb5:Below w4.heap.size w4 w5:=by rw [hw5];exact qaZ _ _
 have HN5:=hid (show NtsAt w5 bn (List.replicate n zeroN) from jbR (by rw [hw5,hbn];exact At.fresh _ _ _ rfl));replace HA3:=hid (HA3.out.below hb5);replace HCN:=hid (HCN.out.below hb5);replace HBW:=hid (HBW.out.trans (hb5.mono HBW.out.size));have HNN:=hid (show v.ownBlock≠some bn from fun e=>by have:=(HOW.out.lt _ e).2;omega);replace HOW:=hid (HOW.out.below hb5);have hgbn:g<bn:=by have:=HGL.out;omega
 have hbn5:w5.heap.size=bn+1:=by rw [hw5,hbn];simp
 have HS5:=hid hbn5;clear hbn hw5 hb5 hmk hbn5;obtain ⟨cps,V_cps⟩:=nvx ([.bool false,.func (.func 56) #[.pointer (some ⟨g,0,none⟩)] #[],.bool true,.func (.func 57) #[.pointer (some ⟨g,0,none⟩)] #[]]);have HBR:=hid (show ([[.bool false,.func (.func 56) #[.pointer (some ⟨g,0,none⟩)] #[]],[.bool true,.func (.func 57) #[.pointer (some ⟨g,0,none⟩)] #[]]]:List (List Value)).flatten=cps by rw [V_cps.out];rfl)
 go_upto_block 1 with (refine qiK rfl (len:=2) (s:=2) [[.bool false,.func (.func 56) #[.pointer (some ⟨g,0,none⟩)] #[]],[.bool true,.func (.func 57) #[.pointer (some ⟨g,0,none⟩)] #[]]] rfl (by simp [Act.eval]) rfl (by decide) (by decide) (by intro c hc;simp at hc;rcases hc with rfl|rfl<;>rfl) (by decide) Tryz.underlying99 (by kernel_rfl) (by kernel_rfl) ?_)
 obtain ⟨bp,hbp⟩:=nqx (w5.heap.size);obtain ⟨w6,hw6⟩:=nqx (w5.alloc (.cells #[.bool false,.func (.func 56) #[.pointer (some ⟨g,0,none⟩)] #[],.bool true,.func (.func 57) #[.pointer (some ⟨g,0,none⟩)] #[]] 98));rw [←hbp,←hw6];have hb6:Below w5.heap.size w5 w6:=by rw [hw6];exact qaZ _ _
 have HST0:=hid (show DSt w g bn bp B3 cof cbd cps crz z ser w6 v l (List.replicate n zeroN) from
  ⟨HCN.out.below hb6,HOW.out.below hb6,HNE.out,HNN.out,HNR.out,(HA3.out.below hb6).lt,HN5.out.below hb6,HA3.out.below hb6,by rw [hw6,V_cps.out];exact At.fresh _ [.bool false,.func (.func 56) #[.pointer (some ⟨g,0,none⟩)] #[],.bool true,.func (.func 57) #[.pointer (some ⟨g,0,none⟩)] #[]] _ hbp,HBW.out.trans (hb6.mono HBW.out.size),by have:=HS5.out;have:=hb6.size;omega⟩)
 have HLY:=hid (show DLy w g bn bp B3 from ⟨hwB3,hB3g,hgbn,by rw [hbp,HS5.out];omega⟩);have HZC:=hid V_crz.out;clear hbp hw6 hb6 HCN HOW HNE HNN HN5 HA3 HBW HS5 HGL HBR hB3g hwB3 hgbn;go_wp2_with fail
 go_loopg [84] 2 (fun m iv wr=>∃ (i:Nat) (lk:List Lot) (Nk:List Nt) (vk:Value),iv=.int .i64 i∧i≤2∧2≤m+i∧remO offer bid pl ser ts i lk Nk=RES∧checkB lk=true∧Nk.length=n∧DSt w g bn bp B3 cof cbd cps crz z ser wr vk lk Nk)
 case atStart=>exact ⟨0,l,_,v,rfl,by omega,by omega,HREM.out,HC0.out,by simp,HST0.out⟩
 case round =>
  obtain ⟨i,lk,Nk,vk,rfl,hi2,hmm,hrem,hck,hnk,hst⟩:=hrel;have HR:=hid hrem;have HCK2:=hid hck;have HNK:=hid hnk;have HST:=hid hst;clear hrem hck hnk hst;by_cases hlt:i<2
  ·obtain ⟨inB,F,hfn,hq0,hq1,hsel,hexe⟩:∃ (inB:Bool) (F:FuncId),(∀ (xs:Array Value) (W:World),(callFunc F xs).run Tryz.prog W=.ok (.enter F xs) W)∧wr.cell? ⟨bp,i*2,none⟩=some (.bool inB)∧wr.cell? ⟨bp,i*2+1,none⟩=some (.func (.func F) #[.pointer (some ⟨g,0,none⟩)] #[])∧(∀ o:Od,selB i o=!((decide (o.kind=1) || decide (o.kind=2)) != inB)) ∧
     (∀ (A:Option Addr) (cap:Nat) (lk:List Lot) (o:Od),OkD o→selB i o=true→checkB lk=true→∀ W,Cnt W g (.slice A lk.length cap) cof cbd z ser→LotsAt W (.slice A lk.length cap) lk→Calls Tryz.prog F #[.pointer (some ⟨g,0,none⟩),.agg o.cells.toArray] W (ExeP g (.slice A lk.length cap) lk cof cbd z ser (exeO offer bid pl ser i lk o) W)):=by
    have hp:=HST.out.pas;rw [V_cps.out] at hp;obtain rfl|rfl:i=0∨i=1:=by omega
    ·refine ⟨false,_,Tryz.callR,(hp.one (k:=0) rfl rfl).1,(hp.one (k:=1) rfl rfl).1,fun o=>by simp [selB,subs],fun A cap lk o ho hs hc W h1 h2=>?_⟩;exact HRED.out g A cap lk o ho (by simpa [selB] using hs) hc W h1 h2
    ·refine ⟨true,_,Tryz.callS,(hp.one (k:=2) rfl rfl).1,(hp.one (k:=3) rfl rfl).1,fun o=>by simp [selB,subs],fun A cap lk o ho hs hc W h1 h2=>?_⟩;exact HSUB.out g A cap lk o ho (by simpa [selB] using hs) hc W h1 h2
   have HEXE:=hid hexe;have HFN:=hid hfn;clear hfn;have HSEL:=hid hsel;clear hexe hsel;obtain ⟨bq,hbq⟩:=nqx (wr.heap.size);go_upto_region 18 with (refine qfB Tryz.layPs rfl rfl rfl rfl (cs:=[.bool inB,.func (.func F) #[.pointer (some ⟨g,0,none⟩)] #[]]) rfl rfl rfl (by kernel_rfl) (by simp [Value.oneCell']) ?_;intro w7 hb7 hA7)
   rw [←hbq] at hA7 ⊢;have HQ:=hid hA7;clear hA7;have hgq:g<bq∧bn<bq:=by have h1:=HST.out.bnl;have h2:=HLY.out.gn;omega
   replace HST:=hid (HST.out.up hb7);obtain ⟨T,hT⟩:=nqx (passP (selB i) (exeO offer bid pl ser i) ts 0 lk Nk);have HT:=hid (show passP (selB i) (exeO offer bid pl ser i) (ts.drop 0) 0 lk Nk=T by rw [hT];rfl);have HRT:=hid (show RES=nextO offer bid pl ser ts i T by rw [←HR.out,jbI _ _ _ _ _ i hlt,←hT]);obtain ⟨G0,hG0⟩:=nqx gk;have HG0:=hid hG0;clear hbq hb7 hT hq0 hq1 hG0;go_wp2_with fail
   go_loopg [90] n (fun m iv wr2=>∃ (k:Nat) (lq:List Lot) (Nq:List Nt) (vq:Value),iv=.int .i64 k∧k≤n∧n≤m+k∧passP (selB i) (exeO offer bid pl ser i) (ts.drop k) k lq Nq=T∧checkB lq=true∧Nq.length=n∧DSt w g bn bp B3 cof cbd cps crz z ser wr2 vq lq Nq∧At wr2 bq 0 [.bool inB,.func (.func F) #[.pointer (some ⟨g,0,none⟩)] #[]])
   case atStart=>exact ⟨0,lk,Nk,vk,rfl,by omega,by omega,HT.out,HCK2.out,HNK.out,HST.out,HQ.out⟩
   case round =>
    obtain ⟨k,lq,Nq,vq,rfl,hkn,hmk2,hpas,hcq,hnq,hsq,haq⟩:=hrel;have HP:=hid hpas;have HCQ:=hid hcq;have HNQ:=hid hnq;have HSQ:=hid hsq;have HAQ:=hid haq;clear hpas hcq hnq hsq haq HST HQ HT HCK2 HNK HR;by_cases hkl:k<n
    ·obtain ⟨x,hx⟩:∃ x,ts[k]?=some x:=⟨ts[k]'(by rw [←HNT.out];exact hkl),by simp [←HNT.out,hkl]⟩;have HX:=hid hx;obtain ⟨gt,ot,hAT,hcx⟩:=jaN HT0.out HSQ.out.bel hx;subst hAT;have c0:=hcx 0 (.string x.o.key) rfl;have c1:=hcx 1 (.string x.o.nom) rfl;have c2:=hcx 2 (.string x.o.hol) rfl;have c3:=hcx 3 (.string x.o.fund) rfl;have c4:=hcx 4 (.string x.o.cls) rfl;have c5:=hcx 5 (.int .i64 x.o.kind) rfl;have c6:=hcx 6 (.int .i64 x.o.amount) rfl;have c7:=hcx 7 (.int .i64 x.o.units) rfl;have c8:=hcx 8 (.int .i64 x.o.at_) rfl;have c9:=hcx 9 (.int .i64 x.o.known) rfl;have c10:=hcx 10 (.bool x.o.void) rfl;have c11:=hcx 11 (.int .i64 x.day) rfl;have c12:=hcx 12 (.int .i64 x.first) rfl;rw [Nat.add_zero] at c0;clear hcx hx;obtain ⟨Aq,cq,rfl⟩:=Rd.form HSQ.out.own.lots;go_upto_region 21 with fail
     obtain ⟨bx,hbx⟩:=nqx (wr.heap.size);obtain ⟨w8,hw8⟩:=nqx (wr.alloc (.cells #[.string x.o.key,.string x.o.nom,.string x.o.hol,.string x.o.fund,.string x.o.cls,.int .i64 x.o.kind,.int .i64 x.o.amount,.int .i64 x.o.units,.int .i64 x.o.at_,.int .i64 x.o.known,.bool x.o.void,.int .i64 x.day,.int .i64 x.first] 60));rw [←hbx,←hw8];have hb8:Below wr.heap.size wr w8:=by rw [hw8];exact qaZ _ _
     have HAX:=hid (show At w8 bx 0 [.string x.o.key,.string x.o.nom,.string x.o.hol,.string x.o.fund,.string x.o.cls,.int .i64 x.o.kind,.int .i64 x.o.amount,.int .i64 x.o.units,.int .i64 x.o.at_,.int .i64 x.o.known,.bool x.o.void,.int .i64 x.day,.int .i64 x.first] by rw [hw8];exact At.fresh _ [.string x.o.key,.string x.o.nom,.string x.o.hol,.string x.o.fund,.string x.o.cls,.int .i64 x.o.kind,.int .i64 x.o.amount,.int .i64 x.o.units,.int .i64 x.o.at_,.int .i64 x.o.known,.bool x.o.void,.int .i64 x.day,.int .i64 x.first] _ hbx);replace HSQ:=hid (HSQ.out.up hb8);replace HAQ:=hid (HAQ.out.below hb8);obtain ⟨sb,hsb⟩:∃ b,b=(decide (x.o.kind=1) || decide (x.o.kind=2)):=⟨_,rfl⟩;have HDS:=hid (hsb ▸ jcX x.o.kind);have HSB:=hid (show selB i x.o=!(sb != inB) by rw [hsb];exact HSEL.out x.o);have HKX:=hid (HOKD.out k x HX.out).1;have FR:=hid (Fr.start w8);have FR0:=hid FR.out.le;clear c0 c1 c2 c3 c4 c5 c6 c7 c8 c9 c10 c11 c12 hbx hw8 hb8 hsb;refine wE [(95,pT bx 0),(96,pT bx 5),(97,iT x.o.kind),(98,.bool sb),(99,pT bq 0),(100,.bool inB),(101,.bool (sb != inB))] (by simp only [zu];rfl) (by kernel_rfl) ?_ ?_
     ·intro W' hW';have zk:=((HAX.out.below hW').one (k:=5) (v:=.int .i64 x.o.kind) rfl rfl).1;have zi:=((HAQ.out.below hW').one (k:=0) (v:=.bool inB) rfl rfl).1;refine fo2 ?_ ?_<|fxc zk (fun W h=>by simp [loadVar,h,go_sem]) rfl<|fo2 ?_ ?_<|fxc zi (fun W h=>by simp [loadVar,h,go_sem]) rfl<|fxo ?_<|fxn;all_goals (go_big_quiet_step (exact qaA (HDS.out _));exact wqn rfl)
     intro β wx1 E;replace FR:=fnf FR E rfl;simp only [nP,zu];replace FR0:=hid FR.out.le;replace HSQ:=hid (HSQ.out.up FR.out.below);replace HAQ:=hid (HAQ.out.below FR.out.below);replace HAX:=hid (HAX.out.below FR.out.below);clear FR FR0;obtain ⟨w9,hw9⟩:=nqx wx1;rw [←hw9] at HSQ HAQ HAX ⊢;clear hw9;obtain ⟨nb,hnb⟩:∃ b,b=(sb != inB):=⟨_,rfl⟩;rw [←hnb];have HNB:=hid hnb;clear hnb;by_cases hs:selB i x.o=true
     ·obtain rfl:nb=false:=by rw [HNB.out];have:=HSB.out;rw [hs] at this;exact (show ∀ a b:Bool,true=!(a != b)→(a != b)=false by decide) _ _ this
      have HSL:=hid hs;have q1:w9.cell? ⟨bq,1,none⟩=some (.func (.func F) #[.pointer (some ⟨g,0,none⟩)] #[]):=(HAQ.out.one (k:=1) rfl rfl).1;have x0:=(HAX.out.one (k:=0) (v:=.string x.o.key) rfl rfl).1;have x1:=(HAX.out.one (k:=1) (v:=.string x.o.nom) rfl rfl).1;have x2:=(HAX.out.one (k:=2) (v:=.string x.o.hol) rfl rfl).1;have x3:=(HAX.out.one (k:=3) (v:=.string x.o.fund) rfl rfl).1;have x4:=(HAX.out.one (k:=4) (v:=.string x.o.cls) rfl rfl).1;have x5:=(HAX.out.one (k:=5) (v:=.int .i64 x.o.kind) rfl rfl).1;have x6:=(HAX.out.one (k:=6) (v:=.int .i64 x.o.amount) rfl rfl).1;have x7:=(HAX.out.one (k:=7) (v:=.int .i64 x.o.units) rfl rfl).1;have x8:=(HAX.out.one (k:=8) (v:=.int .i64 x.o.at_) rfl rfl).1;have x9:=(HAX.out.one (k:=9) (v:=.int .i64 x.o.known) rfl rfl).1;have x10:=(HAX.out.one (k:=10) (v:=.bool x.o.void) rfl rfl).1;have hexr:=HEXE.out Aq cq lq x.o HKX.out hs HCQ.out w9 HSQ.out.cnt HSQ.out.own.lots;clear hs
      cases hres:exeO offer bid pl ser i lq x.o with
      | error c =>
       rw [hres] at hexr;have HXR:=hid hexr;have hc0:(c==0)=false:=beq_eq_false_iff_ne.2 (jgL hres)
       have HTE:=hid (show RES=.error c by
        have h1:=HP.out;rw [qqU HX.out,if_pos HSL.out,hres] at h1;rw [HRT.out,←h1];rfl)
       clear hexr hres;go_upto_region 23 with (first|(refine qiC (args:=#[.pointer (some ⟨g,0,none⟩),.agg x.o.cells.toArray]) rfl rfl rfl (by simp [Act.eval,Od.cells]) HFN.out (D:=fun v w10=>w9.grownBy w10 (some g)∧v=.tuple #[.agg zeroNt.toArray,.int .i64 c]) (HXR.out.mono ?_) ?_;(rintro e w10 ⟨hg,rfl⟩;exact ⟨_,rfl,hg,rfl⟩);rintro v w10 ⟨hg,rfl⟩;have HG10:=hid hg;clear hg)|(refine qfB Tryz.layNt rfl rfl rfl rfl (cs:=zeroNt) rfl rfl rfl (by kernel_rfl) (by simp [zeroNt,ntC,Value.oneCell']) ?_;intro w11 hb11 hA11))
       have h2:=HLY.out.wr;have h3:=HLY.out.rg;have r0:=(HSQ.out.res.gro HG10.out (by omega)).below hb11;rw [HZC.out] at r0;have r0c:=(r0.one (k:=0) rfl rfl).1;have r0f:=(r0.one (k:=0) rfl rfl).2;have HR0:=hid r0;have HBZ:=hid (show Below w.heap.size w w11 from (HSQ.out.bel.grown HG10.out HSQ.out.bel.size (by intro r hr;injection hr with hr;omega)).trans (hb11.mono (Nat.le_trans HSQ.out.bel.size HG10.out.size)));clear r0 hb11 hA11;go_wp2_with fail
       have A3:=HR0.out.set (k:=0) (v:=.slice none 0 0) (by rfl) (by decide);have hld:=A3.read (P:=Tryz.prog) Tryz.underlying40 rfl (qjE rfl);refine bodyPost_ret (v:=.tuple #[.agg #[.slice none 0 0],.slice none 0 0,.int .i64 c]) (by simp [results,Tryz.results19,asAddr,hld]) rfl ?_;rw [HTE.out];exact ⟨qbN HBZ.out _ _ h2,rfl⟩
      | ok p =>
       obtain ⟨l',x'⟩:=p;rw [hres] at hexr;have HXR:=hid hexr;have HKE:=hid (HKEEP.out i lq l' x.o x' HKX.out HSL.out HCQ.out hres)
       have HTE:=hid (show passP (selB i) (exeO offer bid pl ser i) (ts.drop (k+1)) (k+1) l' (Nq.set k x')=T by
        have h1:=HP.out;rw [qqU HX.out,if_pos HSL.out,hres] at h1;exact h1)
       clear hexr hres;go_upto_region 25 with (first|(refine qiC (args:=#[.pointer (some ⟨g,0,none⟩),.agg x.o.cells.toArray]) rfl rfl rfl (by simp [Act.eval,Od.cells]) HFN.out (D:=fun v w10=>w9.grownBy w10 (some g)∧∃ v' vl,v=.tuple #[.agg (ntX x' vl).toArray,.int .i64 0]∧Cnt w10 g v' cof cbd z ser∧(Own w10 w9.heap.size v' l'∨v'=.slice Aq lq.length cq∧l'=lq)∧Own w10 w9.heap.size vl x'.lots) (HXR.out.mono ?_) ?_;(rintro e w10 ⟨hg,v',vl,rfl,h1,h2,h3⟩;exact ⟨_,rfl,hg,v',vl,rfl,h1,h2,h3⟩);rintro v w10 ⟨hg,v',vl,rfl,hc,ho,hl2⟩;have HS10:=hid (HSQ.out.exe HLY.out hg hc ho);have HG10:=hid hg;obtain ⟨A2,c2,rfl⟩:=Rd.form hl2.lots;have HL2:=hid hl2;clear hg hc ho hl2)|(refine qfB Tryz.layNt rfl rfl rfl rfl (cs:=ntX x' (.slice A2 x'.lots.length c2)) rfl rfl rfl (qbA rfl) (qgX rfl rfl) ?_;intro w11 hb11 hA11))
       have hbnq:=HLY.out.gn;have h4:=HLY.out.np;obtain ⟨bz,hbz⟩:=nqx (w10.heap.size);rw [←hbz] at hA11 ⊢;obtain ⟨cs,hcs⟩:=nqx (ntX x' (.slice A2 x'.lots.length c2));rw [←hcs] at hA11;have HCS:=hid hcs;have HA11:=hid hA11;have HS11:=hid (HS10.out.up hb11);have HL11:=hid (show Own w11 (bn+1) (.slice A2 x'.lots.length c2) x'.lots from (HL2.out.below hb11).base (by have:=HSQ.out.bnl;omega));have HQ11:=hid ((HAQ.out.gro HG10.out (by omega)).below hb11);have hkN:k<Nq.length:=by rw [HNQ.out];exact hkl
       have HZ:=hid (show (Tryz.prog.info? 66).map (·.size)=some cs.length by rw [hcs];exact qbA rfl);have HZ2:=hid (show (Tryz.prog.info? 66).map (·.size)=some cs.toArray.size by rw [List.size_toArray];exact HZ.out);have HON:=hid (show cs.toArray.all (·.oneCell')=true by rw [hcs];exact qgX rfl rfl)
       have HTH:=hid (show w11.there bn (k*7) cs.toArray.size by
        obtain ⟨v0,h1,_⟩:=HS11.out.nts k _ (List.getElem?_eq_getElem hkN);have h2:=h1.there;rw [qxM] at h2;rw [List.size_toArray,hcs];exact h2)
       clear hb11 hA11 hbz hcs;go_wp2_with (first|(refine wpList_load_mid rfl _ _ rfl bz 0 rfl cs _ HA11.out.range Tryz.underlying66 rfl HZ.out ?_)|(refine wpList_store_mid rfl _ _ _ rfl bn (k*7) _ rfl rfl HTH.out HZ2.out HON.out ?_))
       obtain ⟨w12,hw12⟩:=nqx (w11.setCells bn (k*7) cs);have HS12:=hid (show DSt w g bn bp B3 cof cbd cps crz z ser w12 v' l' (Nq.set k x') by rw [hw12,HCS.out];exact HS11.out.put HLY.out hkN HL11.out)
       have HQ12:=hid (show At w12 bq 0 [.bool inB,.func (.func F) #[.pointer (some ⟨g,0,none⟩)] #[]] by
        rw [hw12]
        have hgx:w11.grownBy (w11.setCells bn (k*7) cs) (some bn):=by
         have h2:=qaC (B:=bn) (b:=bn) (Nat.le_refl _) cs (k*7) w11 (Below.refl _ _);exact ⟨h2.os,h2.tape,h2.output,h2.size,fun q hq hr=>qcJ q bn (fun e=>hr (by rw [e])) cs (k*7) w11⟩
        exact HQ11.out.gro hgx (by omega))
       first|rw [List.toList_toArray,←hw12]|rw [←hw12]
       clear hw12;go_roundg (gk - 1)
       case measure=>omega
       case rel=>exact ⟨k+1,l',Nq.set k x',v',by go_num,by omega,by omega,HTE.out,HKE.out,by rw [List.length_set];exact HNQ.out,HS12.out,HQ12.out⟩
     ·obtain rfl:nb=true:=by rw [HNB.out];have:=HSB.out;rw [Bool.eq_false_iff.2 hs] at this;exact (show ∀ a b:Bool,false=!(a != b)→(a != b)=true by decide) _ _ this
      have HTE:=hid (show passP (selB i) (exeO offer bid pl ser i) (ts.drop (k+1)) (k+1) lq Nq=T by
       have h1:=HP.out;rw [qqU HX.out,if_neg hs] at h1;exact h1)
      clear hs;go_wp2_with fail
      go_roundg (gk - 1)
      case measure=>omega
      case rel=>exact ⟨k+1,lq,Nq,_,by go_num,by omega,by omega,HTE.out,HCQ.out,HNQ.out,HSQ.out,HAQ.out⟩
    ·have hkn2:k=n:=by omega
     have HTE:=hid (show T=.ok (lq,Nq) by
      have h1:=HP.out;rw [List.drop_eq_nil_of_le (by have:=HNT.out;omega)] at h1;exact h1.symm)
     clear hkn2;go_wp2_with fail
     go_roundg (G0 - 1)
     case measure=>have:=HG0.out;omega
     case rel=>exact ⟨i+1,lq,Nq,vq,by go_num,by omega,by (have:=HG0.out;omega),by rw [HRT.out,HTE.out];rfl,HCQ.out,HNQ.out,HSQ.out⟩
  ·have hi:i=2:=by omega
   subst hi;have HE:=hid (show RES=.ok (lk,Nk) from HR.out.symm);obtain ⟨Ak,ck,rfl⟩:=Rd.form HST.out.own.lots;obtain ⟨NL,hNL⟩:=nqx (lk.length);rw [←hNL] at HST;have g0:=(HST.out.cnt.reg.one (k:=0) rfl rfl).1;have r0:=HST.out.res;rw [HZC.out] at r0;have r0c:=(r0.one (k:=0) rfl rfl).1;have r0f:=(r0.one (k:=0) rfl rfl).2;have HR0:=hid r0;clear r0 hNL;go_wp2_with fail
   have A3:=HR0.out.set (k:=0) (v:=.slice Ak NL ck) (by rfl) (by decide);have hld:=A3.read (P:=Tryz.prog) Tryz.underlying40 rfl (qjE rfl);refine bodyPost_ret (v:=.tuple #[.agg #[.slice Ak NL ck],.slice (some ⟨bn,0,none⟩) n n,.int .i64 0]) (by simp [results,Tryz.results19,asAddr,hld]) rfl ?_;rw [HE.out];have h1:=HLY.out.wr;have h2:=HLY.out.rg;have h3:=HLY.out.gn;have hgs:=qbF (w:=wr) ⟨B3,0,none⟩ rfl (.slice Ak NL ck);refine ⟨qbN HST.out.bel _ _ h1,.slice Ak NL ck,bn,by rw [HNK.out],?_,?_,by omega,?_⟩
   ·exact World.ownsRow.kept HST.out.own hgs (.inr HST.out.nr)
   ·exact HST.out.nts.grown hgs (show B3<bn by omega)
   ·have:=HST.out.bnl;simpa [World.setCell] using this
end Go.Proofs.YtemoddmadfoaiaaGreat
set_option maxHeartbeats 4000000
namespace Go.Proofs.YtemoddmadfoaiaaGreat
open Go.RowKit Big Reg Al Ga Dl
def tkO (key:ByteArray) (kind amount units:Int):Tk:=⟨⟨key,⟨#[]⟩,⟨#[97,110,110]⟩,⟨#[97,108,112,104,97]⟩,⟨#[97]⟩,kind,amount,units,0,1,false⟩,0,0⟩
theorem qmT (key:ByteArray) (k m u:Int) (w:World) :
  CB 48 #[.string key,.int .i64 k,.int .i64 m,.int .i64 u] (.agg (tkO key k m u).cells.toArray) w:=by
 go_enter Tryz.func48,Tryz.ntmps48
 go_upto_region 1 with fail
 obtain ⟨X,hX⟩:=nqx (w.heap.size);go_wp2_with fail
 have A:=At.fresh w (tkO key k m u).cells 60 rfl;have hld:=A.read (P:=Tryz.prog) Tryz.underlying60 rfl (by kernel_rfl);refine bodyPost_ret (v:=.agg (tkO key k m u).cells.toArray) (by simp only [results,Tryz.results48];simp [asAddr];exact hld) rfl ?_;exact ⟨rfl,qaZ w _⟩
end Go.Proofs.YtemoddmadfoaiaaGreat
set_option maxHeartbeats 8000000
namespace Go.Proofs.YtemoddmadfoaiaaGreat
open Go.RowKit Big Reg Al Ga Dl
open Lib (hid)
def ann:ByteArray:=⟨#[97,110,110]⟩
def tA:Tk:=tkO ⟨#[97]⟩ 1 1000 0
def tB:Tk:=tkO ⟨#[98]⟩ 2 0 3
def nA:Nt:=⟨⟨#[97]⟩,⟨#[]⟩,ann,1,3,1000,[⟨⟨#[]⟩,ann,0,3⟩]⟩
def nB:Nt:=⟨⟨#[98]⟩,⟨#[]⟩,ann,2,3,900,[⟨⟨#[]⟩,ann,0,3⟩]⟩
theorem jgQ:dealL [] [tA,tB] (3,1) (3,1) 0 0=.ok ([⟨⟨#[]⟩,ann,0,6⟩],[nA,nB]):=by kernel_rfl
theorem jhS:okT [tA,tB]=true:=by decide +kernel
def tC:Tk:=tkO ⟨#[97]⟩ 4 1000 0
def lC:Lot:=⟨⟨#[]⟩,ann,0,9⟩
def nC:Nt:=⟨⟨#[97]⟩,⟨#[]⟩,ann,4,4,1000,[⟨⟨#[]⟩,ann,0,4⟩]⟩
theorem jiH:dealL [lC] [tC] (3,1) (3,1) 0 0=.ok ([⟨⟨#[]⟩,ann,0,5⟩],[nC]):=by kernel_rfl
theorem okT_c:okT [tC]=true:=by decide +kernel
def Dld (b:Nat) (l:List Lot) (N:List Nt) (v:Value) (W:World):Prop:=∃ v' bn,v=.tuple #[.agg #[v'],.slice (some ⟨bn,0,none⟩) N.length N.length,.int .i64 0]∧Own W b v' l∧NtsAt W bn N∧b≤bn∧bn<W.heap.size
theorem Dld.upB {b:Nat} {l:List Lot} {N:List Nt} {v:Value} {x y:World} (h:Dld b l N v x) (hb:Below x.heap.size x y):Dld b l N v y:=by
 obtain ⟨v',bn,e,h1,h2,h3,h4⟩:=h;exact ⟨v',bn,e,h1.below hb,h2.below hb,h3,by have:=hb.size;omega⟩
theorem Dld.upG {b:Nat} {l:List Lot} {N:List Nt} {v:Value} {x y:World} {X:Nat} (h:Dld b l N v x) (hg:x.grownBy y (some X)) (hX:X<b):Dld b l N v y:=by
 obtain ⟨v',bn,e,h1,h2,h3,h4⟩:=h;exact ⟨v',bn,e,World.ownsRow.kept h1 hg (.inr fun e=>by have:=(h1.lt X e).1;omega),h2.grown hg (by omega),h3,by have:=hg.size;omega⟩
theorem pc3:Pc ((3,1):Qn):=⟨⟨by decide +kernel,by decide +kernel,by decide,by decide⟩,by decide⟩
theorem Dld.nts {b bn n m:Nat} {l:List Lot} {N:List Nt} {v e:Value} {W:World} (h:Dld b l N (.tuple #[.agg #[v],.slice (some ⟨bn,0,none⟩) n m,e]) W):Own W b v l∧NtsAt W bn N∧b≤bn∧bn<W.heap.size:=by
 obtain ⟨v',bn',he,h1,h2,h3,h4⟩:=h;simp at he
 obtain ⟨rfl,⟨rfl,_⟩,_⟩:=he;exact ⟨h1,h2,h3,h4⟩
theorem NtsAt.cel {W:World} {bn k:Nat} {N:List Nt} {x:Nt} (h:NtsAt W bn N) (hx:N[k]?=some x) {p q:Nat} (hp:p=k*7+4) (hq:q=k*7+5):W.cell? ⟨bn,p,none⟩=some (.int .i64 x.units)∧W.cell? ⟨bn,q,none⟩=some (.int .i64 x.money):=by
 obtain ⟨v,h1,_⟩:=h k x hx;subst hp hq;exact ⟨h1.cell (j:=4) rfl,h1.cell (j:=5) rfl⟩
theorem jfO {W:World} {b g o q n:Nat} {x:Lot} (h:Own W b (.slice (some ⟨g,o,none⟩) n q) [x]):W.cell? ⟨g,o+3,none⟩=some (.int .i64 x.units):=by
 obtain ⟨_,_,A,cap,he,h3⟩:=h.lots;obtain ⟨g',o',rfl,h4⟩:=h3 (by simp);simp at he
 obtain ⟨⟨rfl,rfl⟩,_⟩:=he;exact h4 3 _ rfl
theorem qxZ {W:World} {l:List Lot} (hn:0<l.length) (h64:l.length≤64):LotsAt (W.alloc (.cells (cellsL l).toArray 56)) (.slice (some ⟨W.heap.size,0,none⟩) l.length l.length) l:=by
 have h:=(At.fresh W (cellsL l) 56 rfl).range;refine ⟨by rw [qcE],by omega,_,_,rfl,fun _=>⟨_,0,rfl,fun k u hu=>?_⟩⟩
 have:=h k u hu;rwa [Nat.zero_add] at this ⊢
theorem jbX {W:World}:LotsAt W (.slice none (([]:List Lot).length) 0) []:=(Own.nil W 0).lots
theorem qzR:Tryz.prog.built 40 []=some #[.slice none 0 0]:=by kernel_rfl
theorem qwJ {W:World} {ts:List Tk} (hn:0<ts.length) (h64:ts.length≤64):TksAt (W.alloc (.cells (cellsT ts).toArray 60)) (.slice (some ⟨W.heap.size,0,none⟩) ts.length ts.length) ts:=by
 have h:=(At.fresh W (cellsT ts) 60 rfl).range;refine ⟨by rw [quV],by omega,_,_,rfl,fun _=>⟨_,0,rfl,fun k u hu=>?_⟩⟩
 have:=h k u hu;rwa [Nat.zero_add] at this ⊢
theorem qtD (w:World) :
  CB 13 #[] (.bool true) w:=by
 obtain ⟨cR,V_cR⟩:=nvx (rat false 3 false 1);have HR:=hid (fun W=>qrT (cR:=cR) (x:=3) (y:=1) (d:=1) rfl (by decide) (by rw [V_cR.out];kernel_rfl) (by decide) (by decide) (by decide) W);obtain ⟨B0,hB0⟩:=nqx (w.heap.size);have FR:=hid (show Fr B0 w w by rw [hB0];exact Fr.start w);have FR0:=hid FR.out.le;have hZB0:B0≤B0:=Nat.le_refl _;have HB0:=hid hB0;go_enter Tryz.func13,Tryz.ntmps13
 go_upto_region 1 with fail
 clear hB0;refine wT [⟨true,1,1,2,0,0,27,9,cR,0,cR,[]⟩] [(9,aT cR)] (by simp only [zu];rfl) (by kernel_rfl) rfl ?_ ?_ ?_ ?_
 ·intro W' hW';refine fxo ?_<|fxs rfl<|fxs rfl<|fxn
  go_big_quiet_step (exact qaA (HR.out _));exact wqn rfl
 ·exact fP1 (Tryz.alR (qR V_cR.out))
 ·exact fP1 (sR V_cR (fun _=>rfl) rfl)
 intro β wx1 E;replace FR:=fnf FR E rfl;obtain ⟨b1,hb1,eb1⟩:=nwb E mms;have hZb1:B0≤b1:=Nat.le_trans FR0.out eb1.1;have Ab1:=hid eb1.2;simp only [nP,zu];rw [←hb1];clear E eb1 hb1;go_upto_region 2 with fail
 have HB1:=hid (show Below w.heap.size w wx1 by have:=FR.out.below;rwa [HB0.out] at this);refine qfA [(0,11,.agg #[.slice none 0 0]),(4,15,.agg cR.toArray),(5,16,.agg cR.toArray)] [(1,[]),(2,[]),(3,[])] 6 11 12 [7,8,9,10] [13,14] 17 2 40 (.tmp 2) (.tmp 18) #[.slice none 0 0] undef (by kernel_rfl) (by kernel_rfl) (by rfl) (by rfl) (by rfl) (by rfl) (by rfl) (by rfl) (by rfl) (by rfl) (by rfl) (by rfl) (by rfl) Tryz.layRg (by kernel_rfl) (by simp only [putsA,List.foldl_cons,List.foldl_nil,zq]) ?_ ?_
 ·have r1:=fun W (h:Below wx1.heap.size wx1 W)=>(Ab1.out.below h).read (P:=Tryz.prog) Tryz.underlying27 rfl (qR V_cR.out)
  refine ⟨⟨_,rfl,rfl,.inl ⟨by rfl,fun W _=>qdL rfl rfl qzR⟩⟩,?_⟩;simp only [zq];refine ⟨⟨_,rfl,rfl,.inl ⟨by rfl,fun W hW=>qaP rfl rfl (r1 W hW)⟩⟩,?_⟩;simp only [zq];refine ⟨⟨_,rfl,rfl,.inl ⟨by rfl,fun W hW=>qaP rfl rfl (r1 W hW)⟩⟩,?_⟩;simp only [zq];exact trivial
 ·simp only [putsA,List.foldl_cons,List.foldl_nil,zq];refine ⟨_,_,by rfl,by rfl,by rfl,fun v _=>v=.agg tA.cells.toArray,fun _ _ _ h=>h,fun u W hW _=>GY.callOf (f:=48) (args:=#[.string ⟨#[97]⟩,.int .i64 1,.int .i64 1000,.int .i64 0]) (by simp [execOp,Act.eval,go_sem]) ((qmT _ _ _ _ W).mono ?_),?_⟩
  ·rintro e w3 ⟨rfl,hb⟩;exact ⟨_,rfl,hb,rfl⟩
  rintro v ⟨_,rfl⟩;refine ⟨[],_,rfl,fun _=>trivial,fun u=>by simp only [putsA,List.foldl_cons,List.foldl_nil,zq];rfl,fun u p=>by simp only [putsA,List.foldl_cons,List.foldl_nil,zq],?_⟩;refine ⟨_,_,by rfl,by rfl,by rfl,fun v _=>v=.agg tB.cells.toArray,fun _ _ _ h=>h,fun u W hW _=>GY.callOf (f:=48) (args:=#[.string ⟨#[98]⟩,.int .i64 2,.int .i64 0,.int .i64 3]) (by simp [execOp,Act.eval,go_sem]) ((qmT _ _ _ _ W).mono ?_),?_⟩
  ·rintro e w3 ⟨rfl,hb⟩;exact ⟨_,rfl,hb,rfl⟩
  rintro v ⟨_,rfl⟩;refine ⟨[],_,rfl,fun _=>trivial,fun u=>by simp only [putsA,List.foldl_cons,List.foldl_nil,zq];rfl,fun u p=>by simp only [putsA,List.foldl_cons,List.foldl_nil,zq],?_⟩;refine ⟨_,_,by rfl,by rfl,by rfl,fun v W=>TksAt W v [tA,tB],fun v W ob h=>h.below (qaZ W ob),fun u W hW _=>GY.rowB (s:=13) (e:=60) [.agg tA.cells.toArray,.agg tB.cells.toArray] (by rfl) (by simp [Act.eval]) (by rfl) (by decide) (by decide) (by intro x hx;simp only [List.mem_cons,List.not_mem_nil,or_false] at hx;rcases hx with rfl|rfl<;>rfl) (by decide) Tryz.underlying42 (by kernel_rfl) (by kernel_rfl) ⟨qaZ W _,qwJ (ts:=[tA,tB]) (by decide) (by decide)⟩,?_⟩;rintro v ⟨_,hv0⟩;refine ⟨[],_,rfl,fun _=>trivial,fun u=>by simp only [putsA,List.foldl_cons,List.foldl_nil,zq];rfl,fun u p=>by simp only [putsA,List.foldl_cons,List.foldl_nil,zq],?_⟩;clear hv0;unfold chY TailH;refine ⟨fun b v W=>Dld b [⟨⟨#[]⟩,ann,0,6⟩] [nA,nB] v W,fun u W hW hK=>GY.callOf (f:=19) (args:=#[.agg #[.slice none 0 0],v,.agg cR.toArray,.agg cR.toArray,.int .i64 0,.int .i64 0]) (by simp [execOp,Act.eval,go_sem]) ((qkD (A:=none) (cap:=0) (pl:=0) (l:=[]) (ts:=[tA,tB]) (offer:=(3,1)) (bid:=(3,1)) (by rw [V_cR.out];rfl) (by rw [V_cR.out];rfl) pc3 pc3 rfl (by decide) (by decide) (by decide) (by decide +kernel) jhS (fun _=>rfl) W jbX hK).mono ?_),fun b v x y h hb=>h.upB hb,fun b v x y X h hg hX=>h.upG hg hX,?_⟩
  ·rintro e w3 ⟨hb,h⟩;rw [jgQ] at h;obtain ⟨v',bn,rfl,h1,h2,h3,h4⟩:=h;exact ⟨_,rfl,hb,v',bn,rfl,h1,h2,h3,h4⟩
  rintro b v2 ⟨_,v',bn,rfl,h1,_,_,_⟩;have ho1:=qfR h1;obtain ⟨A1,q1,rfl⟩:=Rd.form h1.lots;refine ⟨[(7,10,.tuple #[.agg #[.slice A1 1 q1],.slice (some ⟨bn,0,none⟩) 2 2,.int .i64 0]),(8,18,.agg #[.slice A1 1 q1]),(9,19,.slice (some ⟨bn,0,none⟩) 2 2),(10,20,.int .i64 0)],[(13,3,.slice (some ⟨bn,0,none⟩) 2 2),(14,4,.int .i64 0)],#[.slice A1 1 q1],_,rfl,rfl,fun u=>?_,fun u=>by simp only [putsA,List.foldl_cons,List.foldl_nil,zq];rfl,fun u p=>by simp only [putsA,List.foldl_cons,List.foldl_nil,zq],fun p=>by rfl,fun p=>by rfl,by rfl,ho1,fun X W hW hR hA=>⟨?_,?_⟩⟩
  ·skip
   refine ⟨⟨_,rfl,rfl,.inl ⟨by rfl,fun _ _=>by rfl⟩⟩,?_⟩;simp only [zq];refine ⟨⟨_,rfl,rfl,.inl ⟨by rfl,fun _ _=>by rfl⟩⟩,?_⟩;simp only [zq];refine ⟨⟨_,rfl,rfl,.inl ⟨by rfl,fun _ _=>by rfl⟩⟩,?_⟩;simp only [zq];refine ⟨⟨_,rfl,rfl,.inl ⟨by rfl,fun _ _=>by rfl⟩⟩,?_⟩;simp only [zq];exact trivial
  ·skip
   refine ⟨⟨_,rfl,rfl,.inl ⟨by rfl,fun _ _=>by rfl⟩⟩,?_⟩;simp only [zq];refine ⟨⟨_,rfl,rfl,.inl ⟨by rfl,fun _ _=>by rfl⟩⟩,?_⟩;simp only [zq];exact trivial
  simp only [putsA,List.foldl_cons,List.foldl_nil,zq];have HW2:=hid (HB1.out.trans (hW.mono HB1.out.size));have HR2:=hid hR;have HWX:=hid hW;clear hW hR h1 hA;go_upto_region 4 with fail
  obtain ⟨g,hg⟩:=nqx (W.heap.size);obtain ⟨W2,hW2⟩:∃ x,x=((W.alloc (.cells #[.string ⟨#[]⟩,.string ⟨#[97,110,110]⟩,.int .i64 0,.int .i64 9] 56)).alloc (.cells #[.slice (some ⟨W.heap.size,0,none⟩) 1 1] 40)):=⟨_,rfl⟩;rw [←hW2,←hg];have hb2:Below W.heap.size W W2:=by rw [hW2];exact ((Below.refl _ _).alloc (Nat.le_refl _) _).alloc (by simp) _
  have HLC:=hid (show LotsAt W2 (.slice (some ⟨g,0,none⟩) [lC].length 1) [lC] by rw [hW2,hg];exact (qxZ (l:=[lC]) (by decide) (by decide)).below (qaZ _ _));have ARG:=hid (show At W2 (g+1) 0 [.slice (some ⟨g,0,none⟩) 1 1] by rw [hW2,hg];exact At.fresh _ [.slice (some ⟨W.heap.size,0,none⟩) 1 1] _ (by simp));have AB2:=hid (show At W2 b1 0 cR from (Ab1.out.below HWX.out).below hb2);have HN2:=hid (HR2.out.nts.2.1.below hb2);have HB2:=hid (HW2.out.trans (hb2.mono HW2.out.size));clear hW2 hg hb2 HR2 HWX;refine qfA [(0,26,.agg #[.slice (some ⟨g,0,none⟩) 1 1]),(3,29,.agg cR.toArray),(4,30,.agg cR.toArray)] [(1,[]),(2,[])] 5 10 11 [6,7,8,9] [12,13] 31 6 40 (.tmp 6) (.tmp 32) #[.slice none 0 0] undef (by kernel_rfl) (by kernel_rfl) (by rfl) (by rfl) (by rfl) (by rfl) (by rfl) (by rfl) (by rfl) (by rfl) (by rfl) (by rfl) (by rfl) Tryz.layRg (by kernel_rfl) (by simp only [putsA,List.foldl_cons,List.foldl_nil,zq]) ?_ ?_
  ·have r0:=fun V (h:Below W2.heap.size W2 V)=>(ARG.out.below h).read (P:=Tryz.prog) Tryz.underlying40 rfl (by kernel_rfl)
   have r1:=fun V (h:Below W2.heap.size W2 V)=>(AB2.out.below h).read (P:=Tryz.prog) Tryz.underlying27 rfl (qR V_cR.out)
   refine ⟨⟨_,rfl,rfl,.inl ⟨by rfl,fun V hV=>qaP rfl rfl (r0 V hV)⟩⟩,?_⟩;simp only [zq];refine ⟨⟨_,rfl,rfl,.inl ⟨by rfl,fun W hW=>qaP rfl rfl (r1 W hW)⟩⟩,?_⟩;simp only [zq];refine ⟨⟨_,rfl,rfl,.inl ⟨by rfl,fun W hW=>qaP rfl rfl (r1 W hW)⟩⟩,?_⟩;simp only [zq];exact trivial
  simp only [putsA,List.foldl_cons,List.foldl_nil,zq];refine ⟨_,_,by rfl,by rfl,by rfl,fun v _=>v=.agg tC.cells.toArray,fun _ _ _ h=>h,fun u W hW _=>GY.callOf (f:=48) (args:=#[.string ⟨#[97]⟩,.int .i64 4,.int .i64 1000,.int .i64 0]) (by simp [execOp,Act.eval,go_sem]) ((qmT _ _ _ _ W).mono ?_),?_⟩
  ·rintro e w3 ⟨rfl,hb⟩;exact ⟨_,rfl,hb,rfl⟩
  rintro v ⟨_,rfl⟩;refine ⟨[],_,rfl,fun _=>trivial,fun u=>by simp only [putsA,List.foldl_cons,List.foldl_nil,zq];rfl,fun u p=>by simp only [putsA,List.foldl_cons,List.foldl_nil,zq],?_⟩;refine ⟨_,_,by rfl,by rfl,by rfl,fun v W=>TksAt W v [tC],fun v W ob h=>h.below (qaZ W ob),fun u W hW _=>GY.rowB (s:=13) (e:=60) [.agg tC.cells.toArray] (by rfl) (by simp [Act.eval]) (by rfl) (by decide) (by decide) (by intro x hx;simp only [List.mem_cons,List.not_mem_nil,or_false] at hx;rcases hx with rfl;rfl) (by decide) Tryz.underlying42 (by kernel_rfl) (by kernel_rfl) ⟨qaZ W _,qwJ (ts:=[tC]) (by decide) (by decide)⟩,?_⟩;rintro v2 ⟨_,hv0⟩;refine ⟨[],_,rfl,fun _=>trivial,fun u=>by simp only [putsA,List.foldl_cons,List.foldl_nil,zq];rfl,fun u p=>by simp only [putsA,List.foldl_cons,List.foldl_nil,zq],?_⟩;clear hv0;unfold chY TailH;refine ⟨fun b v W=>Dld b [⟨⟨#[]⟩,ann,0,5⟩] [nC] v W,fun u W hW hK=>GY.callOf (f:=19) (args:=#[.agg #[.slice (some ⟨g,0,none⟩) 1 1],v2,.agg cR.toArray,.agg cR.toArray,.int .i64 0,.int .i64 0]) (by simp [execOp,Act.eval,go_sem]) ((qkD (A:=some ⟨g,0,none⟩) (cap:=1) (pl:=0) (l:=[lC]) (ts:=[tC]) (offer:=(3,1)) (bid:=(3,1)) (by rw [V_cR.out];rfl) (by rw [V_cR.out];rfl) pc3 pc3 rfl (by decide) (by decide) (by decide) (by decide +kernel) okT_c (fun h=>by cases h) W (HLC.out.below hW) hK).mono ?_),fun b v x y h hb=>h.upB hb,fun b v x y X h hg hX=>h.upG hg hX,?_⟩
  ·rintro e w3 ⟨hb,h⟩;rw [jiH] at h;obtain ⟨v',bn,rfl,h1,h2,h3,h4⟩:=h;exact ⟨_,rfl,hb,v',bn,rfl,h1,h2,h3,h4⟩
  rintro b4 v4 ⟨_,v',bm,rfl,h1,_,_,_⟩;have ho1:=qfR h1;obtain ⟨g4,o4,q4,rfl,_⟩:=LotsAt.some h1.lots (by decide);refine ⟨[(6,25,.tuple #[.agg #[.slice (some ⟨g4,o4,none⟩) 1 q4],.slice (some ⟨bm,0,none⟩) 1 1,.int .i64 0]),(7,32,.agg #[.slice (some ⟨g4,o4,none⟩) 1 q4]),(8,33,.slice (some ⟨bm,0,none⟩) 1 1),(9,34,.int .i64 0)],[(12,7,.slice (some ⟨bm,0,none⟩) 1 1),(13,8,.int .i64 0)],#[.slice (some ⟨g4,o4,none⟩) 1 q4],_,rfl,rfl,fun u=>?_,fun u=>by simp only [putsA,List.foldl_cons,List.foldl_nil,zq];rfl,fun u p=>by simp only [putsA,List.foldl_cons,List.foldl_nil,zq],fun p=>by rfl,fun p=>by rfl,by rfl,ho1,fun X4 W4 hW hR hA=>⟨?_,?_⟩⟩
  ·skip
   refine ⟨⟨_,rfl,rfl,.inl ⟨by rfl,fun _ _=>by rfl⟩⟩,?_⟩;simp only [zq];refine ⟨⟨_,rfl,rfl,.inl ⟨by rfl,fun _ _=>by rfl⟩⟩,?_⟩;simp only [zq];refine ⟨⟨_,rfl,rfl,.inl ⟨by rfl,fun _ _=>by rfl⟩⟩,?_⟩;simp only [zq];refine ⟨⟨_,rfl,rfl,.inl ⟨by rfl,fun _ _=>by rfl⟩⟩,?_⟩;simp only [zq];exact trivial
  ·skip
   refine ⟨⟨_,rfl,rfl,.inl ⟨by rfl,fun _ _=>by rfl⟩⟩,?_⟩;simp only [zq];refine ⟨⟨_,rfl,rfl,.inl ⟨by rfl,fun _ _=>by rfl⟩⟩,?_⟩;simp only [zq];exact trivial
  simp only [putsA,List.foldl_cons,List.foldl_nil,zq];have HB4:=hid (HB2.out.trans (hW.mono HB2.out.size));have hN4:=HN2.out.below hW;obtain ⟨c0,c1⟩:=hN4.cel (k:=0) (x:=nA) rfl (p:=4) (q:=5) rfl rfl;obtain ⟨_,c2⟩:=hN4.cel (k:=1) (x:=nB) rfl (p:=11) (q:=12) rfl rfl;obtain ⟨hOw,hNm,_,_⟩:=Dld.nts hR;obtain ⟨c3,c4⟩:=hNm.cel (k:=0) (x:=nC) rfl (p:=4) (q:=5) rfl rfl;have c5:=hA.cell0;have c6:=jfO hOw;change W4.cell? ⟨bn,4,none⟩=some (.int .i64 3) at c0
  change W4.cell? ⟨bn,5,none⟩=some (.int .i64 1000) at c1
  change W4.cell? ⟨bn,12,none⟩=some (.int .i64 900) at c2
  change W4.cell? ⟨bm,4,none⟩=some (.int .i64 4) at c3
  change W4.cell? ⟨bm,5,none⟩=some (.int .i64 1000) at c4
  change W4.cell? ⟨g4,o4+3,none⟩=some (.int .i64 5) at c6
  clear hW hR h1 hA hN4 hOw hNm ho1;go_wp2_with fail
  refine bodyPost_ret (v:=.bool true) (by simp [results,Tryz.results13]) rfl ⟨rfl,HB4.out⟩
end Go.Proofs.YtemoddmadfoaiaaGreat
namespace Go.Proofs.YtemoddmadfoaiaaGreat
open Go.RowKit Big Reg Ga Dl
theorem qqF {P:Program} {ops:Array Oper} {rest:List Oper} {o1 o2 o3 o4:Oper} {a:Act} {w:World} {Q:Exit→Act→World→Prop} {t u:TypeId} (hg1:o1.guard=none) (hg2:o2.guard=none) (hg3:o3.guard=none) (hg4:o4.guard=none) (ho1:o1.op=.alloc t) (ho2:o2.op=.alloc u) {x y x' y':Operand} (ho3:o3.op=.store t x y) (ho4:o4.op=.store u x' y') {cs ds:List Value} (hL:∃ z,LaysAs P t z∧cs.length≤z.size) (hM:∃ z,LaysAs P u z∧ds.length≤z.size)
  (hx:((a.put o1.dst (.pointer (some ⟨w.heap.size,0,none⟩))).put o2.dst (.pointer (some ⟨w.heap.size+1,0,none⟩))).eval x=.pointer (some ⟨w.heap.size,0,none⟩)) (hy:((a.put o1.dst (.pointer (some ⟨w.heap.size,0,none⟩))).put o2.dst (.pointer (some ⟨w.heap.size+1,0,none⟩))).eval y=.agg cs.toArray)
  (hx':(((a.put o1.dst (.pointer (some ⟨w.heap.size,0,none⟩))).put o2.dst (.pointer (some ⟨w.heap.size+1,0,none⟩))).put o3.dst undef).eval x'=.pointer (some ⟨w.heap.size+1,0,none⟩)) (hy':(((a.put o1.dst (.pointer (some ⟨w.heap.size,0,none⟩))).put o2.dst (.pointer (some ⟨w.heap.size+1,0,none⟩))).put o3.dst undef).eval y'=.agg ds.toArray)
  (hs:(P.info? t).map (·.size)=some cs.length) (h1:cs.toArray.all (·.oneCell')=true) (hs2:(P.info? u).map (·.size)=some ds.length) (h2:ds.toArray.all (·.oneCell')=true)
  (h:∀ w',Below w.heap.size w w'→At w' w.heap.size 0 cs→At w' (w.heap.size+1) 0 ds→w'.heap.size=w.heap.size+2→wpList P ops Q rest ((((a.put o1.dst (.pointer (some ⟨w.heap.size,0,none⟩))).put o2.dst (.pointer (some ⟨w.heap.size+1,0,none⟩))).put o3.dst undef).put o4.dst undef) w'):wpList P ops Q (o1::o2::o3::o4::rest) a w:=by
 obtain ⟨z,hL,hz⟩:=hL;obtain ⟨z2,hM,hz2⟩:=hM;refine wpList_plain hg1 fun K hK=>?_
 have hrun:=hL o1 ho1 a w;unfold Oper.wp;rw [hrun];refine hK _ _ ?_;refine wpList_plain hg2 fun K hK=>?_
 have hrun2:=hM o2 ho2 (a.put o1.dst (.pointer (some ⟨w.heap.size,0,none⟩))) (w.alloc (.cells z t));unfold Oper.wp;rw [hrun2];rw [World.size_alloc] at *;refine hK _ _ ?_;obtain ⟨w2,hw2⟩:∃ w2,w2=(w.alloc (.cells z t)).alloc (.cells z2 u):=⟨_,rfl⟩;have hA:At w2 w.heap.size 0 z.toList:=by rw [hw2];have:=(At.fresh w z.toList t rfl).alloc (.cells z2 u);simpa using this
 have hB:At w2 (w.heap.size+1) 0 z2.toList:=by rw [hw2];have:=At.fresh (w.alloc (.cells z t)) z2.toList u (b:=w.heap.size+1) (by simp);simpa using this
 have hb2:Below w.heap.size w w2:=by rw [hw2];exact ((Below.refl _ _).alloc (Nat.le_refl _) _).alloc (by simp) _
 have hsz:w2.heap.size=w.heap.size+2:=by rw [hw2];simp
 rw [←hw2];clear hw2;have hth:w2.there w.heap.size 0 cs.length:=fun j hj=>hA.there j (by simp;omega)
 have hth2:w2.there (w.heap.size+1) 0 ds.length:=fun j hj=>hB.there j (by simp;omega)
 refine wpList_store_mid hg3 _ _ _ ho3 w.heap.size 0 cs.toArray hx hy (by simpa using hth) (by simpa using hs) h1 ?_;refine wpList_store_mid hg4 _ _ _ ho4 (w.heap.size+1) 0 ds.toArray hx' hy' (by simpa using World.there_setCells hth2 _ _ _) (by simpa using hs2) h2 ?_;refine h _ ?_ ?_ ?_ (by simp [qaW,hsz])
 ·exact qaC (by omega) _ _ _ (qaC (Nat.le_refl _) _ _ _ hb2)
 ·have hA2:At (w2.setCells w.heap.size 0 cs) w.heap.size 0 cs:=⟨World.rangeAt_setCells_same _ _ _ _ hth,World.there_setCells hth _ _ _,by rw [qaW];omega⟩;have hk:=qcJ w.heap.size (w.heap.size+1) (by omega) ds 0 (w2.setCells w.heap.size 0 cs);refine ⟨fun j v hj=>?_,fun j hj=>?_,by rw [qaW];exact hA2.lt⟩
  ·rw [World.cell?_of_block hk];exact hA2.range j v hj
  ·rw [World.cell?_of_block hk,World.frozen?_of_block hk];exact hA2.there j hj
 ·exact ⟨World.rangeAt_setCells_same _ _ _ _ (by simpa using World.there_setCells hth2 _ _ _),World.there_setCells (by simpa using World.there_setCells hth2 _ _ _) _ _ _,by rw [qaW,qaW];omega⟩
def DlR (r:Except Int (List Lot × List Nt)) (b:Nat) (v:Value) (W:World):Prop:=(∃ A n q vn e,v=.tuple #[.agg #[.slice A n q],vn,.int .i64 e])∧match r with
 | .error c=>v=.tuple #[.agg #[.slice none 0 0],.slice none 0 0,.int .i64 c]
 | .ok p=>Dld b p.1 p.2 v W
theorem DlR.upB {r:Except Int (List Lot × List Nt)} {b:Nat} {v:Value} {x y:World} (h:DlR r b v x) (hb:Below x.heap.size x y):DlR r b v y:=by
 cases r with
 | error c=>exact h
 | ok p=>exact ⟨h.1,Dld.upB h.2 hb⟩
theorem DlR.upG {r:Except Int (List Lot × List Nt)} {b:Nat} {v:Value} {x y:World} {X:Nat} (h:DlR r b v x) (hg:x.grownBy y (some X)) (hX:X<b):DlR r b v y:=by
 cases r with
 | error c=>exact h
 | ok p=>exact ⟨h.1,Dld.upG h.2 hg hX⟩
theorem DlR.of {r:Except Int (List Lot × List Nt)} {w w':World} {e:Ending} (h:DealP r w e w'):∃ v,e=.returned v∧Below w.heap.size w w'∧DlR r w.heap.size v w':=by
 obtain ⟨hb,h⟩:=h
 cases r with
 | error c=>exact ⟨_,h,hb,⟨_,_,_,_,_,rfl⟩,rfl⟩
 | ok p =>
  obtain ⟨v',bn,rfl,h1,h2,h3,h4⟩:=h;obtain ⟨A,q,rfl⟩:=Rd.form h1.lots;exact ⟨_,rfl,hb,⟨_,_,_,_,_,rfl⟩,_,bn,rfl,h1,h2,h3,h4⟩
theorem jbU {most:Nat} {ts:List Tk} (h:MadeTs most ts) (h8:most≤8):okT ts=true∧(∀ t∈ts,okO t.o=true)∧ts.length≤8:=by
 have hl:=h.1;refine ⟨qxJ (by omega) fun k hk=>?_,fun t ht=>?_,by omega⟩
 ·obtain ⟨x,hx⟩:∃ x,ts[k]?=some x:=⟨_,List.getElem?_eq_getElem hk⟩;have m:=h.2 k x hx;unfold okTAt;rw [hx];simp only
  have h1:okA x.o=true:=by unfold okA;rw [m.void,if_neg (by simp)];exact qxW m (by omega)
  have h2:((ts.take k).any fun c=>decide (c.o.key=x.o.key))=false:=by
   rw [List.any_eq_false];intro y hy e;obtain ⟨j,hj⟩:=List.mem_iff_getElem?.1 hy;have hjk:j<k:=by have:=(List.getElem?_eq_some_iff.1 hj).1;rw [List.length_take] at this;omega
   rw [List.getElem?_take_of_lt hjk] at hj;have e2:=of_decide_eq_true e;rw [(h.2 j y hj).key,m.key] at e2
   have:=jcE j (by omega) k (by omega) e2
   omega
  rw [h1,m.void,h2];rfl
 ·obtain ⟨j,hj⟩:=List.mem_iff_getElem?.1 ht;have hjl:=(List.getElem?_eq_some_iff.1 hj).1;exact qxW (h.2 j t hj) (by omega)
theorem tup3 {a b c d e f:Value} (h:Value.tuple #[a,b,c]=.tuple #[d,e,f]):a=d∧b=e∧c=f:=by simpa using h
theorem DealP.dlr {r:Except Int (List Lot × List Nt)} {w w':World} {e:Ending} (h:DealP r w e w'):∃ v,e=.returned v∧Below w.heap.size w w'∧DlR r w.heap.size v w':=DlR.of h
theorem quF {w:World} {B n q:Nat} {A:Option Addr} {l:List Lot} (h:Own w B (.slice A n q) l):A=none→q=0:=by
 intro hA;subst hA;obtain ⟨_,h|⟨g,cap,cur,hv,_⟩⟩:=h
 ·have:=h.1;injection this
 ·injection hv with h1;cases h1
theorem Drew.fram {w w1 w2:World} {bt:Nat} (h:Drew w1 bt w2) (hbt:bt=w.heap.size) (hb:Below w.heap.size w w1):Below w.heap.size w w2:=hb.trans (qeY h.2 (by omega) hb.size)
end Go.Proofs.YtemoddmadfoaiaaGreat
namespace Go.Proofs.YtemoddmadfoaiaaGreat
open Go.RowKit Big Reg Al Ga Dl
structure Rn where
 key:ByteArray
 nom:ByteArray
 hol:ByteArray
 kind:Int
 units:Int
 money:Int
 a:Option Addr
 n:Nat
 c:Nat
def Rn.cells (x:Rn):List Value:=[.string x.key,.string x.nom,.string x.hol,.int .i64 x.kind,.int .i64 x.units,.int .i64 x.money,.slice x.a x.n x.c]
theorem qwR (k:Int) (w:World):CB 28 #[.int .i64 k] (.bool (decide (k=3∨k=4∨k=5))) w:=by
 by_cases h1:k=3
 ·subst h1;go_enter Tryz.func28,Tryz.ntmps28
  go_wp2
  go_ret
  exact ⟨rfl,Below.refl _ _⟩
 ·by_cases h2:k=4
  ·subst h2;go_enter Tryz.func28,Tryz.ntmps28
   go_wp2
   go_ret
   exact ⟨rfl,Below.refl _ _⟩
  ·have b1:(k==3)=false:=beq_eq_false_iff_ne.2 h1;have b2:(k==4)=false:=beq_eq_false_iff_ne.2 h2;go_enter Tryz.func28,Tryz.ntmps28
   go_wp2
   go_ret
   exact ⟨qaF (by simp [h1,h2];rfl),Below.refl _ _⟩
end Go.Proofs.YtemoddmadfoaiaaGreat
set_option maxHeartbeats 8000000
namespace Go.Proofs.YtemoddmadfoaiaaGreat
open Go.RowKit Big Reg Al Ga Dl
open Lib (hid)
theorem jaE {cr:List Value} {n m:Bool} {p q:Nat} (h:cr=rat n p m q) (hp:p<BB^32) (hq:q<BB^32) (w:World) :
  CB 80 #[.agg cr.toArray] (.bool (okPc n m p q)) w:=by
 by_cases hok:p<B480∧q<B480∧n=cs1 n p∧m=false∧q≠0∧Nat.gcd p q=1
 ·have hG:okPc n m p q=decide (0<zI n p):=by unfold okPc;rw [decide_eq_true hok,Bool.true_and]
  obtain ⟨b1,b2,b3,b4,b5,b6⟩:=hok;subst b4;have hz:cr=ratZ (zI n p) q:=by rw [h,rat_Z b3]
  have hc:=qrK n p;rw [←b3] at hc;have hV:VQ (zI n p,q):=⟨by show (zI n p).natAbs<B480;rw [←hc.2];exact b1,b2,b5,by show Nat.gcd (zI n p).natAbs q=1;rw [←hc.2];exact b6⟩;rw [hG];exact jiF (a:=(zI n p,q)) hz hV rfl w
 ·have hG:okPc n m p q=false:=by unfold okPc;rw [decide_eq_false hok,Bool.false_and]
  rw [hG];exact jcW h hp hq hok w
theorem qqR {cr:List Value} {n m:Bool} {p q:Nat} (h:cr=rat n p m q) (hp:p<BB^32) (hq:q<BB^32) (w:World) :
  CB 46 #[.agg cr.toArray] (.bool (okPc n m p q)) w:=by
 have V_cr:=hid h;obtain ⟨t,ht⟩:=nqx (okPc n m p q);have HA:=hid (fun W=>(ht ▸ jaE h hp hq W));rw [←ht];clear h hp hq ht;obtain ⟨B0,w0,hw0,hB0,AB0,FR,FR0,HB0,hZB0⟩:=en1 w 27 (bxq cr);go_enter Tryz.func46,Tryz.ntmps46
 go_upto_region 1 with fail
 rw [←hw0,←hB0];clear hw0 hB0;refine wE [(3,aT cr),(4,.bool t),(2,.bool t)] (by simp only [zu];rfl) (by kernel_rfl) ?_ ?_
 ·intro W' hW';refine lhR AB0 hW' V_cr rfl<|fo2 ?_ ?_<|fxn;all_goals (go_big_quiet_step (exact qaA (HA.out _));exact wqn rfl)
 intro β wx1 E;replace FR:=fnf FR E rfl;simp only [nP,zu];go_wp2
 go_ret
 exact ⟨rfl,qaY HB0 FR⟩
theorem qvP (k:Nat) (h:k<7):IntKind.i64.wrap (10*((10^k:Nat):Int))=((10^(k+1):Nat):Int):=by
 rw [Int.mul_comm];exact qrO k h
theorem qvQ (k:Nat) (hk:k≤7) (w:World) :
  CB 81 #[.int .i64 (k:Int)] (.int .i64 ((10^k:Nat):Int)) w:=by
 go_enter Tryz.func81,Tryz.ntmps81
 go_wp2
 go_loopg [4,3] k (fun m i n wr=>∃ (j:Nat),j≤k∧k - j≤m∧i=.int .i64 j∧n=.int .i64 ((10^j:Nat):Int)∧wr=w)
 case atStart=>exact ⟨0,by omega,by omega,rfl,rfl,rfl⟩
 case round =>
  obtain ⟨j,hj,hm,rfl,rfl,rfl⟩:=hrel;by_cases hlt:j<k
  ·have hst:=qvP j (by omega);obtain ⟨P,hP⟩:=nqx (((10^j:Nat):Int):Int);obtain ⟨P2,hP2⟩:=nqx (((10^(j+1):Nat):Int):Int);rw [←hP,←hP2] at hst;rw [←hP];have HP2:=hid hP2;clear hP hP2;go_wp2
   go_roundg (gk - 1)
   case measure=>omega
   case rel=>exact ⟨j+1,by omega,by omega,by go_num,by rw [←HP2.out],rfl⟩
  ·obtain rfl:j=k:=by omega
   obtain ⟨P,hP⟩:=nqx (((10^j:Nat):Int):Int);rw [←hP];have HP:=hid hP;clear hP;go_wp2
   go_ret
   exact ⟨by rw [←HP.out];rfl,Below.refl _ _⟩
theorem qtL {cp cN:List Value} {p:Qn} {pl:Nat} {z k:Int} (h:cp=ratZ p.1 p.2) (hp:Pc p) (hz:z=(pl:Int)) (h6:pl≤6) (k0:0≤k) (k1:k≤1000000000000000) (hN:cN=resN (worthQ p pl k)) (w:World) :
  CB 47 #[.agg cp.toArray,.int .i64 z,.int .i64 k] (.agg cN.toArray) w:=by
 obtain ⟨pv,pe⟩:=qfQ k0 k1 h6;have hps:=qfG k0 k1 h6;have h10:10^pl≤10^6:=Nat.pow_le_pow_right (by omega) h6;have V_cr:=hid (show cp=rat (decide (p.1<0)) p.1.natAbs false p.2 from h);obtain ⟨nn,np,nm',nq,ne,hcN⟩:∃ n p m q e,cN=nm n p m q e:=by rw [hN];exact qgK _
 have V_cN:=hid hcN;obtain ⟨cz,V_cz⟩:=nvx (nm false 0 false 0 0);obtain ⟨co,V_co⟩:=nvx (nm (decide (p.1<0)) p.1.natAbs false p.2 0);obtain ⟨part,hpart⟩:=nqx (partQ k pl);rw [←hpart] at pv pe hps;obtain ⟨cv,V_cv⟩:=nvx (nm (decide (part.1<0)) part.1.natAbs false part.2 0);obtain ⟨kc,hkc⟩:=nqx (k*100);obtain ⟨T,hT⟩:=nqx (((10^pl:Nat):Int):Int);have wk:IntKind.i64.wrap (k*100)=kc:=by rw [hkc];exact IntWalk.i64_in _ (by omega)
 have HOF:=hid (eOf V_cr.out V_co.out);have HTE:=hid (fun W=>show CB 81 #[.int .i64 z] (.int .i64 T) W by rw [hz,hT];exact qvQ pl (by omega) W);have HOV:=hid (jcV (cN:=cv) (x:=kc) (y:=T) (d:=10^pl) hT (Nat.ne_of_gt (Nat.pow_pos (by decide))) (by rw [hkc,hps,V_cv.out];rfl) (by omega) (by omega) (by omega));have HMU:=hid (jiP (ca:=co) (cb:=cv) (cN:=cN) (a:=some p) (b:=some part) V_co.out V_cv.out (fun r e=>by injection e with e;subst e;exact hp.vq) (fun r e=>by injection e with e;subst e;exact pv) (by rw [hN,hpart];rfl));clear h hp hz h6 k0 k1 hN pv pe hps h10 hcN hpart hkc hT;have V_cp:=V_cr;clear V_cr;obtain ⟨B0,B1,w0,hw0,hB0,hB1,AB0,AB1,FR,FR0,HB0,hZB0,l01,hZB1⟩:=en2 w 27 70 (bxq cp) (zQN V_cz);go_enter Tryz.func47,Tryz.ntmps47
 go_upto_region 1 with fail
 rw [←hw0,←hB1,←hB0];clear hw0 hB0 hB1;refine wF [⟨false,0,6,8,B1,0,70,14,cN,0,cN,[]⟩] [(7,aT cp),(8,aT co),(9,iT k),(10,iT kc),(11,iT z),(12,iT T),(13,aT cv),(14,aT cN)] (by simp only [zu];rfl) (by kernel_rfl) ?_ ?_ (fP1 bnC) ?_ uno ?_ ?_
 ·intro W' hW';refine lhR AB0 hW' V_cp rfl<|fo4 ?_ ?_ ?_ ?_<|fxo (by go_big_quiet_step (exact qaA (HTE.out _));exact wqn rfl)<|fxo (by go_big_quiet_step (exact qaA (HOV.out _));exact wqn rfl)<|fxo (by go_big_quiet_step (exact qaA (HMU.out _));exact wqn rfl)<|fxs rfl<|fxn;all_goals (go_big_quiet_step (exact qaA (HOF.out _));exact wqn rfl)
 ·intro W' hK';have rd0:=akh AB0 hK' (by omega);refine ldR rd0 V_cp rfl<|fxs (by kernel_rfl)<|fxi ?_<|fxi ?_<|fxi ?_<|fxs (by kernel_rfl)<|fxs (by kernel_rfl)<|fxs (by kernel_rfl)<|fxs (by kernel_rfl)<|fxn;all_goals (first|(refine .inr ?_;go_big_quiet_step (fail);exact wqn rfl)|exact .inl (by kernel_rfl))
 ·exact fP1 (fun _=>rmh AB1 (qbB V_cz.out) (qbB V_cN.out) rfl)
 ·exact fP1 (stw rfl (qbB V_cN.out) (qsE V_cN.out) (fun _=>rfl))
 intro β wx1 E;replace FR:=ffh FR E (by omega);replace AB1:=aoh E AB1 mms;simp only [nP,zu];go_wp2_with fail
 have hld:=AB1.out.read (P:=Tryz.prog) Tryz.underlying70 rfl (qbB V_cN.out);refine bodyPost_ret (v:=.agg cN.toArray) (by simp [results,Tryz.results47,asAddr,hld]) rfl ?_;exact ⟨rfl,qaY HB0 FR⟩
theorem qtV {cr cR cz:List Value} {n m b:Bool} {p q:Nat} {z k code:Int} {rn rm:Bool} {rp rq:Nat} (h:cr=rat n p m q) (hb:b=okPc n m p q) (hp:p<BB^32) (hq:q<BB^32) (hcR:cR=rat rn rp rm rq) (hz:cz=rat false 0 false 0)
  (hcase:(b=false∧cR=cz∧code=261)∨(b=true∧(z<0∨6<z)∧cR=cz∧code=30)∨(b=true∧¬z<0∧¬6<z∧(k<0∨1000000000000000<k)∧cR=cz∧code=253) ∨
   (b=true∧¬z<0∧¬6<z∧¬k<0∧¬1000000000000000<k∧∀ W,CB 47 #[.agg cr.toArray,.int .i64 z,.int .i64 k] (.agg (nm rn rp rm rq code).toArray) W)) (w:World) :
  CB 12 #[.agg cr.toArray,.int .i64 z,.int .i64 k] (.tuple #[.agg cR.toArray,.int .i64 code]) w:=by
 have V_cr:=hid h;have V_cR:=hid hcR;have V_cz:=hid hz;obtain ⟨cN,V_cN⟩:=nvx (nm rn rp rm rq code);have HPR:=hid (fun W=>(hb ▸ qqR h hp hq W));have HCASE:=hid hcase;clear h hb hp hq hcR hz hcase;obtain ⟨B0,B1,w0,hw0,hB0,hB1,AB0,AB1,FR,FR0,HB0,hZB0,l01,hZB1⟩:=en2 w 27 27 (bxq cr) (zQR V_cz);go_enter Tryz.func12,Tryz.ntmps12
 go_upto_region 1 with fail
 rw [←hw0,←hB1,←hB0];clear hw0 hB0 hB1;refine wE [(10,aT cr),(11,.bool b),(12,.bool (!b)),(9,.bool (!b))] (by simp only [zu];rfl) (by kernel_rfl) ?_ ?_
 ·intro W' hW';refine lhR AB0 hW' V_cr rfl<|fo3 ?_ ?_ ?_<|fxn;all_goals (go_big_quiet_step (exact qaA (HPR.out _));exact wqn rfl)
 intro β wx1 E;replace FR:=fnf FR E rfl;replace AB0:=fnh AB0 E rfl;replace AB1:=fnh AB1 E rfl;simp only [nP,zu];replace FR0:=hid FR.out.le;rcases HCASE.out with ⟨rfl,rfl,rfl⟩|⟨rfl,h2,rfl,rfl⟩|⟨rfl,h2,h3,h4,rfl,rfl⟩|⟨rfl,h2,h3,h4,h5,g1⟩
 ·replace V_cR:=V_cz;clear HCASE V_cN;go_upto_region 2 with fail
  refine wF [⟨false,0,6,1,B1,0,27,13,cR,0,cR,[]⟩] [(13,aT cR),(7,iT 261)] (by simp only [zu];rfl) (by kernel_rfl) ?_ ?_ (fP1 bnC) ?_ uno ?_ ?_
  ·intro W' hW';refine fxb (qaV V_cR.out) rfl<|fxs rfl<|fxo ?_<|fxn
   go_big_quiet_step (fail);exact wqn rfl
  ·intro W' hK';refine fxb (qaV V_cR.out) rfl<|fxs (by kernel_rfl)<|fxi ?_<|fxn
   first|(refine .inr ?_;go_big_quiet_step (fail);exact wqn rfl)|exact .inl (by kernel_rfl)
  ·exact fP1 (fun _=>rmh AB1 (qR V_cz.out) (qR V_cR.out) rfl)
  ·exact fP1 (sR V_cR (fun _=>rfl) rfl)
  intro β wx2 E;replace FR:=ffh FR E (by omega);replace AB1:=aoh E AB1 mms;simp only [nP,zu];go_wp2_with fail
  have hld:=rdR AB1 V_cR;refine bodyPost_ret (v:=.tuple #[.agg cR.toArray,.int .i64 261]) (by simp [results,Tryz.results12,asAddr,hld]) rfl ?_;exact ⟨rfl,qaY HB0 FR⟩
 ·replace V_cR:=V_cz;clear HCASE V_cN;by_cases h3:z<0
  ·clear h2;go_upto_region 4 with fail
   refine wF [⟨false,0,6,1,B1,0,27,21,cR,0,cR,[]⟩] [(21,aT cR),(7,iT 30)] (by simp only [zu];rfl) (by kernel_rfl) ?_ ?_ (fP1 bnC) ?_ uno ?_ ?_
   ·intro W' hW';refine fxb (qaV V_cR.out) rfl<|fxs rfl<|fxo ?_<|fxn
    go_big_quiet_step (fail);exact wqn rfl
   ·intro W' hK';refine fxb (qaV V_cR.out) rfl<|fxs (by kernel_rfl)<|fxi ?_<|fxn
    first|(refine .inr ?_;go_big_quiet_step (fail);exact wqn rfl)|exact .inl (by kernel_rfl)
   ·exact fP1 (fun _=>rmh AB1 (qR V_cz.out) (qR V_cR.out) rfl)
   ·exact fP1 (sR V_cR (fun _=>rfl) rfl)
   intro β wx2 E;replace FR:=ffh FR E (by omega);replace AB1:=aoh E AB1 mms;simp only [nP,zu];go_wp2_with fail
   have hld:=rdR AB1 V_cR;refine bodyPost_ret (v:=.tuple #[.agg cR.toArray,.int .i64 30]) (by simp [results,Tryz.results12,asAddr,hld]) rfl ?_;exact ⟨rfl,qaY HB0 FR⟩
  ·have h2:6<z:=by omega
   go_upto_region 4 with fail
   refine wF [⟨false,0,6,1,B1,0,27,21,cR,0,cR,[]⟩] [(21,aT cR),(7,iT 30)] (by simp only [zu];rfl) (by kernel_rfl) ?_ ?_ (fP1 bnC) ?_ uno ?_ ?_
   ·intro W' hW';refine fxb (qaV V_cR.out) rfl<|fxs rfl<|fxo ?_<|fxn
    go_big_quiet_step (fail);exact wqn rfl
   ·intro W' hK';refine fxb (qaV V_cR.out) rfl<|fxs (by kernel_rfl)<|fxi ?_<|fxn
    first|(refine .inr ?_;go_big_quiet_step (fail);exact wqn rfl)|exact .inl (by kernel_rfl)
   ·exact fP1 (fun _=>rmh AB1 (qR V_cz.out) (qR V_cR.out) rfl)
   ·exact fP1 (sR V_cR (fun _=>rfl) rfl)
   intro β wx2 E;replace FR:=ffh FR E (by omega);replace AB1:=aoh E AB1 mms;simp only [nP,zu];go_wp2_with fail
   have hld:=rdR AB1 V_cR;refine bodyPost_ret (v:=.tuple #[.agg cR.toArray,.int .i64 30]) (by simp [results,Tryz.results12,asAddr,hld]) rfl ?_;exact ⟨rfl,qaY HB0 FR⟩
 ·replace V_cR:=V_cz;clear HCASE V_cN;by_cases h5:k<0
  ·clear h4;go_upto_region 6 with fail
   refine wF [⟨false,0,6,1,B1,0,27,29,cR,0,cR,[]⟩] [(29,aT cR),(7,iT 253)] (by simp only [zu];rfl) (by kernel_rfl) ?_ ?_ (fP1 bnC) ?_ uno ?_ ?_
   ·intro W' hW';refine fxb (qaV V_cR.out) rfl<|fxs rfl<|fxo ?_<|fxn
    go_big_quiet_step (fail);exact wqn rfl
   ·intro W' hK';refine fxb (qaV V_cR.out) rfl<|fxs (by kernel_rfl)<|fxi ?_<|fxn
    first|(refine .inr ?_;go_big_quiet_step (fail);exact wqn rfl)|exact .inl (by kernel_rfl)
   ·exact fP1 (fun _=>rmh AB1 (qR V_cz.out) (qR V_cR.out) rfl)
   ·exact fP1 (sR V_cR (fun _=>rfl) rfl)
   intro β wx2 E;replace FR:=ffh FR E (by omega);replace AB1:=aoh E AB1 mms;simp only [nP,zu];go_wp2_with fail
   have hld:=rdR AB1 V_cR;refine bodyPost_ret (v:=.tuple #[.agg cR.toArray,.int .i64 253]) (by simp [results,Tryz.results12,asAddr,hld]) rfl ?_;exact ⟨rfl,qaY HB0 FR⟩
  ·have h4:1000000000000000<k:=by omega
   go_upto_region 6 with fail
   refine wF [⟨false,0,6,1,B1,0,27,29,cR,0,cR,[]⟩] [(29,aT cR),(7,iT 253)] (by simp only [zu];rfl) (by kernel_rfl) ?_ ?_ (fP1 bnC) ?_ uno ?_ ?_
   ·intro W' hW';refine fxb (qaV V_cR.out) rfl<|fxs rfl<|fxo ?_<|fxn
    go_big_quiet_step (fail);exact wqn rfl
   ·intro W' hK';refine fxb (qaV V_cR.out) rfl<|fxs (by kernel_rfl)<|fxi ?_<|fxn
    first|(refine .inr ?_;go_big_quiet_step (fail);exact wqn rfl)|exact .inl (by kernel_rfl)
   ·exact fP1 (fun _=>rmh AB1 (qR V_cz.out) (qR V_cR.out) rfl)
   ·exact fP1 (sR V_cR (fun _=>rfl) rfl)
   intro β wx2 E;replace FR:=ffh FR E (by omega);replace AB1:=aoh E AB1 mms;simp only [nP,zu];go_wp2_with fail
   have hld:=rdR AB1 V_cR;refine bodyPost_ret (v:=.tuple #[.agg cR.toArray,.int .i64 253]) (by simp [results,Tryz.results12,asAddr,hld]) rfl ?_;exact ⟨rfl,qaY HB0 FR⟩
 ·have HW:=hid (fun W=>(V_cN.out.symm ▸ g1 W));clear g1 HCASE;go_upto_region 7 with fail
  refine wT [⟨true,4,8,5,0,0,70,33,cN,0,cN,[]⟩] [(30,aT cr),(31,iT z),(32,iT k),(33,aT cN)] (by simp only [zu];rfl) (by kernel_rfl) rfl ?_ ?_ ?_ ?_
  ·intro W' hW';refine lhR AB0 hW' V_cr rfl<|fo3 ?_ ?_ ?_<|fxs rfl<|fxs rfl<|fxn;all_goals (go_big_quiet_step (exact qaA (HW.out _));exact wqn rfl)
  ·exact fP1 (Tryz.alN (qbB V_cN.out))
  ·exact fP1 (stw rfl (qbB V_cN.out) (qsE V_cN.out) (fun _=>rfl))
  intro β wx2 E;replace FR:=fnf FR E rfl;obtain ⟨b8,hb8,eb8⟩:=nwb E mms;have lB0_b8:B0<b8:=ltb AB0 eb8.1;have lB1_b8:B1<b8:=ltb AB1 eb8.1;have hZb8:B0≤b8:=Nat.le_trans FR0.out eb8.1;replace AB1:=fnh AB1 E rfl;have Ab8:=hid eb8.2;simp only [nP,zu];rw [←hb8];clear E eb8 hb8;have Ab8r:=hid (show At wx2 b8 0 cR from At.sub (xs:=[]) (ys:=cR) (zs:=[.int .i64 code]) (by have:=Ab8.out;rw [V_cN.out] at this;rw [V_cR.out];exact this) rfl);have ZC:=hid (show At wx2 b8 66 [.int .i64 code] from At.sub (xs:=cR) (ys:=[.int .i64 code]) (zs:=[]) (by have:=Ab8.out;rw [V_cN.out] at this;rw [V_cR.out];exact this) (by rw [V_cR.out,qaS]));go_upto_region 8 with fail
  refine wF [⟨false,0,6,4,B1,0,27,35,cR,0,cR,[]⟩] [(34,pT b8 0),(35,aT cR),(36,pT b8 66),(37,iT code),(7,iT code)] (by simp only [zu];rfl) (by kernel_rfl) ?_ ?_ (fP1 bnC) ?_ uno ?_ ?_
  ·intro W' hW';have zc:=show W'.cell? ⟨b8,66,none⟩=some (.int .i64 code) from (ZC.out.below hW').cell (j:=0) rfl
   refine fxo ?_<|lhR Ab8r hW' V_cR rfl<|fxo ?_<|fxc zc (fun W h=>by simp [loadVar,h,go_sem]) rfl<|fxs rfl<|fxo ?_<|fxn;all_goals (go_big_quiet_step (fail);exact wqn rfl)
  ·intro W' hK';have zc:=show W'.cell? ⟨b8,66,none⟩=some (.int .i64 code) from (At.keep hK' ZC.out (oP _ _ (fun _=>(by show B1≠b8;omega)) oN)).cell (j:=0) rfl
   have rd0:=akh Ab8r hK' (by omega);refine fxi ?_<|ldR rd0 V_cR rfl<|fxi ?_<|fxc zc (fun W h=>by simp [loadVar,h,go_sem]) rfl<|fxs (by kernel_rfl)<|fxi ?_<|fxn;all_goals (first|(refine .inr ?_;go_big_quiet_step (fail);exact wqn rfl)|exact .inl (by kernel_rfl))
  ·exact fP1 (fun _=>rmh AB1 (qR V_cz.out) (qR V_cR.out) rfl)
  ·exact fP1 (sR V_cR (fun _=>rfl) rfl)
  intro β wx3 E;replace FR:=ffh FR E (by omega);replace AB1:=aoh E AB1 mms;simp only [nP,zu];go_wp2_with fail
  have hld:=rdR AB1 V_cR;refine bodyPost_ret (v:=.tuple #[.agg cR.toArray,.int .i64 code]) (by simp [results,Tryz.results12,asAddr,hld]) rfl ?_;exact ⟨rfl,qaY HB0 FR⟩
end Go.Proofs.YtemoddmadfoaiaaGreat
set_option maxHeartbeats 16000000
namespace Go.Proofs.YtemoddmadfoaiaaGreat
open Go.RowKit Big Reg Ga Dl
open Lib (hid)
theorem qjH {cp cw:List Value} {P w:Qn} {pl:Nat} {z k:Int} (h:cp=rat (decide (P.1<0)) P.1.natAbs false P.2) (hp:Pc P) (hz:z=(pl:Int)) (h6:pl≤6) (k0:0≤k) (k1:k≤1000000000000000) (hw:worthQ P pl k=some w) (hc:cw=rat (decide (w.1<0)) w.1.natAbs false w.2) (W:World) :
  CB 12 #[.agg cp.toArray,.int .i64 z,.int .i64 k] (.tuple #[.agg cw.toArray,.int .i64 0]) W:=by
 refine qtV (cz:=rat false 0 false 0) h (qiQ hp).symm (qaG hp.vq.num) (qaG hp.vq.den) hc rfl (.inr (.inr (.inr ⟨rfl,by omega,by omega,by omega,by omega,fun V=>?_⟩))) W;have g:=qtL (cN:=resN (worthQ P pl k)) (z:=z) (k:=k) h hp hz h6 k0 k1 rfl V;rw [hw] at g;exact g
theorem exact_any (a:Option Addr) (len cap:Nat) (z:List Int) (pz:Int) (w:World) (hr:IsRow .i64 w a len cap z) :
  CB 7 #[.slice a len cap,.int .i64 pz] (.bool true) w:=by
 have hln:=jfA hr;have hl9:len≤9223372036854775807:=by unfold maxLen at hln;omega
 obtain ⟨bt,hbt⟩:=nqx (w.heap.size);have hN:=jfS a len cap z w hr hl9;rw [←hbt] at hN;have HBT:=hid hbt;have HN:=hid hN;have HRG:=hid (fun W (h:IsTp W bt)=>show Calls Tryz.prog 16 #[.pointer (some ⟨bt,0,none⟩),.int .i64 6] W (ScRegP 6 bt W) from qoN bt 6 W h (by decide));have HDL:=hid (fun W (h:IsTp W bt)=>show Calls Tryz.prog 17 #[.pointer (some ⟨bt,0,none⟩),.int .i64 8] W (fun e w'=>∃ (v:Value) (l:List Tk),e=.returned v∧MadeTs 8 l∧w'.ownsRow W.heap.size 60 13 v l.length (cellsT l)∧Drew W bt w') from qzA bt 8 W h (by decide));clear hN hbt hr hl9 hln;go_enter Tryz.func7,Tryz.ntmps7
 go_wp2_with fail
 refine HN.out.mono ?_;rintro e w1 ⟨rfl,ht1,hb1⟩;have HT1:=hid ht1;have HB1:=hid hb1;have hbt1:=ht1.lt;clear ht1 hb1 HN;go_upto_region 3 with (first|(go_at_call 15;refine (quC bt _ HT1.out).mono ?_;rintro e w2 ⟨p,q,cp,cq,hcp,hcq,rfl,hp,hq,hd⟩;have V_cp:=hid (show cp=rat (decide (p.1<0)) p.1.natAbs false p.2 from hcp);have V_cq:=hid (show cq=rat (decide (q.1<0)) q.1.natAbs false q.2 from hcq);have HPQ:=hid (And.intro hp hq);have D2:=hid hd;clear hcp hcq hp hq hd)|(refine qqF rfl rfl rfl rfl rfl rfl rfl rfl (Tryz.alR (qR V_cp.out)) (Tryz.alR (qR V_cq.out)) rfl rfl rfl rfl (qR V_cp.out) (qsD V_cp.out) (qR V_cq.out) (qsD V_cq.out) ?_;intro w3 hb3 hA3 hB3 hs3))
 try simp only [zq]
 have lbt:=D2.out.1.lt;obtain ⟨b7,hb7⟩:=nqx (w2.heap.size+1);rw [←hb7] at hB3 ⊢;obtain ⟨b6,hb6⟩:=nqx (w2.heap.size);rw [←hb6] at hA3 lbt hb7 ⊢;have D3:=hid (D2.out.below hb3);have Ab6:=hid hA3;have Ab7:=hid hB3;have l67:b6<b7:=by omega
 clear hA3 hB3 hs3 hb3 D2 hb6 hb7;go_upto_region 4 with (first|(go_at_call 16;refine (HRG.out _ D3.out.1).mono ?_;rintro e w4 ⟨va,l,rfl,hg,hl6,ho,hd⟩;have D4:=hid (D3.out.trans hd);have HD4:=hid hd;obtain ⟨A,q0,rfl⟩:=Rd.form ho.lots;have HG:=hid hg;have HO:=hid ho;have HNIL:=hid (quF ho);have HL6:=hid hl6;clear hg hl6 ho hd)|(go_at_call 17;refine (HDL.out _ D4.out.1).mono ?_;rintro e w5 ⟨vt,ts,rfl,hm,ho,hd⟩;have HD5:=hid hd;have HM:=hid hm;obtain ⟨AT,qT,rfl⟩:=Rd.form (Rd.of_own ho);have HTS:=hid (show TksAt w5 (.slice AT ts.length qT) ts from Rd.of_own ho);clear hm ho hd)|(refine qcR rfl rfl rfl rfl (cs:=[.slice A l.length q0]) ⟨_,Tryz.layRg,by simp⟩ rfl rfl (by kernel_rfl) (by simp [Value.oneCell']) ?_;intro w6 hb6q hA6 hs6))
 try simp only [zq]
 have lb3:=D3.out.1.lt;have lb8:=HD5.out.size;have lb4:=HD4.out.size;replace Ab6:=hid ((Ab6.out.drw HD4.out (by omega)).drw HD5.out (by omega));replace Ab7:=hid ((Ab7.out.drw HD4.out (by omega)).drw HD5.out (by omega));have D5:=hid (D4.out.trans HD5.out);replace HO:=hid (show LotsAt w5 (.slice A l.length q0) l from (HO.out.drawn HD5.out (by omega)).lots);obtain ⟨b8,hb8⟩:=nqx (w5.heap.size);have l68:=Ab6.out.lt;have l78:=Ab7.out.lt;rw [←hb8] at hA6 l68 l78 ⊢;replace Ab6:=hid (Ab6.out.below hb6q);replace Ab7:=hid (Ab7.out.below hb6q);have Ab8:=hid hA6;replace HO:=hid (HO.out.below hb6q);replace HTS:=hid (Rd.below HTS.out hb6q);have HB6:=hid (Drew.fram (D5.out.below hb6q) HBT.out (by have h:=HB1.out;rwa [HBT.out] at h));obtain ⟨n,hn⟩:=nqx (ts.length);obtain ⟨nS,hnS⟩:=nqx (l.length);rw [←hn] at HTS ⊢;rw [←hnS] at HO Ab8 ⊢;have HNT:=hid hn;have HNS:=hid hnS;clear hA6 hs6 hb6q hb8 D3 D4 D5 HD4 HD5 HB1 HT1 HRG HDL hn hnS;obtain ⟨hm0,hm1⟩:=qxT pz 7 (by decide);obtain ⟨pl,hpl⟩:∃ pl:Nat,modI pz 7=(pl:Int):=⟨(modI pz 7).toNat,by omega⟩;have hpl6:pl≤6:=by omega
 have HMD:=hid (fun W=>show Calls Tryz.prog 18 #[.int .i64 pz,.int .i64 7] W (fun e w'=>e=.returned (.int .i64 (pl:Int))∧W=w') by rw [←hpl];exact qxS pz 7 W (by decide));clear hpl hm0 hm1;obtain ⟨hFp,hFq⟩:=HPQ.out;obtain ⟨hT,hOK,hn8⟩:=jbU HM.out (by decide);have hCh:=quM HG.out (by have:=HL6.out;omega);have HCH:=hid hCh;have HOK:=hid hOK;have hn8':n≤8:=by rw [HNT.out];exact hn8
 obtain ⟨RD,hRD⟩:=nqx (dealL l ts p q pl 0);have HRD:=hid hRD
 have HDE:=hid (fun W (hW:Below w6.heap.size w6 W)=>show Calls Tryz.prog 19 #[.agg #[.slice A nS q0],.slice AT n qT,.agg cp.toArray,.agg cq.toArray,.int .i64 (pl:Int),.int .i64 0] W (DealP RD W) by
  rw [HRD.out,HNS.out,HNT.out];exact qkD (pl:=pl) (z:=(pl:Int)) (by rw [V_cp.out];rfl) (by rw [V_cq.out];rfl) hFp.pc hFq.pc rfl (by omega) (by decide) (by decide) hCh hT HNIL.out W (by have:=HO.out.below hW;rwa [HNS.out] at this) (by have:=Rd.below HTS.out hW;rwa [HNT.out] at this))
 clear hRD hCh hOK hT hn8;go_upto_region 5 with (go_at_call 18;refine (HMD.out _).mono ?_;rintro e w9 ⟨rfl,rfl⟩)
 go_upto_region 6 with (first|(refine wpList_load_mid rfl _ _ rfl b8 0 rfl [.slice A nS q0] _ Ab8.out.range Tryz.underlying40 rfl (by kernel_rfl) ?_)|(refine wpList_load_mid rfl _ _ rfl b6 0 rfl cp _ Ab6.out.range Tryz.underlying27 rfl (qR V_cp.out) ?_)|(refine wpList_load_mid rfl _ _ rfl b7 0 rfl cq _ Ab7.out.range Tryz.underlying27 rfl (qR V_cq.out) ?_)|(go_at_call 19;refine (HDE.out _ (Below.refl _ _)).mono ?_;intro e w9 h9;obtain ⟨v9,rfl,hb9,⟨⟨A1,n1,q1,vn,ec,rfl⟩,hR⟩⟩:=h9.dlr;have HB9:=hid hb9;have HR9:=hid hR;clear h9 hb9 hR)|(refine qcR rfl rfl rfl rfl (cs:=[.slice A1 n1 q1]) ⟨_,Tryz.layRg,by simp⟩ rfl rfl (by kernel_rfl) (by simp [Value.oneCell']) ?_;intro W hbW hAW hsW))
 try simp only [zq]
 have hR:=DlR.upB (show DlR RD w6.heap.size (.tuple #[.agg #[.slice A1 n1 q1],vn,.int .i64 ec]) w9 from ⟨⟨_,_,_,_,_,rfl⟩,HR9.out⟩) hbW;have hW:=HB9.out.trans (hbW.mono HB9.out.size);have HW:=hid hW;have HBW:=hid (HB6.out.trans (hW.mono HB6.out.size));clear hAW hsW hbW HR9 HB9
 cases RD with
 | error c =>
  have hc:=jdD HRD.out.symm;obtain ⟨_,_,he⟩:=tup3 hR.2;injection he with _ he
  subst he;clear hR hW;rcases hc with rfl|rfl|rfl|rfl
  all_goals go_wp2_with fail
  all_goals refine (qtD _).mono ?_
  all_goals rintro e w9 ⟨rfl,hb9⟩
  all_goals go_wp2
  all_goals go_ret
  all_goals exact ⟨rfl,HBW.out.trans (hb9.mono HBW.out.size)⟩
 | ok rr =>
  obtain ⟨l',N⟩:=rr;obtain ⟨v',bn,he,_,hNm,_,_⟩:=hR.2;obtain ⟨_,e2,e3⟩:=tup3 he;injection e3 with _ e3
  subst e3;obtain ⟨k2,k3⟩:=quR hFp hFq hpl6 (by decide) (by decide) HCH.out HOK.out HRD.out.symm;rw [←HNT.out] at k2;rw [k2] at e2;subst e2;have HEX:=hid k3;have HNM:=hid (show NtsAt W bn N from hNm);have Bb6:=hid (Ab6.out.below HW.out);have Bb7:=hid (Ab7.out.below HW.out);have HTW:=hid (TksAt.below (show TksAt w6 (.slice AT n qT) ts by have h:=HTS.out;rw [HNT.out] at h;rw [HNT.out];exact h) HW.out);have hsz6:=HW.out.size;clear hR hW hNm k2 k3 he HDE HRD HM HG HMD HO HTS Ab6 Ab7 Ab8;go_upto_region 10 with fail
  go_wp2
  go_loopg [13,14,15,16,17,18,19,20] n (fun m iv _ _ _ _ _ _ _ wr=>∃ k:Nat,iv=.int .i64 k∧k≤n∧n≤m+k∧Below W.heap.size W wr)
  case atStart=>exact ⟨0,rfl,by omega,by omega,Below.refl _ _⟩
  case round =>
   obtain ⟨k,rfl,hk,hmk,hb⟩:=hrel;have HBK:=hid hb;clear hb;by_cases hlk:k<n
   ·have hkI:(k:Int)<(n:Int):=by omega
    obtain ⟨t,ht⟩:∃ t,ts[k]?=some t:=⟨_,List.getElem?_eq_getElem (by rw [←HNT.out];exact hlk)⟩;obtain ⟨x,hx,hX⟩:=HEX.out k t ht;obtain ⟨vl,hAt,_⟩:=(NtsAt.below HNM.out HBK.out) k x hx;obtain ⟨g,off,capT,hAT,hcT⟩:=qmK HTW.out (by rw [←HNT.out];omega);have hATe:AT=some ⟨g,off,none⟩:=by injection hAT
    subst hATe;have ho0:=qcU (hcT k t ht 0 (.string t.o.key) rfl) HBK.out;have ho5:=qcU (hcT k t ht 5 (.int .i64 t.o.kind) rfl) HBK.out;rw [←hX.key] at ho0;rw [←hX.kind] at ho5;have HO0:=hid (show wr.cell? ⟨g,off+k*13,none⟩=some (.string x.key) from ho0);have HO5:=hid ho5;have HN0:=hid (show wr.cell? ⟨bn,k*7,none⟩=some (.string x.key) from hAt.cell (j:=0) rfl);have HN3:=hid (show wr.cell? ⟨bn,k*7+3,none⟩=some (.int .i64 x.kind) from hAt.cell (j:=3) rfl);have HN4:=hid (show wr.cell? ⟨bn,k*7+4,none⟩=some (.int .i64 x.units) from hAt.cell (j:=4) rfl);have HN5:=hid (show wr.cell? ⟨bn,k*7+5,none⟩=some (.int .i64 x.money) from hAt.cell (j:=5) rfl);obtain ⟨b0,hb0⟩:=nqx (isR x.kind);have HB0:=hid hb0;have HRE:=hid (fun V=>show CB 28 #[.int .i64 x.kind] (.bool b0) V by rw [HB0.out];exact qwR x.kind V);have HX:=hid hX;clear ht hx hX hAt hAT hcT ho0 ho5 hb0;go_upto_region 14 with (first|(refine wpList_load_mid rfl _ _ rfl b6 0 rfl cp _ (Bb6.out.below HBK.out).range Tryz.underlying27 rfl (qR V_cp.out) ?_)|(refine qcR rfl rfl rfl rfl (cs:=cp) (Tryz.alR (qR V_cp.out)) rfl rfl (qR V_cp.out) (qsD V_cp.out) ?_;intro wa hba hAa hsa))
    try simp only [zq]
    obtain ⟨b14,hb14⟩:=nqx (wr.heap.size);rw [←hb14] at hAa ⊢;have hn3:=qcU HN3.out hba;have hWb:W.heap.size≤b14:=by rw [hb14];exact HBK.out.size
    have hrb:wr.heap.size≤b14:=by omega
    have HBA:=hid hba;have HAA:=hid hAa;clear hba hAa hsa hb14;go_wp2_with fail
    refine (HRE.out _).mono ?_;rintro e wb ⟨rfl,hbb⟩;have HABB:=hid (HBA.out.trans (hbb.mono HBA.out.size));have HKB:=hid (HBK.out.trans (HABB.out.mono HBK.out.size));replace HAA:=hid (HAA.out.below hbb);clear hbb hn3
    cases b0
    case' true =>
     have HTH:=hid (show wb.there b14 0 cq.toArray.size by have:=HAA.out.there;rw [V_cp.out,qaS] at this;rw [List.size_toArray,V_cq.out,qaS];exact this);go_upto_region 16 with (first|(refine wpList_load_mid rfl _ _ rfl b7 0 rfl cq _ (Bb7.out.below HKB.out).range Tryz.underlying27 rfl (qR V_cq.out) ?_)|(refine wpList_store_mid rfl _ _ _ rfl b14 0 _ rfl rfl HTH.out (by rw [List.size_toArray];exact qR V_cq.out) (qsD V_cq.out) ?_))
     try simp only [zq]
     try simp only [List.toList_toArray]
     have hAc:=HAA.out.stored (ds:=cq) (by rw [V_cp.out,V_cq.out,qaS,qaS]);have hKc:=qaC hWb cq 0 _ HKB.out;have hBc:=qaC hrb cq 0 _ HABB.out;obtain ⟨wc,hwc⟩:=nqx (wb.setCells b14 0 cq);obtain ⟨w1,one,S,R,T,hE⟩:=HX.out.red HB0.out.symm;obtain ⟨P,hP⟩:=nqx q;obtain ⟨cP,hcP⟩:=nqx cq;have V_cP:=hid (show cP=rat (decide (P.1<0)) P.1.natAbs false P.2 by rw [hcP,hP];exact V_cq.out);have HFP:=hid (show Fw P by rw [hP];exact hFq);rw [←hwc] at hAc hKc hBc ⊢;rw [←hcP] at hAc;rw [←hP] at hE;obtain ⟨sg,hsg⟩:=nqx ((-1):Int);rw [←hsg] at hE;rw [show (Value.int .i64 (-1))=.int .i64 sg by rw [hsg]];have hsb:sg=1∨sg=-1:=by omega
     have AP:=hid hAc;have HKC:=hid hKc;have HBC:=hid hBc;have HE:=hid hE;clear hAc hKc hBc hE hwc hsg hcP hP
    case' false =>
     go_upto_region 16 with fail
     have hAc:=HAA.out;have hKc:=HKB.out;have hBc:=HABB.out;obtain ⟨wc,hwc⟩:=nqx wb;obtain ⟨w1,one,S,R,T,hE⟩:=HX.out.sub HB0.out.symm;obtain ⟨P,hP⟩:=nqx p;obtain ⟨cP,hcP⟩:=nqx cp;have V_cP:=hid (show cP=rat (decide (P.1<0)) P.1.natAbs false P.2 by rw [hcP,hP];exact V_cp.out);have HFP:=hid (show Fw P by rw [hP];exact hFp);rw [←hwc] at hAc hKc hBc ⊢;rw [←hcP] at hAc;rw [←hP] at hE;obtain ⟨sg,hsg⟩:=nqx (1:Int);rw [←hsg] at hE;rw [show (Value.int .i64 1)=.int .i64 sg by rw [hsg]];have hsb:sg=1∨sg=-1:=by omega
     have AP:=hid hAc;have HKC:=hid hKc;have HBC:=hid hBc;have HE:=hid hE;clear hAc hKc hBc hE hwc hsg hcP hP
    all_goals
     obtain ⟨csg,V_csg⟩:=nvx (nm (decide (sg<0)) sg.natAbs false 1 0);obtain ⟨cm,V_cm⟩:=nvx (nm (decide (x.money<0)) x.money.natAbs false 1 0);obtain ⟨co,V_co⟩:=nvx (nm false 1 false 1 0);obtain ⟨cwo,V_cwo⟩:=nvx (nm (decide (w1.1<0)) w1.1.natAbs false w1.2 0);obtain ⟨c1o,V_c1o⟩:=nvx (nm (decide (one.1<0)) one.1.natAbs false one.2 0);obtain ⟨cS,V_cS⟩:=nvx (nm (decide (S.1<0)) S.1.natAbs false S.2 0);obtain ⟨cR,V_cR⟩:=nvx (nm (decide (R.1<0)) R.1.natAbs false R.2 0);obtain ⟨cT,V_cT⟩:=nvx (nm (decide (T.1<0)) T.1.natAbs false T.2 0);obtain ⟨cw,V_cw⟩:=nvx (rat (decide (w1.1<0)) w1.1.natAbs false w1.2);obtain ⟨c1,V_c1⟩:=nvx (rat (decide (one.1<0)) one.1.natAbs false one.2);have HW1:=hid (fun V=>qjH (z:=(pl:Int)) V_cP.out HFP.out.pc rfl hpl6 HX.out.u0 HX.out.u1 HE.out.ew V_cw.out V);have HW2:=hid (fun V=>qjH (z:=(pl:Int)) (k:=1) V_cP.out HFP.out.pc rfl hpl6 (by decide) (by decide) HE.out.eo V_c1.out V);have d0:=qcU HN0.out HBC.out;have d3:=qcU HN3.out HBC.out;have d4:=qcU HN4.out HBC.out;have d5:=qcU HN5.out HBC.out;have f0:=qcU HO0.out HBC.out;have f5:=qcU HO5.out HBC.out;have HD0:=hid d0;have HD3:=hid d3;have HD4:=hid d4;have HD5:=hid d5;have HF0:=hid f0;have HF5:=hid f5;clear d0 d3 d4 d5 f0 f5;have FR:=hid (Fr.start wc);have FR0:=hid FR.out.le;refine wT [⟨true,11,16,12,0,0,27,87,cw,0,cw,[]⟩] [(79,aT cP),(80,iT pl),(81,.slice (some ⟨bn,0,none⟩) n n),(82,iT k),(83,pT bn (k*7)),(84,pT bn (k*7+4)),(85,iT x.units),(86,.tuple #[aT cw,iT 0]),(78,.tuple #[aT cw,iT 0]),(87,aT cw),(88,iT 0),(17,iT 0)] (by simp only [zu];rfl) (by kernel_rfl) rfl ?_ ?_ ?_ ?_
     ·intro W' hW';have y4:=qcU HD4.out (FR.out.below.trans (hW'.mono FR.out.below.size));refine lhR AP hW' V_cP rfl<|fo4 ?_ ?_ ?_ ?_<|fxo ?_<|fxc y4 (fun W h=>by simp [loadVar,h,go_sem]) rfl<|fo4 ?_ ?_ ?_ ?_<|fxs rfl<|fxs rfl<|fxo ?_<|fxn;all_goals (go_big_quiet_step (exact qaA (HW1.out _));exact wqn rfl)
     ·exact fP1 (Tryz.alR (qR V_cw.out))
     ·exact fP1 (sR V_cw (fun _=>rfl) rfl)
     intro β wx1 E;replace FR:=fnf FR E rfl;obtain ⟨b16,hb16,eb16⟩:=nwb E mms;have lb14_b16:b14<b16:=ltb AP eb16.1;have hZb16:wc.heap.size≤b16:=by have h1:=eb16.1;have h2:=FR0.out;omega
     replace AP:=fnh AP E rfl;have Ab16:=hid eb16.2;simp only [nP,zu];rw [←hb16];replace FR0:=hid FR.out.le;clear E eb16 hb16;go_upto_region 17 with fail
     refine wT [⟨true,6,18,7,0,0,27,93,c1,0,c1,[]⟩] [(90,aT cP),(91,iT pl),(92,.tuple #[aT c1,iT 0]),(89,.tuple #[aT c1,iT 0]),(93,aT c1),(94,iT 0),(19,iT 0)] (by simp only [zu];rfl) (by kernel_rfl) rfl ?_ ?_ ?_ ?_
     ·intro W' hW';refine lhR AP hW' V_cP rfl<|fo4 ?_ ?_ ?_ ?_<|fxo ?_<|fxs rfl<|fxs rfl<|fxo ?_<|fxn;all_goals (go_big_quiet_step (exact qaA (HW2.out _));exact wqn rfl)
     ·exact fP1 (Tryz.alR (qR V_c1.out))
     ·exact fP1 (sR V_c1 (fun _=>rfl) rfl)
     intro β wx2 E;replace FR:=fnf FR E rfl;obtain ⟨b18,hb18,eb18⟩:=nwb E mms;have lb14_b18:b14<b18:=ltb AP eb18.1;have lb16_b18:b16<b18:=ltb Ab16 eb18.1;have hZb18:wc.heap.size≤b18:=by have h1:=eb18.1;have h2:=FR0.out;omega
     replace AP:=fnh AP E rfl;replace Ab16:=fnh Ab16 E rfl;have Ab18:=hid eb18.2;simp only [nP,zu];rw [←hb18];replace FR0:=hid FR.out.le;clear E eb18 hb18;go_upto_region 18 with fail
     refine wE [(95,iT 0),(96,bF),(97,bF),(98,iT 0),(99,bF),(100,bF),(101,bF),(102,.slice (some ⟨bn,0,none⟩) n n),(103,iT k),(104,pT bn (k*7)),(105,pT bn (k*7)),(106,.string x.key),(107,.slice (some ⟨g,off,none⟩) n qT),(108,iT k),(109,pT g (off+k*13)),(110,pT g (off+k*13)),(111,pT g (off+k*13)),(112,.string x.key),(113,bF),(114,bF),(115,bF),(116,.slice (some ⟨bn,0,none⟩) n n),(117,iT k),(118,pT bn (k*7)),(119,pT bn (k*7+3)),(120,iT x.kind),(121,.slice (some ⟨g,off,none⟩) n qT),(122,iT k),(123,pT g (off+k*13)),(124,pT g (off+k*13)),(125,pT g (off+k*13+5)),(126,iT x.kind),(127,bF),(128,bF)] (by simp only [zu];rfl) (by kernel_rfl) ?_ ?_
     ·intro W' hW';have y0:=qcU HD0.out (FR.out.below.trans (hW'.mono FR.out.below.size));have y3:=qcU HD3.out (FR.out.below.trans (hW'.mono FR.out.below.size));have yf0:=qcU HF0.out (FR.out.below.trans (hW'.mono FR.out.below.size));have yf5:=qcU HF5.out (FR.out.below.trans (hW'.mono FR.out.below.size));refine fo4 ?_ ?_ ?_ ?_<|fo4 ?_ ?_ ?_ ?_<|fo3 ?_ ?_ ?_<|fxc y0 (fun W h=>by simp [loadVar,h,go_sem]) rfl<|fo4 ?_ ?_ ?_ ?_<|fxo ?_<|fxc yf0 (fun W h=>by simp [loadVar,h,go_sem]) rfl<|fo4 ?_ ?_ ?_ ?_<|fo3 ?_ ?_ ?_<|fxc y3 (fun W h=>by simp [loadVar,h,go_sem]) rfl<|fo4 ?_ ?_ ?_ ?_<|fxo ?_<|fxc yf5 (fun W h=>by simp [loadVar,h,go_sem]) rfl<|fo2 ?_ ?_<|fxn;all_goals (go_big_quiet_step (fail);exact wqn rfl)
     intro β wx3 E;replace FR:=fnf FR E rfl;replace AP:=fnh AP E rfl;replace Ab16:=fnh Ab16 E rfl;replace Ab18:=fnh Ab18 E rfl;have hE:=E.below rfl;simp only [nP,zu];replace FR0:=hid FR.out.le;go_upto_region 20 with fail
     have HI1:=hid (eInt (cN:=csg) (z:=sg) (by rw [V_csg.out];rfl) (by omega) (by omega));have hm0:=HX.out.m0;have hm1:=HX.out.m1;have HI2:=hid (eInt (cN:=cm) (z:=x.money) (by rw [V_cm.out];rfl) (by omega) (by omega));have HI3:=hid (eInt (cN:=co) (z:=1) (by rw [V_co.out];rfl) (by decide) (by decide));have HOF:=hid (eOf V_cw.out V_cwo.out);have HO1:=hid (eOf V_c1.out V_c1o.out);have HSU:=hid (eSub (ca:=cm) (cb:=cwo) (cN:=cS) (a:=some (x.money,1)) (b:=some w1) (by rw [V_cm.out];rfl) (by rw [V_cwo.out];rfl) (fun r e=>by injection e with e;subst e;exact qvH _ (by omega)) (fun r e=>by injection e with e;subst e;exact HE.out.vw) (by show _=resN (subQ (x.money,1) w1);rw [HE.out.es,V_cS.out];rfl));have HMU:=hid (jiP (ca:=csg) (cb:=cS) (cN:=cR) (a:=some (sg,1)) (b:=some S) (by rw [V_csg.out];rfl) (by rw [V_cS.out];rfl) (fun r e=>by injection e with e;subst e;exact qvH _ (by omega)) (fun r e=>by injection e with e;subst e;exact HE.out.vs) (by show _=resN (mulQ (sg,1) S);rw [HE.out.er,V_cR.out];rfl));have HAD:=hid (eAdd (ca:=c1o) (cb:=co) (cN:=cT) (a:=some one) (b:=some (1,1)) (by rw [V_c1o.out];rfl) (by rw [V_co.out];rfl) (fun r e=>by injection e with e;subst e;exact HE.out.vo) (fun r e=>by injection e with e;subst e;exact qvH _ (by decide)) (by show _=resN (addQ one (1,1));rw [HE.out.et,V_cT.out];rfl));obtain ⟨s0,hs0⟩:=nqx (R.1.sign);have HSG:=hid (jiE (ca:=cR) (a:=R) (by rw [V_cR.out];rfl) HE.out.vr hs0);have hs1:¬s0<0:=by rw [hs0];exact jaY HE.out.r0
     have HLE:=hid (eLess (ca:=cR) (cb:=cT) (a:=R) (b:=T) (t:=true) (by rw [V_cR.out];rfl) (by rw [V_cT.out];rfl) HE.out.vr HE.out.vt (by rw [decide_eq_true HE.out.lt]));clear hs0;refine wT [⟨true,12,20,13,0,0,70,140,cR,0,cR,[]⟩] [(129,iT sg),(130,aT csg),(131,.slice (some ⟨bn,0,none⟩) n n),(132,iT k),(133,pT bn (k*7)),(134,pT bn (k*7+5)),(135,iT x.money),(136,aT cm),(137,aT cw),(138,aT cwo),(139,aT cS),(140,aT cR)] (by simp only [zu];rfl) (by kernel_rfl) rfl ?_ ?_ ?_ ?_
     ·intro W' hW';have y5:=qcU HD5.out (FR.out.below.trans (hW'.mono FR.out.below.size));refine fo4 ?_ ?_ ?_ ?_<|fo2 ?_ ?_<|fxc y5 (fun W h=>by simp [loadVar,h,go_sem]) rfl<|fxo (by go_big_quiet_step (exact qaA (HI2.out _));exact wqn rfl)<|lhR Ab16 hW' V_cw rfl<|fxo (by go_big_quiet_step (exact qaA (HOF.out _));exact wqn rfl)<|fxo (by go_big_quiet_step (exact qaA (HSU.out _));exact wqn rfl)<|fxo (by go_big_quiet_step (exact qaA (HMU.out _));exact wqn rfl)<|fxs rfl<|fxs rfl<|fxn;all_goals (go_big_quiet_step (exact qaA (HI1.out _));exact wqn rfl)
     ·exact fP1 (Tryz.alN (qbB V_cR.out))
     ·exact fP1 (stw rfl (qbB V_cR.out) (qsE V_cR.out) (fun _=>rfl))
     intro β wx4 E;replace FR:=fnf FR E rfl;obtain ⟨b20,hb20,eb20⟩:=nwb E mms;have lb14_b20:b14<b20:=ltb AP eb20.1;have lb16_b20:b16<b20:=ltb Ab16 eb20.1;have lb18_b20:b18<b20:=ltb Ab18 eb20.1;have hZb20:wc.heap.size≤b20:=by have h1:=eb20.1;have h2:=FR0.out;omega
     replace Ab18:=fnh Ab18 E rfl;have Ab20:=hid eb20.2;simp only [nP,zu];rw [←hb20];clear E eb20 hb20;go_upto_region 21 with fail
     refine wE [(141,aT cR),(142,iT s0),(143,bF),(144,bF),(145,aT cR),(146,aT c1),(147,aT c1o),(148,aT co),(149,aT cT),(150,bT),(151,bF),(152,bF)] (by simp only [zu];rfl) (by kernel_rfl) ?_ ?_
     ·intro W' hW';have rd0:=Ab20.out.below hW';refine fxl rd0 (qbB V_cR.out) Tryz.underlying70 rfl rfl<|fo3 ?_ ?_ ?_<|fxl rd0 (qbB V_cR.out) Tryz.underlying70 rfl rfl<|lhR Ab18 hW' V_c1 rfl<|fxo (by go_big_quiet_step (exact qaA (HO1.out _));exact wqn rfl)<|fxo (by go_big_quiet_step (exact qaA (HI3.out _));exact wqn rfl)<|fxo (by go_big_quiet_step (exact qaA (HAD.out _));exact wqn rfl)<|fxo (by go_big_quiet_step (exact qaA (HLE.out _));exact wqn rfl)<|fo2 ?_ ?_<|fxn;all_goals (go_big_quiet_step (exact qaA (HSG.out _));exact wqn rfl)
     intro β wx5 E;replace FR:=fnf FR E rfl;have hE:=E.below rfl;simp only [nP,zu];have HBZ:=hid (HKC.out.trans (FR.out.below.mono HKC.out.size));go_wp2
     go_roundg (gk - 1)
     case measure=>omega
     case rel=>exact ⟨k+1,by go_num,by omega,by omega,HBZ.out⟩
   ·obtain rfl:k=n:=by omega
    go_wp2_with fail
    refine (qtD _).mono ?_;rintro e w9 ⟨rfl,hb9⟩;have z1:=HBW.out.trans (HBK.out.mono HBW.out.size);have HB9:=hid (z1.trans (hb9.mono z1.size));clear hb9 z1;go_wp2
    go_ret
    exact ⟨rfl,HB9.out⟩
end Go.Proofs.YtemoddmadfoaiaaGreat
