import Derived.Test.YtemoddmadfoaiaaGreatBiX
import Derived.ChangeKeysEq
set_option linter.unusedVariables false
set_option linter.unusedSimpArgs false
set_option maxRecDepth 100000
namespace Go.Proofs.YtemoddmadfoaiaaGreat
open Go.RowKit Big
theorem Tryz.infoR:(Tryz.prog.info? 27).map (·.size)=some 66:=by kernel_rfl
def rat (n:Bool) (p:Nat) (m:Bool) (q:Nat):List Value:=(.bool n::lv 32 p)++(.bool m::lv 32 q)
theorem qcB (n:Bool) (p:Nat) (m:Bool) (q:Nat):(rat n p m q).length=66:=by unfold rat;rw [List.length_append,List.length_cons,List.length_cons,qlL,qlL]
theorem qtZ (n:Bool) (p:Nat) (m:Bool) (q:Nat):∀ x∈rat n p m q,x.oneCell'=true:=fun x hx=>by
 rcases List.mem_append.1 hx with h|h
 ·exact qeL n p x h
 ·exact qeL m q x h
theorem qR {cs:List Value} {n:Bool} {p:Nat} {m:Bool} {q:Nat} (h:cs=rat n p m q):(Tryz.prog.info? 27).map (·.size)=some cs.length:=by rw [h,qcB];exact Tryz.infoR
theorem oneR {cs:List Value} {n:Bool} {p:Nat} {m:Bool} {q:Nat} (h:cs=rat n p m q):cs.toArray.all (·.oneCell')=true:=by rw [h];exact all_oneCell_toArray (qtZ n p m q)
theorem ldR {ops:Array Oper} {w:World} {fin:Act} {s:Nat→Bool} {k:Nat} {op:Oper} {l:List Oper} {x:Operand} {b o:Nat} {cs:List Value} {n:Bool} {p:Nat} {m:Bool} {q:Nat} (hA:At w b o cs) (hV:Hid (cs=rat n p m q)) (h:(Region.wanted op (yielded ops fin.tmps),op.op,fin.eval x,fin.put op.dst (.agg cs.toArray))=(true,.load 27 x,.pointer (some ⟨b,o,none⟩),fin)) (h2:flowX Tryz.prog ops (fun w'=>∃ p:GB,w'=gw w p.d p.os) fin s (k+1) l):flowX Tryz.prog ops (fun w'=>∃ p:GB,w'=gw w p.d p.os) fin s k (op::l):=fxl hA (qR hV.out) Tryz.underlying27 rfl h h2
theorem sR {fin:Act} {new:Bool} {i s b o:Nat} {d x:Tmp} {cs:List Value} {n:Bool} {p:Nat} {m:Bool} {q:Nat} (hV:Hid (cs=rat n p m q)) (h0:new=true→o=0) (h:fin.tmps[x]?=some (.agg cs.toArray)):StOk Tryz.prog fin ⟨new,i,d,s,b,o,27,x,cs,o,cs,[]⟩:=stw h (qR hV.out) (oneR hV.out) h0
theorem At.num {w:World} {b:Nat} {c d:List Value} {n:Bool} {p:Nat} {m:Bool} {q:Nat} (h:At w b 0 c) (hc:c=rat n p m q) (hd:d=.bool n::lv 32 p):At w b 0 d:=by
 subst hc hd;exact At.head h
theorem At.den {w:World} {b:Nat} {c d:List Value} {n:Bool} {p:Nat} {m:Bool} {q:Nat} (h:At w b 0 c) (hc:c=rat n p m q) (hd:d=.bool m::lv 32 q):At w b 33 d:=by
 subst hc hd;exact At.tail h (by simp [qlL])
theorem Tryz.alR {cs:List Value} (h:(Tryz.prog.info? 27).map (·.size)=some cs.length):∃ z,LaysAs Tryz.prog 27 z∧cs.length≤z.size:=by
 refine ⟨(rat false 0 false 0).toArray,?_,by rw [Tryz.infoR] at h;injection h with h;rw [←h,List.size_toArray,qcB];exact Nat.le_refl _⟩;unfold rat;rw [qbP];intro o ho b w;unfold execOp;simp only [ho];rfl
theorem qpO:Tryz.prog.built 27 []=some (rat false 0 false 0).toArray:=by unfold rat;rw [qbP];kernel_rfl
theorem qzI (off:Nat):∀ (v:List Value) (k:Nat) (cells:Array Value),off+k+v.length≤cells.size →
  ∀ i,((v.zipIdx k).foldl (fun (cs:Array Value) (x:Value × Nat)=>cs.setIfInBounds (off+x.2) x.1) cells)[i]?=if off+k≤i∧i<off+k+v.length then v[i - (off+k)]? else cells[i]?:=by
 intro v
 induction v with
 | nil=>intro k cells _ i;rw [if_neg (by simp only [List.length_nil];omega)];rfl
 | cons x v ih =>
  intro k cells h i;simp only [List.zipIdx_cons,List.foldl_cons,List.length_cons] at h ⊢;rw [ih (k+1) _ (by simp;omega)];by_cases h1:off+(k+1)≤i∧i<off+(k+1)+v.length
  ·rw [if_pos h1,if_pos (by omega),show i - (off+k)=(i - (off+(k+1)))+1 by omega,List.getElem?_cons_succ]
  ·rw [if_neg h1,Array.getElem?_setIfInBounds];by_cases h2:off+k=i
   ·subst h2;rw [if_pos rfl,if_pos (by omega),if_pos (by omega),Nat.sub_self,List.getElem?_cons_zero]
   ·rw [if_neg h2,if_neg (by omega)]
theorem qiP (off:Nat) (v:Array Value) (cells:Array Value) (h:off+v.size≤cells.size) (i:Nat) :
  (v.zipIdx.foldl (fun (cs:Array Value) (x:Value × Nat)=>cs.setIfInBounds (off+x.2) x.1) cells)[i]?=if off≤i∧i<off+v.size then v[i - off]? else cells[i]?:=by
 have:=qzI off v.toList 0 cells (by simpa using h) i
 simp only [Nat.add_zero,Array.length_toList,Array.getElem?_toList] at this;rw [←this,←Array.foldl_toList,Array.toList_zipIdx]
theorem jaC (parts:List (Nat × Value)):Tryz.prog.built 27 parts=Instr.fill (#[(0,33),(33,33)][·]?) (rat false 0 false 0).toArray parts:=by
 unfold rat;rw [qbP];kernel_rfl
theorem qnQ {place:Nat→Option (Nat × Nat)} {cells:Array Value} {i off size:Nat} {v:Value} {rest:List (Nat × Value)} (hp:place i=some (off,size)) (hs:v.cells.size=size) (h:off+v.cells.size≤cells.size) :
  Instr.fill place cells ((i,v)::rest)=Instr.fill place (v.cells.zipIdx.foldl (fun cs (c,j)=>cs.setIfInBounds (off+j) c) cells) rest:=by
 rw [Instr.fill,hp];simp [hs];omega
theorem qpP {c d:List Value} (hc:c.length=33) (hd:d.length=33):Tryz.prog.built 27 [(0,.agg c.toArray),(1,.agg d.toArray)]=some (c++d).toArray:=by
 rw [jaC];have hz:(rat false 0 false 0).toArray.size=66:=by rw [List.size_toArray,qcB]
 generalize (rat false 0 false 0).toArray=Z at hz
 have h1:=qiP 0 c.toArray Z (by simp;omega);have e1:(#[(0,33),(33,33)]:Array (Nat × Nat))[0]?=some (0,33):=rfl;have e2:(#[(0,33),(33,33)]:Array (Nat × Nat))[1]?=some (33,33):=rfl;rw [qnQ (off:=0) (size:=33) rfl (by simp [Value.cells,hc]) (by simp [Value.cells];omega)];simp only [Value.cells]
 have hs1:(Array.foldl (fun (cs:Array Value) (x:Value × Nat)=>cs.setIfInBounds (0+x.2) x.1) Z c.toArray.zipIdx).size=66:=by
  have:∀ (l:List (Value × Nat)) (Z:Array Value),(l.foldl (fun (cs:Array Value) (x:Value × Nat)=>cs.setIfInBounds (0+x.2) x.1) Z).size=Z.size:=by
   intro l;induction l with
   | nil=>intro Z;rfl
   | cons x l ih=>intro Z;rw [List.foldl_cons,ih];simp
  rw [←Array.foldl_toList,this,hz]
 have h2:=qiP 33 d.toArray _ (Nat.le_of_eq (show 33+d.toArray.size=_ by rw [hs1];simp [hd]));generalize Array.foldl (fun (cs:Array Value) (x:Value × Nat)=>cs.setIfInBounds (0+x.2) x.1) Z c.toArray.zipIdx=Y at h1 h2 hs1
 rw [qnQ (off:=33) (size:=33) rfl (by simp [Value.cells,hd]) (by simp [Value.cells];omega)];simp only [Value.cells];unfold Instr.fill;congr 1
 apply Array.ext_getElem?
 intro i;rw [h2 i];by_cases hi:33≤i∧i<33+d.toArray.size
 ·rw [if_pos hi];simp [List.getElem?_append_right (show c.length≤i by omega),hc]
 ·rw [if_neg hi,h1 i];by_cases hj:0≤i∧i<0+c.toArray.size
  ·rw [if_pos hj];simp at hj;simp [List.getElem?_append_left (show i<c.length by omega)]
  ·rw [if_neg hj,Array.getElem?_eq_none (by simp at hi hj;omega),Array.getElem?_eq_none (by simp at hi hj ⊢;omega)]
theorem qqP (d:Nat) (xs ys:List Value) (us vs:List Nat) (hx:xs=us.map fun (x:Nat)=>Value.int .u32 x) (hy:ys=vs.map fun (x:Nat)=>Value.int .u32 x) (w:World):∀ is:List Nat,(∀ i∈is,i<us.length∧i<vs.length) →
  (Op.eqItems (d+1) 22 (Tryz.prog.cellsOf 22) xs.toArray ys.toArray is).run Tryz.prog w=.ok (is.all fun i=>us[i]?==vs[i]?) w:=by
 have hco:Tryz.prog.cellsOf 22=1:=by kernel_rfl
 have hpl:Tryz.prog.plainKey 22=true:=by kernel_rfl
 intro is
 induction is with
 | nil=>intro _;simp [Op.eqItems]
 | cons i is ih =>
  intro h;obtain ⟨h1,h2⟩:=h i mms;have g1:us[i]?=some us[i]:=List.getElem?_eq_getElem h1;have g2:vs[i]?=some vs[i]:=List.getElem?_eq_getElem h2;have p1:=run_part_plain (P:=Tryz.prog) w hpl (xs:=xs.toArray) (off:=i) (v:=.int .u32 (us[i]:Nat)) (by simp [hx,g1]);have p2:=run_part_plain (P:=Tryz.prog) w hpl (xs:=ys.toArray) (off:=i) (v:=.int .u32 (vs[i]:Nat)) (by simp [hy,g2]);simp only [Op.eqItems,hco,Nat.mul_one,Sem.run_bind,p1,p2,Result.andThen_ok,run_equalIn_int w d 22 .u32 .u32 _ _ Tryz.underlying22];have ih':=ih fun j hj=>h j (List.mem_cons_of_mem _ hj)
  rw [hco] at ih';rw [List.all_cons,g1,g2];by_cases e:us[i]=vs[i]
  ·simp [e,ih']
  ·have e1:((us[i]:Nat):Int)≠(vs[i]:Nat):=by omega
   simp [e,e1]
theorem jeM (d a b:Nat) (ha:a<BB^32) (hb:b<BB^32) (w:World):(Op.equalIn (d+2) 23 (.agg (lv 32 a).toArray) (.agg (lv 32 b).toArray)).run Tryz.prog w=.ok (decide (a=b)) w:=by
 obtain ⟨i,hi⟩:∃ i,Tryz.prog.info? 22=some i:=info_of_underlying Tryz.underlying22;rw [run_equalIn_array w (d+1) _ _ Tryz.underlying23 hi];rw [qqP d (lv 32 a) (lv 32 b) (dg 32 a) (dg 32 b) rfl rfl w (List.range 32) (fun i hi=>by rw [qgG,qgG];have:=List.mem_range.1 hi;omega)]
 have key:((List.range 32).all fun i=>(dg 32 a)[i]?==(dg 32 b)[i]?)=decide (a=b):=by
  by_cases h:a=b
  ·subst h;simp
  ·rw [decide_eq_false h]
   cases hc:(List.range 32).all fun i=>(dg 32 a)[i]?==(dg 32 b)[i]? with
   | false=>rfl
   | true =>
    refine absurd (qnS ha hb fun k hk=>?_) h
    have:=List.all_eq_true.1 hc k (List.mem_range.2 hk)
    rw [qgH a hk,qgH b hk] at this
    simpa using this
 rw [key]
theorem jcY (D:Nat) (n m:Bool) (a b:Nat) (ha:a<BB^32) (hb:b<BB^32) (w:World):(Op.equalIn (D+3) 25 (iV n a) (iV m b)).run Tryz.prog w=.ok (decide (n=m∧a=b)) w:=by
 unfold iV;have hpl:Tryz.prog.plainKey 4=true:=by kernel_rfl
 have p1:=run_part_plain (P:=Tryz.prog) w hpl (xs:=(Value.bool n::lv 32 a).toArray) (off:=0) (v:=.bool n) (by simp);have p2:=run_part_plain (P:=Tryz.prog) w hpl (xs:=(Value.bool m::lv 32 b).toArray) (off:=0) (v:=.bool m) (by simp)
 obtain ⟨i,hi,hs⟩:∃ i,Tryz.prog.info? 23=some i∧i.size=32:=by
  have:=Tryz.infoM
  cases h:Tryz.prog.info? 23 with
  | none=>rw [h] at this;cases this
  | some i=>rw [h] at this;injection this with this;exact ⟨i,rfl,this⟩
 have q:∀ (x:Value) (v:Nat),(part 23 (x::lv 32 v).toArray 1).run Tryz.prog w=.ok (.agg (lv 32 v).toArray) w:=fun x v=>by
  have hx:List.take 32 (lv 32 v)=lv 32 v:=by rw [List.take_of_length_le];rw [qlL];exact Nat.le_refl _
  simp [part,isAgg,Sem.run_bind,run_underlying Tryz.underlying23,run_sizeOf w hi,Program.cellsOf,hi,hs,hx]
 have hu:Tryz.prog.underlying 25=some (.struct (Tryz.prog.fieldsOf 25)):=by rw [Program.fieldsOf,Tryz.underlying25]
 have hst:Tryz.prog.stoodInHeld 25=false:=by kernel_rfl
 rw [run_equalIn_struct w (D+2) 25 _ _ hu hst]
 have hf : (Tryz.prog.fieldsOf 25).toList = [{ name := "Neg", type := 4, offset := 0, embedded := false, tag := "", pkgPath := "", byteOffset := 0 }, { name := "Mag", type := 23, offset := 1, embedded := false, tag := "", pkgPath := "", byteOffset := 4 }] := by rw [Program.fieldsOf, Tryz.underlying25]
 rw [hf];have em:=jeM D a b ha hb w;have eb:=run_equalIn_bool' (P:=Tryz.prog) w (D+1) 4 n m Tryz.underlying4
 have n1 : ("Neg" : String) ≠ "_" := by simp
 have n2 : ("Mag" : String) ≠ "_" := by simp
 unfold Op.eqFields;rw [if_pos n1];simp only [Sem.run_bind,p1,p2,eb,Result.andThen_ok]
 cases hnm:(n==m) with
 | false =>
  have hn:n≠m:=by simpa using hnm
  simp only [Bool.not_false,if_true,Sem.run_pure,hn,false_and,decide_false]
 | true =>
  have hn:n=m:=by simpa using hnm
  simp only [Bool.not_true,Bool.false_eq_true,if_false];unfold Op.eqFields;rw [if_pos n2];rw [Sem.run_bind,q,Result.andThen_ok,Sem.run_bind,q,Result.andThen_ok,Sem.run_bind]
  dsimp only
  rw [em,Result.andThen_ok]
  cases hab:decide (a=b) with
  | false =>
   have h:a≠b:=of_decide_eq_false hab;simp only [Bool.not_false,if_true,Sem.run_pure,h,and_false,decide_false]
  | true =>
   have h:a=b:=of_decide_eq_true hab;simp only [Bool.not_true,Bool.false_eq_true,if_false];unfold Op.eqFields;simp only [Sem.run_pure,h,hn,and_self,decide_true]
theorem jeN (n m:Bool) (a b:Nat) (ha:a<BB^32) (hb:b<BB^32) (w:World):(binOp .eql 25 (iV n a) (iV m b)).run Tryz.prog w=.ok (.bool (decide (n=m∧a=b))) w:=by
 have h:=jcY 9997 n m a b ha hb w;unfold iV at h ⊢;rw [run_eql_struct];simp only [Nat.reduceAdd] at h;rw [h];rfl
theorem qdV {ops:Array Oper} {C:World→Prop} {Q:Act→Prop} {a:Act} {op:Oper} {rest:List Oper} {x y:Operand} {t:TypeId} {c d:List Value} {n m r:Bool} {u v:Nat} (hgd:Region.wanted op (yielded ops a.tmps)=true) (ho:op.op=.binOp .eql 25 x y t) (hx:a.eval x=.agg c.toArray) (hy:a.eval y=.agg d.toArray)
  (hc:c=.bool n::lv 32 u) (hd:d=.bool m::lv 32 v) (hu:u<BB^32) (hv:v<BB^32) (hr:r=decide (n=m∧u=v))
  (h:wpQuiet Tryz.prog ops C Q rest (a.put op.dst (.bool r))):wpQuiet Tryz.prog ops C Q (op::rest) a:=by
 refine wpQuiet_step (fun K hK=>?_);rw [if_pos hgd];refine ⟨.bool r,fun W hW=>?_,hK _ h⟩;have he:=jeN n m u v hu hv W;unfold iV at he;rw [←hc,←hd,←hr] at he;have hg:=run_eqGuard_agg (P:=Tryz.prog) W .eql 25 x y c.toArray d.toArray (by kernel_rfl);unfold Oper.quietAt execOp;simp [ho,hx,hy,hg,he,Oper.quietUpon]
theorem qaR {c:List Value} (h:c=rat false 0 false 0):Tryz.prog.built 27 []=some c.toArray:=by rw [h];exact qpO
theorem qeM {c d r:List Value} {n m:Bool} {p q:Nat} (hc:c=.bool n::lv 32 p) (hd:d=.bool m::lv 32 q) (hr:r=rat n p m q):Tryz.prog.built 27 [(0,.agg c.toArray),(1,.agg d.toArray)]=some r.toArray:=by
 rw [hr,qpP (by rw [hc,List.length_cons,qlL]) (by rw [hd,List.length_cons,qlL]),hc,hd];rfl
theorem wcg {P:Program} {ops:Array Oper} {w:World} {Q:Act→Prop} {a:Act} {op:Oper} {rest:List Oper} {ty:TypeId} {x:Operand} {v:Value} {ad:Addr} (hgd:Region.wanted op (yielded ops a.tmps)=true) (ho:op.op=.load ty x)
  (hx:a.eval x=.pointer (some ad)) (hl:∀ W:World,W.cell? ad=some v→(loadVar ty ad).run P W=.ok v W) (hc:w.cell? ad=some v)
  (h:wpQuiet P ops (fun w'=>∃ p:GB,w'=gw w p.d p.os) Q rest (a.put op.dst v)) :
  wpQuiet P ops (fun w'=>∃ p:GB,w'=gw w p.d p.os) Q (op::rest) a:=by
 refine wpQuiet_step (fun K hK=>?_);rw [if_pos hgd];refine ⟨v,fun W hW=>?_,hK _ h⟩;obtain ⟨p,rfl⟩:=hW;unfold Oper.quietAt execOp;simp only [ho,hx,Instr.loadAt,Instr.sureAddr,Sem.run_bind,Sem.run_pure,Result.andThen_ok,hl _ (qaC hc p.d p.os)];exact ⟨rfl,rfl⟩
theorem Tryz.zeroR:Tryz.zeroCells27=(rat false 0 false 0).toArray:=by unfold rat;rw [qbP];rfl
theorem zQR {c:List Value} (h:Hid (c=rat false 0 false 0)):Tryz.zeroCells27=c.toArray:=by rw [h.out];exact Tryz.zeroR
theorem qbJ {P:Program} {ops:Array Oper} {C:World→Prop} {Q:Act→Prop} {a:Act} {op:Oper} {rest:List Oper} (hgd:Region.wanted op (yielded ops a.tmps)=true) (ty:TypeId) (xs:Array (Nat × Operand)) (ho:op.op=.build ty xs)
  (vs:List (Nat × Value)) (hx:xs.toList.map (fun p=>(p.1,a.eval p.2))=vs) (Z:Array Value) (hb:P.built ty vs=some Z) (h:wpQuiet P ops C Q rest (a.put op.dst (.agg Z))):wpQuiet P ops C Q (op::rest) a:=by
 refine wpQuiet_step (fun K hK=>?_);rw [if_pos hgd];refine ⟨.agg Z,fun W hW=>?_,hK _ h⟩;unfold Oper.quietAt execOp;have hr:=run_build (P:=P) W ty vs.toArray Z (by simpa using hb);have hx2:xs.map (fun p=>(p.1,a.eval p.2))=vs.toArray:=by rw [←hx];apply Array.toList_inj.1;simp
 simp [ho,hx2,hr,Oper.quietUpon]
end Go.Proofs.YtemoddmadfoaiaaGreat
set_option maxHeartbeats 8000000
namespace Go.Proofs.YtemoddmadfoaiaaGreat
open Go.RowKit Big
open Lib (hid)
theorem qvR (d a b:Nat) (ha:a<BB^32) (hb:b<BB^32) (w:World):(Op.equalIn (d+2) 140 (.agg (lv 32 a).toArray) (.agg (lv 32 b).toArray)).run Tryz.prog w=.ok (decide (a=b)) w:=by
 obtain ⟨i,hi⟩:∃ i,Tryz.prog.info? 22=some i:=info_of_underlying Tryz.underlying22;rw [run_equalIn_array w (d+1) _ _ Tryz.underlying140 hi];rw [qqP d (lv 32 a) (lv 32 b) (dg 32 a) (dg 32 b) rfl rfl w (List.range 32) (fun i hi=>by rw [qgG,qgG];have:=List.mem_range.1 hi;omega)]
 have key:((List.range 32).all fun i=>(dg 32 a)[i]?==(dg 32 b)[i]?)=decide (a=b):=by
  by_cases h:a=b
  ·subst h;simp
  ·rw [decide_eq_false h]
   cases hc:(List.range 32).all fun i=>(dg 32 a)[i]?==(dg 32 b)[i]? with
   | false=>rfl
   | true =>
    refine absurd (qnS ha hb fun k hk=>?_) h
    have:=List.all_eq_true.1 hc k (List.mem_range.2 hk)
    rw [qgH a hk,qgH b hk] at this
    simpa using this
 rw [key]
theorem jcH (a b:Nat) (ha:a<BB^32) (hb:b<BB^32) (w:World):(binOp .neq 140 (.agg (lv 32 a).toArray) (.agg (lv 32 b).toArray)).run Tryz.prog w=.ok (.bool (!decide (a=b))) w:=by
 have h:=qvR 9998 a b ha hb w;rw [run_neq_struct];simp only [Nat.reduceAdd] at h;rw [h];rfl
theorem qzJ (a b:Nat) (ha:a<BB^32) (hb:b<BB^32) (w:World):(binOp .eql 140 (.agg (lv 32 a).toArray) (.agg (lv 32 b).toArray)).run Tryz.prog w=.ok (.bool (decide (a=b))) w:=by
 have h:=qvR 9998 a b ha hb w;rw [run_eql_struct];simp only [Nat.reduceAdd] at h;rw [h];rfl
theorem qbZ {ops:Array Oper} {C:World→Prop} {Q:Act→Prop} {a:Act} {op:Oper} {rest:List Oper} {x y:Operand} {t:TypeId} {c d:List Value} {r:Bool} {u v:Nat} (hgd:Region.wanted op (yielded ops a.tmps)=true) (ho:op.op=.binOp .neq 140 x y t) (hx:a.eval x=.agg c.toArray) (hy:a.eval y=.agg d.toArray)
  (hc:c=lv 32 u) (hd:d=lv 32 v) (hu:u<BB^32) (hv:v<BB^32) (hr:r=!decide (u=v))
  (h:wpQuiet Tryz.prog ops C Q rest (a.put op.dst (.bool r))):wpQuiet Tryz.prog ops C Q (op::rest) a:=by
 refine wpQuiet_step (fun K hK=>?_);rw [if_pos hgd];refine ⟨.bool r,fun W hW=>?_,hK _ h⟩;have he:=jcH u v hu hv W;rw [←hc,←hd,←hr] at he;have hg:=run_eqGuard_agg (P:=Tryz.prog) W .neq 140 x y c.toArray d.toArray (by kernel_rfl);unfold Oper.quietAt execOp;simp [ho,hx,hy,hg,he,Oper.quietUpon]
theorem qdG {ops:Array Oper} {C:World→Prop} {Q:Act→Prop} {a:Act} {op:Oper} {rest:List Oper} {x y:Operand} {t:TypeId} {c d:List Value} {r:Bool} {u v:Nat} (hgd:Region.wanted op (yielded ops a.tmps)=true) (ho:op.op=.binOp .eql 140 x y t) (hx:a.eval x=.agg c.toArray) (hy:a.eval y=.agg d.toArray)
  (hc:c=lv 32 u) (hd:d=lv 32 v) (hu:u<BB^32) (hv:v<BB^32) (hr:r=decide (u=v))
  (h:wpQuiet Tryz.prog ops C Q rest (a.put op.dst (.bool r))):wpQuiet Tryz.prog ops C Q (op::rest) a:=by
 refine wpQuiet_step (fun K hK=>?_);rw [if_pos hgd];refine ⟨.bool r,fun W hW=>?_,hK _ h⟩;have he:=qzJ u v hu hv W;rw [←hc,←hd,←hr] at he;have hg:=run_eqGuard_agg (P:=Tryz.prog) W .eql 140 x y c.toArray d.toArray (by kernel_rfl);unfold Oper.quietAt execOp;simp [ho,hx,hy,hg,he,Oper.quietUpon]
theorem qbT {c:List Value} (h:c=lv 32 0):Tryz.prog.built 140 []=some c.toArray:=by rw [h,qbO];kernel_rfl
theorem qkX {c d:List Value} {x:Bool} {v:Nat} (hc:c=lv 32 v) (hd:d=.bool x::lv 32 v):Tryz.prog.built 25 [(0,.bool x),(1,.agg c.toArray)]=some d.toArray:=by
 subst hc hd;exact qiU x (lv 32 v) (qlL _ _)
theorem qcC:0<BB^32:=BP 32
theorem qeB {cm cr:List Value} {neg n:Bool} {v:Nat} (h:cm=lv 32 v) (hr:cr=.bool n::lv 32 v) (hn:n=cs1 neg v) (hv:v<BB^32) (w:World) :
  Calls Tryz.prog 112 #[.bool neg,.agg cm.toArray] w fun e w'=>e=.returned (.agg cr.toArray)∧Below w.heap.size w w':=by
 have V_cm:=hid h;have V_cr:=hid hr;have HV:=hid (And.intro hn hv);clear h hr hn hv;obtain ⟨cz,V_cz⟩:∃ c:List Value,Hid (c=lv 32 0):=⟨_,hid rfl⟩;obtain ⟨cy,V_cy⟩:∃ c:List Value,Hid (c=.bool false::lv 32 0):=⟨_,hid rfl⟩;obtain ⟨B0,B1,w0,hw0,hB0,hB1,AB0,AB1,FR,FR0,HB0,hZB0,l01,hZB1⟩:=en2 w 140 25 (bxq cm) (zQI V_cy);unfold zero33 at hw0;go_enter Tryz.func112,Tryz.ntmps112
 go_upto_region 1 with fail
 rw [←hw0,←hB1,←hB0];clear hw0 hB0 hB1
 cases neg with
 | true =>
  have hn1:n=!decide (v=0):=by rw [HV.out.1];simp [cs1]
  have HN1:=hid hn1;clear hn1;refine wF [⟨false,0,4,8,B1,0,25,12,cr,0,cr,[]⟩] [(5,.bool true),(6,.bool true),(7,.agg cm.toArray),(8,.agg cz.toArray),(9,.bool n),(10,.bool n),(11,.agg cm.toArray),(12,.agg cr.toArray)] (by simp only [zr,zq];rfl) (by kernel_rfl) ?_ ?_ (fP1 bnC) ?_ uno ?_ ?_
  ·intro W' hW';have rd0:=AB0.out.below hW';refine fo2 ?_ ?_<|ldG rd0 V_cm rfl<|fxo (qbJ (by rfl) _ _ rfl _ rfl _ (qbT V_cz.out) (wqn (by simp only [zq])))<|fxo (qbZ (r:=n) (by rfl) rfl rfl rfl V_cm.out V_cz.out HV.out.2 qcC HN1.out (wqn (by simp only [zq])))<|fxo ?_<|ldG rd0 V_cm rfl<|fxb (qkX V_cm.out V_cr.out) rfl<|fxs rfl<|fxn;all_goals (go_big_quiet_step (fail);exact wqn rfl)
  ·intro W' hK';have rd0:=akh AB0 hK' (by show B1≠B0;omega);refine fxi ?_<|fxi ?_<|ldG rd0 V_cm rfl<|fxo (qbJ (by rfl) _ _ rfl _ rfl _ (qbT V_cz.out) (wqn (by simp only [zq])))<|fxo (qbZ (r:=n) (by rfl) rfl rfl rfl V_cm.out V_cz.out HV.out.2 qcC HN1.out (wqn (by simp only [zq])))<|fxi ?_<|ldG rd0 V_cm rfl<|fxb (qkX V_cm.out V_cr.out) rfl<|fxs (by kernel_rfl)<|fxn;all_goals (first|(refine .inr ?_;go_big_quiet_step (fail);exact wqn rfl)|exact .inl (by kernel_rfl))
  ·exact fP1 (fun _=>⟨AB1.out.lt,rfl,At.room AB1.out (qI V_cy.out) (qI V_cr.out)⟩)
  ·exact fP1 (sI V_cr (fun _=>rfl) rfl)
  intro β wx1 E;replace FR:=ffh FR E (by show B0≤B1;omega);replace AB0:=afh AB0 E (by show B1≠B0;omega);replace AB1:=hid (show At wx1 B1 0 cr from E.atOld mms rfl AB1.out.lt);simp only [nP,zr,zq];clear E;go_wp2_with fail
  have hld:=AB1.out.read (P:=Tryz.prog) Tryz.underlying25 rfl (qI V_cr.out);refine bodyPost_ret (v:=.agg cr.toArray) (by simp [results,Tryz.results112,asAddr,hld]) rfl ?_;exact ⟨rfl,fend HB0 FR⟩
 | false =>
  have hn1:n=false:=by rw [HV.out.1];rfl
  subst hn1;refine wF [⟨false,0,4,8,B1,0,25,12,cr,0,cr,[]⟩] [(5,.bool false),(6,.bool false),(7,undef),(8,undef),(9,undef),(10,.bool false),(11,.agg cm.toArray),(12,.agg cr.toArray)] (by simp only [zr,zq];rfl) (by kernel_rfl) ?_ ?_ (fP1 bnC) ?_ uno ?_ ?_
  ·intro W' hW';refine fo4 ?_ ?_ ?_ ?_<|fo2 ?_ ?_<|ldG (abl AB0 hW') V_cm rfl<|fxb (qkX V_cm.out V_cr.out) rfl<|fxs rfl<|fxn;all_goals (go_big_quiet_step (fail);exact wqn rfl)
  ·intro W' hK';have rd0:=akh AB0 hK' (by show B1≠B0;omega);refine fxi ?_<|fxi ?_<|fxi ?_<|fxi ?_<|fxi ?_<|fxi ?_<|ldG rd0 V_cm rfl<|fxb (qkX V_cm.out V_cr.out) rfl<|fxs (by kernel_rfl)<|fxn;all_goals (first|(refine .inr ?_;go_big_quiet_step (fail);exact wqn rfl)|exact .inl (by kernel_rfl))
  ·exact fP1 (fun _=>⟨AB1.out.lt,rfl,At.room AB1.out (qI V_cy.out) (qI V_cr.out)⟩)
  ·exact fP1 (sI V_cr (fun _=>rfl) rfl)
  intro β wx1 E;replace FR:=ffh FR E (by show B0≤B1;omega);replace AB0:=afh AB0 E (by show B1≠B0;omega);replace AB1:=hid (show At wx1 B1 0 cr from E.atOld mms rfl AB1.out.lt);simp only [nP,zr,zq];clear E;go_wp2_with fail
  have hld:=AB1.out.read (P:=Tryz.prog) Tryz.underlying25 rfl (qI V_cr.out);refine bodyPost_ret (v:=.agg cr.toArray) (by simp [results,Tryz.results112,asAddr,hld]) rfl ?_;exact ⟨rfl,fend HB0 FR⟩
theorem qbL {cx cm:List Value} {s n:Bool} {v:Nat} (h:cx=.bool s::lv 32 v) (hm:cm=lv 32 v) (hn:n=cs1 s v) (hv:v<BB^32) (w:World) :
  Calls Tryz.prog 144 #[.agg cx.toArray] w fun e w'=>e=.returned (.tuple #[.bool n,.agg cm.toArray])∧Below w.heap.size w w':=by
 have V_cx:=hid h;have V_cm:=hid hm;have HV:=hid (And.intro hn hv);clear h hm hn hv;obtain ⟨cz,V_cz⟩:∃ c:List Value,Hid (c=lv 32 0):=⟨_,hid rfl⟩;obtain ⟨B0,B1,w0,hw0,hB0,hB1,AB0,AB1,FR,FR0,HB0,hZB0,l01,hZB1⟩:=en2 w 25 140 (bxq cx) (zM V_cz);rw [qbO] at hw0;go_enter Tryz.func144,Tryz.ntmps144
 go_upto_region 1 with fail
 rw [←hw0,←hB1,←hB0];clear hw0 hB0 hB1;have AB0_1:=hid (AB0.out.mag V_cx.out V_cm.out);refine wT [⟨true,2,4,3,0,0,140,6,cm,0,cm,[]⟩] [(5,.pointer (some ⟨B0,1,none⟩)),(6,.agg cm.toArray)] (by simp only [zr,zq];rfl) (by kernel_rfl) rfl ?_ ?_ ?_ ?_
 ·intro W' hW';refine fxo ?_<|fxl (abl AB0_1 hW') (qcI V_cm.out) Tryz.underlying23 rfl rfl<|fxs rfl<|fxs rfl<|fxn
  go_big_quiet_step (fail);exact wqn rfl
 ·exact fP1 (Tryz.alG (qG V_cm.out))
 ·exact fP1 (sG V_cm (fun _=>rfl) rfl)
 intro β wx1 E;replace FR:=fnf FR E rfl;obtain ⟨b4,hb4,eb4⟩:=nwb E mms;have lB0_b4:B0<b4:=ltb AB0 eb4.1;have lB1_b4:B1<b4:=ltb AB1 eb4.1;have hZb4:B0≤b4:=Nat.le_trans FR0.out eb4.1;replace AB0:=fnh AB0 E rfl;replace AB1:=fnh AB1 E rfl;replace AB0_1:=fnh AB0_1 E rfl;have Ab4:=hid eb4.2;simp only [nP,zr,zq];rw [←hb4];replace FR0:=hid FR.out.le;clear E eb4 hb4;go_upto_region 2 with fail
 cases s with
 | true =>
  have hn1:n=!decide (v=0):=by rw [HV.out.1];simp [cs1]
  have HN1:=hid hn1;clear hn1;refine wF [⟨false,0,3,9,B1,0,140,14,cm,0,cm,[]⟩] [(7,.pointer (some ⟨B0,0,none⟩)),(8,.bool true),(9,.bool true),(10,.agg cm.toArray),(11,.agg cz.toArray),(12,.bool n),(13,.bool n),(14,.agg cm.toArray),(2,.bool n)] (by simp only [zr,zq];rfl) (by kernel_rfl) ?_ ?_ (fP1 bnC) ?_ uno ?_ ?_
  ·intro W' hW';have cl0:=fun p os=>qaC ((AB0.out.below hW').neg V_cx.out) p os
   have rd0:=Ab4.out.below hW';refine fo3 ?_ ?_ ?_<|ldG rd0 V_cm rfl<|fxo (qbJ (by rfl) _ _ rfl _ rfl _ (qbT V_cz.out) (wqn (by simp only [zq])))<|fxo (qbZ (r:=n) (by rfl) rfl rfl rfl V_cm.out V_cz.out HV.out.2 qcC HN1.out (wqn (by simp only [zq])))<|fxo ?_<|ldG rd0 V_cm rfl<|fxo ?_<|fxs rfl<|fxn;all_goals (go_big_quiet_step (fail);exact wqn rfl)
  ·intro W' hK';have rd0:=akh Ab4 hK' (by show B1≠b4;omega);refine fxi ?_<|fxi ?_<|fxi ?_<|ldG rd0 V_cm rfl<|fxo (qbJ (by rfl) _ _ rfl _ rfl _ (qbT V_cz.out) (wqn (by simp only [zq])))<|fxo (qbZ (r:=n) (by rfl) rfl rfl rfl V_cm.out V_cz.out HV.out.2 qcC HN1.out (wqn (by simp only [zq])))<|fxi ?_<|ldG rd0 V_cm rfl<|fxi ?_<|fxs (by kernel_rfl)<|fxn;all_goals (first|(refine .inr ?_;go_big_quiet_step (fail);exact wqn rfl)|exact .inl (by kernel_rfl))
  ·exact fP1 (fun _=>⟨AB1.out.lt,rfl,At.room AB1.out (qG V_cz.out) (qG V_cm.out)⟩)
  ·exact fP1 (sG V_cm (fun _=>rfl) rfl)
  intro β wx2 E;replace FR:=ffh FR E (by show B0≤B1;omega);replace AB0:=afh AB0 E (by show B1≠B0;omega);replace AB1:=hid (show At wx2 B1 0 cm from E.atOld mms rfl AB1.out.lt);replace AB0_1:=afh AB0_1 E (by show B1≠B0;omega);replace Ab4:=afh Ab4 E (by show B1≠b4;omega);simp only [nP,zr,zq];replace FR0:=hid FR.out.le;clear E;go_wp2_with fail
  have hld:=AB1.out.read (P:=Tryz.prog) Tryz.underlying140 rfl (qG V_cm.out);refine bodyPost_ret (v:=.tuple #[.bool n,.agg cm.toArray]) (by simp [results,Tryz.results144,asAddr,hld]) rfl ?_;exact ⟨rfl,fend HB0 FR⟩
 | false =>
  have hn1:n=false:=by rw [HV.out.1];rfl
  subst hn1;refine wF [⟨false,0,3,9,B1,0,140,14,cm,0,cm,[]⟩] [(7,.pointer (some ⟨B0,0,none⟩)),(8,.bool false),(9,.bool false),(10,undef),(11,undef),(12,undef),(13,.bool false),(14,.agg cm.toArray),(2,.bool false)] (by simp only [zr,zq];rfl) (by kernel_rfl) ?_ ?_ (fP1 bnC) ?_ uno ?_ ?_
  ·intro W' hW';have cl0:=fun p os=>qaC ((AB0.out.below hW').neg V_cx.out) p os
   refine fo4 ?_ ?_ ?_ ?_<|fo3 ?_ ?_ ?_<|ldG (abl Ab4 hW') V_cm rfl<|fxo ?_<|fxs rfl<|fxn;all_goals (go_big_quiet_step (fail);exact wqn rfl)
  ·intro W' hK';have rd0:=akh Ab4 hK' (by show B1≠b4;omega);refine fxi ?_<|fxi ?_<|fxi ?_<|fxi ?_<|fxi ?_<|fxi ?_<|fxi ?_<|ldG rd0 V_cm rfl<|fxi ?_<|fxs (by kernel_rfl)<|fxn;all_goals (first|(refine .inr ?_;go_big_quiet_step (fail);exact wqn rfl)|exact .inl (by kernel_rfl))
  ·exact fP1 (fun _=>⟨AB1.out.lt,rfl,At.room AB1.out (qG V_cz.out) (qG V_cm.out)⟩)
  ·exact fP1 (sG V_cm (fun _=>rfl) rfl)
  intro β wx2 E;replace FR:=ffh FR E (by show B0≤B1;omega);replace AB0:=afh AB0 E (by show B1≠B0;omega);replace AB1:=hid (show At wx2 B1 0 cm from E.atOld mms rfl AB1.out.lt);replace AB0_1:=afh AB0_1 E (by show B1≠B0;omega);replace Ab4:=afh Ab4 E (by show B1≠b4;omega);simp only [nP,zr,zq];replace FR0:=hid FR.out.le;clear E;go_wp2_with fail
  have hld:=AB1.out.read (P:=Tryz.prog) Tryz.underlying140 rfl (qG V_cm.out);refine bodyPost_ret (v:=.tuple #[.bool false,.agg cm.toArray]) (by simp [results,Tryz.results144,asAddr,hld]) rfl ?_;exact ⟨rfl,fend HB0 FR⟩
end Go.Proofs.YtemoddmadfoaiaaGreat
namespace Go.Proofs.YtemoddmadfoaiaaGreat
open Go.RowKit Big
def zI (n:Bool) (v:Nat):Int:=if n=true then -(v:Int) else (v:Int)
theorem qpK {c:List Value} {z:Int} {n:Bool} {v:Nat} (h:c=.bool n::lv 32 v) (hn:n=decide (z<0)) (hv:v=z.natAbs) (h1:-9223372036854775808≤z) (h2:z≤9223372036854775807) (W:World) :
  Calls Tryz.prog 101 #[.int .i64 z] W fun e w'=>e=.returned (.agg c.toArray)∧Below W.heap.size W w':=by
 subst h hn hv;exact jcW z W h1 h2
def cmpZ (x y:Int):Int:=if x<y then -1 else if y<x then 1 else 0
theorem qmU (n:Bool) (v:Nat):sgnI n v=-1∨sgnI n v=0∨sgnI n v=1:=by
 unfold sgnI
 (repeat' split)<;>simp
theorem qvZ (a b:Nat):cmpI a b=-1∨cmpI a b=0∨cmpI a b=1:=by
 unfold cmpI
 (repeat' split)<;>simp
theorem qwA (na nb:Bool) (a b:Nat):(sgnI na a<sgnI nb b→cmpZ (zI na a) (zI nb b)=-1)∧(sgnI nb b<sgnI na a→cmpZ (zI na a) (zI nb b)=1)∧(sgnI na a=sgnI nb b→cmpZ (zI na a) (zI nb b)=sgnI na a*cmpI a b):=by
 unfold cmpZ zI sgnI cmpI
 cases na<;>cases nb<;>simp only [Bool.false_eq_true,if_false,if_true]<;>(refine ⟨fun h=>?_,fun h=>?_,fun h=>?_⟩)<;>(repeat' split at h)<;>(repeat' split)<;>omega
theorem qcS {c:List Value} {n:Bool} {v:Nat} {s:Int} (h:c=.bool n::lv 32 v) (hs:s=sgnI n v) (hv:v<BB^32) (W:World) :
  Calls Tryz.prog 103 #[.agg c.toArray] W fun e w'=>e=.returned (.int .i64 s)∧Below W.heap.size W w':=by
 subst h hs;exact jbH n v W hv
theorem jaL (na nb:Bool) (a b:Nat) (h:cs1 na a=cs1 nb b):decide (zI na a+zI nb b<0)=cs1 (cs1 na a) (a+b)∧(zI na a+zI nb b).natAbs=a+b:=by
 have h1:na=true→a≠0→cs1 na a=true:=fun h1 h2=>by simp [cs1,h1,h2]
 unfold zI;by_cases ha:a=0<;>by_cases hb:b=0<;>cases na<;>cases nb<;>simp [cs1,ha,hb] at h ⊢<;>omega
theorem jaN (na nb:Bool) (a b:Nat) (h:cs1 na a≠cs1 nb b) (hl:a<b):decide (zI na a+zI nb b<0)=cs1 (cs1 nb b) (b - a)∧(zI na a+zI nb b).natAbs=b - a:=by
 unfold zI;have hb:b - a≠0:=by omega
 by_cases ha:a=0<;>by_cases hb2:b=0<;>cases na<;>cases nb<;>simp [cs1,ha,hb,hb2] at h hb ⊢<;>omega
theorem jaM (na nb:Bool) (a b:Nat) (h:cs1 na a≠cs1 nb b) (hl:¬a<b):decide (zI na a+zI nb b<0)=cs1 (cs1 na a) (a - b)∧(zI na a+zI nb b).natAbs=a - b:=by
 unfold zI;by_cases ha:a=0
 ·have hb0:b=0:=by omega
  exact absurd (by simp [cs1,ha,hb0]) h
 ·have e1:cs1 na a=na:=by simp [cs1,ha]
  rw [e1] at h ⊢;by_cases hb2:b=0
  ·subst hb2
   cases na<;>cases nb<;>simp [cs1,ha] at h ⊢<;>omega
  ·have e2:cs1 nb b=nb:=by simp [cs1,hb2]
   rw [e2] at h;by_cases hab:a=b
   ·subst hab
    cases na<;>cases nb<;>simp [cs1] at h ⊢<;>omega
   ·have h3:a - b≠0:=by omega
    have e3:cs1 na (a - b)=na:=by simp only [cs1,h3,decide_false,Bool.not_false,Bool.and_true]
    rw [e3]
    cases na<;>cases nb<;>simp at h ⊢<;>omega
end Go.Proofs.YtemoddmadfoaiaaGreat
