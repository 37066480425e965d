import Derived.ChangeKeysEq
import Derived.Test.YtemoddmadfoaiaaGreatFl2
set_option linter.unusedVariables false
set_option linter.unusedSimpArgs false
set_option maxRecDepth 100000
namespace Go.Proofs.YtemoddmadfoaiaaGreat
open Go.RowKit Big
theorem Tryz.infoR:(Tryz.prog.info? 27).map (·.size)=some 66:=by kernel_rfl
def rat (n:Bool) (p:Nat) (m:Bool) (q:Nat):List Value:=(.bool n::lv 32 p)++(.bool m::lv 32 q)
theorem qbE (n:Bool) (p:Nat) (m:Bool) (q:Nat):(rat n p m q).length=66:=by unfold rat;rw [List.length_append,List.length_cons,List.length_cons,qlL,qlL]
theorem qvW (n:Bool) (p:Nat) (m:Bool) (q:Nat):∀ x∈rat n p m q,x.oneCell'=true:=fun x hx=>by
 rcases List.mem_append.1 hx with h|h
 ·exact qeY n p x h
 ·exact qeY m q x h
theorem qR {cs:List Value} {n:Bool} {p:Nat} {m:Bool} {q:Nat} (h:cs=rat n p m q):(Tryz.prog.info? 27).map (·.size)=some cs.length:=by rw [h,qbE];exact Tryz.infoR
theorem quG {cs:List Value} {n:Bool} {p:Nat} {m:Bool} {q:Nat} (h:cs=rat n p m q):cs.toArray.all (·.oneCell')=true:=by rw [h];exact all_oneCell_toArray (qvW n p m q)
theorem ldR {ops:Array Oper} {w:World} {fin:Act} {s:Nat→Bool} {k:Nat} {op:Oper} {l:List Oper} {x:Operand} {b o:Nat} {cs:List Value} {n:Bool} {p:Nat} {m:Bool} {q:Nat} (hA:At w b o cs) (hV:Hid (cs=rat n p m q)) (h:(Region.wanted op (yielded ops fin.tmps),op.op,fin.eval x,fin.put op.dst (.agg cs.toArray))=(true,.load 27 x,.pointer (some ⟨b,o,none⟩),fin)) (h2:flowX Tryz.prog ops (fun w'=>∃ p:GB,w'=gw w p.d p.os) fin s (k+1) l):flowX Tryz.prog ops (fun w'=>∃ p:GB,w'=gw w p.d p.os) fin s k (op::l):=fxl hA (qR hV.out) Tryz.underlying27 rfl h h2
theorem lhR {ops:Array Oper} {u w:World} {fin:Act} {s:Nat→Bool} {k:Nat} {op:Oper} {l:List Oper} {x:Operand} {b o:Nat} {cs:List Value} {n:Bool} {p:Nat} {m:Bool} {q:Nat} (hA:Hid (At u b o cs)) (hb:Below u.heap.size u w) (hV:Hid (cs=rat n p m q)) (h:(Region.wanted op (yielded ops fin.tmps),op.op,fin.eval x,fin.put op.dst (.agg cs.toArray))=(true,.load 27 x,.pointer (some ⟨b,o,none⟩),fin)) (h2:flowX Tryz.prog ops (fun w'=>∃ p:GB,w'=gw w p.d p.os) fin s (k+1) l):flowX Tryz.prog ops (fun w'=>∃ p:GB,w'=gw w p.d p.os) fin s k (op::l):=ldR (hA.out.below hb) hV h h2
theorem rdR {w:World} {b o:Nat} {cs:List Value} {n:Bool} {p:Nat} {m:Bool} {q:Nat} (h:Hid (At w b o cs)) (hV:Hid (cs=rat n p m q)):(loadVar 27 ⟨b,o,none⟩).run Tryz.prog w=.ok (.agg cs.toArray) w:=run_loadVar_mid w b o 27 cs _ h.out.range Tryz.underlying27 rfl (qR hV.out)
theorem sR {fin:Act} {new:Bool} {i s b o:Nat} {d x:Tmp} {cs:List Value} {n:Bool} {p:Nat} {m:Bool} {q:Nat} (hV:Hid (cs=rat n p m q)) (h0:new=true→o=0) (h:fin.tmps[x]?=some (.agg cs.toArray)):StOk Tryz.prog fin ⟨new,i,d,s,b,o,27,x,cs,o,cs,[]⟩:=stw h (qR hV.out) (quG hV.out) h0
theorem At.num {w:World} {b:Nat} {c d:List Value} {n:Bool} {p:Nat} {m:Bool} {q:Nat} (h:At w b 0 c) (hc:c=rat n p m q) (hd:d=.bool n::lv 32 p):At w b 0 d:=by
 subst hc hd;exact At.head h
theorem At.den {w:World} {b:Nat} {c d:List Value} {n:Bool} {p:Nat} {m:Bool} {q:Nat} (h:At w b 0 c) (hc:c=rat n p m q) (hd:d=.bool m::lv 32 q):At w b 33 d:=by
 subst hc hd;exact At.tail h (by simp [qlL])
theorem Tryz.alR {cs:List Value} (h:(Tryz.prog.info? 27).map (·.size)=some cs.length):∃ z,LaysAs Tryz.prog 27 z∧cs.length≤z.size:=by
 refine ⟨(rat false 0 false 0).toArray,?_,by rw [Tryz.infoR] at h;injection h with h;rw [←h,List.size_toArray,qbE];exact Nat.le_refl _⟩;unfold rat;rw [qbW];intro o ho b w;unfold execOp;simp only [ho];rfl
theorem qqS:Tryz.prog.built 27 []=some (rat false 0 false 0).toArray:=by unfold rat;rw [qbW];kernel_rfl
theorem jbY (off:Nat):∀ (v:List Value) (k:Nat) (cells:Array Value),off+k+v.length≤cells.size →
  ∀ i,((v.zipIdx k).foldl (fun (cs:Array Value) (x:Value × Nat)=>cs.setIfInBounds (off+x.2) x.1) cells)[i]?=if off+k≤i∧i<off+k+v.length then v[i - (off+k)]? else cells[i]?:=by
 intro v
 induction v with
 | nil=>intro k cells _ i;rw [if_neg (by simp only [List.length_nil];omega)];rfl
 | cons x v ih =>
  intro k cells h i;simp only [List.zipIdx_cons,List.foldl_cons,List.length_cons] at h ⊢;rw [ih (k+1) _ (by simp;omega)];by_cases h1:off+(k+1)≤i∧i<off+(k+1)+v.length
  ·rw [if_pos h1,if_pos (by omega),show i - (off+k)=(i - (off+(k+1)))+1 by omega,List.getElem?_cons_succ]
  ·rw [if_neg h1,Array.getElem?_setIfInBounds];by_cases h2:off+k=i
   ·subst h2;rw [if_pos rfl,if_pos (by omega),if_pos (by omega),Nat.sub_self,List.getElem?_cons_zero]
   ·rw [if_neg h2,if_neg (by omega)]
theorem qjO (off:Nat) (v:Array Value) (cells:Array Value) (h:off+v.size≤cells.size) (i:Nat) :
  (v.zipIdx.foldl (fun (cs:Array Value) (x:Value × Nat)=>cs.setIfInBounds (off+x.2) x.1) cells)[i]?=if off≤i∧i<off+v.size then v[i - off]? else cells[i]?:=by
 have:=jbY off v.toList 0 cells (by simpa using h) i
 simp only [Nat.add_zero,Array.length_toList,Array.getElem?_toList] at this;rw [←this,←Array.foldl_toList,Array.toList_zipIdx]
theorem jcS (parts:List (Nat × Value)):Tryz.prog.built 27 parts=Instr.fill (#[(0,33),(33,33)][·]?) (rat false 0 false 0).toArray parts:=by
 unfold rat;rw [qbW];kernel_rfl
theorem qoY {place:Nat→Option (Nat × Nat)} {cells:Array Value} {i off size:Nat} {v:Value} {rest:List (Nat × Value)} (hp:place i=some (off,size)) (hs:v.cells.size=size) (h:off+v.cells.size≤cells.size) :
  Instr.fill place cells ((i,v)::rest)=Instr.fill place (v.cells.zipIdx.foldl (fun cs (c,j)=>cs.setIfInBounds (off+j) c) cells) rest:=by
 rw [Instr.fill,hp];simp [hs];omega
theorem qqT {c d:List Value} (hc:c.length=33) (hd:d.length=33):Tryz.prog.built 27 [(0,.agg c.toArray),(1,.agg d.toArray)]=some (c++d).toArray:=by
 rw [jcS];have hz:(rat false 0 false 0).toArray.size=66:=by rw [List.size_toArray,qbE]
 generalize (rat false 0 false 0).toArray=Z at hz
 have h1:=qjO 0 c.toArray Z (by simp;omega);have e1:(#[(0,33),(33,33)]:Array (Nat × Nat))[0]?=some (0,33):=rfl;have e2:(#[(0,33),(33,33)]:Array (Nat × Nat))[1]?=some (33,33):=rfl;rw [qoY (off:=0) (size:=33) rfl (by simp [Value.cells,hc]) (by simp [Value.cells];omega)];simp only [Value.cells]
 have hs1:(Array.foldl (fun (cs:Array Value) (x:Value × Nat)=>cs.setIfInBounds (0+x.2) x.1) Z c.toArray.zipIdx).size=66:=by
  have:∀ (l:List (Value × Nat)) (Z:Array Value),(l.foldl (fun (cs:Array Value) (x:Value × Nat)=>cs.setIfInBounds (0+x.2) x.1) Z).size=Z.size:=by
   intro l;induction l with
   | nil=>intro Z;rfl
   | cons x l ih=>intro Z;rw [List.foldl_cons,ih];simp
  rw [←Array.foldl_toList,this,hz]
 have h2:=qjO 33 d.toArray _ (Nat.le_of_eq (show 33+d.toArray.size=_ by rw [hs1];simp [hd]));generalize Array.foldl (fun (cs:Array Value) (x:Value × Nat)=>cs.setIfInBounds (0+x.2) x.1) Z c.toArray.zipIdx=Y at h1 h2 hs1
 rw [qoY (off:=33) (size:=33) rfl (by simp [Value.cells,hd]) (by simp [Value.cells];omega)];simp only [Value.cells];unfold Instr.fill;congr 1
 apply Array.ext_getElem?
 intro i;rw [h2 i];by_cases hi:33≤i∧i<33+d.toArray.size
 ·rw [if_pos hi];simp [List.getElem?_append_right (show c.length≤i by omega),hc]
 ·rw [if_neg hi,h1 i];by_cases hj:0≤i∧i<0+c.toArray.size
  ·rw [if_pos hj];simp at hj;simp [List.getElem?_append_left (show i<c.length by omega)]
  ·rw [if_neg hj,Array.getElem?_eq_none (by simp at hi hj;omega),Array.getElem?_eq_none (by simp at hi hj ⊢;omega)]
theorem qsE (d:Nat) (xs ys:List Value) (us vs:List Nat) (hx:xs=us.map fun (x:Nat)=>Value.int .u32 x) (hy:ys=vs.map fun (x:Nat)=>Value.int .u32 x) (w:World):∀ is:List Nat,(∀ i∈is,i<us.length∧i<vs.length) →
  (Op.eqItems (d+1) 22 (Tryz.prog.cellsOf 22) xs.toArray ys.toArray is).run Tryz.prog w=.ok (is.all fun i=>us[i]?==vs[i]?) w:=by
 have hco:Tryz.prog.cellsOf 22=1:=by kernel_rfl
 have hpl:Tryz.prog.plainKey 22=true:=by kernel_rfl
 intro is
 induction is with
 | nil=>intro _;simp [Op.eqItems]
 | cons i is ih =>
  intro h;obtain ⟨h1,h2⟩:=h i mms;have g1:us[i]?=some us[i]:=List.getElem?_eq_getElem h1;have g2:vs[i]?=some vs[i]:=List.getElem?_eq_getElem h2;have p1:=run_part_plain (P:=Tryz.prog) w hpl (xs:=xs.toArray) (off:=i) (v:=.int .u32 (us[i]:Nat)) (by simp [hx,g1]);have p2:=run_part_plain (P:=Tryz.prog) w hpl (xs:=ys.toArray) (off:=i) (v:=.int .u32 (vs[i]:Nat)) (by simp [hy,g2]);simp only [Op.eqItems,hco,Nat.mul_one,Sem.run_bind,p1,p2,Result.andThen_ok,run_equalIn_int w d 22 .u32 .u32 _ _ Tryz.underlying22];have ih':=ih fun j hj=>h j (List.mem_cons_of_mem _ hj)
  rw [hco] at ih';rw [List.all_cons,g1,g2];by_cases e:us[i]=vs[i]
  ·simp [e,ih']
  ·have e1:((us[i]:Nat):Int)≠(vs[i]:Nat):=by omega
   simp [e,e1]
theorem jhG (d a b:Nat) (ha:a<BB^32) (hb:b<BB^32) (w:World):(Op.equalIn (d+2) 23 (.agg (lv 32 a).toArray) (.agg (lv 32 b).toArray)).run Tryz.prog w=.ok (decide (a=b)) w:=by
 obtain ⟨i,hi⟩:∃ i,Tryz.prog.info? 22=some i:=info_of_underlying Tryz.underlying22;rw [run_equalIn_array w (d+1) _ _ Tryz.underlying23 hi];rw [qsE d (lv 32 a) (lv 32 b) (dg 32 a) (dg 32 b) rfl rfl w (List.range 32) (fun i hi=>by rw [qhF,qhF];have:=List.mem_range.1 hi;omega)]
 have key:((List.range 32).all fun i=>(dg 32 a)[i]?==(dg 32 b)[i]?)=decide (a=b):=by
  by_cases h:a=b
  ·subst h;simp
  ·rw [decide_eq_false h]
   cases hc:(List.range 32).all fun i=>(dg 32 a)[i]?==(dg 32 b)[i]? with
   | false=>rfl
   | true =>
    refine absurd (qoZ ha hb fun k hk=>?_) h
    have:=List.all_eq_true.1 hc k (List.mem_range.2 hk)
    rw [qiC a hk,qiC b hk] at this
    simpa using this
 rw [key]
theorem eq_at (D:Nat) (n m:Bool) (a b:Nat) (ha:a<BB^32) (hb:b<BB^32) (w:World):(Op.equalIn (D+3) 25 (iV n a) (iV m b)).run Tryz.prog w=.ok (decide (n=m∧a=b)) w:=by
 unfold iV;have hpl:Tryz.prog.plainKey 4=true:=by kernel_rfl
 have p1:=run_part_plain (P:=Tryz.prog) w hpl (xs:=(Value.bool n::lv 32 a).toArray) (off:=0) (v:=.bool n) (by simp);have p2:=run_part_plain (P:=Tryz.prog) w hpl (xs:=(Value.bool m::lv 32 b).toArray) (off:=0) (v:=.bool m) (by simp)
 obtain ⟨i,hi,hs⟩:∃ i,Tryz.prog.info? 23=some i∧i.size=32:=by
  have:=Tryz.infoM
  cases h:Tryz.prog.info? 23 with
  | none=>rw [h] at this;cases this
  | some i=>rw [h] at this;injection this with this;exact ⟨i,rfl,this⟩
 have q:∀ (x:Value) (v:Nat),(part 23 (x::lv 32 v).toArray 1).run Tryz.prog w=.ok (.agg (lv 32 v).toArray) w:=fun x v=>by
  have hx:List.take 32 (lv 32 v)=lv 32 v:=by rw [List.take_of_length_le];rw [qlL];exact Nat.le_refl _
  simp [part,isAgg,Sem.run_bind,run_underlying Tryz.underlying23,run_sizeOf w hi,Program.cellsOf,hi,hs,hx]
 have hu:Tryz.prog.underlying 25=some (.struct (Tryz.prog.fieldsOf 25)):=by rw [Program.fieldsOf,Tryz.underlying25]
 have hst:Tryz.prog.stoodInHeld 25=false:=by kernel_rfl
 rw [run_equalIn_struct w (D+2) 25 _ _ hu hst]
 have hf : (Tryz.prog.fieldsOf 25).toList = [{ name := "Neg", type := 4, offset := 0, embedded := false, tag := "", pkgPath := "", byteOffset := 0 }, { name := "Mag", type := 23, offset := 1, embedded := false, tag := "", pkgPath := "", byteOffset := 4 }] := by rw [Program.fieldsOf, Tryz.underlying25]
 rw [hf];have em:=jhG D a b ha hb w;have eb:=run_equalIn_bool' (P:=Tryz.prog) w (D+1) 4 n m Tryz.underlying4
 have n1 : ("Neg" : String) ≠ "_" := by simp
 have n2 : ("Mag" : String) ≠ "_" := by simp
 unfold Op.eqFields;rw [if_pos n1];simp only [Sem.run_bind,p1,p2,eb,Result.andThen_ok]
 cases hnm:(n==m) with
 | false =>
  have hn:n≠m:=by simpa using hnm
  simp only [Bool.not_false,if_true,Sem.run_pure,hn,false_and,decide_false]
 | true =>
  have hn:n=m:=by simpa using hnm
  simp only [Bool.not_true,Bool.false_eq_true,if_false];unfold Op.eqFields;rw [if_pos n2];rw [Sem.run_bind,q,Result.andThen_ok,Sem.run_bind,q,Result.andThen_ok,Sem.run_bind]
  dsimp only
  rw [em,Result.andThen_ok]
  cases hab:decide (a=b) with
  | false =>
   have h:a≠b:=of_decide_eq_false hab;simp only [Bool.not_false,if_true,Sem.run_pure,h,and_false,decide_false]
  | true =>
   have h:a=b:=of_decide_eq_true hab;simp only [Bool.not_true,Bool.false_eq_true,if_false];unfold Op.eqFields;simp only [Sem.run_pure,h,hn,and_self,decide_true]
theorem jhH (n m:Bool) (a b:Nat) (ha:a<BB^32) (hb:b<BB^32) (w:World):(binOp .eql 25 (iV n a) (iV m b)).run Tryz.prog w=.ok (.bool (decide (n=m∧a=b))) w:=by
 have h:=eq_at 9997 n m a b ha hb w;unfold iV at h ⊢;rw [run_eql_struct];simp only [Nat.reduceAdd] at h;rw [h];rfl
theorem qgB {ops:Array Oper} {C:World→Prop} {Q:Act→Prop} {a:Act} {op:Oper} {rest:List Oper} {x y:Operand} {t:TypeId} {c d:List Value} {n m r:Bool} {u v:Nat} (hgd:Region.wanted op (yielded ops a.tmps)=true) (ho:op.op=.binOp .eql 25 x y t) (hx:a.eval x=.agg c.toArray) (hy:a.eval y=.agg d.toArray)
  (hc:c=.bool n::lv 32 u) (hd:d=.bool m::lv 32 v) (hu:u<BB^32) (hv:v<BB^32) (hr:r=decide (n=m∧u=v))
  (h:wpQuiet Tryz.prog ops C Q rest (a.put op.dst (.bool r))):wpQuiet Tryz.prog ops C Q (op::rest) a:=by
 refine wpQuiet_step (fun K hK=>?_);rw [if_pos hgd];refine ⟨.bool r,fun W hW=>?_,hK _ h⟩;have he:=jhH n m u v hu hv W;unfold iV at he;rw [←hc,←hd,←hr] at he;have hg:=run_eqGuard_agg (P:=Tryz.prog) W .eql 25 x y c.toArray d.toArray (by kernel_rfl);unfold Oper.quietAt execOp;simp [ho,hx,hy,hg,he,Oper.quietUpon]
theorem qbP {c:List Value} (h:c=rat false 0 false 0):Tryz.prog.built 27 []=some c.toArray:=by rw [h];exact qqS
theorem qfE {c d r:List Value} {n m:Bool} {p q:Nat} (hc:c=.bool n::lv 32 p) (hd:d=.bool m::lv 32 q) (hr:r=rat n p m q):Tryz.prog.built 27 [(0,.agg c.toArray),(1,.agg d.toArray)]=some r.toArray:=by
 rw [hr,qqT (by rw [hc,List.length_cons,qlL]) (by rw [hd,List.length_cons,qlL]),hc,hd];rfl
theorem wcg {P:Program} {ops:Array Oper} {w:World} {Q:Act→Prop} {a:Act} {op:Oper} {rest:List Oper} {ty:TypeId} {x:Operand} {v:Value} {ad:Addr} (hgd:Region.wanted op (yielded ops a.tmps)=true) (ho:op.op=.load ty x)
  (hx:a.eval x=.pointer (some ad)) (hl:∀ W:World,W.cell? ad=some v→(loadVar ty ad).run P W=.ok v W) (hc:w.cell? ad=some v)
  (h:wpQuiet P ops (fun w'=>∃ p:GB,w'=gw w p.d p.os) Q rest (a.put op.dst v)) :
  wpQuiet P ops (fun w'=>∃ p:GB,w'=gw w p.d p.os) Q (op::rest) a:=by
 refine wpQuiet_step (fun K hK=>?_);rw [if_pos hgd];refine ⟨v,fun W hW=>?_,hK _ h⟩;obtain ⟨p,rfl⟩:=hW;unfold Oper.quietAt execOp;simp only [ho,hx,Instr.loadAt,Instr.sureAddr,Sem.run_bind,Sem.run_pure,Result.andThen_ok,hl _ (qaB hc p.d p.os)];exact ⟨rfl,rfl⟩
theorem Tryz.zeroR:Tryz.zeroCells27=(rat false 0 false 0).toArray:=by unfold rat;rw [qbW];rfl
theorem zQR {c:List Value} (h:Hid (c=rat false 0 false 0)):Tryz.zeroCells27=c.toArray:=by rw [h.out];exact Tryz.zeroR
theorem qbO {P:Program} {ops:Array Oper} {C:World→Prop} {Q:Act→Prop} {a:Act} {op:Oper} {rest:List Oper} (hgd:Region.wanted op (yielded ops a.tmps)=true) (ty:TypeId) (xs:Array (Nat × Operand)) (ho:op.op=.build ty xs)
  (vs:List (Nat × Value)) (hx:xs.toList.map (fun p=>(p.1,a.eval p.2))=vs) (Z:Array Value) (hb:P.built ty vs=some Z) (h:wpQuiet P ops C Q rest (a.put op.dst (.agg Z))):wpQuiet P ops C Q (op::rest) a:=by
 refine wpQuiet_step (fun K hK=>?_);rw [if_pos hgd];refine ⟨.agg Z,fun W hW=>?_,hK _ h⟩;unfold Oper.quietAt execOp;have hr:=run_build (P:=P) W ty vs.toArray Z (by simpa using hb);have hx2:xs.map (fun p=>(p.1,a.eval p.2))=vs.toArray:=by rw [←hx];apply Array.toList_inj.1;simp
 simp [ho,hx2,hr,Oper.quietUpon]
end Go.Proofs.YtemoddmadfoaiaaGreat
set_option maxHeartbeats 8000000
namespace Go.Proofs.YtemoddmadfoaiaaGreat
open Go.RowKit Big
open Lib (hid)
theorem qyD (d a b:Nat) (ha:a<BB^32) (hb:b<BB^32) (w:World):(Op.equalIn (d+2) 140 (.agg (lv 32 a).toArray) (.agg (lv 32 b).toArray)).run Tryz.prog w=.ok (decide (a=b)) w:=by
 obtain ⟨i,hi⟩:∃ i,Tryz.prog.info? 22=some i:=info_of_underlying Tryz.underlying22;rw [run_equalIn_array w (d+1) _ _ Tryz.underlying140 hi];rw [qsE d (lv 32 a) (lv 32 b) (dg 32 a) (dg 32 b) rfl rfl w (List.range 32) (fun i hi=>by rw [qhF,qhF];have:=List.mem_range.1 hi;omega)]
 have key:((List.range 32).all fun i=>(dg 32 a)[i]?==(dg 32 b)[i]?)=decide (a=b):=by
  by_cases h:a=b
  ·subst h;simp
  ·rw [decide_eq_false h]
   cases hc:(List.range 32).all fun i=>(dg 32 a)[i]?==(dg 32 b)[i]? with
   | false=>rfl
   | true =>
    refine absurd (qoZ ha hb fun k hk=>?_) h
    have:=List.all_eq_true.1 hc k (List.mem_range.2 hk)
    rw [qiC a hk,qiC b hk] at this
    simpa using this
 rw [key]
theorem jeW (a b:Nat) (ha:a<BB^32) (hb:b<BB^32) (w:World):(binOp .neq 140 (.agg (lv 32 a).toArray) (.agg (lv 32 b).toArray)).run Tryz.prog w=.ok (.bool (!decide (a=b))) w:=by
 have h:=qyD 9998 a b ha hb w;rw [run_neq_struct];simp only [Nat.reduceAdd] at h;rw [h];rfl
theorem jbZ (a b:Nat) (ha:a<BB^32) (hb:b<BB^32) (w:World):(binOp .eql 140 (.agg (lv 32 a).toArray) (.agg (lv 32 b).toArray)).run Tryz.prog w=.ok (.bool (decide (a=b))) w:=by
 have h:=qyD 9998 a b ha hb w;rw [run_eql_struct];simp only [Nat.reduceAdd] at h;rw [h];rfl
theorem qcH {ops:Array Oper} {C:World→Prop} {Q:Act→Prop} {a:Act} {op:Oper} {rest:List Oper} {x y:Operand} {t:TypeId} {c d:List Value} {r:Bool} {u v:Nat} (hgd:Region.wanted op (yielded ops a.tmps)=true) (ho:op.op=.binOp .neq 140 x y t) (hx:a.eval x=.agg c.toArray) (hy:a.eval y=.agg d.toArray)
  (hc:c=lv 32 u) (hd:d=lv 32 v) (hu:u<BB^32) (hv:v<BB^32) (hr:r=!decide (u=v))
  (h:wpQuiet Tryz.prog ops C Q rest (a.put op.dst (.bool r))):wpQuiet Tryz.prog ops C Q (op::rest) a:=by
 refine wpQuiet_step (fun K hK=>?_);rw [if_pos hgd];refine ⟨.bool r,fun W hW=>?_,hK _ h⟩;have he:=jeW u v hu hv W;rw [←hc,←hd,←hr] at he;have hg:=run_eqGuard_agg (P:=Tryz.prog) W .neq 140 x y c.toArray d.toArray (by kernel_rfl);unfold Oper.quietAt execOp;simp [ho,hx,hy,hg,he,Oper.quietUpon]
theorem qdT {ops:Array Oper} {C:World→Prop} {Q:Act→Prop} {a:Act} {op:Oper} {rest:List Oper} {x y:Operand} {t:TypeId} {c d:List Value} {r:Bool} {u v:Nat} (hgd:Region.wanted op (yielded ops a.tmps)=true) (ho:op.op=.binOp .eql 140 x y t) (hx:a.eval x=.agg c.toArray) (hy:a.eval y=.agg d.toArray)
  (hc:c=lv 32 u) (hd:d=lv 32 v) (hu:u<BB^32) (hv:v<BB^32) (hr:r=decide (u=v))
  (h:wpQuiet Tryz.prog ops C Q rest (a.put op.dst (.bool r))):wpQuiet Tryz.prog ops C Q (op::rest) a:=by
 refine wpQuiet_step (fun K hK=>?_);rw [if_pos hgd];refine ⟨.bool r,fun W hW=>?_,hK _ h⟩;have he:=jbZ u v hu hv W;rw [←hc,←hd,←hr] at he;have hg:=run_eqGuard_agg (P:=Tryz.prog) W .eql 140 x y c.toArray d.toArray (by kernel_rfl);unfold Oper.quietAt execOp;simp [ho,hx,hy,hg,he,Oper.quietUpon]
theorem qcA {c:List Value} (h:c=lv 32 0):Tryz.prog.built 140 []=some c.toArray:=by rw [h,qbV];kernel_rfl
theorem qnD {c d:List Value} {x:Bool} {v:Nat} (hc:c=lv 32 v) (hd:d=.bool x::lv 32 v):Tryz.prog.built 25 [(0,.bool x),(1,.agg c.toArray)]=some d.toArray:=by
 subst hc hd;exact qjU x (lv 32 v) (qlL _ _)
theorem qcJ:0<BB^32:=BP 32
theorem qeO {cm cr:List Value} {neg n:Bool} {v:Nat} (h:cm=lv 32 v) (hr:cr=.bool n::lv 32 v) (hn:n=cs1 neg v) (hv:v<BB^32) (w:World) :
  CB 112 #[.bool neg,.agg cm.toArray] (.agg cr.toArray) w:=by
 have V_cm:=hid h;have V_cr:=hid hr;have HV:=hid (And.intro hn hv);clear h hr hn hv;obtain ⟨cz,V_cz⟩:=nvx (lv 32 0);obtain ⟨cy,V_cy⟩:=nvx (.bool false::lv 32 0);obtain ⟨B0,B1,w0,hw0,hB0,hB1,AB0,AB1,FR,FR0,HB0,hZB0,l01,hZB1⟩:=en2 w 140 25 (bxq cm) (zQI V_cy);unfold zero33 at hw0;go_enter Tryz.func112,Tryz.ntmps112
 go_upto_region 1 with fail
 rw [←hw0,←hB1,←hB0];clear hw0 hB0 hB1
 cases neg with
 | true =>
  have hn1:n=!decide (v=0):=by rw [HV.out.1];simp [cs1]
  have HN1:=hid hn1;clear hn1;refine wF [⟨false,0,4,8,B1,0,25,12,cr,0,cr,[]⟩] [(5,bT),(6,bT),(7,aT cm),(8,aT cz),(9,.bool n),(10,.bool n),(11,aT cm),(12,aT cr)] (by simp only [zu];rfl) (by kernel_rfl) ?_ ?_ (fP1 bnC) ?_ uno ?_ ?_
  ·intro W' hW';have rd0:=AB0.out.below hW';refine fo2 ?_ ?_<|ldG rd0 V_cm rfl<|fxo (qbO (by rfl) _ _ rfl _ rfl _ (qcA V_cz.out) (wqn (by simp only [zq])))<|fxo (qcH (r:=n) (by rfl) rfl rfl rfl V_cm.out V_cz.out HV.out.2 qcJ HN1.out (wqn (by simp only [zq])))<|fxo ?_<|ldG rd0 V_cm rfl<|fxb (qnD V_cm.out V_cr.out) rfl<|fxs rfl<|fxn;all_goals (go_big_quiet_step (fail);exact wqn rfl)
  ·intro W' hK';have rd0:=akh AB0 hK' (by omega);refine fxi ?_<|fxi ?_<|ldG rd0 V_cm rfl<|fxo (qbO (by rfl) _ _ rfl _ rfl _ (qcA V_cz.out) (wqn (by simp only [zq])))<|fxo (qcH (r:=n) (by rfl) rfl rfl rfl V_cm.out V_cz.out HV.out.2 qcJ HN1.out (wqn (by simp only [zq])))<|fxi ?_<|ldG rd0 V_cm rfl<|fxb (qnD V_cm.out V_cr.out) rfl<|fxs (by kernel_rfl)<|fxn;all_goals (first|(refine .inr ?_;go_big_quiet_step (fail);exact wqn rfl)|exact .inl (by kernel_rfl))
  ·exact fP1 (fun _=>rmh AB1 (qI V_cy.out) (qI V_cr.out) rfl)
  ·exact fP1 (sI V_cr (fun _=>rfl) rfl)
  intro β wx1 E;replace FR:=ffh FR E (by omega);replace AB1:=aoh E AB1 mms;simp only [nP,zu];go_wp2_with fail
  have hld:=rdI AB1 V_cr;refine bodyPost_ret (v:=.agg cr.toArray) (by simp [results,Tryz.results112,asAddr,hld]) rfl ?_;exact ⟨rfl,qbL HB0 FR⟩
 | false =>
  have hn1:n=false:=by rw [HV.out.1];rfl
  subst hn1;refine wF [⟨false,0,4,8,B1,0,25,12,cr,0,cr,[]⟩] [(5,bF),(6,bF),(7,undef),(8,undef),(9,undef),(10,bF),(11,aT cm),(12,aT cr)] (by simp only [zu];rfl) (by kernel_rfl) ?_ ?_ (fP1 bnC) ?_ uno ?_ ?_
  ·intro W' hW';refine fo4 ?_ ?_ ?_ ?_<|fo2 ?_ ?_<|lhG AB0 hW' V_cm rfl<|fxb (qnD V_cm.out V_cr.out) rfl<|fxs rfl<|fxn;all_goals (go_big_quiet_step (fail);exact wqn rfl)
  ·intro W' hK';have rd0:=akh AB0 hK' (by omega);refine fxi ?_<|fxi ?_<|fxi ?_<|fxi ?_<|fxi ?_<|fxi ?_<|ldG rd0 V_cm rfl<|fxb (qnD V_cm.out V_cr.out) rfl<|fxs (by kernel_rfl)<|fxn;all_goals (first|(refine .inr ?_;go_big_quiet_step (fail);exact wqn rfl)|exact .inl (by kernel_rfl))
  ·exact fP1 (fun _=>rmh AB1 (qI V_cy.out) (qI V_cr.out) rfl)
  ·exact fP1 (sI V_cr (fun _=>rfl) rfl)
  intro β wx1 E;replace FR:=ffh FR E (by omega);replace AB1:=aoh E AB1 mms;simp only [nP,zu];go_wp2_with fail
  have hld:=rdI AB1 V_cr;refine bodyPost_ret (v:=.agg cr.toArray) (by simp [results,Tryz.results112,asAddr,hld]) rfl ?_;exact ⟨rfl,qbL HB0 FR⟩
theorem qbR {cx cm:List Value} {s n:Bool} {v:Nat} (h:cx=.bool s::lv 32 v) (hm:cm=lv 32 v) (hn:n=cs1 s v) (hv:v<BB^32) (w:World) :
  CB 144 #[.agg cx.toArray] (.tuple #[.bool n,.agg cm.toArray]) w:=by
 have V_cx:=hid h;have V_cm:=hid hm;have HV:=hid (And.intro hn hv);clear h hm hn hv;obtain ⟨cz,V_cz⟩:=nvx (lv 32 0);obtain ⟨B0,B1,w0,hw0,hB0,hB1,AB0,AB1,FR,FR0,HB0,hZB0,l01,hZB1⟩:=en2 w 25 140 (bxq cx) (zM V_cz);rw [qbV] at hw0;go_enter Tryz.func144,Tryz.ntmps144
 go_upto_region 1 with fail
 rw [←hw0,←hB1,←hB0];clear hw0 hB0 hB1;have AB0_1:=hid (AB0.out.mag V_cx.out V_cm.out);refine wT [⟨true,2,4,3,0,0,140,6,cm,0,cm,[]⟩] [(5,pT B0 1),(6,aT cm)] (by simp only [zu];rfl) (by kernel_rfl) rfl ?_ ?_ ?_ ?_
 ·intro W' hW';refine fxo ?_<|fxl (abl AB0_1 hW') (qcP V_cm.out) Tryz.underlying23 rfl rfl<|fxs rfl<|fxs rfl<|fxn
  go_big_quiet_step (fail);exact wqn rfl
 ·exact fP1 (Tryz.alG (qG V_cm.out))
 ·exact fP1 (sG V_cm (fun _=>rfl) rfl)
 intro β wx1 E;replace FR:=fnf FR E rfl;obtain ⟨b4,hb4,eb4⟩:=nwb E mms;have lB0_b4:B0<b4:=ltb AB0 eb4.1;have lB1_b4:B1<b4:=ltb AB1 eb4.1;have hZb4:B0≤b4:=Nat.le_trans FR0.out eb4.1;replace AB0:=fnh AB0 E rfl;replace AB1:=fnh AB1 E rfl;have Ab4:=hid eb4.2;simp only [nP,zu];rw [←hb4];clear E eb4 hb4;go_upto_region 2 with fail
 cases s with
 | true =>
  have hn1:n=!decide (v=0):=by rw [HV.out.1];simp [cs1]
  have HN1:=hid hn1;clear hn1;refine wF [⟨false,0,3,9,B1,0,140,14,cm,0,cm,[]⟩] [(7,pT B0 0),(8,bT),(9,bT),(10,aT cm),(11,aT cz),(12,.bool n),(13,.bool n),(14,aT cm),(2,.bool n)] (by simp only [zu];rfl) (by kernel_rfl) ?_ ?_ (fP1 bnC) ?_ uno ?_ ?_
  ·intro W' hW';have cl0:=fun p os=>qaB ((AB0.out.below hW').neg V_cx.out) p os
   have rd0:=Ab4.out.below hW';refine fo3 ?_ ?_ ?_<|ldG rd0 V_cm rfl<|fxo (qbO (by rfl) _ _ rfl _ rfl _ (qcA V_cz.out) (wqn (by simp only [zq])))<|fxo (qcH (r:=n) (by rfl) rfl rfl rfl V_cm.out V_cz.out HV.out.2 qcJ HN1.out (wqn (by simp only [zq])))<|fxo ?_<|ldG rd0 V_cm rfl<|fxo ?_<|fxs rfl<|fxn;all_goals (go_big_quiet_step (fail);exact wqn rfl)
  ·intro W' hK';have rd0:=akh Ab4 hK' (by omega);refine fxi ?_<|fxi ?_<|fxi ?_<|ldG rd0 V_cm rfl<|fxo (qbO (by rfl) _ _ rfl _ rfl _ (qcA V_cz.out) (wqn (by simp only [zq])))<|fxo (qcH (r:=n) (by rfl) rfl rfl rfl V_cm.out V_cz.out HV.out.2 qcJ HN1.out (wqn (by simp only [zq])))<|fxi ?_<|ldG rd0 V_cm rfl<|fxi ?_<|fxs (by kernel_rfl)<|fxn;all_goals (first|(refine .inr ?_;go_big_quiet_step (fail);exact wqn rfl)|exact .inl (by kernel_rfl))
  ·exact fP1 (fun _=>rmh AB1 (qG V_cz.out) (qG V_cm.out) rfl)
  ·exact fP1 (sG V_cm (fun _=>rfl) rfl)
  intro β wx2 E;replace FR:=ffh FR E (by omega);replace AB1:=aoh E AB1 mms;simp only [nP,zu];go_wp2_with fail
  have hld:=rdG AB1 V_cm;refine bodyPost_ret (v:=.tuple #[.bool n,.agg cm.toArray]) (by simp [results,Tryz.results144,asAddr,hld]) rfl ?_;exact ⟨rfl,qbL HB0 FR⟩
 | false =>
  have hn1:n=false:=by rw [HV.out.1];rfl
  subst hn1;refine wF [⟨false,0,3,9,B1,0,140,14,cm,0,cm,[]⟩] [(7,pT B0 0),(8,bF),(9,bF),(10,undef),(11,undef),(12,undef),(13,bF),(14,aT cm),(2,bF)] (by simp only [zu];rfl) (by kernel_rfl) ?_ ?_ (fP1 bnC) ?_ uno ?_ ?_
  ·intro W' hW';have cl0:=fun p os=>qaB ((AB0.out.below hW').neg V_cx.out) p os
   refine fo4 ?_ ?_ ?_ ?_<|fo3 ?_ ?_ ?_<|lhG Ab4 hW' V_cm rfl<|fxo ?_<|fxs rfl<|fxn;all_goals (go_big_quiet_step (fail);exact wqn rfl)
  ·intro W' hK';have rd0:=akh Ab4 hK' (by omega);refine fxi ?_<|fxi ?_<|fxi ?_<|fxi ?_<|fxi ?_<|fxi ?_<|fxi ?_<|ldG rd0 V_cm rfl<|fxi ?_<|fxs (by kernel_rfl)<|fxn;all_goals (first|(refine .inr ?_;go_big_quiet_step (fail);exact wqn rfl)|exact .inl (by kernel_rfl))
  ·exact fP1 (fun _=>rmh AB1 (qG V_cz.out) (qG V_cm.out) rfl)
  ·exact fP1 (sG V_cm (fun _=>rfl) rfl)
  intro β wx2 E;replace FR:=ffh FR E (by omega);replace AB1:=aoh E AB1 mms;simp only [nP,zu];go_wp2_with fail
  have hld:=rdG AB1 V_cm;refine bodyPost_ret (v:=.tuple #[.bool false,.agg cm.toArray]) (by simp [results,Tryz.results144,asAddr,hld]) rfl ?_;exact ⟨rfl,qbL HB0 FR⟩
end Go.Proofs.YtemoddmadfoaiaaGreat
namespace Go.Proofs.YtemoddmadfoaiaaGreat
open Go.RowKit Big
def zI (n:Bool) (v:Nat):Int:=if n=true then -(v:Int) else (v:Int)
theorem qxU {c:List Value} {z:Int} {n:Bool} {v:Nat} (h:c=.bool n::lv 32 v) (hn:n=decide (z<0)) (hv:v=z.natAbs) (h1:-9223372036854775808≤z) (h2:z≤9223372036854775807) (W:World) :
  CB 101 #[.int .i64 z] (.agg c.toArray) W:=by
 subst h hn hv;exact jfN z W h1 h2
def cmpZ (x y:Int):Int:=if x<y then -1 else if y<x then 1 else 0
theorem qnY (n:Bool) (v:Nat):sgnI n v=-1∨sgnI n v=0∨sgnI n v=1:=by
 unfold sgnI
 (repeat' split)<;>simp
theorem qyN (a b:Nat):cmpI a b=-1∨cmpI a b=0∨cmpI a b=1:=by
 unfold cmpI
 (repeat' split)<;>simp
theorem qyO (na nb:Bool) (a b:Nat):(sgnI na a<sgnI nb b→cmpZ (zI na a) (zI nb b)=-1)∧(sgnI nb b<sgnI na a→cmpZ (zI na a) (zI nb b)=1)∧(sgnI na a=sgnI nb b→cmpZ (zI na a) (zI nb b)=sgnI na a*cmpI a b):=by
 unfold cmpZ zI sgnI cmpI
 cases na<;>cases nb<;>simp only [Bool.false_eq_true,if_false,if_true]<;>(refine ⟨fun h=>?_,fun h=>?_,fun h=>?_⟩)<;>(repeat' split at h)<;>(repeat' split)<;>omega
theorem qhH {c:List Value} {n:Bool} {v:Nat} {s:Int} (h:c=.bool n::lv 32 v) (hs:s=sgnI n v) (hv:v<BB^32) (W:World) :
  CB 103 #[.agg c.toArray] (.int .i64 s) W:=by
 subst h hs;exact jdV n v W hv
theorem jdA (na nb:Bool) (a b:Nat) (h:cs1 na a=cs1 nb b):decide (zI na a+zI nb b<0)=cs1 (cs1 na a) (a+b)∧(zI na a+zI nb b).natAbs=a+b:=by
 have h1:na=true→a≠0→cs1 na a=true:=fun h1 h2=>by simp [cs1,h1,h2]
 unfold zI;by_cases ha:a=0<;>by_cases hb:b=0<;>cases na<;>cases nb<;>simp [cs1,ha,hb] at h ⊢<;>omega
theorem jdC (na nb:Bool) (a b:Nat) (h:cs1 na a≠cs1 nb b) (hl:a<b):decide (zI na a+zI nb b<0)=cs1 (cs1 nb b) (b - a)∧(zI na a+zI nb b).natAbs=b - a:=by
 unfold zI;have hb:b - a≠0:=by omega
 by_cases ha:a=0<;>by_cases hb2:b=0<;>cases na<;>cases nb<;>simp [cs1,ha,hb,hb2] at h hb ⊢<;>omega
theorem jdB (na nb:Bool) (a b:Nat) (h:cs1 na a≠cs1 nb b) (hl:¬a<b):decide (zI na a+zI nb b<0)=cs1 (cs1 na a) (a - b)∧(zI na a+zI nb b).natAbs=a - b:=by
 unfold zI;by_cases ha:a=0
 ·have hb0:b=0:=by omega
  exact absurd (by simp [cs1,ha,hb0]) h
 ·have e1:cs1 na a=na:=by simp [cs1,ha]
  rw [e1] at h ⊢;by_cases hb2:b=0
  ·subst hb2
   cases na<;>cases nb<;>simp [cs1,ha] at h ⊢<;>omega
  ·have e2:cs1 nb b=nb:=by simp [cs1,hb2]
   rw [e2] at h;by_cases hab:a=b
   ·subst hab
    cases na<;>cases nb<;>simp [cs1] at h ⊢<;>omega
   ·have h3:a - b≠0:=by omega
    have e3:cs1 na (a - b)=na:=by simp only [cs1,h3,decide_false,Bool.not_false,Bool.and_true]
    rw [e3]
    cases na<;>cases nb<;>simp at h ⊢<;>omega
end Go.Proofs.YtemoddmadfoaiaaGreat
set_option maxHeartbeats 8000000
namespace Go.Proofs.YtemoddmadfoaiaaGreat
open Go.RowKit Big
open Lib (hid)
theorem jdK {ca cr:List Value} {na n:Bool} {a:Nat} (h:ca=.bool na::lv 32 a) (hr:cr=.bool n::lv 32 a) (hn:n=cs1 (!na) a) (ha:a<BB^32) (w:World) :
  CB 135 #[.agg ca.toArray] (.agg cr.toArray) w:=by
 have V_ca:=hid h;have V_cr:=hid hr;obtain ⟨ma,V_ma⟩:=nvx (lv 32 a);obtain ⟨cz,V_cz⟩:=nvx (.bool false::lv 32 0);have HC:=hid (qsK (neg:=!na) V_ma.out V_cr.out hn ha);clear h hr hn ha;obtain ⟨B0,B1,w0,hw0,hB0,hB1,AB0,AB1,FR,FR0,HB0,hZB0,l01,hZB1⟩:=en2 w 25 25 (bxq ca) (zQI V_cz);unfold zero33 at hw0;go_enter Tryz.func135,Tryz.ntmps135
 go_upto_region 1 with fail
 rw [←hw0,←hB1,←hB0];clear hw0 hB0 hB1;have AB0_1:=hid (AB0.out.mag V_ca.out V_ma.out);refine wF [⟨false,0,2,6,B1,0,25,8,cr,0,cr,[]⟩] [(3,pT B0 0),(4,.bool na),(5,.bool (!na)),(6,pT B0 1),(7,aT ma),(8,aT cr)] (by simp only [zu];rfl) (by kernel_rfl) ?_ ?_ (fP1 bnC) ?_ uno ?_ ?_
 ·intro W' hW';have cl0:=fun p os=>qaB ((AB0.out.below hW').neg V_ca.out) p os
  refine fo4 ?_ ?_ ?_ ?_<|fxl (abl AB0_1 hW') (qcP V_ma.out) Tryz.underlying23 rfl rfl<|fxo ?_<|fxs rfl<|fxn;all_goals (go_big_quiet_step (exact qaA (HC.out _));exact wqn rfl)
 ·intro W' hK';have rd0:=akh AB0_1 hK' (by omega);refine fxi ?_<|fxi ?_<|fxi ?_<|fxi ?_<|fxl rd0 (qcP V_ma.out) Tryz.underlying23 rfl rfl<|fxs (by kernel_rfl)<|fxs (by kernel_rfl)<|fxn;all_goals (first|(refine .inr ?_;go_big_quiet_step (fail);exact wqn rfl)|exact .inl (by kernel_rfl))
 ·exact fP1 (fun _=>rmh AB1 (qI V_cz.out) (qI V_cr.out) rfl)
 ·exact fP1 (sI V_cr (fun _=>rfl) rfl)
 intro β wx1 E;replace FR:=ffh FR E (by omega);replace AB1:=aoh E AB1 mms;simp only [nP,zu];go_wp2_with fail
 have hld:=rdI AB1 V_cr;refine bodyPost_ret (v:=.agg cr.toArray) (by simp [results,Tryz.results135,asAddr,hld]) rfl ?_;exact ⟨rfl,qbL HB0 FR⟩
theorem qxT {c d g:List Value} {na nb:Bool} {a b G:Nat} (hc:c=.bool na::lv 32 a) (hd:d=.bool nb::lv 32 b) (hg:g=.bool false::lv 32 G) (hG:G=Nat.gcd a b) (ha:a<BB^32) (hb:b<BB^32) (W:World) :
  CB 133 #[.agg c.toArray,.agg d.toArray] (.agg g.toArray) W:=by
 subst hG hc hd hg;exact jhE na nb a b W ha hb
theorem qhD {c d q r:List Value} {na nb s:Bool} {a b m n:Nat} (hc:c=.bool na::lv 32 a) (hd:d=.bool nb::lv 32 b) (hq:q=.bool s::lv 32 m) (hr:r=.bool false::lv 32 n) (hs:s=cs1 (na != nb) m)
  (hm:m=if na=true∧a%b≠0 then a / b+1 else a / b) (hn:n=if na=true∧a%b≠0 then b - a%b else a%b) (ha:a<BB^32) (hb:b<BB^32) (h0:b≠0) (W:World) :
  CB 134 #[.agg c.toArray,.agg d.toArray] (.tuple #[.agg q.toArray,.agg r.toArray,.int .i64 0]) W:=by
 subst hs hc hd hq hr;exact qyF na nb a b m n W ha hb h0 hm hn
theorem qfF {c:List Value} {na:Bool} {a n:Nat} (hc:c=.bool na::lv 32 a) (ha:a<BB^32) (hn:IsBits a n) (W:World) :
  CB 132 #[.agg c.toArray] (.int .i64 (n:Int)) W:=by
 subst hc;exact qqV na a n W ha hn
theorem qvH {v n k:Nat} (h:IsBits v n) (hv:v<2^k):n≤k:=qzG hv h
def B480:Nat:=BB^15
theorem qnI {v:Nat} (h:v<B480):v<BB^15:=h
theorem qaT {v:Nat} (h:v<B480):v<BB^32:=Nat.lt_of_lt_of_le (qnI h) (Nat.pow_le_pow_right qbH (by omega))
theorem qeS {u v:Nat} (hu:u<B480) (hv:v<B480):u*v<BB^30:=by
 have:=Nat.mul_lt_mul'' (qnI hu) (qnI hv)
 rwa [←Nat.pow_add] at this
theorem qfG {v n:Nat} (hv:v<B480) (h:IsBits v n):n≤480:=qnG 15 (qnI hv) h
theorem qdA (na:Bool) (a g:Nat) (hd:g∣a):a / g=(if na=true∧a%g≠0 then a / g+1 else a / g)∧0=(if na=true∧a%g≠0 then g - a%g else a%g):=by
 rw [Nat.mod_eq_zero_of_dvd hd];simp
theorem qoM (na nb:Bool) (p q:Nat) (hq:q≠0):cs1 nb q=nb∧(nb=true→cs1 (!cs1 na p) p=cs1 (na != nb) p)∧(nb=false→cs1 na p=cs1 (na != nb) p)∧sgnI nb q=if nb=true then -1 else 1:=by
 refine ⟨by simp [cs1,hq],fun h=>?_,fun h=>?_,by simp [sgnI,hq]⟩<;>subst h<;>by_cases hp:p=0<;>cases na<;>simp [cs1,hp]
theorem jfF {ca cb cR:List Value} {na nb n:Bool} {a b g p q:Nat} (h1:ca=.bool na::lv 32 a) (h2:cb=.bool nb::lv 32 b) (hR:cR=rat n p false q) (hn:n=cs1 (na != nb) p) (hg:g=Nat.gcd a b) (hp:p=a / g) (hq:q=b / g)
  (ha:a<BB^32) (hb:b<BB^32) (h0:b≠0) (hpb:p<B480) (hqb:q<B480) (w:World) :
  CB 99 #[.agg ca.toArray,.agg cb.toArray] (.tuple #[.agg cR.toArray,.int .i64 0]) w:=by
 have V_ca:=hid h1;have V_cb:=hid h2;have V_cR:=hid hR;have hg0:g≠0:=by rw [hg];intro h;exact h0 (Nat.eq_zero_of_gcd_eq_zero_right h)
 have hga:g∣a:=by rw [hg];exact Nat.gcd_dvd_left a b
 have hgb:g∣b:=by rw [hg];exact Nat.gcd_dvd_right a b
 have hq0:q≠0:=by rw [hq];intro h;have:=Nat.div_mul_cancel hgb;rw [h] at this;omega
 have hgB:g<BB^32:=by rw [hg];exact qkM ha hb
 obtain ⟨x1,hx1⟩:=qaO p;obtain ⟨x2,hx2⟩:=qaO q;have hx1b:=qfG hpb hx1;have hx2b:=qfG hqb hx2;obtain ⟨hs1,hs2,hs3,hs4⟩:=qoM na nb p q hq0;obtain ⟨sn,hsn⟩:=nqx (cs1 na p);obtain ⟨s,hs⟩:=nqx (sgnI nb b)
 have hse:(s==0)=false:=by
  rw [hs];unfold sgnI;rw [if_neg h0];cases nb<;>rfl
 obtain ⟨cg,V_cg⟩:=nvx (.bool false::lv 32 g);obtain ⟨cN,V_cN⟩:=nvx (.bool sn::lv 32 p);obtain ⟨cD,V_cD⟩:=nvx (.bool nb::lv 32 q);obtain ⟨ce,V_ce⟩:=nvx (.bool false::lv 32 0);obtain ⟨cM,V_cM⟩:=nvx (.bool n::lv 32 p);obtain ⟨cE,V_cE⟩:=nvx (.bool false::lv 32 q);obtain ⟨cz,V_cz⟩:=nvx (rat false 0 false 0);have HS:=hid (qhH V_cb.out hs hb);have HG:=hid (qxT V_ca.out V_cb.out V_cg.out hg ha hb);have HDN:=hid (qhD (s:=sn) V_ca.out V_cg.out V_cN.out V_ce.out (by rw [hsn];cases na<;>rfl) (by rw [hp];exact (qdA na a g hga).1) (qdA na a g hga).2 ha hgB hg0);have HDD:=hid (qhD (s:=nb) V_cb.out V_cg.out V_cD.out V_ce.out (by rw [show (nb != false)=nb by cases nb<;>rfl];exact hs1.symm) (by rw [hq];exact (qdA nb b g hgb).1) (qdA nb b g hgb).2 hb hgB hg0);have HS2:=hid (qhH (s:=if nb=true then -1 else 1) V_cD.out hs4.symm (qaT hqb))
 have HB1:=hid (fun c (hc:c=cN∨c=cM)=>show ∀ W,CB 132 #[.agg c.toArray] (.int .i64 (x1:Int)) W from fun W=>by
  rcases hc with rfl|rfl
  ·exact qfF V_cN.out (qaT hpb) hx1 W
  ·exact qfF V_cM.out (qaT hpb) hx1 W)
 have HB2:=hid (fun c (hc:c=cD∨c=cE)=>show ∀ W,CB 132 #[.agg c.toArray] (.int .i64 (x2:Int)) W from fun W=>by
  rcases hc with rfl|rfl
  ·exact qfF V_cD.out (qaT hqb) hx2 W
  ·exact qfF V_cE.out (qaT hqb) hx2 W)
 have HNN:=hid (And.intro (qaT hpb) (And.intro (qaT hqb) (And.intro hq0 (And.intro hsn (And.intro hn (And.intro hs2 (And.intro hs3 hs1)))))));have n1:¬(480:Int)<(x1:Int):=by omega
 have n2:¬(480:Int)<(x2:Int):=by omega
 clear h1 h2 hR hn hg hp hq ha hb h0 hpb hqb hg0 hga hgb hq0 hgB hx1 hx2 hx1b hx2b hs1 hs2 hs3 hs4 hsn hs;obtain ⟨B0,B1,B2,w0,hw0,hB0,hB1,hB2,AB0,AB1,AB2,FR,FR0,HB0,hZB0,l01,hZB1,l12,hZB2⟩:=en3 w 25 25 27 (bxq ca) (bxq cb) (zQR V_cz);go_enter Tryz.func99,Tryz.ntmps99
 go_upto_region 1 with fail
 rw [←hw0,←hB2,←hB1,←hB0];clear hw0 hB0 hB1 hB2;refine wE [(13,aT cb),(14,iT s),(15,bF)] (by simp only [zu];rfl) (by kernel_rfl) ?_ ?_
 ·intro W' hW';refine lhI AB1 hW' V_cb rfl<|fo2 ?_ ?_<|fxn;all_goals (go_big_quiet_step (exact qaA (HS.out _));exact wqn rfl)
 intro β wx1 E;replace FR:=fnf FR E rfl;replace AB0:=fnh AB0 E rfl;replace AB1:=fnh AB1 E rfl;replace AB2:=fnh AB2 E rfl;simp only [nP,zu];replace FR0:=hid FR.out.le;clear hse;go_upto_region 3 with fail
 refine wT [⟨true,3,6,4,0,0,25,19,cg,0,cg,[]⟩] [(17,aT ca),(18,aT cb),(19,aT cg)] (by simp only [zu];rfl) (by kernel_rfl) rfl ?_ ?_ ?_ ?_
 ·intro W' hW';refine lhI AB0 hW' V_ca rfl<|lhI AB1 hW' V_cb rfl<|fxo ?_<|fxs rfl<|fxs rfl<|fxn
  go_big_quiet_step (exact qaA (HG.out _));exact wqn rfl
 ·exact fP1 (Tryz.alI (qI V_cg.out))
 ·exact fP1 (sI V_cg (fun _=>rfl) rfl)
 intro β wx2 E;replace FR:=fnf FR E rfl;obtain ⟨b6,hb6,eb6⟩:=nwb E mms;have lB0_b6:B0<b6:=ltb AB0 eb6.1;have lB1_b6:B1<b6:=ltb AB1 eb6.1;have lB2_b6:B2<b6:=ltb AB2 eb6.1;have hZb6:B0≤b6:=Nat.le_trans FR0.out eb6.1;replace AB0:=fnh AB0 E rfl;replace AB1:=fnh AB1 E rfl;replace AB2:=fnh AB2 E rfl;have Ab6:=hid eb6.2;simp only [nP,zu];rw [←hb6];replace FR0:=hid FR.out.le;clear E eb6 hb6;go_upto_region 4 with fail
 refine wT [⟨true,7,7,9,0,0,25,24,cN,0,cN,[]⟩,⟨true,8,8,10,0,0,25,25,ce,0,ce,[]⟩] [(21,aT ca),(22,aT cg),(23,.tuple #[aT cN,aT ce,iT 0]),(20,.tuple #[aT cN,aT ce,iT 0]),(24,aT cN),(25,aT ce),(26,iT 0),(9,iT 0)] (by simp only [zu];rfl) (by kernel_rfl) rfl ?_ ?_ ?_ ?_
 ·intro W' hW';refine lhI AB0 hW' V_ca rfl<|lhI Ab6 hW' V_cg rfl<|fo4 ?_ ?_ ?_ ?_<|fxo ?_<|fxs rfl<|fxs rfl<|fxs rfl<|fxs rfl<|fxo ?_<|fxn;all_goals (go_big_quiet_step (exact qaA (HDN.out _));exact wqn rfl)
 ·exact oP _ _ (Tryz.alI (qI V_cN.out)) (oP _ _ (Tryz.alI (qI V_ce.out)) (oN))
 ·exact oP _ _ (stw rfl (qI V_cN.out) (qgF V_cN.out) (fun _=>rfl)) (oP _ _ (stw rfl (qI V_ce.out) (qgF V_ce.out) (fun _=>rfl)) (oN))
 intro β wx3 E;replace FR:=fnf FR E rfl;obtain ⟨b7,hb7,eb7⟩:=nwb E mms;have lB0_b7:B0<b7:=ltb AB0 eb7.1;have lB1_b7:B1<b7:=ltb AB1 eb7.1;have lB2_b7:B2<b7:=ltb AB2 eb7.1;have lb6_b7:b6<b7:=ltb Ab6 eb7.1;have hZb7:B0≤b7:=Nat.le_trans FR0.out eb7.1;obtain ⟨b8,hb8,eb8⟩:=nwb E (List.mem_cons_of_mem _ mms);have lB0_b8:B0<b8:=ltb AB0 eb8.1;have lB1_b8:B1<b8:=ltb AB1 eb8.1;have lB2_b8:B2<b8:=ltb AB2 eb8.1;have lb6_b8:b6<b8:=ltb Ab6 eb8.1;have hZb8:B0≤b8:=Nat.le_trans FR0.out eb8.1;have nb7_b8:b7≠b8:=fun e=>absurd (E.apart _ mms _ (List.mem_cons_of_mem _ mms) rfl rfl (by rw [hb7,hb8] at e;exact e)) (show ¬(7:Nat)=8 by decide)
 clear AB0;replace AB1:=fnh AB1 E rfl;replace AB2:=fnh AB2 E rfl;replace Ab6:=fnh Ab6 E rfl;have Ab7:=hid eb7.2;have Ab8:=hid eb8.2;simp only [nP,zu];rw [←hb7];rw [←hb8];replace FR0:=hid FR.out.le;clear E eb7 hb7 eb8 hb8;go_upto_region 5 with fail
 refine wT [⟨true,7,10,9,0,0,25,31,cD,0,cD,[]⟩,⟨true,8,11,10,0,0,25,32,ce,0,ce,[]⟩] [(28,aT cb),(29,aT cg),(30,.tuple #[aT cD,aT ce,iT 0]),(27,.tuple #[aT cD,aT ce,iT 0]),(31,aT cD),(32,aT ce),(33,iT 0),(12,iT 0)] (by simp only [zu];rfl) (by kernel_rfl) rfl ?_ ?_ ?_ ?_
 ·intro W' hW';refine lhI AB1 hW' V_cb rfl<|lhI Ab6 hW' V_cg rfl<|fo4 ?_ ?_ ?_ ?_<|fxo ?_<|fxs rfl<|fxs rfl<|fxs rfl<|fxs rfl<|fxo ?_<|fxn;all_goals (go_big_quiet_step (exact qaA (HDD.out _));exact wqn rfl)
 ·exact oP _ _ (Tryz.alI (qI V_cD.out)) (oP _ _ (Tryz.alI (qI V_ce.out)) (oN))
 ·exact oP _ _ (stw rfl (qI V_cD.out) (qgF V_cD.out) (fun _=>rfl)) (oP _ _ (stw rfl (qI V_ce.out) (qgF V_ce.out) (fun _=>rfl)) (oN))
 intro β wx4 E;replace FR:=fnf FR E rfl;obtain ⟨b10,hb10,eb10⟩:=nwb E mms;have lB1_b10:B1<b10:=ltb AB1 eb10.1;have lB2_b10:B2<b10:=ltb AB2 eb10.1;have lb6_b10:b6<b10:=ltb Ab6 eb10.1;have lb7_b10:b7<b10:=ltb Ab7 eb10.1;have lb8_b10:b8<b10:=ltb Ab8 eb10.1;have hZb10:B0≤b10:=Nat.le_trans FR0.out eb10.1;obtain ⟨b11,hb11,eb11⟩:=nwb E (List.mem_cons_of_mem _ mms);have lB1_b11:B1<b11:=ltb AB1 eb11.1;have lB2_b11:B2<b11:=ltb AB2 eb11.1;have lb6_b11:b6<b11:=ltb Ab6 eb11.1;have lb7_b11:b7<b11:=ltb Ab7 eb11.1;have lb8_b11:b8<b11:=ltb Ab8 eb11.1;have hZb11:B0≤b11:=Nat.le_trans FR0.out eb11.1;have nb10_b11:b10≠b11:=fun e=>absurd (E.apart _ mms _ (List.mem_cons_of_mem _ mms) rfl rfl (by rw [hb10,hb11] at e;exact e)) (show ¬(7:Nat)=8 by decide)
 clear AB1;replace AB2:=fnh AB2 E rfl;clear Ab6;replace Ab7:=fnh Ab7 E rfl;clear Ab8;have Ab10:=hid eb10.2;have Ab11:=hid eb11.2;simp only [nP,zu];rw [←hb10];rw [←hb11];clear E eb10 hb10 eb11 hb11;go_upto_region 6 with fail
 cases nb with
 | true =>
  have HN1:=hid (jdK V_cN.out V_cM.out (by rw [HNN.out.2.2.2.2.1,HNN.out.2.2.2.1,HNN.out.2.2.2.2.2.1 rfl]) HNN.out.1);have HN2:=hid (jdK (n:=false) V_cD.out V_cE.out rfl HNN.out.2.1);simp only [if_true] at HS2;refine wE [(34,aT cD),(35,iT (-1)),(36,bT)] (by simp only [zu];rfl) (by kernel_rfl) ?_ ?_
  ·intro W' hW';refine lhI Ab10 hW' V_cD rfl<|fo2 ?_ ?_<|fxn;all_goals (go_big_quiet_step (exact qaA (HS2.out _));exact wqn rfl)
  intro β wx5 E;replace FR:=fnf FR E rfl;replace AB2:=fnh AB2 E rfl;replace Ab7:=fnh Ab7 E rfl;replace Ab10:=fnh Ab10 E rfl;replace Ab11:=fnh Ab11 E rfl;simp only [nP,zu];go_upto_region 7 with fail
  refine wF [⟨false,0,7,4,b7,0,25,38,cM,0,cM,[]⟩,⟨false,0,10,5,b10,0,25,40,cE,0,cE,[]⟩] [(37,aT cN),(38,aT cM),(39,aT cD),(40,aT cE)] (by simp only [zu];rfl) (by kernel_rfl) ?_ ?_ (oP _ _ bnC (fP1 bnC)) ?_ ?_ ?_ ?_
  ·intro W' hW';refine lhI Ab7 hW' V_cN rfl<|fxo ?_<|lhI Ab10 hW' V_cD rfl<|fxo (by go_big_quiet_step (exact qaA (HN2.out _));exact wqn rfl)<|fxs rfl<|fxs rfl<|fxn
   go_big_quiet_step (exact qaA (HN1.out _));exact wqn rfl
  ·intro W' hK';iterate 6 (refine fxs (by kernel_rfl) ?_)
   exact fxn
  ·exact oP _ _ (fun _=>rmh Ab7 (qI V_cN.out) (qI V_cM.out) rfl) (oP _ _ (fun _=>rmh Ab10 (qI V_cD.out) (qI V_cE.out) rfl) (oN))
  ·intro q hq r hr hqn hrn e;simp only [List.mem_cons,List.not_mem_nil,or_false] at hq hr;rcases hq with rfl|rfl<;>rcases hr with rfl|rfl<;>first|rfl|(exact Bool.noConfusion hqn)|(exact Bool.noConfusion hrn)|(exfalso;simp only at e;omega)
  ·exact oP _ _ (stw rfl (qI V_cM.out) (qgF V_cM.out) (fun _=>rfl)) (oP _ _ (stw rfl (qI V_cE.out) (qgF V_cE.out) (fun _=>rfl)) (oN))
  intro β wx6 E;replace FR:=hid (FR.out.flow E (oP _ _ (fun _=>(by show B0≤b7;omega)) (oP _ _ (fun _=>(by show B0≤b10;omega)) (oN))));replace AB2:=hid (At.flow E AB2.out (oP _ _ (fun _=>(by show b7≠B2;omega)) (oP _ _ (fun _=>(by show b10≠B2;omega)) (oN))));replace Ab7:=aoh E Ab7 mms;replace Ab10:=aoh E Ab10 (List.mem_cons_of_mem _ mms);clear Ab11;simp only [nP,zu];go_upto_region 8 with fail
  refine wE [(41,aT cM),(42,iT x1),(43,bF),(44,bF),(45,aT cE),(46,iT x2),(47,bF),(48,bF)] (by simp only [zu];rfl) (by kernel_rfl) ?_ ?_
  ·intro W' hW';refine lhI Ab7 hW' V_cM rfl<|fo3 ?_ ?_ ?_<|lhI Ab10 hW' V_cE rfl<|fxo (by go_big_quiet_step (exact qaA (HB2.out _ (.inr rfl) _));exact wqn rfl)<|fo2 ?_ ?_<|fxn;all_goals (go_big_quiet_step (exact qaA (HB1.out _ (.inr rfl) _));exact wqn rfl)
  intro β wx7 E;replace FR:=fnf FR E rfl;replace AB2:=fnh AB2 E rfl;replace Ab7:=fnh Ab7 E rfl;replace Ab10:=fnh Ab10 E rfl;simp only [nP,zu];clear n1 n2;go_upto_region 10 with fail
  refine wF [⟨false,0,4,3,B2,0,27,52,cR,0,cR,[]⟩] [(50,aT cM),(51,aT cE),(52,aT cR),(5,iT 0)] (by simp only [zu];rfl) (by kernel_rfl) ?_ ?_ (fP1 bnC) ?_ uno ?_ ?_
  ·intro W' hW';refine lhI Ab7 hW' V_cM rfl<|lhI Ab10 hW' V_cE rfl<|fxb (qfE V_cM.out V_cE.out V_cR.out) rfl<|fxs rfl<|fxo ?_<|fxn
   go_big_quiet_step (fail);exact wqn rfl
  ·intro W' hK';have rd0:=akh Ab7 hK' (by omega);have rd1:=akh Ab10 hK' (by omega);refine ldI rd0 V_cM rfl<|ldI rd1 V_cE rfl<|fxb (qfE V_cM.out V_cE.out V_cR.out) rfl<|fxs (by kernel_rfl)<|fxi ?_<|fxn
   first|(refine .inr ?_;go_big_quiet_step (fail);exact wqn rfl)|exact .inl (by kernel_rfl)
  ·exact fP1 (fun _=>rmh AB2 (qR V_cz.out) (qR V_cR.out) rfl)
  ·exact fP1 (sR V_cR (fun _=>rfl) rfl)
  intro β wx8 E;replace FR:=ffh FR E (by omega);replace AB2:=aoh E AB2 mms;simp only [nP,zu];go_wp2_with fail
  have hld:=rdR AB2 V_cR;refine bodyPost_ret (v:=.tuple #[.agg cR.toArray,.int .i64 0]) (by simp [results,Tryz.results99,asAddr,hld]) rfl ?_;exact ⟨rfl,qbL HB0 FR⟩
 | false =>
  have V_cN2:=hid (show cN=.bool n::lv 32 p by rw [V_cN.out,HNN.out.2.2.2.1,HNN.out.2.2.2.2.1,HNN.out.2.2.2.2.2.2.1 rfl]);simp only [Bool.false_eq_true,if_false] at HS2;refine wE [(34,aT cD),(35,iT 1),(36,bF)] (by simp only [zu];rfl) (by kernel_rfl) ?_ ?_
  ·intro W' hW';refine lhI Ab10 hW' V_cD rfl<|fo2 ?_ ?_<|fxn;all_goals (go_big_quiet_step (exact qaA (HS2.out _));exact wqn rfl)
  intro β wx5 E;replace FR:=fnf FR E rfl;replace AB2:=fnh AB2 E rfl;replace Ab7:=fnh Ab7 E rfl;replace Ab10:=fnh Ab10 E rfl;simp only [nP,zu];go_upto_region 8 with fail
  refine wE [(41,aT cN),(42,iT x1),(43,bF),(44,bF),(45,aT cD),(46,iT x2),(47,bF),(48,bF)] (by simp only [zu];rfl) (by kernel_rfl) ?_ ?_
  ·intro W' hW';refine lhI Ab7 hW' V_cN rfl<|fo3 ?_ ?_ ?_<|lhI Ab10 hW' V_cD rfl<|fxo (by go_big_quiet_step (exact qaA (HB2.out _ (.inl rfl) _));exact wqn rfl)<|fo2 ?_ ?_<|fxn;all_goals (go_big_quiet_step (exact qaA (HB1.out _ (.inl rfl) _));exact wqn rfl)
  intro β wx6 E;replace FR:=fnf FR E rfl;replace AB2:=fnh AB2 E rfl;replace Ab7:=fnh Ab7 E rfl;replace Ab10:=fnh Ab10 E rfl;simp only [nP,zu];clear n1 n2;go_upto_region 10 with fail
  clear V_cN;have V_cN:=V_cN2;refine wF [⟨false,0,4,3,B2,0,27,52,cR,0,cR,[]⟩] [(50,aT cN),(51,aT cD),(52,aT cR),(5,iT 0)] (by simp only [zu];rfl) (by kernel_rfl) ?_ ?_ (fP1 bnC) ?_ uno ?_ ?_
  ·intro W' hW';refine lhI Ab7 hW' V_cN rfl<|lhI Ab10 hW' V_cD rfl<|fxb (qfE V_cN.out V_cD.out V_cR.out) rfl<|fxs rfl<|fxo ?_<|fxn
   go_big_quiet_step (fail);exact wqn rfl
  ·intro W' hK';have rd0:=akh Ab7 hK' (by omega);have rd1:=akh Ab10 hK' (by omega);refine ldI rd0 V_cN rfl<|ldI rd1 V_cD rfl<|fxb (qfE V_cN.out V_cD.out V_cR.out) rfl<|fxs (by kernel_rfl)<|fxi ?_<|fxn
   first|(refine .inr ?_;go_big_quiet_step (fail);exact wqn rfl)|exact .inl (by kernel_rfl)
  ·exact fP1 (fun _=>rmh AB2 (qR V_cz.out) (qR V_cR.out) rfl)
  ·exact fP1 (sR V_cR (fun _=>rfl) rfl)
  intro β wx7 E;replace FR:=ffh FR E (by omega);replace AB2:=aoh E AB2 mms;simp only [nP,zu];go_wp2_with fail
  have hld:=rdR AB2 V_cR;refine bodyPost_ret (v:=.tuple #[.agg cR.toArray,.int .i64 0]) (by simp [results,Tryz.results99,asAddr,hld]) rfl ?_;exact ⟨rfl,qbL HB0 FR⟩
end Go.Proofs.YtemoddmadfoaiaaGreat
namespace Go.Proofs.YtemoddmadfoaiaaGreat
open Go.RowKit Big
end Go.Proofs.YtemoddmadfoaiaaGreat
