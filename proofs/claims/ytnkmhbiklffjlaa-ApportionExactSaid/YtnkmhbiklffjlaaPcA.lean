import Derived.Test.YtnkmhbiklffjlaaQuA
import Derived.ChangeKeysEq
import Derived.Test.YtnkmhbiklffjlaaBiE
set_option linter.unusedVariables false
set_option linter.unusedSimpArgs false
set_option maxRecDepth 100000
namespace Go.Proofs.Ytnkmhbiklffjlaa
open Go.RowKit Big
theorem Try.infoR:(Try.prog.info? 56).map (·.size)=some 66:=by kernel_rfl
def rat (n:Bool) (p:Nat) (m:Bool) (q:Nat):List Value:=(.bool n::lv 32 p)++(.bool m::lv 32 q)
def rV (n:Bool) (p:Nat) (m:Bool) (q:Nat):Value:=.agg (rat n p m q).toArray
theorem rat_len (n:Bool) (p:Nat) (m:Bool) (q:Nat):(rat n p m q).length=66:=by unfold rat;rw [List.length_append,List.length_cons,List.length_cons,qlL,qlL]
theorem rat_one (n:Bool) (p:Nat) (m:Bool) (q:Nat):∀ x∈rat n p m q,x.oneCell'=true:=fun x hx=>by
 rcases List.mem_append.1 hx with h|h
 ·exact int_one n p x h
 ·exact int_one m q x h
theorem qR {cs:List Value} {n:Bool} {p:Nat} {m:Bool} {q:Nat} (h:cs=rat n p m q):(Try.prog.info? 56).map (·.size)=some cs.length:=by rw [h,rat_len];exact Try.infoR
theorem oneR {cs:List Value} {n:Bool} {p:Nat} {m:Bool} {q:Nat} (h:cs=rat n p m q):cs.toArray.all (·.oneCell')=true:=by rw [h];exact all_oneCell_toArray (rat_one n p m q)
theorem valR {c:List Value} {n:Bool} {p:Nat} {m:Bool} {q:Nat} (h:c=rat n p m q):rV n p m q=.agg c.toArray:=by rw [h];rfl
theorem At.num {w:World} {b:Nat} {c d:List Value} {n:Bool} {p:Nat} {m:Bool} {q:Nat} (h:At w b 0 c) (hc:c=rat n p m q) (hd:d=.bool n::lv 32 p):At w b 0 d:=by
 subst hc hd;exact At.head h
theorem At.den {w:World} {b:Nat} {c d:List Value} {n:Bool} {p:Nat} {m:Bool} {q:Nat} (h:At w b 0 c) (hc:c=rat n p m q) (hd:d=.bool m::lv 32 q):At w b 33 d:=by
 subst hc hd;exact At.tail h (by simp [qlL])
theorem Try.alR {cs:List Value} (h:(Try.prog.info? 56).map (·.size)=some cs.length):∃ z,LaysAs Try.prog 56 z∧cs.length≤z.size:=by
 refine ⟨(rat false 0 false 0).toArray,?_,by rw [Try.infoR] at h;injection h with h;rw [←h,List.size_toArray,rat_len];exact Nat.le_refl _⟩
 unfold rat
 rw [lv33_zero]
 intro o ho b w
 unfold execOp
 simp only [ho]
 rfl
theorem fill_seg (off:Nat):∀ (v:List Value) (k:Nat) (cells:Array Value),off+k+v.length≤cells.size →
  ∀ i,((v.zipIdx k).foldl (fun (cs:Array Value) (x:Value × Nat)=>cs.setIfInBounds (off+x.2) x.1) cells)[i]?=if off+k≤i∧i<off+k+v.length then v[i - (off+k)]? else cells[i]?:=by
 intro v
 induction v with
 | nil=>intro k cells _ i;rw [if_neg (by simp only [List.length_nil];omega)];rfl
 | cons x v ih =>
  intro k cells h i
  simp only [List.zipIdx_cons,List.foldl_cons,List.length_cons] at h ⊢
  rw [ih (k+1) _ (by simp;omega)]
  by_cases h1:off+(k+1)≤i∧i<off+(k+1)+v.length
  ·rw [if_pos h1,if_pos (by omega),show i - (off+k)=(i - (off+(k+1)))+1 by omega,List.getElem?_cons_succ]
  ·rw [if_neg h1,Array.getElem?_setIfInBounds]
   by_cases h2:off+k=i
   ·subst h2
    rw [if_pos rfl,if_pos (by omega),if_pos (by omega),Nat.sub_self,List.getElem?_cons_zero]
   ·rw [if_neg h2,if_neg (by omega)]
theorem fill_toList (off:Nat) (v:Array Value) (cells:Array Value) (h:off+v.size≤cells.size) (i:Nat) :
  (v.zipIdx.foldl (fun (cs:Array Value) (x:Value × Nat)=>cs.setIfInBounds (off+x.2) x.1) cells)[i]?=if off≤i∧i<off+v.size then v[i - off]? else cells[i]?:=by
 have:=fill_seg off v.toList 0 cells (by simpa using h) i
 simp only [Nat.add_zero,Array.length_toList,Array.getElem?_toList] at this
 rw [←this,←Array.foldl_toList,Array.toList_zipIdx]
theorem built_as (parts:List (Nat × Value)):Try.prog.built 56 parts=Instr.fill (#[(0,33),(33,33)][·]?) (rat false 0 false 0).toArray parts:=by
 unfold rat;rw [lv33_zero];kernel_rfl
theorem fill_cons {place:Nat→Option (Nat × Nat)} {cells:Array Value} {i off size:Nat} {v:Value} {rest:List (Nat × Value)} (hp:place i=some (off,size)) (hs:v.cells.size=size) (h:off+v.cells.size≤cells.size) :
  Instr.fill place cells ((i,v)::rest)=Instr.fill place (v.cells.zipIdx.foldl (fun cs (c,j)=>cs.setIfInBounds (off+j) c) cells) rest:=by
 rw [Instr.fill,hp]
 simp [hs]
 omega
theorem built_ratio {c d:List Value} (hc:c.length=33) (hd:d.length=33):Try.prog.built 56 [(0,.agg c.toArray),(1,.agg d.toArray)]=some (c++d).toArray:=by
 rw [built_as]
 have hz:(rat false 0 false 0).toArray.size=66:=by rw [List.size_toArray,rat_len]
 generalize (rat false 0 false 0).toArray=Z at hz
 have h1:=fill_toList 0 c.toArray Z (by simp;omega)
 have e1:(#[(0,33),(33,33)]:Array (Nat × Nat))[0]?=some (0,33):=rfl
 have e2:(#[(0,33),(33,33)]:Array (Nat × Nat))[1]?=some (33,33):=rfl
 rw [fill_cons (off:=0) (size:=33) rfl (by simp [Value.cells,hc]) (by simp [Value.cells];omega)]
 simp only [Value.cells]
 have hs1:(Array.foldl (fun (cs:Array Value) (x:Value × Nat)=>cs.setIfInBounds (0+x.2) x.1) Z c.toArray.zipIdx).size=66:=by
  have:∀ (l:List (Value × Nat)) (Z:Array Value),(l.foldl (fun (cs:Array Value) (x:Value × Nat)=>cs.setIfInBounds (0+x.2) x.1) Z).size=Z.size:=by
   intro l;induction l with
   | nil=>intro Z;rfl
   | cons x l ih=>intro Z;rw [List.foldl_cons,ih];simp
  rw [←Array.foldl_toList,this,hz]
 have h2:=fill_toList 33 d.toArray _ (Nat.le_of_eq (show 33+d.toArray.size=_ by rw [hs1];simp [hd]))
 generalize Array.foldl (fun (cs:Array Value) (x:Value × Nat)=>cs.setIfInBounds (0+x.2) x.1) Z c.toArray.zipIdx=Y at h1 h2 hs1
 rw [fill_cons (off:=33) (size:=33) rfl (by simp [Value.cells,hd]) (by simp [Value.cells];omega)]
 simp only [Value.cells]
 unfold Instr.fill
 congr 1
 apply Array.ext_getElem?
 intro i
 rw [h2 i]
 by_cases hi:33≤i∧i<33+d.toArray.size
 ·rw [if_pos hi];simp [List.getElem?_append_right (show c.length≤i by omega),hc]
 ·rw [if_neg hi,h1 i]
  by_cases hj:0≤i∧i<0+c.toArray.size
  ·rw [if_pos hj];simp at hj;simp [List.getElem?_append_left (show i<c.length by omega)]
  ·rw [if_neg hj,Array.getElem?_eq_none (by simp at hi hj;omega),Array.getElem?_eq_none (by simp at hi hj ⊢;omega)]
theorem run_num {c d:List Value} (hc:c.length=33) (w:World):(Instr.field 56 (.agg (c++d).toArray) 0).run Try.prog w=.ok (.agg c.toArray) w:=by
 have hx:List.take 33 (c++d)=c:=by rw [←hc];exact List.take_left
 unfold Instr.field
 simp only [Sem.run_bind,run_underlying Try.underlying56,Result.andThen_ok]
 show (do let x ←asAgg (Value.agg (c++d).toArray);part 51 x 0:Sem Value).run Try.prog w=_
 obtain ⟨i,hi,hs⟩:∃ i,Try.prog.info? 51=some i∧i.size=33:=by
  have:=Try.infoI
  cases h:Try.prog.info? 51 with
  | none=>rw [h] at this;cases this
  | some i=>rw [h] at this;injection this with this;exact ⟨i,rfl,this⟩
 simp [asAgg,part,isAgg,Sem.run_bind,run_underlying Try.underlying51,run_sizeOf w hi,Program.cellsOf,hi,hs,hx]
theorem wpQuiet_num {ops:Array Oper} {C:World→Prop} {Q:Act→Prop} {a:Act} {op:Oper} {rest:List Oper} {x:Operand} {c d:List Value} (hgd:op.guard=none) (ho:op.op=.field 56 x 0) (hx:a.eval x=.agg (c++d).toArray) (hc:c.length=33)
  (h:wpQuiet Try.prog ops C Q rest (a.put op.dst (.agg c.toArray))):wpQuiet Try.prog ops C Q (op::rest) a:=by
 refine wpQuiet_step (fun K hK=>?_)
 rw [if_pos (by simp [Region.wanted,hgd])]
 refine ⟨.agg c.toArray,fun W hW=>?_,hK _ h⟩
 unfold Oper.quietAt execOp
 simp [ho,hx,run_num hc W,Oper.quietUpon]
theorem eq_items (d:Nat) (xs ys:List Value) (us vs:List Nat) (hx:xs=us.map fun (x:Nat)=>Value.int .u32 x) (hy:ys=vs.map fun (x:Nat)=>Value.int .u32 x) (w:World):∀ is:List Nat,(∀ i∈is,i<us.length∧i<vs.length) →
  (Op.eqItems (d+1) 48 (Try.prog.cellsOf 48) xs.toArray ys.toArray is).run Try.prog w=.ok (is.all fun i=>us[i]?==vs[i]?) w:=by
 have hco:Try.prog.cellsOf 48=1:=by kernel_rfl
 have hpl:Try.prog.plainKey 48=true:=by kernel_rfl
 intro is
 induction is with
 | nil=>intro _;simp [Op.eqItems]
 | cons i is ih =>
  intro h
  obtain ⟨h1,h2⟩:=h i mms
  have g1:us[i]?=some us[i]:=List.getElem?_eq_getElem h1
  have g2:vs[i]?=some vs[i]:=List.getElem?_eq_getElem h2
  have p1:=run_part_plain (P:=Try.prog) w hpl (xs:=xs.toArray) (off:=i) (v:=.int .u32 (us[i]:Nat)) (by simp [hx,g1])
  have p2:=run_part_plain (P:=Try.prog) w hpl (xs:=ys.toArray) (off:=i) (v:=.int .u32 (vs[i]:Nat)) (by simp [hy,g2])
  simp only [Op.eqItems,hco,Nat.mul_one,Sem.run_bind,p1,p2,Result.andThen_ok,run_equalIn_int w d 48 .u32 .u32 _ _ Try.underlying48]
  have ih':=ih fun j hj=>h j (List.mem_cons_of_mem _ hj)
  rw [hco] at ih'
  rw [List.all_cons,g1,g2]
  by_cases e:us[i]=vs[i]
  ·simp [e,ih']
  ·have e1:((us[i]:Nat):Int)≠(vs[i]:Nat):=by omega
   simp [e,e1]
theorem eq_mag (d a b:Nat) (ha:a<BB^32) (hb:b<BB^32) (w:World):(Op.equalIn (d+2) 49 (.agg (lv 32 a).toArray) (.agg (lv 32 b).toArray)).run Try.prog w=.ok (decide (a=b)) w:=by
 obtain ⟨i,hi⟩:∃ i,Try.prog.info? 48=some i:=info_of_underlying Try.underlying48
 rw [run_equalIn_array w (d+1) _ _ Try.underlying49 hi]
 rw [eq_items d (lv 32 a) (lv 32 b) (dg 32 a) (dg 32 b) rfl rfl w (List.range 32) (fun i hi=>by rw [dg_len,dg_len];have:=List.mem_range.1 hi;omega)]
 have key:((List.range 32).all fun i=>(dg 32 a)[i]?==(dg 32 b)[i]?)=decide (a=b):=by
  by_cases h:a=b
  ·subst h;simp
  ·rw [decide_eq_false h]
   cases hc:(List.range 32).all fun i=>(dg 32 a)[i]?==(dg 32 b)[i]? with
   | false=>rfl
   | true =>
    refine absurd (eq_of_lim ha hb fun k hk=>?_) h
    have:=List.all_eq_true.1 hc k (List.mem_range.2 hk)
    rw [dg_get a hk,dg_get b hk] at this
    simpa using this
 rw [key]
theorem eq_at (D:Nat) (n m:Bool) (a b:Nat) (ha:a<BB^32) (hb:b<BB^32) (w:World):(Op.equalIn (D+3) 51 (iV n a) (iV m b)).run Try.prog w=.ok (decide (n=m∧a=b)) w:=by
 unfold iV
 have hpl:Try.prog.plainKey 4=true:=by kernel_rfl
 have p1:=run_part_plain (P:=Try.prog) w hpl (xs:=(Value.bool n::lv 32 a).toArray) (off:=0) (v:=.bool n) (by simp)
 have p2:=run_part_plain (P:=Try.prog) w hpl (xs:=(Value.bool m::lv 32 b).toArray) (off:=0) (v:=.bool m) (by simp)
 obtain ⟨i,hi,hs⟩:∃ i,Try.prog.info? 49=some i∧i.size=32:=by
  have:=Try.infoM
  cases h:Try.prog.info? 49 with
  | none=>rw [h] at this;cases this
  | some i=>rw [h] at this;injection this with this;exact ⟨i,rfl,this⟩
 have q:∀ (x:Value) (v:Nat),(part 49 (x::lv 32 v).toArray 1).run Try.prog w=.ok (.agg (lv 32 v).toArray) w:=fun x v=>by
  have hx:List.take 32 (lv 32 v)=lv 32 v:=by rw [List.take_of_length_le];rw [qlL];exact Nat.le_refl _
  simp [part,isAgg,Sem.run_bind,run_underlying Try.underlying49,run_sizeOf w hi,Program.cellsOf,hi,hs,hx]
 have hu:Try.prog.underlying 51=some (.struct (Try.prog.fieldsOf 51)):=by rw [Program.fieldsOf,Try.underlying51]
 have hst:Try.prog.stoodInHeld 51=false:=by kernel_rfl
 rw [run_equalIn_struct w (D+2) 51 _ _ hu hst]
 have hf : (Try.prog.fieldsOf 51).toList = [{ name := "Neg", type := 4, offset := 0, embedded := false, tag := "", pkgPath := "", byteOffset := 0 }, { name := "Mag", type := 49, offset := 1, embedded := false, tag := "", pkgPath := "", byteOffset := 4 }] := by rw [Program.fieldsOf, Try.underlying51]
 rw [hf]
 have em:=eq_mag D a b ha hb w
 have eb:=run_equalIn_bool' (P:=Try.prog) w (D+1) 4 n m Try.underlying4
 have n1 : ("Neg" : String) ≠ "_" := by simp
 have n2 : ("Mag" : String) ≠ "_" := by simp
 unfold Op.eqFields
 rw [if_pos n1]
 simp only [Sem.run_bind,p1,p2,eb,Result.andThen_ok]
 cases hnm:(n==m) with
 | false =>
  have hn:n≠m:=by simpa using hnm
  simp only [Bool.not_false,if_true,Sem.run_pure,hn,false_and,decide_false]
 | true =>
  have hn:n=m:=by simpa using hnm
  simp only [Bool.not_true,Bool.false_eq_true,if_false]
  unfold Op.eqFields
  rw [if_pos n2]
  rw [Sem.run_bind,q,Result.andThen_ok,Sem.run_bind,q,Result.andThen_ok,Sem.run_bind]
  dsimp only
  rw [em,Result.andThen_ok]
  cases hab:decide (a=b) with
  | false =>
   have h:a≠b:=of_decide_eq_false hab
   simp only [Bool.not_false,if_true,Sem.run_pure,h,and_false,decide_false]
  | true =>
   have h:a=b:=of_decide_eq_true hab
   simp only [Bool.not_true,Bool.false_eq_true,if_false]
   unfold Op.eqFields
   simp only [Sem.run_pure,h,hn,and_self,decide_true]
theorem eq_int (n m:Bool) (a b:Nat) (ha:a<BB^32) (hb:b<BB^32) (w:World):(binOp .eql 51 (iV n a) (iV m b)).run Try.prog w=.ok (.bool (decide (n=m∧a=b))) w:=by
 have h:=eq_at 9997 n m a b ha hb w
 unfold iV at h ⊢
 rw [run_eql_struct]
 simp only [Nat.reduceAdd] at h
 rw [h];rfl
theorem wpQuiet_eqI {ops:Array Oper} {C:World→Prop} {Q:Act→Prop} {a:Act} {op:Oper} {rest:List Oper} {x y:Operand} {t:TypeId} {c d:List Value} {n m r:Bool} {u v:Nat} (hgd:Region.wanted op (yielded ops a.tmps)=true) (ho:op.op=.binOp .eql 51 x y t) (hx:a.eval x=.agg c.toArray) (hy:a.eval y=.agg d.toArray)
  (hc:c=.bool n::lv 32 u) (hd:d=.bool m::lv 32 v) (hu:u<BB^32) (hv:v<BB^32) (hr:r=decide (n=m∧u=v))
  (h:wpQuiet Try.prog ops C Q rest (a.put op.dst (.bool r))):wpQuiet Try.prog ops C Q (op::rest) a:=by
 refine wpQuiet_step (fun K hK=>?_)
 rw [if_pos hgd]
 refine ⟨.bool r,fun W hW=>?_,hK _ h⟩
 have he:=eq_int n m u v hu hv W
 unfold iV at he
 rw [←hc,←hd,←hr] at he
 have hg:=run_eqGuard_agg (P:=Try.prog) W .eql 51 x y c.toArray d.toArray (by kernel_rfl)
 unfold Oper.quietAt execOp
 simp [ho,hx,hy,hg,he,Oper.quietUpon]
theorem built_r {c d r:List Value} {n m:Bool} {p q:Nat} (hc:c=.bool n::lv 32 p) (hd:d=.bool m::lv 32 q) (hr:r=rat n p m q):Try.prog.built 56 [(0,.agg c.toArray),(1,.agg d.toArray)]=some r.toArray:=by
 rw [hr,built_ratio (by rw [hc,List.length_cons,qlL]) (by rw [hd,List.length_cons,qlL]),hc,hd];rfl
theorem wpQuiet_numR {ops:Array Oper} {C:World→Prop} {Q:Act→Prop} {a:Act} {op:Oper} {rest:List Oper} {x:Operand} {r c:List Value} {n m:Bool} {p q:Nat} (hgd:op.guard=none) (ho:op.op=.field 56 x 0) (hx:a.eval x=.agg r.toArray) (hr:r=rat n p m q) (hc:c=.bool n::lv 32 p)
  (h:wpQuiet Try.prog ops C Q rest (a.put op.dst (.agg c.toArray))):wpQuiet Try.prog ops C Q (op::rest) a:=by
 subst hr hc
 exact wpQuiet_num hgd ho hx (by rw [List.length_cons,qlL]) h
theorem Try.zeroR:Try.zeroCells56=(rat false 0 false 0).toArray:=by unfold rat;rw [lv33_zero];rfl
end Go.Proofs.Ytnkmhbiklffjlaa
set_option maxHeartbeats 4000000
namespace Go.Proofs.Ytnkmhbiklffjlaa
open Go.RowKit Big
open Lib (hid)
def zI (n:Bool) (v:Nat):Int:=if n=true then -(v:Int) else (v:Int)
theorem from_op {c:List Value} {z:Int} {n:Bool} {v:Nat} (h:c=.bool n::lv 32 v) (hn:n=decide (z<0)) (hv:v=z.natAbs) (h1:-9223372036854775808≤z) (h2:z≤9223372036854775807) (W:World) :
  Calls Try.prog 33 #[.int .i64 z] W fun e w'=>e=.returned (.agg c.toArray)∧Below W.heap.size W w':=by
 subst h hn hv;exact from_is z W h1 h2
def cmpZ (x y:Int):Int:=if x<y then -1 else if y<x then 1 else 0
theorem sgn_three (n:Bool) (v:Nat):sgnI n v=-1∨sgnI n v=0∨sgnI n v=1:=by
 unfold sgnI
 (repeat' split)<;>simp
theorem cmp_three (a b:Nat):cmpI a b=-1∨cmpI a b=0∨cmpI a b=1:=by
 unfold cmpI
 (repeat' split)<;>simp
theorem cmp_signs (na nb:Bool) (a b:Nat):(sgnI na a<sgnI nb b→cmpZ (zI na a) (zI nb b)=-1)∧(sgnI nb b<sgnI na a→cmpZ (zI na a) (zI nb b)=1)∧(sgnI na a=sgnI nb b→cmpZ (zI na a) (zI nb b)=sgnI na a*cmpI a b):=by
 unfold cmpZ zI sgnI cmpI
 cases na<;>cases nb<;>simp only [Bool.false_eq_true,if_false,if_true]<;>(refine ⟨fun h=>?_,fun h=>?_,fun h=>?_⟩)<;>(repeat' split at h)<;>(repeat' split)<;>omega
theorem sign_op {c:List Value} {n:Bool} {v:Nat} {s:Int} (h:c=.bool n::lv 32 v) (hs:s=sgnI n v) (hv:v<BB^32) (W:World) :
  Calls Try.prog 39 #[.agg c.toArray] W fun e w'=>e=.returned (.int .i64 s)∧Below W.heap.size W w':=by
 subst h hs;exact sign_is n v W hv
theorem compare_op {c d:List Value} {a b:Nat} {x:Int} (hc:c=lv 32 a) (hd:d=lv 32 b) (hx:x=cmpI a b) (ha:a<BB^32) (hb:b<BB^32) (W:World) :
  Calls Try.prog 68 #[.agg c.toArray,.agg d.toArray] W fun e w'=>e=.returned (.int .i64 x)∧Below W.heap.size W w':=by
 subst hc hd hx;exact compare_is a b W ha hb
theorem whole_is (z:Int) (n:Bool) (v:Nat) (w:World) (hn:n=decide (z<0)) (hv:v=z.natAbs) (h1:-9223372036854775808≤z) (h2:z≤9223372036854775807) :
  Calls Try.prog 74 #[.int .i64 z] w fun e w'=>e=.returned (rV n v false 1)∧Below w.heap.size w w':=by
 obtain ⟨cn,V_cn⟩:∃ c:List Value,Hid (c=.bool n::lv 32 v):=⟨_,hid rfl⟩
 obtain ⟨co,V_co⟩:∃ c:List Value,Hid (c=.bool false::lv 32 1):=⟨_,hid rfl⟩
 obtain ⟨cr,V_cr⟩:∃ c:List Value,Hid (c=rat n v false 1):=⟨_,hid rfl⟩
 obtain ⟨cz,V_cz⟩:∃ c:List Value,Hid (c=rat false 0 false 0):=⟨_,hid rfl⟩
 rw [valR V_cr.out]
 have H1:=hid (from_op V_cn.out hn hv h1 h2)
 have H2:=hid (from_op (z:=1) V_co.out rfl rfl (by decide) (by decide))
 clear hn hv h1 h2
 obtain ⟨B0,hB0⟩:∃ B,B=w.heap.size:=⟨_,rfl⟩
 obtain ⟨w0,hw0⟩:∃ w0,w0=(w.alloc (.cells Try.zeroCells56 56)):=⟨_,rfl⟩
 have AB0:=hid (show At w0 B0 0 cz by rw [hw0];exact (show At (w.alloc (.cells Try.zeroCells56 56)) B0 0 cz from (by rw [Try.zeroR,V_cz.out];exact At.fresh _ (rat false 0 false 0) _ (by simp [hB0]))))
 have FR:=hid (show Fr B0 w w0 by rw [hw0,hB0];exact (Fr.start w).alloc _)
 have FR0:=hid FR.out.le
 have hZB0:B0≤B0:=Nat.le_refl _
 have HB0:=hid hB0
 go_enter Try.func74,Try.ntmps74
 go_upto_region 1 with fail
 rw [←hw0,←hB0]
 clear hw0 hB0
 refine qwf [⟨false,0,2,4,B0,0,56,6,cr,0,cr,[]⟩] [(3,.int .i64 z),(4,.agg cn.toArray),(5,.agg co.toArray),(6,.agg cr.toArray)] _ (by simp only [zz4,zz5,zq];rfl) (by kernel_rfl) (by kernel_rfl) ?_ ?_ ?_ ?_ ?_ ?_ ?_
 ·intro W' hW'
  refine fxo ?_ ?_;(go_big_quiet_step (fail);(try simp only [zq]);exact wqn rfl)
  refine fxo ?_ ?_;(go_big_quiet_step ((go_at_call 33;exact Calls.below_of (H1.out _)));(try simp only [zq]);exact wqn rfl)
  refine fxo ?_ ?_;(go_big_quiet_step ((go_at_call 33;exact Calls.below_of (H2.out _)));(try simp only [zq]);exact wqn rfl)
  refine fxo (wqB rfl _ _ rfl _ rfl _ (built_r V_cn.out V_co.out V_cr.out) (wqn (by simp only [zq]))) ?_
  refine fxs (by rfl) ?_
  exact fxn
 ·intro W' hK'
  first|(refine fxo ?_ ?_;(go_big_quiet_step (fail);(try simp only [zq]);exact wqn rfl))|(refine fxs (by kernel_rfl) ?_)
  iterate 2 (refine fxs (by kernel_rfl) ?_)
  refine fxo (wqB rfl _ _ rfl _ rfl _ (built_r V_cn.out V_co.out V_cr.out) (wqn (by simp only [zq]))) ?_
  refine fxs (by kernel_rfl) ?_
  exact fxn
 ·exact oP _ _ (fun h=>Bool.noConfusion h) (oN)
 ·exact oP _ _ (fun _=>⟨AB0.out.lt,rfl,At.room AB0.out (qR V_cz.out) (qR V_cr.out)⟩) (oN)
 ·exact uno
 ·exact oP _ _ (stw rfl (qR V_cr.out) (oneR V_cr.out) (fun _=>rfl)) (oN)
 intro β wx1 E
 replace FR:=hid (FR.out.flow E (oP _ _ (fun _=>(by show B0≤B0;omega)) (oN)))
 replace AB0:=hid (show At wx1 B0 0 cr from E.atOld mms rfl AB0.out.lt)
 simp only [nP,zr,zq]
 replace FR0:=hid FR.out.le
 clear E
 go_wp2_with fail
 have hld:=AB0.out.read (P:=Try.prog) Try.underlying56 rfl (qR V_cr.out)
 refine bodyPost_ret (v:=.agg cr.toArray) (by simp [results,Try.results74,asAddr,hld]) rfl ?_
 exact ⟨rfl,by rw [HB0.out] at FR;exact FR.out.below⟩
end Go.Proofs.Ytnkmhbiklffjlaa
set_option maxHeartbeats 8000000
namespace Go.Proofs.Ytnkmhbiklffjlaa
open Go.RowKit Big
open Lib (hid)
theorem add_same (na nb:Bool) (a b:Nat) (h:cs1 na a=cs1 nb b):decide (zI na a+zI nb b<0)=cs1 (cs1 na a) (a+b)∧(zI na a+zI nb b).natAbs=a+b:=by
 have h1:na=true→a≠0→cs1 na a=true:=fun h1 h2=>by simp [cs1,h1,h2]
 unfold zI
 by_cases ha:a=0<;>by_cases hb:b=0<;>cases na<;>cases nb<;>simp [cs1,ha,hb] at h ⊢<;>omega
theorem add_less (na nb:Bool) (a b:Nat) (h:cs1 na a≠cs1 nb b) (hl:a<b):decide (zI na a+zI nb b<0)=cs1 (cs1 nb b) (b - a)∧(zI na a+zI nb b).natAbs=b - a:=by
 unfold zI
 have hb:b - a≠0:=by omega
 by_cases ha:a=0<;>by_cases hb2:b=0<;>cases na<;>cases nb<;>simp [cs1,ha,hb,hb2] at h hb ⊢<;>omega
theorem add_more (na nb:Bool) (a b:Nat) (h:cs1 na a≠cs1 nb b) (hl:¬a<b):decide (zI na a+zI nb b<0)=cs1 (cs1 na a) (a - b)∧(zI na a+zI nb b).natAbs=a - b:=by
 unfold zI
 by_cases ha:a=0
 ·have hb0:b=0:=by omega
  exact absurd (by simp [cs1,ha,hb0]) h
 ·have e1:cs1 na a=na:=by simp [cs1,ha]
  rw [e1] at h ⊢
  by_cases hb2:b=0
  ·subst hb2
   cases na<;>cases nb<;>simp [cs1,ha] at h ⊢<;>omega
  ·have e2:cs1 nb b=nb:=by simp [cs1,hb2]
   rw [e2] at h
   by_cases hab:a=b
   ·subst hab
    cases na<;>cases nb<;>simp [cs1] at h ⊢<;>omega
   ·have h3:a - b≠0:=by omega
    have e3:cs1 na (a - b)=na:=by simp only [cs1,h3,decide_false,Bool.not_false,Bool.and_true]
    rw [e3]
    cases na<;>cases nb<;>simp at h ⊢<;>omega
theorem sum_op {c d r:List Value} {a b:Nat} (hc:c=lv 32 a) (hd:d=lv 32 b) (hr:r=lv 32 (a+b)) (ha:a<BB^32) (hb:b<BB^32) (hs:a+b<BB^32) (W:World) :
  Calls Try.prog 55 #[.agg c.toArray,.agg d.toArray] W fun e w'=>e=.returned (.tuple #[.agg r.toArray,.bool true])∧Below W.heap.size W w':=by
 subst hc hd hr;exact sum_is a b (a+b) 0 W ha hb hs (by omega)
theorem diff_op {c d r:List Value} {a b:Nat} (hc:c=lv 32 a) (hd:d=lv 32 b) (hr:r=lv 32 (a - b)) (ha:a<BB^32) (hb:b<BB^32) (hle:b≤a) (W:World) :
  Calls Try.prog 54 #[.agg c.toArray,.agg d.toArray] W fun e w'=>e=.returned (.agg r.toArray)∧Below W.heap.size W w':=by
 subst hc hd hr;exact difference_is a b (a - b) W ha hb (by omega) ⟨0,by omega⟩
theorem add_is (na nb n:Bool) (a b v:Nat) (w:World) (ha:a<BB^32) (hb:b<BB^32) (hv:v<BB^32) (hn:n=decide (zI na a+zI nb b<0)) (hve:v=(zI na a+zI nb b).natAbs) :
  Calls Try.prog 61 #[iV na a,iV nb b] w fun e w'=>e=.returned (.tuple #[iV n v,.int .i64 0])∧Below w.heap.size w w':=by
 obtain ⟨sa,hsa⟩:∃ s,s=cs1 na a:=⟨_,rfl⟩
 obtain ⟨sb,hsb⟩:∃ s,s=cs1 nb b:=⟨_,rfl⟩
 obtain ⟨ca,V_ca⟩:∃ c:List Value,Hid (c=.bool na::lv 32 a):=⟨_,hid rfl⟩
 obtain ⟨cb,V_cb⟩:∃ c:List Value,Hid (c=.bool nb::lv 32 b):=⟨_,hid rfl⟩
 obtain ⟨ma,V_ma⟩:∃ c:List Value,Hid (c=lv 32 a):=⟨_,hid rfl⟩
 obtain ⟨mb,V_mb⟩:∃ c:List Value,Hid (c=lv 32 b):=⟨_,hid rfl⟩
 obtain ⟨cA,V_cA⟩:∃ c:List Value,Hid (c=.bool sa::lv 32 a):=⟨_,hid rfl⟩
 obtain ⟨cB,V_cB⟩:∃ c:List Value,Hid (c=.bool sb::lv 32 b):=⟨_,hid rfl⟩
 obtain ⟨cr,V_cr⟩:∃ c:List Value,Hid (c=.bool n::lv 32 v):=⟨_,hid rfl⟩
 obtain ⟨cz,V_cz⟩:∃ c:List Value,Hid (c=.bool false::lv 32 0):=⟨_,hid rfl⟩
 rw [valI V_ca.out,valI V_cb.out,valI V_cr.out]
 have HA:=hid (canon_op V_ma.out V_cA.out hsa ha)
 have HB:=hid (canon_op V_mb.out V_cB.out hsb hb)
 have HP:=hid (And.intro hsa (And.intro hsb (And.intro hn hve)))
 have HL:=hid (And.intro ha (And.intro hb hv))
 clear ha hb hv hn hve hsa hsb
 obtain ⟨B0,hB0⟩:∃ B,B=w.heap.size:=⟨_,rfl⟩
 obtain ⟨B1,hB1⟩:∃ B,B=w.heap.size+1:=⟨_,rfl⟩
 obtain ⟨B2,hB2⟩:∃ B,B=w.heap.size+1+1:=⟨_,rfl⟩
 obtain ⟨w0,hw0⟩:∃ w0,w0=(((w.alloc (.cells ca.toArray 51)).alloc (.cells cb.toArray 51)).alloc (.cells zero33 51)):=⟨_,rfl⟩
 have AB0:=hid (show At w0 B0 0 ca by rw [hw0];exact (((show At (w.alloc (.cells ca.toArray 51)) B0 0 ca from At.fresh _ ca _ (by simp [hB0])).alloc _).alloc _))
 have AB1:=hid (show At w0 B1 0 cb by rw [hw0];exact ((show At ((w.alloc (.cells ca.toArray 51)).alloc (.cells cb.toArray 51)) B1 0 cb from At.fresh _ cb _ (by simp [hB1])).alloc _))
 have AB2:=hid (show At w0 B2 0 cz by rw [hw0];exact (show At (((w.alloc (.cells ca.toArray 51)).alloc (.cells cb.toArray 51)).alloc (.cells zero33 51)) B2 0 cz from (by rw [V_cz.out];exact At.zero _ _ (by simp [hB2]))))
 have FR:=hid (show Fr B0 w w0 by rw [hw0,hB0];exact (((Fr.start w).alloc _).alloc _).alloc _)
 have FR0:=hid FR.out.le
 have l01:B0<B1:=by omega
 have hZB1:B0≤B1:=by omega
 have l12:B1<B2:=by omega
 have hZB2:B0≤B2:=by omega
 have hZB0:B0≤B0:=Nat.le_refl _
 unfold zero33 at hw0
 have HB0:=hid hB0
 go_enter Try.func61,Try.ntmps61
 go_upto_region 1 with fail
 rw [←hw0,←hB2,←hB1,←hB0]
 clear hw0 hB0 hB1 hB2
 have AB0_1:=hid (AB0.out.mag V_ca.out V_ma.out)
 have AB1_1:=hid (AB1.out.mag V_cb.out V_mb.out)
 refine qwf [⟨false,0,2,10,B0,0,51,12,cA,0,cA,[]⟩,⟨false,0,3,11,B1,0,51,17,cB,0,cB,[]⟩] [(8,.pointer (some ⟨B0,0,none⟩)),(9,.bool na),(10,.pointer (some ⟨B0,1,none⟩)),(11,.agg ma.toArray),(12,.agg cA.toArray),(13,.pointer (some ⟨B1,0,none⟩)),(14,.bool nb),(15,.pointer (some ⟨B1,1,none⟩)),(16,.agg mb.toArray),(17,.agg cB.toArray)] _ (by simp only [zz4,zz5,zq];rfl) (by kernel_rfl) (by kernel_rfl) ?_ ?_ ?_ ?_ ?_ ?_ ?_
 ·intro W' hW'
  have cl0:=fun p os=>cell_gw ((AB0.out.below hW').neg V_ca.out) p os
  have cl1:=fun p os=>cell_gw ((AB1.out.below hW').neg V_cb.out) p os
  have rd0:=AB0_1.out.below hW'
  have rd1:=AB1_1.out.below hW'
  iterate 3 (refine fxo ?_ ?_;(go_big_quiet_step (fail);(try simp only [zq]);exact wqn rfl))
  refine fxo (wlg (by rfl) rfl rfl rd0 Try.underlying49 rfl (sizeM V_ma.out) (wqn (by simp only [zq]))) ?_
  refine fxo ?_ ?_;(go_big_quiet_step ((go_at_call 47;exact Calls.below_of (HA.out _)));(try simp only [zq]);exact wqn rfl)
  iterate 3 (refine fxo ?_ ?_;(go_big_quiet_step (fail);(try simp only [zq]);exact wqn rfl))
  refine fxo (wlg (by rfl) rfl rfl rd1 Try.underlying49 rfl (sizeM V_mb.out) (wqn (by simp only [zq]))) ?_
  refine fxo ?_ ?_;(go_big_quiet_step ((go_at_call 47;exact Calls.below_of (HB.out _)));(try simp only [zq]);exact wqn rfl)
  iterate 2 (refine fxs (by rfl) ?_)
  exact fxn
 ·intro W' hK'
  iterate 3 (first|(refine fxo ?_ ?_;(go_big_quiet_step (fail);(try simp only [zq]);exact wqn rfl))|(refine fxs (by kernel_rfl) ?_))
  iterate 2 (refine fxs (by kernel_rfl) ?_)
  iterate 3 (first|(refine fxo ?_ ?_;(go_big_quiet_step (fail);(try simp only [zq]);exact wqn rfl))|(refine fxs (by kernel_rfl) ?_))
  iterate 4 (refine fxs (by kernel_rfl) ?_)
  exact fxn
 ·exact oP _ _ (fun h=>Bool.noConfusion h) (oP _ _ (fun h=>Bool.noConfusion h) (oN))
 ·exact oP _ _ (fun _=>⟨AB0.out.lt,rfl,At.room AB0.out (qI V_ca.out) (qI V_cA.out)⟩) (oP _ _ (fun _=>⟨AB1.out.lt,rfl,At.room AB1.out (qI V_cb.out) (qI V_cB.out)⟩) (oN))
 ·intro q hq r hr hqn hrn e
  simp only [List.mem_cons,List.not_mem_nil,or_false] at hq hr
  rcases hq with rfl|rfl<;>rcases hr with rfl|rfl<;>first|rfl|(exact Bool.noConfusion hqn)|(exact Bool.noConfusion hrn)|(exfalso;simp only at e;omega)
 ·exact oP _ _ (stw rfl (qI V_cA.out) (oneI V_cA.out) (fun _=>rfl)) (oP _ _ (stw rfl (qI V_cB.out) (oneI V_cB.out) (fun _=>rfl)) (oN))
 intro β wx1 E
 replace FR:=hid (FR.out.flow E (oP _ _ (fun _=>(by show B0≤B0;omega)) (oP _ _ (fun _=>(by show B0≤B1;omega)) (oN))))
 replace AB0:=hid (show At wx1 B0 0 cA from E.atOld mms rfl AB0.out.lt)
 replace AB1:=hid (show At wx1 B1 0 cB from E.atOld (List.mem_cons_of_mem _ mms) rfl AB1.out.lt)
 replace AB2:=hid (At.flow E AB2.out (oP _ _ (fun _=>(by show B0≠B2;omega)) (oP _ _ (fun _=>(by show B1≠B2;omega)) (oN))))
 clear AB0_1
 clear AB1_1
 simp only [nP,zr,zq]
 replace FR0:=hid FR.out.le
 clear E
 have AB0_1:=hid (AB0.out.mag V_cA.out V_ma.out)
 have AB1_1:=hid (AB1.out.mag V_cB.out V_mb.out)
 go_upto_region 2 with fail
 by_cases hs:sa=sb
 ·have HS:=hid hs
  have he:(sa==sb)=true:=by simp [hs]
  have hsum:v=a+b∧n=cs1 sa (a+b):=by
   have:=add_same na nb a b (by rw [←HP.out.1,←HP.out.2.1];exact hs)
   exact ⟨by rw [HP.out.2.2.2,this.2],by rw [HP.out.2.2.1,this.1,HP.out.1]⟩
  obtain ⟨ms,V_ms⟩:∃ c:List Value,Hid (c=lv 32 (a+b)):=⟨_,hid rfl⟩
  have HSM:=hid (sum_op V_ma.out V_mb.out V_ms.out HL.out.1 HL.out.2.1 (by rw [←hsum.1];exact HL.out.2.2))
  have HC:=hid (canon_op (neg:=sa) V_ms.out (show cr=.bool n::lv 32 (a+b) by rw [←hsum.1];exact V_cr.out) hsum.2 (by rw [←hsum.1];exact HL.out.2.2))
  clear hsum hs
  refine wfn [] [(18,.pointer (some ⟨B0,0,none⟩)),(19,.bool sa),(20,.pointer (some ⟨B1,0,none⟩)),(21,.bool sb),(22,.bool true)] _ (by simp only [zz4,zz5,zq];rfl) (by kernel_rfl) (by kernel_rfl) rfl ?_ ?_ ?_ ?_
  ·intro W' hW'
   have cl0:=fun p os=>cell_gw ((AB0.out.below hW').neg V_cA.out) p os
   have cl1:=fun p os=>cell_gw ((AB1.out.below hW').neg V_cB.out) p os
   iterate 5 (refine fxo ?_ ?_;(go_big_quiet_step (fail);(try simp only [zq]);exact wqn rfl))
   exact fxn
  ·exact oN
  ·exact oN
  intro β wx2 E
  replace FR:=hid (FR.out.fnw E rfl)
  replace AB0:=hid (AB0.out.fnw E rfl)
  replace AB1:=hid (AB1.out.fnw E rfl)
  replace AB2:=hid (AB2.out.fnw E rfl)
  replace AB0_1:=hid (AB0_1.out.fnw E rfl)
  replace AB1_1:=hid (AB1_1.out.fnw E rfl)
  have hE:=E.below rfl
  simp only [nP,zr,zq]
  replace FR0:=hid FR.out.le
  clear E
  clear he
  go_upto_region 3 with fail
  refine wfn [⟨true,8,6,9,0,0,49,29,ms,0,ms,[]⟩] [(24,.pointer (some ⟨B0,1,none⟩)),(25,.agg ma.toArray),(26,.pointer (some ⟨B1,1,none⟩)),(27,.agg mb.toArray),(28,.tuple #[.agg ms.toArray,.bool true]),(23,.tuple #[.agg ms.toArray,.bool true]),(29,.agg ms.toArray),(30,.bool true),(7,.bool true)] _ (by simp only [zz4,zz5,zq];rfl) (by kernel_rfl) (by kernel_rfl) rfl ?_ ?_ ?_ ?_
  ·intro W' hW'
   have rd0:=AB0_1.out.below hW'
   have rd1:=AB1_1.out.below hW'
   refine fxo ?_ ?_;(go_big_quiet_step (fail);(try simp only [zq]);exact wqn rfl)
   refine fxo (wlg (by rfl) rfl rfl rd0 Try.underlying49 rfl (sizeM V_ma.out) (wqn (by simp only [zq]))) ?_
   refine fxo ?_ ?_;(go_big_quiet_step (fail);(try simp only [zq]);exact wqn rfl)
   refine fxo (wlg (by rfl) rfl rfl rd1 Try.underlying49 rfl (sizeM V_mb.out) (wqn (by simp only [zq]))) ?_
   refine fxo ?_ ?_;(go_big_quiet_step ((go_at_call 55;exact Calls.below_of (HSM.out _)));(try simp only [zq]);exact wqn rfl)
   iterate 3 (refine fxo ?_ ?_;(go_big_quiet_step (fail);(try simp only [zq]);exact wqn rfl))
   iterate 2 (refine fxs (by rfl) ?_)
   refine fxo ?_ ?_;(go_big_quiet_step (fail);(try simp only [zq]);exact wqn rfl)
   exact fxn
  ·exact oP _ _ (Try.alM (sizeM V_ms.out)) (oN)
  ·exact oP _ _ (stw rfl (sizeM V_ms.out) (oneM V_ms.out) (fun _=>rfl)) (oN)
  intro β wx3 E
  replace FR:=hid (FR.out.fnw E rfl)
  obtain ⟨b6,hb6⟩:∃ b,b=β 8:=⟨_,rfl⟩
  have eb6:=E.atNew mms rfl
  simp only at eb6
  rw [←hb6] at eb6
  have lB0_b6:B0<b6:=by have h1:=eb6.1;have h2:=AB0.out.lt;omega
  have lB1_b6:B1<b6:=by have h1:=eb6.1;have h2:=AB1.out.lt;omega
  have lB2_b6:B2<b6:=by have h1:=eb6.1;have h2:=AB2.out.lt;omega
  have hZb6:B0≤b6:=by have h1:=eb6.1;have h2:=FR0.out;omega
  replace AB0:=hid (AB0.out.fnw E rfl)
  replace AB1:=hid (AB1.out.fnw E rfl)
  replace AB2:=hid (AB2.out.fnw E rfl)
  replace AB0_1:=hid (AB0_1.out.fnw E rfl)
  replace AB1_1:=hid (AB1_1.out.fnw E rfl)
  have Ab6:=hid eb6.2
  simp only [nP,zr,zq]
  rw [←hb6]
  replace FR0:=hid FR.out.le
  clear E eb6 hb6
  go_upto_region 6 with fail
  refine qwf [⟨false,0,4,4,B2,0,51,37,cr,0,cr,[]⟩] [(34,.pointer (some ⟨B0,0,none⟩)),(35,.bool sa),(36,.agg ms.toArray),(37,.agg cr.toArray),(5,.int .i64 0)] _ (by simp only [zz4,zz5,zq];rfl) (by kernel_rfl) (by kernel_rfl) ?_ ?_ ?_ ?_ ?_ ?_ ?_
  ·intro W' hW'
   have cl0:=fun p os=>cell_gw ((AB0.out.below hW').neg V_cA.out) p os
   have rd0:=Ab6.out.below hW'
   iterate 2 (refine fxo ?_ ?_;(go_big_quiet_step (fail);(try simp only [zq]);exact wqn rfl))
   refine fxo (wlg (by rfl) rfl rfl rd0 Try.underlying49 rfl (sizeM V_ms.out) (wqn (by simp only [zq]))) ?_
   refine fxo ?_ ?_;(go_big_quiet_step ((go_at_call 47;exact Calls.below_of (HC.out _)));(try simp only [zq]);exact wqn rfl)
   refine fxs (by rfl) ?_
   refine fxo ?_ ?_;(go_big_quiet_step (fail);(try simp only [zq]);exact wqn rfl)
   exact fxn
  ·intro W' hK'
   have rd0:=At.keep hK' Ab6.out (oP _ _ (fun _=>(by show B2≠b6;omega)) (oN))
   iterate 2 (first|(refine fxo ?_ ?_;(go_big_quiet_step (fail);(try simp only [zq]);exact wqn rfl))|(refine fxs (by kernel_rfl) ?_))
   refine fxo (wlg (by rfl) rfl rfl rd0 Try.underlying49 rfl (sizeM V_ms.out) (wqn (by simp only [zq]))) ?_
   iterate 2 (refine fxs (by kernel_rfl) ?_)
   first|(refine fxo ?_ ?_;(go_big_quiet_step (fail);(try simp only [zq]);exact wqn rfl))|(refine fxs (by kernel_rfl) ?_)
   exact fxn
  ·exact oP _ _ (fun h=>Bool.noConfusion h) (oN)
  ·exact oP _ _ (fun _=>⟨AB2.out.lt,rfl,At.room AB2.out (qI V_cz.out) (qI V_cr.out)⟩) (oN)
  ·exact uno
  ·exact oP _ _ (stw rfl (qI V_cr.out) (oneI V_cr.out) (fun _=>rfl)) (oN)
  intro β wx4 E
  replace FR:=hid (FR.out.flow E (oP _ _ (fun _=>(by show B0≤B2;omega)) (oN)))
  replace AB0:=hid (At.flow E AB0.out (oP _ _ (fun _=>(by show B2≠B0;omega)) (oN)))
  replace AB1:=hid (At.flow E AB1.out (oP _ _ (fun _=>(by show B2≠B1;omega)) (oN)))
  replace AB2:=hid (show At wx4 B2 0 cr from E.atOld mms rfl AB2.out.lt)
  replace AB0_1:=hid (At.flow E AB0_1.out (oP _ _ (fun _=>(by show B2≠B0;omega)) (oN)))
  replace AB1_1:=hid (At.flow E AB1_1.out (oP _ _ (fun _=>(by show B2≠B1;omega)) (oN)))
  replace Ab6:=hid (At.flow E Ab6.out (oP _ _ (fun _=>(by show B2≠b6;omega)) (oN)))
  simp only [nP,zr,zq]
  replace FR0:=hid FR.out.le
  clear E
  go_wp2_with fail
  have hld:=AB2.out.read (P:=Try.prog) Try.underlying51 rfl (qI V_cr.out)
  refine bodyPost_ret (v:=.tuple #[.agg cr.toArray,.int .i64 0]) (by simp [results,Try.results61,asAddr,hld]) rfl ?_
  exact ⟨rfl,by rw [HB0.out] at FR;exact FR.out.below⟩
 ·have HS:=hid hs
  have he:(sa==sb)=false:=by simp [hs]
  clear hs
  refine wfn [] [(18,.pointer (some ⟨B0,0,none⟩)),(19,.bool sa),(20,.pointer (some ⟨B1,0,none⟩)),(21,.bool sb),(22,.bool false)] _ (by simp only [zz4,zz5,zq];rfl) (by kernel_rfl) (by kernel_rfl) rfl ?_ ?_ ?_ ?_
  ·intro W' hW'
   have cl0:=fun p os=>cell_gw ((AB0.out.below hW').neg V_cA.out) p os
   have cl1:=fun p os=>cell_gw ((AB1.out.below hW').neg V_cB.out) p os
   iterate 5 (refine fxo ?_ ?_;(go_big_quiet_step (fail);(try simp only [zq]);exact wqn rfl))
   exact fxn
  ·exact oN
  ·exact oN
  intro β wx2 E
  replace FR:=hid (FR.out.fnw E rfl)
  replace AB0:=hid (AB0.out.fnw E rfl)
  replace AB1:=hid (AB1.out.fnw E rfl)
  replace AB2:=hid (AB2.out.fnw E rfl)
  replace AB0_1:=hid (AB0_1.out.fnw E rfl)
  replace AB1_1:=hid (AB1_1.out.fnw E rfl)
  have hE:=E.below rfl
  simp only [nP,zr,zq]
  replace FR0:=hid FR.out.le
  clear E
  clear he
  go_upto_region 7 with fail
  by_cases hl:a<b
  ·have hx:cmpI a b=-1:=by unfold cmpI;rw [if_pos hl]
   have HX:=hid (compare_op (x:=-1) V_ma.out V_mb.out hx.symm HL.out.1 HL.out.2.1)
   have hd:v=b - a∧n=cs1 sb (b - a):=by
    have:=add_less na nb a b (by rw [←HP.out.1,←HP.out.2.1];exact HS.out) hl
    exact ⟨by rw [HP.out.2.2.2,this.2],by rw [HP.out.2.2.1,this.1,HP.out.2.1]⟩
   obtain ⟨md,V_md⟩:∃ c:List Value,Hid (c=lv 32 (b - a)):=⟨_,hid rfl⟩
   have HDF:=hid (diff_op V_mb.out V_ma.out V_md.out HL.out.2.1 HL.out.1 (by omega))
   have HC:=hid (canon_op (neg:=sb) V_md.out (show cr=.bool n::lv 32 (b - a) by rw [←hd.1];exact V_cr.out) hd.2 (by rw [←hd.1];exact HL.out.2.2))
   clear hd hx hl
   refine wfn [] [(38,.pointer (some ⟨B0,1,none⟩)),(39,.agg ma.toArray),(40,.pointer (some ⟨B1,1,none⟩)),(41,.agg mb.toArray),(42,.int .i64 (-1)),(43,.bool true)] _ (by simp only [zz4,zz5,zq];rfl) (by kernel_rfl) (by kernel_rfl) rfl ?_ ?_ ?_ ?_
   ·intro W' hW'
    have rd0:=AB0_1.out.below hW'
    have rd1:=AB1_1.out.below hW'
    refine fxo ?_ ?_;(go_big_quiet_step (fail);(try simp only [zq]);exact wqn rfl)
    refine fxo (wlg (by rfl) rfl rfl rd0 Try.underlying49 rfl (sizeM V_ma.out) (wqn (by simp only [zq]))) ?_
    refine fxo ?_ ?_;(go_big_quiet_step (fail);(try simp only [zq]);exact wqn rfl)
    refine fxo (wlg (by rfl) rfl rfl rd1 Try.underlying49 rfl (sizeM V_mb.out) (wqn (by simp only [zq]))) ?_
    refine fxo ?_ ?_;(go_big_quiet_step ((go_at_call 68;exact Calls.below_of (HX.out _)));(try simp only [zq]);exact wqn rfl)
    refine fxo ?_ ?_;(go_big_quiet_step (fail);(try simp only [zq]);exact wqn rfl)
    exact fxn
   ·exact oN
   ·exact oN
   intro β wx3 E
   replace FR:=hid (FR.out.fnw E rfl)
   replace AB0:=hid (AB0.out.fnw E rfl)
   replace AB1:=hid (AB1.out.fnw E rfl)
   replace AB2:=hid (AB2.out.fnw E rfl)
   replace AB0_1:=hid (AB0_1.out.fnw E rfl)
   replace AB1_1:=hid (AB1_1.out.fnw E rfl)
   have hE:=E.below rfl
   simp only [nP,zr,zq]
   replace FR0:=hid FR.out.le
   clear E
   go_upto_region 8 with fail
   refine qwf [⟨false,0,2,2,B0,0,51,44,cB,0,cB,[]⟩,⟨false,0,3,3,B1,0,51,45,cA,0,cA,[]⟩] [(44,.agg cB.toArray),(45,.agg cA.toArray)] _ (by simp only [zz4,zz5,zq];rfl) (by kernel_rfl) (by kernel_rfl) ?_ ?_ ?_ ?_ ?_ ?_ ?_
   ·intro W' hW'
    have rd0:=AB1.out.below hW'
    have rd1:=AB0.out.below hW'
    refine fxo (wlg (by rfl) rfl rfl rd0 Try.underlying51 rfl (qI V_cB.out) (wqn (by simp only [zq]))) ?_
    refine fxo (wlg (by rfl) rfl rfl rd1 Try.underlying51 rfl (qI V_cA.out) (wqn (by simp only [zq]))) ?_
    iterate 2 (refine fxs (by rfl) ?_)
    exact fxn
   ·intro W' hK'
    iterate 4 (refine fxs (by kernel_rfl) ?_)
    exact fxn
   ·exact oP _ _ (fun h=>Bool.noConfusion h) (oP _ _ (fun h=>Bool.noConfusion h) (oN))
   ·exact oP _ _ (fun _=>⟨AB0.out.lt,rfl,At.room AB0.out (qI V_cA.out) (qI V_cB.out)⟩) (oP _ _ (fun _=>⟨AB1.out.lt,rfl,At.room AB1.out (qI V_cB.out) (qI V_cA.out)⟩) (oN))
   ·intro q hq r hr hqn hrn e
    simp only [List.mem_cons,List.not_mem_nil,or_false] at hq hr
    rcases hq with rfl|rfl<;>rcases hr with rfl|rfl<;>first|rfl|(exact Bool.noConfusion hqn)|(exact Bool.noConfusion hrn)|(exfalso;simp only at e;omega)
   ·exact oP _ _ (stw rfl (qI V_cB.out) (oneI V_cB.out) (fun _=>rfl)) (oP _ _ (stw rfl (qI V_cA.out) (oneI V_cA.out) (fun _=>rfl)) (oN))
   intro β wx4 E
   replace FR:=hid (FR.out.flow E (oP _ _ (fun _=>(by show B0≤B0;omega)) (oP _ _ (fun _=>(by show B0≤B1;omega)) (oN))))
   replace AB0:=hid (show At wx4 B0 0 cB from E.atOld mms rfl AB0.out.lt)
   replace AB1:=hid (show At wx4 B1 0 cA from E.atOld (List.mem_cons_of_mem _ mms) rfl AB1.out.lt)
   replace AB2:=hid (At.flow E AB2.out (oP _ _ (fun _=>(by show B0≠B2;omega)) (oP _ _ (fun _=>(by show B1≠B2;omega)) (oN))))
   clear AB0_1
   clear AB1_1
   simp only [nP,zr,zq]
   replace FR0:=hid FR.out.le
   clear E
   have AB0_1:=hid (AB0.out.mag V_cB.out V_mb.out)
   have AB1_1:=hid (AB1.out.mag V_cA.out V_ma.out)
   go_upto_region 9 with fail
   refine qwf [⟨false,0,4,8,B2,0,51,53,cr,0,cr,[]⟩] [(46,.pointer (some ⟨B0,0,none⟩)),(47,.bool sb),(48,.pointer (some ⟨B0,1,none⟩)),(49,.agg mb.toArray),(50,.pointer (some ⟨B1,1,none⟩)),(51,.agg ma.toArray),(52,.agg md.toArray),(53,.agg cr.toArray),(5,.int .i64 0)] _ (by simp only [zz4,zz5,zq];rfl) (by kernel_rfl) (by kernel_rfl) ?_ ?_ ?_ ?_ ?_ ?_ ?_
   ·intro W' hW'
    have cl0:=fun p os=>cell_gw ((AB0.out.below hW').neg V_cB.out) p os
    have rd0:=AB0_1.out.below hW'
    have rd1:=AB1_1.out.below hW'
    iterate 3 (refine fxo ?_ ?_;(go_big_quiet_step (fail);(try simp only [zq]);exact wqn rfl))
    refine fxo (wlg (by rfl) rfl rfl rd0 Try.underlying49 rfl (sizeM V_mb.out) (wqn (by simp only [zq]))) ?_
    refine fxo ?_ ?_;(go_big_quiet_step (fail);(try simp only [zq]);exact wqn rfl)
    refine fxo (wlg (by rfl) rfl rfl rd1 Try.underlying49 rfl (sizeM V_ma.out) (wqn (by simp only [zq]))) ?_
    refine fxo ?_ ?_;(go_big_quiet_step ((go_at_call 54;exact Calls.below_of (HDF.out _)));(try simp only [zq]);exact wqn rfl)
    refine fxo ?_ ?_;(go_big_quiet_step ((go_at_call 47;exact Calls.below_of (HC.out _)));(try simp only [zq]);exact wqn rfl)
    refine fxs (by rfl) ?_
    refine fxo ?_ ?_;(go_big_quiet_step (fail);(try simp only [zq]);exact wqn rfl)
    exact fxn
   ·intro W' hK'
    have rd0:=At.keep hK' AB0_1.out (oP _ _ (fun _=>(by show B2≠B0;omega)) (oN))
    have rd1:=At.keep hK' AB1_1.out (oP _ _ (fun _=>(by show B2≠B1;omega)) (oN))
    iterate 3 (first|(refine fxo ?_ ?_;(go_big_quiet_step (fail);(try simp only [zq]);exact wqn rfl))|(refine fxs (by kernel_rfl) ?_))
    refine fxo (wlg (by rfl) rfl rfl rd0 Try.underlying49 rfl (sizeM V_mb.out) (wqn (by simp only [zq]))) ?_
    first|(refine fxo ?_ ?_;(go_big_quiet_step (fail);(try simp only [zq]);exact wqn rfl))|(refine fxs (by kernel_rfl) ?_)
    refine fxo (wlg (by rfl) rfl rfl rd1 Try.underlying49 rfl (sizeM V_ma.out) (wqn (by simp only [zq]))) ?_
    iterate 3 (refine fxs (by kernel_rfl) ?_)
    first|(refine fxo ?_ ?_;(go_big_quiet_step (fail);(try simp only [zq]);exact wqn rfl))|(refine fxs (by kernel_rfl) ?_)
    exact fxn
   ·exact oP _ _ (fun h=>Bool.noConfusion h) (oN)
   ·exact oP _ _ (fun _=>⟨AB2.out.lt,rfl,At.room AB2.out (qI V_cz.out) (qI V_cr.out)⟩) (oN)
   ·exact uno
   ·exact oP _ _ (stw rfl (qI V_cr.out) (oneI V_cr.out) (fun _=>rfl)) (oN)
   intro β wx5 E
   replace FR:=hid (FR.out.flow E (oP _ _ (fun _=>(by show B0≤B2;omega)) (oN)))
   replace AB0:=hid (At.flow E AB0.out (oP _ _ (fun _=>(by show B2≠B0;omega)) (oN)))
   replace AB1:=hid (At.flow E AB1.out (oP _ _ (fun _=>(by show B2≠B1;omega)) (oN)))
   replace AB2:=hid (show At wx5 B2 0 cr from E.atOld mms rfl AB2.out.lt)
   replace AB0_1:=hid (At.flow E AB0_1.out (oP _ _ (fun _=>(by show B2≠B0;omega)) (oN)))
   replace AB1_1:=hid (At.flow E AB1_1.out (oP _ _ (fun _=>(by show B2≠B1;omega)) (oN)))
   simp only [nP,zr,zq]
   replace FR0:=hid FR.out.le
   clear E
   go_wp2_with fail
   have hld:=AB2.out.read (P:=Try.prog) Try.underlying51 rfl (qI V_cr.out)
   refine bodyPost_ret (v:=.tuple #[.agg cr.toArray,.int .i64 0]) (by simp [results,Try.results61,asAddr,hld]) rfl ?_
   exact ⟨rfl,by rw [HB0.out] at FR;exact FR.out.below⟩
  ·obtain ⟨x,hx⟩:∃ x,x=cmpI a b:=⟨_,rfl⟩
   have hx0:¬x<0:=by rw [hx];unfold cmpI;rw [if_neg hl];split<;>omega
   have HX:=hid (compare_op V_ma.out V_mb.out hx HL.out.1 HL.out.2.1)
   have hd:v=a - b∧n=cs1 sa (a - b):=by
    have:=add_more na nb a b (by rw [←HP.out.1,←HP.out.2.1];exact HS.out) hl
    exact ⟨by rw [HP.out.2.2.2,this.2],by rw [HP.out.2.2.1,this.1,HP.out.1]⟩
   obtain ⟨md,V_md⟩:∃ c:List Value,Hid (c=lv 32 (a - b)):=⟨_,hid rfl⟩
   have HDF:=hid (diff_op V_ma.out V_mb.out V_md.out HL.out.1 HL.out.2.1 (by omega))
   have HC:=hid (canon_op (neg:=sa) V_md.out (show cr=.bool n::lv 32 (a - b) by rw [←hd.1];exact V_cr.out) hd.2 (by rw [←hd.1];exact HL.out.2.2))
   clear hd hx hl
   refine wfn [] [(38,.pointer (some ⟨B0,1,none⟩)),(39,.agg ma.toArray),(40,.pointer (some ⟨B1,1,none⟩)),(41,.agg mb.toArray),(42,.int .i64 x),(43,.bool false)] _ (by simp only [zz4,zz5,zq];rfl) (by kernel_rfl) (by kernel_rfl) rfl ?_ ?_ ?_ ?_
   ·intro W' hW'
    have rd0:=AB0_1.out.below hW'
    have rd1:=AB1_1.out.below hW'
    refine fxo ?_ ?_;(go_big_quiet_step (fail);(try simp only [zq]);exact wqn rfl)
    refine fxo (wlg (by rfl) rfl rfl rd0 Try.underlying49 rfl (sizeM V_ma.out) (wqn (by simp only [zq]))) ?_
    refine fxo ?_ ?_;(go_big_quiet_step (fail);(try simp only [zq]);exact wqn rfl)
    refine fxo (wlg (by rfl) rfl rfl rd1 Try.underlying49 rfl (sizeM V_mb.out) (wqn (by simp only [zq]))) ?_
    refine fxo ?_ ?_;(go_big_quiet_step ((go_at_call 68;exact Calls.below_of (HX.out _)));(try simp only [zq]);exact wqn rfl)
    refine fxo ?_ ?_;(go_big_quiet_step (fail);(try simp only [zq]);exact wqn rfl)
    exact fxn
   ·exact oN
   ·exact oN
   intro β wx3 E
   replace FR:=hid (FR.out.fnw E rfl)
   replace AB0:=hid (AB0.out.fnw E rfl)
   replace AB1:=hid (AB1.out.fnw E rfl)
   replace AB2:=hid (AB2.out.fnw E rfl)
   replace AB0_1:=hid (AB0_1.out.fnw E rfl)
   replace AB1_1:=hid (AB1_1.out.fnw E rfl)
   have hE:=E.below rfl
   simp only [nP,zr,zq]
   replace FR0:=hid FR.out.le
   clear E
   clear hx0
   go_upto_region 9 with fail
   refine qwf [⟨false,0,4,8,B2,0,51,53,cr,0,cr,[]⟩] [(46,.pointer (some ⟨B0,0,none⟩)),(47,.bool sa),(48,.pointer (some ⟨B0,1,none⟩)),(49,.agg ma.toArray),(50,.pointer (some ⟨B1,1,none⟩)),(51,.agg mb.toArray),(52,.agg md.toArray),(53,.agg cr.toArray),(5,.int .i64 0)] _ (by simp only [zz4,zz5,zq];rfl) (by kernel_rfl) (by kernel_rfl) ?_ ?_ ?_ ?_ ?_ ?_ ?_
   ·intro W' hW'
    have cl0:=fun p os=>cell_gw ((AB0.out.below hW').neg V_cA.out) p os
    have rd0:=AB0_1.out.below hW'
    have rd1:=AB1_1.out.below hW'
    iterate 3 (refine fxo ?_ ?_;(go_big_quiet_step (fail);(try simp only [zq]);exact wqn rfl))
    refine fxo (wlg (by rfl) rfl rfl rd0 Try.underlying49 rfl (sizeM V_ma.out) (wqn (by simp only [zq]))) ?_
    refine fxo ?_ ?_;(go_big_quiet_step (fail);(try simp only [zq]);exact wqn rfl)
    refine fxo (wlg (by rfl) rfl rfl rd1 Try.underlying49 rfl (sizeM V_mb.out) (wqn (by simp only [zq]))) ?_
    refine fxo ?_ ?_;(go_big_quiet_step ((go_at_call 54;exact Calls.below_of (HDF.out _)));(try simp only [zq]);exact wqn rfl)
    refine fxo ?_ ?_;(go_big_quiet_step ((go_at_call 47;exact Calls.below_of (HC.out _)));(try simp only [zq]);exact wqn rfl)
    refine fxs (by rfl) ?_
    refine fxo ?_ ?_;(go_big_quiet_step (fail);(try simp only [zq]);exact wqn rfl)
    exact fxn
   ·intro W' hK'
    have rd0:=At.keep hK' AB0_1.out (oP _ _ (fun _=>(by show B2≠B0;omega)) (oN))
    have rd1:=At.keep hK' AB1_1.out (oP _ _ (fun _=>(by show B2≠B1;omega)) (oN))
    iterate 3 (first|(refine fxo ?_ ?_;(go_big_quiet_step (fail);(try simp only [zq]);exact wqn rfl))|(refine fxs (by kernel_rfl) ?_))
    refine fxo (wlg (by rfl) rfl rfl rd0 Try.underlying49 rfl (sizeM V_ma.out) (wqn (by simp only [zq]))) ?_
    first|(refine fxo ?_ ?_;(go_big_quiet_step (fail);(try simp only [zq]);exact wqn rfl))|(refine fxs (by kernel_rfl) ?_)
    refine fxo (wlg (by rfl) rfl rfl rd1 Try.underlying49 rfl (sizeM V_mb.out) (wqn (by simp only [zq]))) ?_
    iterate 3 (refine fxs (by kernel_rfl) ?_)
    first|(refine fxo ?_ ?_;(go_big_quiet_step (fail);(try simp only [zq]);exact wqn rfl))|(refine fxs (by kernel_rfl) ?_)
    exact fxn
   ·exact oP _ _ (fun h=>Bool.noConfusion h) (oN)
   ·exact oP _ _ (fun _=>⟨AB2.out.lt,rfl,At.room AB2.out (qI V_cz.out) (qI V_cr.out)⟩) (oN)
   ·exact uno
   ·exact oP _ _ (stw rfl (qI V_cr.out) (oneI V_cr.out) (fun _=>rfl)) (oN)
   intro β wx4 E
   replace FR:=hid (FR.out.flow E (oP _ _ (fun _=>(by show B0≤B2;omega)) (oN)))
   replace AB0:=hid (At.flow E AB0.out (oP _ _ (fun _=>(by show B2≠B0;omega)) (oN)))
   replace AB1:=hid (At.flow E AB1.out (oP _ _ (fun _=>(by show B2≠B1;omega)) (oN)))
   replace AB2:=hid (show At wx4 B2 0 cr from E.atOld mms rfl AB2.out.lt)
   replace AB0_1:=hid (At.flow E AB0_1.out (oP _ _ (fun _=>(by show B2≠B0;omega)) (oN)))
   replace AB1_1:=hid (At.flow E AB1_1.out (oP _ _ (fun _=>(by show B2≠B1;omega)) (oN)))
   simp only [nP,zr,zq]
   replace FR0:=hid FR.out.le
   clear E
   go_wp2_with fail
   have hld:=AB2.out.read (P:=Try.prog) Try.underlying51 rfl (qI V_cr.out)
   refine bodyPost_ret (v:=.tuple #[.agg cr.toArray,.int .i64 0]) (by simp [results,Try.results61,asAddr,hld]) rfl ?_
   exact ⟨rfl,by rw [HB0.out] at FR;exact FR.out.below⟩
end Go.Proofs.Ytnkmhbiklffjlaa
set_option maxHeartbeats 8000000
namespace Go.Proofs.Ytnkmhbiklffjlaa
open Go.RowKit Big
open Lib (hid)
theorem neg_op {ca cr:List Value} {na n:Bool} {a:Nat} (h:ca=.bool na::lv 32 a) (hr:cr=.bool n::lv 32 a) (hn:n=cs1 (!na) a) (ha:a<BB^32) (w:World) :
  Calls Try.prog 49 #[.agg ca.toArray] w fun e w'=>e=.returned (.agg cr.toArray)∧Below w.heap.size w w':=by
 have V_ca:=hid h
 have V_cr:=hid hr
 obtain ⟨ma,V_ma⟩:∃ c:List Value,Hid (c=lv 32 a):=⟨_,hid rfl⟩
 obtain ⟨cz,V_cz⟩:∃ c:List Value,Hid (c=.bool false::lv 32 0):=⟨_,hid rfl⟩
 have HC:=hid (canon_op (neg:=!na) V_ma.out V_cr.out hn ha)
 clear h hr hn ha
 obtain ⟨B0,hB0⟩:∃ B,B=w.heap.size:=⟨_,rfl⟩
 obtain ⟨B1,hB1⟩:∃ B,B=w.heap.size+1:=⟨_,rfl⟩
 obtain ⟨w0,hw0⟩:∃ w0,w0=((w.alloc (.cells ca.toArray 51)).alloc (.cells zero33 51)):=⟨_,rfl⟩
 have AB0:=hid (show At w0 B0 0 ca by rw [hw0];exact ((show At (w.alloc (.cells ca.toArray 51)) B0 0 ca from At.fresh _ ca _ (by simp [hB0])).alloc _))
 have AB1:=hid (show At w0 B1 0 cz by rw [hw0];exact (show At ((w.alloc (.cells ca.toArray 51)).alloc (.cells zero33 51)) B1 0 cz from (by rw [V_cz.out];exact At.zero _ _ (by simp [hB1]))))
 have FR:=hid (show Fr B0 w w0 by rw [hw0,hB0];exact ((Fr.start w).alloc _).alloc _)
 have FR0:=hid FR.out.le
 have l01:B0<B1:=by omega
 have hZB1:B0≤B1:=by omega
 have hZB0:B0≤B0:=Nat.le_refl _
 unfold zero33 at hw0
 have HB0:=hid hB0
 go_enter Try.func49,Try.ntmps49
 go_upto_region 1 with fail
 rw [←hw0,←hB1,←hB0]
 clear hw0 hB0 hB1
 have AB0_1:=hid (AB0.out.mag V_ca.out V_ma.out)
 refine qwf [⟨false,0,2,6,B1,0,51,8,cr,0,cr,[]⟩] [(3,.pointer (some ⟨B0,0,none⟩)),(4,.bool na),(5,.bool (!na)),(6,.pointer (some ⟨B0,1,none⟩)),(7,.agg ma.toArray),(8,.agg cr.toArray)] _ (by simp only [zz4,zz5,zq];rfl) (by kernel_rfl) (by kernel_rfl) ?_ ?_ ?_ ?_ ?_ ?_ ?_
 ·intro W' hW'
  have cl0:=fun p os=>cell_gw ((AB0.out.below hW').neg V_ca.out) p os
  have rd0:=AB0_1.out.below hW'
  iterate 4 (refine fxo ?_ ?_;(go_big_quiet_step (fail);(try simp only [zq]);exact wqn rfl))
  refine fxo (wlg (by rfl) rfl rfl rd0 Try.underlying49 rfl (sizeM V_ma.out) (wqn (by simp only [zq]))) ?_
  refine fxo ?_ ?_;(go_big_quiet_step ((go_at_call 47;exact Calls.below_of (HC.out _)));(try simp only [zq]);exact wqn rfl)
  refine fxs (by rfl) ?_
  exact fxn
 ·intro W' hK'
  have rd0:=At.keep hK' AB0_1.out (oP _ _ (fun _=>(by show B1≠B0;omega)) (oN))
  iterate 4 (first|(refine fxo ?_ ?_;(go_big_quiet_step (fail);(try simp only [zq]);exact wqn rfl))|(refine fxs (by kernel_rfl) ?_))
  refine fxo (wlg (by rfl) rfl rfl rd0 Try.underlying49 rfl (sizeM V_ma.out) (wqn (by simp only [zq]))) ?_
  iterate 2 (refine fxs (by kernel_rfl) ?_)
  exact fxn
 ·exact oP _ _ (fun h=>Bool.noConfusion h) (oN)
 ·exact oP _ _ (fun _=>⟨AB1.out.lt,rfl,At.room AB1.out (qI V_cz.out) (qI V_cr.out)⟩) (oN)
 ·exact uno
 ·exact oP _ _ (stw rfl (qI V_cr.out) (oneI V_cr.out) (fun _=>rfl)) (oN)
 intro β wx1 E
 replace FR:=hid (FR.out.flow E (oP _ _ (fun _=>(by show B0≤B1;omega)) (oN)))
 replace AB0:=hid (At.flow E AB0.out (oP _ _ (fun _=>(by show B1≠B0;omega)) (oN)))
 replace AB1:=hid (show At wx1 B1 0 cr from E.atOld mms rfl AB1.out.lt)
 replace AB0_1:=hid (At.flow E AB0_1.out (oP _ _ (fun _=>(by show B1≠B0;omega)) (oN)))
 simp only [nP,zr,zq]
 replace FR0:=hid FR.out.le
 clear E
 go_wp2_with fail
 have hld:=AB1.out.read (P:=Try.prog) Try.underlying51 rfl (qI V_cr.out)
 refine bodyPost_ret (v:=.agg cr.toArray) (by simp [results,Try.results49,asAddr,hld]) rfl ?_
 exact ⟨rfl,by rw [HB0.out] at FR;exact FR.out.below⟩
theorem gcd_op {c d g:List Value} {na nb:Bool} {a b G:Nat} (hc:c=.bool na::lv 32 a) (hd:d=.bool nb::lv 32 b) (hg:g=.bool false::lv 32 G) (hG:G=Nat.gcd a b) (ha:a<BB^32) (hb:b<BB^32) (W:World) :
  Calls Try.prog 48 #[.agg c.toArray,.agg d.toArray] W fun e w'=>e=.returned (.agg g.toArray)∧Below W.heap.size W w':=by
 subst hG hc hd hg;exact gcd_is na nb a b W ha hb
theorem divmod_op {c d q r:List Value} {na nb s:Bool} {a b m n:Nat} (hc:c=.bool na::lv 32 a) (hd:d=.bool nb::lv 32 b) (hq:q=.bool s::lv 32 m) (hr:r=.bool false::lv 32 n) (hs:s=cs1 (na != nb) m)
  (hm:m=if na=true∧a%b≠0 then a / b+1 else a / b) (hn:n=if na=true∧a%b≠0 then b - a%b else a%b) (ha:a<BB^32) (hb:b<BB^32) (h0:b≠0) (W:World) :
  Calls Try.prog 37 #[.agg c.toArray,.agg d.toArray] W fun e w'=>e=.returned (.tuple #[.agg q.toArray,.agg r.toArray,.int .i64 0])∧Below W.heap.size W w':=by
 subst hs hc hd hq hr;exact divmod_is na nb a b m n W ha hb h0 hm hn
theorem bits_op {c:List Value} {na:Bool} {a n:Nat} (hc:c=.bool na::lv 32 a) (ha:a<BB^32) (hn:IsBits a n) (W:World) :
  Calls Try.prog 50 #[.agg c.toArray] W fun e w'=>e=.returned (.int .i64 (n:Int))∧Below W.heap.size W w':=by
 subst hc;exact bits_is na a n W ha hn
def B480:Nat:=BB^15
theorem b480_lt {v:Nat} (h:v<B480):v<BB^15:=h
theorem b480_bb {v:Nat} (h:v<B480):v<BB^32:=Nat.lt_of_lt_of_le (b480_lt h) (Nat.pow_le_pow_right BB_pos (by omega))
theorem b480_bits {v n:Nat} (hv:v<B480) (h:IsBits v n):n≤480:=bits_bp 15 (b480_lt hv) h
theorem div_exact (na:Bool) (a g:Nat) (hd:g∣a):a / g=(if na=true∧a%g≠0 then a / g+1 else a / g)∧0=(if na=true∧a%g≠0 then g - a%g else a%g):=by
 rw [Nat.mod_eq_zero_of_dvd hd];simp
theorem make_sign (na nb:Bool) (p q:Nat) (hq:q≠0):cs1 nb q=nb∧(nb=true→cs1 (!cs1 na p) p=cs1 (na != nb) p)∧(nb=false→cs1 na p=cs1 (na != nb) p)∧sgnI nb q=if nb=true then -1 else 1:=by
 refine ⟨by simp [cs1,hq],fun h=>?_,fun h=>?_,by simp [sgnI,hq]⟩<;>subst h<;>by_cases hp:p=0<;>cases na<;>simp [cs1,hp]
theorem make_op {ca cb cR:List Value} {na nb n:Bool} {a b g p q:Nat} (h1:ca=.bool na::lv 32 a) (h2:cb=.bool nb::lv 32 b) (hR:cR=rat n p false q) (hn:n=cs1 (na != nb) p) (hg:g=Nat.gcd a b) (hp:p=a / g) (hq:q=b / g)
  (ha:a<BB^32) (hb:b<BB^32) (h0:b≠0) (hpb:p<B480) (hqb:q<B480) (w:World) :
  Calls Try.prog 34 #[.agg ca.toArray,.agg cb.toArray] w fun e w'=>e=.returned (.tuple #[.agg cR.toArray,.int .i64 0])∧Below w.heap.size w w':=by
 have V_ca:=hid h1
 have V_cb:=hid h2
 have V_cR:=hid hR
 have hg0:g≠0:=by rw [hg];intro h;exact h0 (Nat.eq_zero_of_gcd_eq_zero_right h)
 have hga:g∣a:=by rw [hg];exact Nat.gcd_dvd_left a b
 have hgb:g∣b:=by rw [hg];exact Nat.gcd_dvd_right a b
 have hq0:q≠0:=by rw [hq];intro h;have:=Nat.div_mul_cancel hgb;rw [h] at this;omega
 have hgB:g<BB^32:=by rw [hg];exact gcd_lt ha hb
 obtain ⟨x1,hx1⟩:=is_bits_exists p
 obtain ⟨x2,hx2⟩:=is_bits_exists q
 have hx1b:=b480_bits hpb hx1
 have hx2b:=b480_bits hqb hx2
 obtain ⟨hs1,hs2,hs3,hs4⟩:=make_sign na nb p q hq0
 obtain ⟨sn,hsn⟩:∃ s,s=cs1 na p:=⟨_,rfl⟩
 obtain ⟨s,hs⟩:∃ s,s=sgnI nb b:=⟨_,rfl⟩
 have hse:(s==0)=false:=by
  rw [hs];unfold sgnI;rw [if_neg h0];cases nb<;>rfl
 obtain ⟨cg,V_cg⟩:∃ c:List Value,Hid (c=.bool false::lv 32 g):=⟨_,hid rfl⟩
 obtain ⟨cN,V_cN⟩:∃ c:List Value,Hid (c=.bool sn::lv 32 p):=⟨_,hid rfl⟩
 obtain ⟨cD,V_cD⟩:∃ c:List Value,Hid (c=.bool nb::lv 32 q):=⟨_,hid rfl⟩
 obtain ⟨ce,V_ce⟩:∃ c:List Value,Hid (c=.bool false::lv 32 0):=⟨_,hid rfl⟩
 obtain ⟨cM,V_cM⟩:∃ c:List Value,Hid (c=.bool n::lv 32 p):=⟨_,hid rfl⟩
 obtain ⟨cE,V_cE⟩:∃ c:List Value,Hid (c=.bool false::lv 32 q):=⟨_,hid rfl⟩
 obtain ⟨cz,V_cz⟩:∃ c:List Value,Hid (c=rat false 0 false 0):=⟨_,hid rfl⟩
 have HS:=hid (sign_op V_cb.out hs hb)
 have HG:=hid (gcd_op V_ca.out V_cb.out V_cg.out hg ha hb)
 have HDN:=hid (divmod_op (s:=sn) V_ca.out V_cg.out V_cN.out V_ce.out (by rw [hsn];cases na<;>rfl) (by rw [hp];exact (div_exact na a g hga).1) (div_exact na a g hga).2 ha hgB hg0)
 have HDD:=hid (divmod_op (s:=nb) V_cb.out V_cg.out V_cD.out V_ce.out (by rw [show (nb != false)=nb by cases nb<;>rfl];exact hs1.symm) (by rw [hq];exact (div_exact nb b g hgb).1) (div_exact nb b g hgb).2 hb hgB hg0)
 have HS2:=hid (sign_op (s:=if nb=true then -1 else 1) V_cD.out hs4.symm (b480_bb hqb))
 have HB1:=hid (fun c (hc:c=cN∨c=cM)=>show ∀ W,Calls Try.prog 50 #[.agg c.toArray] W (fun e w'=>e=.returned (.int .i64 (x1:Int))∧Below W.heap.size W w') from fun W=>by
  rcases hc with rfl|rfl
  ·exact bits_op V_cN.out (b480_bb hpb) hx1 W
  ·exact bits_op V_cM.out (b480_bb hpb) hx1 W)
 have HB2:=hid (fun c (hc:c=cD∨c=cE)=>show ∀ W,Calls Try.prog 50 #[.agg c.toArray] W (fun e w'=>e=.returned (.int .i64 (x2:Int))∧Below W.heap.size W w') from fun W=>by
  rcases hc with rfl|rfl
  ·exact bits_op V_cD.out (b480_bb hqb) hx2 W
  ·exact bits_op V_cE.out (b480_bb hqb) hx2 W)
 have HNN:=hid (And.intro (b480_bb hpb) (And.intro (b480_bb hqb) (And.intro hq0 (And.intro hsn (And.intro hn (And.intro hs2 (And.intro hs3 hs1)))))))
 have n1:¬(480:Int)<(x1:Int):=by omega
 have n2:¬(480:Int)<(x2:Int):=by omega
 clear h1 h2 hR hn hg hp hq ha hb h0 hpb hqb hg0 hga hgb hq0 hgB hx1 hx2 hx1b hx2b hs1 hs2 hs3 hs4 hsn hs
 obtain ⟨B0,hB0⟩:∃ B,B=w.heap.size:=⟨_,rfl⟩
 obtain ⟨B1,hB1⟩:∃ B,B=w.heap.size+1:=⟨_,rfl⟩
 obtain ⟨B2,hB2⟩:∃ B,B=w.heap.size+1+1:=⟨_,rfl⟩
 obtain ⟨w0,hw0⟩:∃ w0,w0=(((w.alloc (.cells ca.toArray 51)).alloc (.cells cb.toArray 51)).alloc (.cells Try.zeroCells56 56)):=⟨_,rfl⟩
 have AB0:=hid (show At w0 B0 0 ca by rw [hw0];exact (((show At (w.alloc (.cells ca.toArray 51)) B0 0 ca from At.fresh _ ca _ (by simp [hB0])).alloc _).alloc _))
 have AB1:=hid (show At w0 B1 0 cb by rw [hw0];exact ((show At ((w.alloc (.cells ca.toArray 51)).alloc (.cells cb.toArray 51)) B1 0 cb from At.fresh _ cb _ (by simp [hB1])).alloc _))
 have AB2:=hid (show At w0 B2 0 cz by rw [hw0];exact (show At (((w.alloc (.cells ca.toArray 51)).alloc (.cells cb.toArray 51)).alloc (.cells Try.zeroCells56 56)) B2 0 cz from (by rw [Try.zeroR,V_cz.out];exact At.fresh _ (rat false 0 false 0) _ (by simp [hB2]))))
 have FR:=hid (show Fr B0 w w0 by rw [hw0,hB0];exact (((Fr.start w).alloc _).alloc _).alloc _)
 have FR0:=hid FR.out.le
 have l01:B0<B1:=by omega
 have hZB1:B0≤B1:=by omega
 have l12:B1<B2:=by omega
 have hZB2:B0≤B2:=by omega
 have hZB0:B0≤B0:=Nat.le_refl _
 have HB0:=hid hB0
 go_enter Try.func34,Try.ntmps34
 go_upto_region 1 with fail
 rw [←hw0,←hB2,←hB1,←hB0]
 clear hw0 hB0 hB1 hB2
 refine wfn [] [(13,.agg cb.toArray),(14,.int .i64 s),(15,.bool false)] _ (by simp only [zz4,zz5,zq];rfl) (by kernel_rfl) (by kernel_rfl) rfl ?_ ?_ ?_ ?_
 ·intro W' hW'
  have rd0:=AB1.out.below hW'
  refine fxo (wlg (by rfl) rfl rfl rd0 Try.underlying51 rfl (qI V_cb.out) (wqn (by simp only [zq]))) ?_
  refine fxo ?_ ?_;(go_big_quiet_step ((go_at_call 39;exact Calls.below_of (HS.out _)));(try simp only [zq]);exact wqn rfl)
  refine fxo ?_ ?_;(go_big_quiet_step (fail);(try simp only [zq]);exact wqn rfl)
  exact fxn
 ·exact oN
 ·exact oN
 intro β wx1 E
 replace FR:=hid (FR.out.fnw E rfl)
 replace AB0:=hid (AB0.out.fnw E rfl)
 replace AB1:=hid (AB1.out.fnw E rfl)
 replace AB2:=hid (AB2.out.fnw E rfl)
 have hE:=E.below rfl
 simp only [nP,zr,zq]
 replace FR0:=hid FR.out.le
 clear E
 clear hse
 go_upto_region 3 with fail
 refine wfn [⟨true,3,6,4,0,0,51,19,cg,0,cg,[]⟩] [(17,.agg ca.toArray),(18,.agg cb.toArray),(19,.agg cg.toArray)] _ (by simp only [zz4,zz5,zq];rfl) (by kernel_rfl) (by kernel_rfl) rfl ?_ ?_ ?_ ?_
 ·intro W' hW'
  have rd0:=AB0.out.below hW'
  have rd1:=AB1.out.below hW'
  refine fxo (wlg (by rfl) rfl rfl rd0 Try.underlying51 rfl (qI V_ca.out) (wqn (by simp only [zq]))) ?_
  refine fxo (wlg (by rfl) rfl rfl rd1 Try.underlying51 rfl (qI V_cb.out) (wqn (by simp only [zq]))) ?_
  refine fxo ?_ ?_;(go_big_quiet_step ((go_at_call 48;exact Calls.below_of (HG.out _)));(try simp only [zq]);exact wqn rfl)
  iterate 2 (refine fxs (by rfl) ?_)
  exact fxn
 ·exact oP _ _ (Try.alI (qI V_cg.out)) (oN)
 ·exact oP _ _ (stw rfl (qI V_cg.out) (oneI V_cg.out) (fun _=>rfl)) (oN)
 intro β wx2 E
 replace FR:=hid (FR.out.fnw E rfl)
 obtain ⟨b6,hb6⟩:∃ b,b=β 3:=⟨_,rfl⟩
 have eb6:=E.atNew mms rfl
 simp only at eb6
 rw [←hb6] at eb6
 have lB0_b6:B0<b6:=by have h1:=eb6.1;have h2:=AB0.out.lt;omega
 have lB1_b6:B1<b6:=by have h1:=eb6.1;have h2:=AB1.out.lt;omega
 have lB2_b6:B2<b6:=by have h1:=eb6.1;have h2:=AB2.out.lt;omega
 have hZb6:B0≤b6:=by have h1:=eb6.1;have h2:=FR0.out;omega
 replace AB0:=hid (AB0.out.fnw E rfl)
 replace AB1:=hid (AB1.out.fnw E rfl)
 replace AB2:=hid (AB2.out.fnw E rfl)
 have Ab6:=hid eb6.2
 simp only [nP,zr,zq]
 rw [←hb6]
 replace FR0:=hid FR.out.le
 clear E eb6 hb6
 go_upto_region 4 with fail
 refine wfn [⟨true,7,7,9,0,0,51,24,cN,0,cN,[]⟩,⟨true,8,8,10,0,0,51,25,ce,0,ce,[]⟩] [(21,.agg ca.toArray),(22,.agg cg.toArray),(23,.tuple #[.agg cN.toArray,.agg ce.toArray,.int .i64 0]),(20,.tuple #[.agg cN.toArray,.agg ce.toArray,.int .i64 0]),(24,.agg cN.toArray),(25,.agg ce.toArray),(26,.int .i64 0),(9,.int .i64 0)] _ (by simp only [zz4,zz5,zq];rfl) (by kernel_rfl) (by kernel_rfl) rfl ?_ ?_ ?_ ?_
 ·intro W' hW'
  have rd0:=AB0.out.below hW'
  have rd1:=Ab6.out.below hW'
  refine fxo (wlg (by rfl) rfl rfl rd0 Try.underlying51 rfl (qI V_ca.out) (wqn (by simp only [zq]))) ?_
  refine fxo (wlg (by rfl) rfl rfl rd1 Try.underlying51 rfl (qI V_cg.out) (wqn (by simp only [zq]))) ?_
  refine fxo ?_ ?_;(go_big_quiet_step ((go_at_call 37;exact Calls.below_of (HDN.out _)));(try simp only [zq]);exact wqn rfl)
  iterate 4 (refine fxo ?_ ?_;(go_big_quiet_step (fail);(try simp only [zq]);exact wqn rfl))
  iterate 4 (refine fxs (by rfl) ?_)
  refine fxo ?_ ?_;(go_big_quiet_step (fail);(try simp only [zq]);exact wqn rfl)
  exact fxn
 ·exact oP _ _ (Try.alI (qI V_cN.out)) (oP _ _ (Try.alI (qI V_ce.out)) (oN))
 ·exact oP _ _ (stw rfl (qI V_cN.out) (oneI V_cN.out) (fun _=>rfl)) (oP _ _ (stw rfl (qI V_ce.out) (oneI V_ce.out) (fun _=>rfl)) (oN))
 intro β wx3 E
 replace FR:=hid (FR.out.fnw E rfl)
 obtain ⟨b7,hb7⟩:∃ b,b=β 7:=⟨_,rfl⟩
 have eb7:=E.atNew mms rfl
 simp only at eb7
 rw [←hb7] at eb7
 have lB0_b7:B0<b7:=by have h1:=eb7.1;have h2:=AB0.out.lt;omega
 have lB1_b7:B1<b7:=by have h1:=eb7.1;have h2:=AB1.out.lt;omega
 have lB2_b7:B2<b7:=by have h1:=eb7.1;have h2:=AB2.out.lt;omega
 have lb6_b7:b6<b7:=by have h1:=eb7.1;have h2:=Ab6.out.lt;omega
 have hZb7:B0≤b7:=by have h1:=eb7.1;have h2:=FR0.out;omega
 obtain ⟨b8,hb8⟩:∃ b,b=β 8:=⟨_,rfl⟩
 have eb8:=E.atNew (List.mem_cons_of_mem _ mms) rfl
 simp only at eb8
 rw [←hb8] at eb8
 have lB0_b8:B0<b8:=by have h1:=eb8.1;have h2:=AB0.out.lt;omega
 have lB1_b8:B1<b8:=by have h1:=eb8.1;have h2:=AB1.out.lt;omega
 have lB2_b8:B2<b8:=by have h1:=eb8.1;have h2:=AB2.out.lt;omega
 have lb6_b8:b6<b8:=by have h1:=eb8.1;have h2:=Ab6.out.lt;omega
 have hZb8:B0≤b8:=by have h1:=eb8.1;have h2:=FR0.out;omega
 have nb7_b8:b7≠b8:=fun e=>absurd (E.apart _ mms _ (List.mem_cons_of_mem _ mms) rfl rfl (by rw [hb7,hb8] at e;exact e)) (show ¬(7:Nat)=8 by decide)
 clear AB0
 replace AB1:=hid (AB1.out.fnw E rfl)
 replace AB2:=hid (AB2.out.fnw E rfl)
 replace Ab6:=hid (Ab6.out.fnw E rfl)
 have Ab7:=hid eb7.2
 have Ab8:=hid eb8.2
 simp only [nP,zr,zq]
 rw [←hb7]
 rw [←hb8]
 replace FR0:=hid FR.out.le
 clear E eb7 hb7 eb8 hb8
 go_upto_region 5 with fail
 refine wfn [⟨true,7,10,9,0,0,51,31,cD,0,cD,[]⟩,⟨true,8,11,10,0,0,51,32,ce,0,ce,[]⟩] [(28,.agg cb.toArray),(29,.agg cg.toArray),(30,.tuple #[.agg cD.toArray,.agg ce.toArray,.int .i64 0]),(27,.tuple #[.agg cD.toArray,.agg ce.toArray,.int .i64 0]),(31,.agg cD.toArray),(32,.agg ce.toArray),(33,.int .i64 0),(12,.int .i64 0)] _ (by simp only [zz4,zz5,zq];rfl) (by kernel_rfl) (by kernel_rfl) rfl ?_ ?_ ?_ ?_
 ·intro W' hW'
  have rd0:=AB1.out.below hW'
  have rd1:=Ab6.out.below hW'
  refine fxo (wlg (by rfl) rfl rfl rd0 Try.underlying51 rfl (qI V_cb.out) (wqn (by simp only [zq]))) ?_
  refine fxo (wlg (by rfl) rfl rfl rd1 Try.underlying51 rfl (qI V_cg.out) (wqn (by simp only [zq]))) ?_
  refine fxo ?_ ?_;(go_big_quiet_step ((go_at_call 37;exact Calls.below_of (HDD.out _)));(try simp only [zq]);exact wqn rfl)
  iterate 4 (refine fxo ?_ ?_;(go_big_quiet_step (fail);(try simp only [zq]);exact wqn rfl))
  iterate 4 (refine fxs (by rfl) ?_)
  refine fxo ?_ ?_;(go_big_quiet_step (fail);(try simp only [zq]);exact wqn rfl)
  exact fxn
 ·exact oP _ _ (Try.alI (qI V_cD.out)) (oP _ _ (Try.alI (qI V_ce.out)) (oN))
 ·exact oP _ _ (stw rfl (qI V_cD.out) (oneI V_cD.out) (fun _=>rfl)) (oP _ _ (stw rfl (qI V_ce.out) (oneI V_ce.out) (fun _=>rfl)) (oN))
 intro β wx4 E
 replace FR:=hid (FR.out.fnw E rfl)
 obtain ⟨b10,hb10⟩:∃ b,b=β 7:=⟨_,rfl⟩
 have eb10:=E.atNew mms rfl
 simp only at eb10
 rw [←hb10] at eb10
 have lB1_b10:B1<b10:=by have h1:=eb10.1;have h2:=AB1.out.lt;omega
 have lB2_b10:B2<b10:=by have h1:=eb10.1;have h2:=AB2.out.lt;omega
 have lb6_b10:b6<b10:=by have h1:=eb10.1;have h2:=Ab6.out.lt;omega
 have lb7_b10:b7<b10:=by have h1:=eb10.1;have h2:=Ab7.out.lt;omega
 have lb8_b10:b8<b10:=by have h1:=eb10.1;have h2:=Ab8.out.lt;omega
 have hZb10:B0≤b10:=by have h1:=eb10.1;have h2:=FR0.out;omega
 obtain ⟨b11,hb11⟩:∃ b,b=β 8:=⟨_,rfl⟩
 have eb11:=E.atNew (List.mem_cons_of_mem _ mms) rfl
 simp only at eb11
 rw [←hb11] at eb11
 have lB1_b11:B1<b11:=by have h1:=eb11.1;have h2:=AB1.out.lt;omega
 have lB2_b11:B2<b11:=by have h1:=eb11.1;have h2:=AB2.out.lt;omega
 have lb6_b11:b6<b11:=by have h1:=eb11.1;have h2:=Ab6.out.lt;omega
 have lb7_b11:b7<b11:=by have h1:=eb11.1;have h2:=Ab7.out.lt;omega
 have lb8_b11:b8<b11:=by have h1:=eb11.1;have h2:=Ab8.out.lt;omega
 have hZb11:B0≤b11:=by have h1:=eb11.1;have h2:=FR0.out;omega
 have nb10_b11:b10≠b11:=fun e=>absurd (E.apart _ mms _ (List.mem_cons_of_mem _ mms) rfl rfl (by rw [hb10,hb11] at e;exact e)) (show ¬(7:Nat)=8 by decide)
 clear AB1
 replace AB2:=hid (AB2.out.fnw E rfl)
 clear Ab6
 replace Ab7:=hid (Ab7.out.fnw E rfl)
 clear Ab8
 have Ab10:=hid eb10.2
 have Ab11:=hid eb11.2
 simp only [nP,zr,zq]
 rw [←hb10]
 rw [←hb11]
 replace FR0:=hid FR.out.le
 clear E eb10 hb10 eb11 hb11
 go_upto_region 6 with fail
 cases nb with
 | true =>
  have HN1:=hid (neg_op V_cN.out V_cM.out (by rw [HNN.out.2.2.2.2.1,HNN.out.2.2.2.1,HNN.out.2.2.2.2.2.1 rfl]) HNN.out.1)
  have HN2:=hid (neg_op (n:=false) V_cD.out V_cE.out rfl HNN.out.2.1)
  simp only [if_true] at HS2
  refine wfn [] [(34,.agg cD.toArray),(35,.int .i64 (-1)),(36,.bool true)] _ (by simp only [zz4,zz5,zq];rfl) (by kernel_rfl) (by kernel_rfl) rfl ?_ ?_ ?_ ?_
  ·intro W' hW'
   have rd0:=Ab10.out.below hW'
   refine fxo (wlg (by rfl) rfl rfl rd0 Try.underlying51 rfl (qI V_cD.out) (wqn (by simp only [zq]))) ?_
   refine fxo ?_ ?_;(go_big_quiet_step ((go_at_call 39;exact Calls.below_of (HS2.out _)));(try simp only [zq]);exact wqn rfl)
   refine fxo ?_ ?_;(go_big_quiet_step (fail);(try simp only [zq]);exact wqn rfl)
   exact fxn
  ·exact oN
  ·exact oN
  intro β wx5 E
  replace FR:=hid (FR.out.fnw E rfl)
  replace AB2:=hid (AB2.out.fnw E rfl)
  replace Ab7:=hid (Ab7.out.fnw E rfl)
  replace Ab10:=hid (Ab10.out.fnw E rfl)
  replace Ab11:=hid (Ab11.out.fnw E rfl)
  have hE:=E.below rfl
  simp only [nP,zr,zq]
  replace FR0:=hid FR.out.le
  clear E
  go_upto_region 7 with fail
  refine qwf [⟨false,0,7,4,b7,0,51,38,cM,0,cM,[]⟩,⟨false,0,10,5,b10,0,51,40,cE,0,cE,[]⟩] [(37,.agg cN.toArray),(38,.agg cM.toArray),(39,.agg cD.toArray),(40,.agg cE.toArray)] _ (by simp only [zz4,zz5,zq];rfl) (by kernel_rfl) (by kernel_rfl) ?_ ?_ ?_ ?_ ?_ ?_ ?_
  ·intro W' hW'
   have rd0:=Ab7.out.below hW'
   have rd1:=Ab10.out.below hW'
   refine fxo (wlg (by rfl) rfl rfl rd0 Try.underlying51 rfl (qI V_cN.out) (wqn (by simp only [zq]))) ?_
   refine fxo ?_ ?_;(go_big_quiet_step ((go_at_call 49;exact Calls.below_of (HN1.out _)));(try simp only [zq]);exact wqn rfl)
   refine fxo (wlg (by rfl) rfl rfl rd1 Try.underlying51 rfl (qI V_cD.out) (wqn (by simp only [zq]))) ?_
   refine fxo ?_ ?_;(go_big_quiet_step ((go_at_call 49;exact Calls.below_of (HN2.out _)));(try simp only [zq]);exact wqn rfl)
   iterate 2 (refine fxs (by rfl) ?_)
   exact fxn
  ·intro W' hK'
   iterate 6 (refine fxs (by kernel_rfl) ?_)
   exact fxn
  ·exact oP _ _ (fun h=>Bool.noConfusion h) (oP _ _ (fun h=>Bool.noConfusion h) (oN))
  ·exact oP _ _ (fun _=>⟨Ab7.out.lt,rfl,At.room Ab7.out (qI V_cN.out) (qI V_cM.out)⟩) (oP _ _ (fun _=>⟨Ab10.out.lt,rfl,At.room Ab10.out (qI V_cD.out) (qI V_cE.out)⟩) (oN))
  ·intro q hq r hr hqn hrn e
   simp only [List.mem_cons,List.not_mem_nil,or_false] at hq hr
   rcases hq with rfl|rfl<;>rcases hr with rfl|rfl<;>first|rfl|(exact Bool.noConfusion hqn)|(exact Bool.noConfusion hrn)|(exfalso;simp only at e;omega)
  ·exact oP _ _ (stw rfl (qI V_cM.out) (oneI V_cM.out) (fun _=>rfl)) (oP _ _ (stw rfl (qI V_cE.out) (oneI V_cE.out) (fun _=>rfl)) (oN))
  intro β wx6 E
  replace FR:=hid (FR.out.flow E (oP _ _ (fun _=>(by show B0≤b7;omega)) (oP _ _ (fun _=>(by show B0≤b10;omega)) (oN))))
  replace AB2:=hid (At.flow E AB2.out (oP _ _ (fun _=>(by show b7≠B2;omega)) (oP _ _ (fun _=>(by show b10≠B2;omega)) (oN))))
  replace Ab7:=hid (show At wx6 b7 0 cM from E.atOld mms rfl Ab7.out.lt)
  replace Ab10:=hid (show At wx6 b10 0 cE from E.atOld (List.mem_cons_of_mem _ mms) rfl Ab10.out.lt)
  clear Ab11
  simp only [nP,zr,zq]
  replace FR0:=hid FR.out.le
  clear E
  go_upto_region 8 with fail
  refine wfn [] [(41,.agg cM.toArray),(42,.int .i64 (x1:Int)),(43,.bool false),(44,.bool false),(45,.agg cE.toArray),(46,.int .i64 (x2:Int)),(47,.bool false),(48,.bool false)] _ (by simp only [zz4,zz5,zq];rfl) (by kernel_rfl) (by kernel_rfl) rfl ?_ ?_ ?_ ?_
  ·intro W' hW'
   have rd0:=Ab7.out.below hW'
   have rd1:=Ab10.out.below hW'
   refine fxo (wlg (by rfl) rfl rfl rd0 Try.underlying51 rfl (qI V_cM.out) (wqn (by simp only [zq]))) ?_
   refine fxo ?_ ?_;(go_big_quiet_step ((go_at_call 50;exact Calls.below_of (HB1.out _ (.inr rfl) _)));(try simp only [zq]);exact wqn rfl)
   iterate 2 (refine fxo ?_ ?_;(go_big_quiet_step (fail);(try simp only [zq]);exact wqn rfl))
   refine fxo (wlg (by rfl) rfl rfl rd1 Try.underlying51 rfl (qI V_cE.out) (wqn (by simp only [zq]))) ?_
   refine fxo ?_ ?_;(go_big_quiet_step ((go_at_call 50;exact Calls.below_of (HB2.out _ (.inr rfl) _)));(try simp only [zq]);exact wqn rfl)
   iterate 2 (refine fxo ?_ ?_;(go_big_quiet_step (fail);(try simp only [zq]);exact wqn rfl))
   exact fxn
  ·exact oN
  ·exact oN
  intro β wx7 E
  replace FR:=hid (FR.out.fnw E rfl)
  replace AB2:=hid (AB2.out.fnw E rfl)
  replace Ab7:=hid (Ab7.out.fnw E rfl)
  replace Ab10:=hid (Ab10.out.fnw E rfl)
  have hE:=E.below rfl
  simp only [nP,zr,zq]
  replace FR0:=hid FR.out.le
  clear E
  clear n1 n2
  go_upto_region 10 with fail
  refine qwf [⟨false,0,4,3,B2,0,56,52,cR,0,cR,[]⟩] [(50,.agg cM.toArray),(51,.agg cE.toArray),(52,.agg cR.toArray),(5,.int .i64 0)] _ (by simp only [zz4,zz5,zq];rfl) (by kernel_rfl) (by kernel_rfl) ?_ ?_ ?_ ?_ ?_ ?_ ?_
  ·intro W' hW'
   have rd0:=Ab7.out.below hW'
   have rd1:=Ab10.out.below hW'
   refine fxo (wlg (by rfl) rfl rfl rd0 Try.underlying51 rfl (qI V_cM.out) (wqn (by simp only [zq]))) ?_
   refine fxo (wlg (by rfl) rfl rfl rd1 Try.underlying51 rfl (qI V_cE.out) (wqn (by simp only [zq]))) ?_
   refine fxo (wqB rfl _ _ rfl _ rfl _ (built_r V_cM.out V_cE.out V_cR.out) (wqn (by simp only [zq]))) ?_
   refine fxs (by rfl) ?_
   refine fxo ?_ ?_;(go_big_quiet_step (fail);(try simp only [zq]);exact wqn rfl)
   exact fxn
  ·intro W' hK'
   have rd0:=At.keep hK' Ab7.out (oP _ _ (fun _=>(by show B2≠b7;omega)) (oN))
   have rd1:=At.keep hK' Ab10.out (oP _ _ (fun _=>(by show B2≠b10;omega)) (oN))
   refine fxo (wlg (by rfl) rfl rfl rd0 Try.underlying51 rfl (qI V_cM.out) (wqn (by simp only [zq]))) ?_
   refine fxo (wlg (by rfl) rfl rfl rd1 Try.underlying51 rfl (qI V_cE.out) (wqn (by simp only [zq]))) ?_
   refine fxo (wqB rfl _ _ rfl _ rfl _ (built_r V_cM.out V_cE.out V_cR.out) (wqn (by simp only [zq]))) ?_
   refine fxs (by kernel_rfl) ?_
   first|(refine fxo ?_ ?_;(go_big_quiet_step (fail);(try simp only [zq]);exact wqn rfl))|(refine fxs (by kernel_rfl) ?_)
   exact fxn
  ·exact oP _ _ (fun h=>Bool.noConfusion h) (oN)
  ·exact oP _ _ (fun _=>⟨AB2.out.lt,rfl,At.room AB2.out (qR V_cz.out) (qR V_cR.out)⟩) (oN)
  ·exact uno
  ·exact oP _ _ (stw rfl (qR V_cR.out) (oneR V_cR.out) (fun _=>rfl)) (oN)
  intro β wx8 E
  replace FR:=hid (FR.out.flow E (oP _ _ (fun _=>(by show B0≤B2;omega)) (oN)))
  replace AB2:=hid (show At wx8 B2 0 cR from E.atOld mms rfl AB2.out.lt)
  replace Ab7:=hid (At.flow E Ab7.out (oP _ _ (fun _=>(by show B2≠b7;omega)) (oN)))
  replace Ab10:=hid (At.flow E Ab10.out (oP _ _ (fun _=>(by show B2≠b10;omega)) (oN)))
  simp only [nP,zr,zq]
  replace FR0:=hid FR.out.le
  clear E
  go_wp2_with fail
  have hld:=AB2.out.read (P:=Try.prog) Try.underlying56 rfl (qR V_cR.out)
  refine bodyPost_ret (v:=.tuple #[.agg cR.toArray,.int .i64 0]) (by simp [results,Try.results34,asAddr,hld]) rfl ?_
  exact ⟨rfl,by rw [HB0.out] at FR;exact FR.out.below⟩
 | false =>
  have V_cN2:=hid (show cN=.bool n::lv 32 p by rw [V_cN.out,HNN.out.2.2.2.1,HNN.out.2.2.2.2.1,HNN.out.2.2.2.2.2.2.1 rfl])
  simp only [Bool.false_eq_true,if_false] at HS2
  refine wfn [] [(34,.agg cD.toArray),(35,.int .i64 1),(36,.bool false)] _ (by simp only [zz4,zz5,zq];rfl) (by kernel_rfl) (by kernel_rfl) rfl ?_ ?_ ?_ ?_
  ·intro W' hW'
   have rd0:=Ab10.out.below hW'
   refine fxo (wlg (by rfl) rfl rfl rd0 Try.underlying51 rfl (qI V_cD.out) (wqn (by simp only [zq]))) ?_
   refine fxo ?_ ?_;(go_big_quiet_step ((go_at_call 39;exact Calls.below_of (HS2.out _)));(try simp only [zq]);exact wqn rfl)
   refine fxo ?_ ?_;(go_big_quiet_step (fail);(try simp only [zq]);exact wqn rfl)
   exact fxn
  ·exact oN
  ·exact oN
  intro β wx5 E
  replace FR:=hid (FR.out.fnw E rfl)
  replace AB2:=hid (AB2.out.fnw E rfl)
  replace Ab7:=hid (Ab7.out.fnw E rfl)
  replace Ab10:=hid (Ab10.out.fnw E rfl)
  replace Ab11:=hid (Ab11.out.fnw E rfl)
  have hE:=E.below rfl
  simp only [nP,zr,zq]
  replace FR0:=hid FR.out.le
  clear E
  go_upto_region 8 with fail
  refine wfn [] [(41,.agg cN.toArray),(42,.int .i64 (x1:Int)),(43,.bool false),(44,.bool false),(45,.agg cD.toArray),(46,.int .i64 (x2:Int)),(47,.bool false),(48,.bool false)] _ (by simp only [zz4,zz5,zq];rfl) (by kernel_rfl) (by kernel_rfl) rfl ?_ ?_ ?_ ?_
  ·intro W' hW'
   have rd0:=Ab7.out.below hW'
   have rd1:=Ab10.out.below hW'
   refine fxo (wlg (by rfl) rfl rfl rd0 Try.underlying51 rfl (qI V_cN.out) (wqn (by simp only [zq]))) ?_
   refine fxo ?_ ?_;(go_big_quiet_step ((go_at_call 50;exact Calls.below_of (HB1.out _ (.inl rfl) _)));(try simp only [zq]);exact wqn rfl)
   iterate 2 (refine fxo ?_ ?_;(go_big_quiet_step (fail);(try simp only [zq]);exact wqn rfl))
   refine fxo (wlg (by rfl) rfl rfl rd1 Try.underlying51 rfl (qI V_cD.out) (wqn (by simp only [zq]))) ?_
   refine fxo ?_ ?_;(go_big_quiet_step ((go_at_call 50;exact Calls.below_of (HB2.out _ (.inl rfl) _)));(try simp only [zq]);exact wqn rfl)
   iterate 2 (refine fxo ?_ ?_;(go_big_quiet_step (fail);(try simp only [zq]);exact wqn rfl))
   exact fxn
  ·exact oN
  ·exact oN
  intro β wx6 E
  replace FR:=hid (FR.out.fnw E rfl)
  replace AB2:=hid (AB2.out.fnw E rfl)
  replace Ab7:=hid (Ab7.out.fnw E rfl)
  replace Ab10:=hid (Ab10.out.fnw E rfl)
  replace Ab11:=hid (Ab11.out.fnw E rfl)
  have hE:=E.below rfl
  simp only [nP,zr,zq]
  replace FR0:=hid FR.out.le
  clear E
  clear n1 n2
  go_upto_region 10 with fail
  clear V_cN
  have V_cN:=V_cN2
  refine qwf [⟨false,0,4,3,B2,0,56,52,cR,0,cR,[]⟩] [(50,.agg cN.toArray),(51,.agg cD.toArray),(52,.agg cR.toArray),(5,.int .i64 0)] _ (by simp only [zz4,zz5,zq];rfl) (by kernel_rfl) (by kernel_rfl) ?_ ?_ ?_ ?_ ?_ ?_ ?_
  ·intro W' hW'
   have rd0:=Ab7.out.below hW'
   have rd1:=Ab10.out.below hW'
   refine fxo (wlg (by rfl) rfl rfl rd0 Try.underlying51 rfl (qI V_cN.out) (wqn (by simp only [zq]))) ?_
   refine fxo (wlg (by rfl) rfl rfl rd1 Try.underlying51 rfl (qI V_cD.out) (wqn (by simp only [zq]))) ?_
   refine fxo (wqB rfl _ _ rfl _ rfl _ (built_r V_cN.out V_cD.out V_cR.out) (wqn (by simp only [zq]))) ?_
   refine fxs (by rfl) ?_
   refine fxo ?_ ?_;(go_big_quiet_step (fail);(try simp only [zq]);exact wqn rfl)
   exact fxn
  ·intro W' hK'
   have rd0:=At.keep hK' Ab7.out (oP _ _ (fun _=>(by show B2≠b7;omega)) (oN))
   have rd1:=At.keep hK' Ab10.out (oP _ _ (fun _=>(by show B2≠b10;omega)) (oN))
   refine fxo (wlg (by rfl) rfl rfl rd0 Try.underlying51 rfl (qI V_cN.out) (wqn (by simp only [zq]))) ?_
   refine fxo (wlg (by rfl) rfl rfl rd1 Try.underlying51 rfl (qI V_cD.out) (wqn (by simp only [zq]))) ?_
   refine fxo (wqB rfl _ _ rfl _ rfl _ (built_r V_cN.out V_cD.out V_cR.out) (wqn (by simp only [zq]))) ?_
   refine fxs (by kernel_rfl) ?_
   first|(refine fxo ?_ ?_;(go_big_quiet_step (fail);(try simp only [zq]);exact wqn rfl))|(refine fxs (by kernel_rfl) ?_)
   exact fxn
  ·exact oP _ _ (fun h=>Bool.noConfusion h) (oN)
  ·exact oP _ _ (fun _=>⟨AB2.out.lt,rfl,At.room AB2.out (qR V_cz.out) (qR V_cR.out)⟩) (oN)
  ·exact uno
  ·exact oP _ _ (stw rfl (qR V_cR.out) (oneR V_cR.out) (fun _=>rfl)) (oN)
  intro β wx7 E
  replace FR:=hid (FR.out.flow E (oP _ _ (fun _=>(by show B0≤B2;omega)) (oN)))
  replace AB2:=hid (show At wx7 B2 0 cR from E.atOld mms rfl AB2.out.lt)
  replace Ab7:=hid (At.flow E Ab7.out (oP _ _ (fun _=>(by show B2≠b7;omega)) (oN)))
  replace Ab10:=hid (At.flow E Ab10.out (oP _ _ (fun _=>(by show B2≠b10;omega)) (oN)))
  replace Ab11:=hid (At.flow E Ab11.out (oP _ _ (fun _=>(by show B2≠b11;omega)) (oN)))
  simp only [nP,zr,zq]
  replace FR0:=hid FR.out.le
  clear E
  go_wp2_with fail
  have hld:=AB2.out.read (P:=Try.prog) Try.underlying56 rfl (qR V_cR.out)
  refine bodyPost_ret (v:=.tuple #[.agg cR.toArray,.int .i64 0]) (by simp [results,Try.results34,asAddr,hld]) rfl ?_
  exact ⟨rfl,by rw [HB0.out] at FR;exact FR.out.below⟩
end Go.Proofs.Ytnkmhbiklffjlaa
set_option maxHeartbeats 4000000
namespace Go.Proofs.Ytnkmhbiklffjlaa
open Go.RowKit Big
open Lib (hid)
theorem power_is (n:Nat) (w:World) (hn:n≤18) :
  Calls Try.prog 72 #[.int .i64 (n:Int)] w fun e w'=>e=.returned (rV false (10^n) false 1)∧Below w.heap.size w w':=by
 obtain ⟨cr,V_cr⟩:∃ c:List Value,Hid (c=rat false (10^n) false 1):=⟨_,hid rfl⟩
 obtain ⟨cz,V_cz⟩:∃ c:List Value,Hid (c=rat false 0 false 0):=⟨_,hid rfl⟩
 rw [valR V_cr.out]
 have hpw:∀ i,i≤18→10^i≤1000000000000000000:=fun i hi=>Nat.le_trans (Nat.pow_le_pow_right (by omega) hi) (by decide)
 have HPW:=hid hpw
 have H1:=hid (show ∀ W,Calls Try.prog 74 #[.int .i64 ((10^n:Nat):Int)] W (fun e w'=>e=.returned (.agg cr.toArray)∧Below W.heap.size W w') from fun W=>by
  have hb:=hpw n hn
  have hv:=V_cr.out
  generalize 10^n=p at hb hv
  have:=whole_is (p:Int) false p W (by symm;exact decide_eq_false (by omega)) (by omega) (by omega) (by omega)
  rw [valR hv] at this;exact this)
 clear hpw
 obtain ⟨B0,hB0⟩:∃ B,B=w.heap.size:=⟨_,rfl⟩
 obtain ⟨w0,hw0⟩:∃ w0,w0=(w.alloc (.cells Try.zeroCells56 56)):=⟨_,rfl⟩
 have AB0:=hid (show At w0 B0 0 cz by rw [hw0];exact (show At (w.alloc (.cells Try.zeroCells56 56)) B0 0 cz from (by rw [Try.zeroR,V_cz.out];exact At.fresh _ (rat false 0 false 0) _ (by simp [hB0]))))
 have FR:=hid (show Fr B0 w w0 by rw [hw0,hB0];exact (Fr.start w).alloc _)
 have FR0:=hid FR.out.le
 have hZB0:B0≤B0:=Nat.le_refl _
 have HB0:=hid hB0
 go_enter Try.func72,Try.ntmps72
 go_upto_region 1 with fail
 rw [←hw0,←hB0]
 clear hw0 hB0
 go_wp2
 go_loopg [3,4] n (fun m pv iv wr=>∃ i:Nat,pv=.int .i64 ((10^i:Nat):Int)∧iv=.int .i64 (i:Int)∧i≤n∧n≤m+i∧wr=w0)
 case atStart=>exact ⟨0,rfl,rfl,by omega,by omega,rfl⟩
 case round =>
  obtain ⟨i,rfl,rfl,hi,hm,hwr⟩:=hrel
  subst hwr
  by_cases hin:i<n
  ·obtain ⟨p,hp⟩:∃ p,p=10^i:=⟨_,rfl⟩
   have hpb:p*10≤1000000000000000000:=by have:=HPW.out (i+1) (by omega);rw [Nat.pow_succ,←hp] at this;exact this
   have wq:IntKind.i64.wrap ((p:Int)*10)=(p:Int)*10:=IntWalk.i64_in _ (by omega)
   have HQ:=hid (show (p:Int)*10=((10^(i+1):Nat):Int) by rw [Nat.pow_succ,←hp];omega)
   rw [←hp]
   clear hp hpb
   go_wp2
   go_roundg (gk - 1)
   case measure=>omega
   case rel=>exact ⟨i+1,by rw [HQ.out],by go_num,by omega,by omega,rfl⟩
  ·have hin2:i=n:=by omega
   subst hin2
   go_upto_region 6 with fail
   refine qwf [⟨false,0,2,2,B0,0,56,13,cr,0,cr,[]⟩] [(12,.int .i64 ((10^i:Nat):Int)),(13,.agg cr.toArray)] _ (by simp only [zz4,zz5,zq];rfl) (by kernel_rfl) (by kernel_rfl) ?_ ?_ ?_ ?_ ?_ ?_ ?_
   ·intro W' hW'
    refine fxo ?_ ?_;(go_big_quiet_step (fail);(try simp only [zq]);exact wqn rfl)
    refine fxo ?_ ?_;(go_big_quiet_step ((go_at_call 74;exact Calls.below_of (H1.out _)));(try simp only [zq]);exact wqn rfl)
    refine fxs (by rfl) ?_
    exact fxn
   ·intro W' hK'
    first|(refine fxo ?_ ?_;(go_big_quiet_step (fail);(try simp only [zq]);exact wqn rfl))|(refine fxs (by kernel_rfl) ?_)
    iterate 2 (refine fxs (by kernel_rfl) ?_)
    exact fxn
   ·exact oP _ _ (fun h=>Bool.noConfusion h) (oN)
   ·exact oP _ _ (fun _=>⟨AB0.out.lt,rfl,At.room AB0.out (qR V_cz.out) (qR V_cr.out)⟩) (oN)
   ·exact uno
   ·exact oP _ _ (stw rfl (qR V_cr.out) (oneR V_cr.out) (fun _=>rfl)) (oN)
   intro β wx1 E
   replace FR:=hid (FR.out.flow E (oP _ _ (fun _=>(by show B0≤B0;omega)) (oN)))
   replace AB0:=hid (show At wx1 B0 0 cr from E.atOld mms rfl AB0.out.lt)
   simp only [nP,zr,zq]
   replace FR0:=hid FR.out.le
   clear E
   go_wp2_with fail
   have hld:=AB0.out.read (P:=Try.prog) Try.underlying56 rfl (qR V_cr.out)
   refine bodyPost_ret (v:=.agg cr.toArray) (by simp [results,Try.results72,asAddr,hld]) rfl ?_
   exact ⟨rfl,by rw [HB0.out] at FR;exact FR.out.below⟩
theorem cmp_is (na nb:Bool) (a b:Nat) (z:Int) (w:World) (ha:a<BB^32) (hb:b<BB^32) (hz:z=cmpZ (zI na a) (zI nb b)) :
  Calls Try.prog 63 #[iV na a,iV nb b] w fun e w'=>e=.returned (.int .i64 z)∧Below w.heap.size w w':=by
 obtain ⟨ca,V_ca⟩:∃ c:List Value,Hid (c=.bool na::lv 32 a):=⟨_,hid rfl⟩
 obtain ⟨cb,V_cb⟩:∃ c:List Value,Hid (c=.bool nb::lv 32 b):=⟨_,hid rfl⟩
 obtain ⟨ma,V_ma⟩:∃ c:List Value,Hid (c=lv 32 a):=⟨_,hid rfl⟩
 obtain ⟨mb,V_mb⟩:∃ c:List Value,Hid (c=lv 32 b):=⟨_,hid rfl⟩
 rw [valI V_ca.out,valI V_cb.out]
 obtain ⟨s,hs⟩:∃ s,s=sgnI na a:=⟨_,rfl⟩
 obtain ⟨t,ht⟩:∃ t,t=sgnI nb b:=⟨_,rfl⟩
 obtain ⟨x,hx⟩:∃ x,x=cmpI a b:=⟨_,rfl⟩
 have hsb:(s=-1∨s=0∨s=1)∧(t=-1∨t=0∨t=1)∧(x=-1∨x=0∨x=1):=⟨by rw [hs];exact sgn_three _ _,by rw [ht];exact sgn_three _ _,by rw [hx];exact cmp_three _ _⟩
 have HZ:=hid (show (s<t→z=-1)∧(t<s→z=1)∧(s=t→z=s*x) by rw [hz,hs,ht,hx];exact cmp_signs na nb a b)
 have HS:=hid (sign_op V_ca.out hs ha)
 have HT:=hid (sign_op V_cb.out ht hb)
 have HX:=hid (compare_op V_ma.out V_mb.out hx ha hb)
 clear hs ht hx ha hb hz
 obtain ⟨B0,hB0⟩:∃ B,B=w.heap.size:=⟨_,rfl⟩
 obtain ⟨B1,hB1⟩:∃ B,B=w.heap.size+1:=⟨_,rfl⟩
 obtain ⟨w0,hw0⟩:∃ w0,w0=((w.alloc (.cells ca.toArray 51)).alloc (.cells cb.toArray 51)):=⟨_,rfl⟩
 have AB0:=hid (show At w0 B0 0 ca by rw [hw0];exact ((show At (w.alloc (.cells ca.toArray 51)) B0 0 ca from At.fresh _ ca _ (by simp [hB0])).alloc _))
 have AB1:=hid (show At w0 B1 0 cb by rw [hw0];exact (show At ((w.alloc (.cells ca.toArray 51)).alloc (.cells cb.toArray 51)) B1 0 cb from At.fresh _ cb _ (by simp [hB1])))
 have FR:=hid (show Fr B0 w w0 by rw [hw0,hB0];exact ((Fr.start w).alloc _).alloc _)
 have FR0:=hid FR.out.le
 have l01:B0<B1:=by omega
 have hZB1:B0≤B1:=by omega
 have hZB0:B0≤B0:=Nat.le_refl _
 have HB0:=hid hB0
 go_enter Try.func63,Try.ntmps63
 go_upto_region 1 with fail
 rw [←hw0,←hB1,←hB0]
 clear hw0 hB0 hB1
 refine wfn [] [(7,.agg ca.toArray),(8,.int .i64 s),(9,.agg cb.toArray),(10,.int .i64 t),(5,.int .i64 s),(6,.int .i64 t)] _ (by simp only [zz4,zz5,zq];rfl) (by kernel_rfl) (by kernel_rfl) rfl ?_ ?_ ?_ ?_
 ·intro W' hW'
  have rd0:=AB0.out.below hW'
  have rd1:=AB1.out.below hW'
  refine fxo (wlg (by rfl) rfl rfl rd0 Try.underlying51 rfl (qI V_ca.out) (wqn (by simp only [zq]))) ?_
  refine fxo ?_ ?_;(go_big_quiet_step ((go_at_call 39;exact Calls.below_of (HS.out _)));(try simp only [zq]);exact wqn rfl)
  refine fxo (wlg (by rfl) rfl rfl rd1 Try.underlying51 rfl (qI V_cb.out) (wqn (by simp only [zq]))) ?_
  refine fxo ?_ ?_;(go_big_quiet_step ((go_at_call 39;exact Calls.below_of (HT.out _)));(try simp only [zq]);exact wqn rfl)
  iterate 2 (refine fxo ?_ ?_;(go_big_quiet_step (fail);(try simp only [zq]);exact wqn rfl))
  exact fxn
 ·exact oN
 ·exact oN
 intro β wx1 E
 replace FR:=hid (FR.out.fnw E rfl)
 replace AB0:=hid (AB0.out.fnw E rfl)
 replace AB1:=hid (AB1.out.fnw E rfl)
 have hE:=E.below rfl
 simp only [nP,zr,zq]
 replace FR0:=hid FR.out.le
 clear E
 obtain ⟨hs,ht,hx⟩:=hsb
 by_cases c1:s<t
 ·have HE:=hid (HZ.out.1 c1)
  clear hs ht hx HS HT
  go_wp2
  go_ret
  exact ⟨ret_int HE.out.symm,by rw [HB0.out] at FR;exact FR.out.below⟩
 ·by_cases c2:t<s
  ·have HE:=hid (HZ.out.2.1 c2)
   clear hs ht hx HS HT
   go_wp2
   go_ret
   exact ⟨ret_int HE.out.symm,by rw [HB0.out] at FR;exact FR.out.below⟩
  ·have hst:s=t:=by omega
   have HE:=hid (HZ.out.2.2 hst)
   have wq:IntKind.i64.wrap (s*x)=s*x:=by rcases hs with rfl|rfl|rfl<;>rcases hx with rfl|rfl|rfl<;>exact IntWalk.i64_in _ (by omega)
   have AB0_1:=hid (AB0.out.mag V_ca.out V_ma.out)
   have AB1_1:=hid (AB1.out.mag V_cb.out V_mb.out)
   clear hs ht hx HS HT hst
   go_upto_region 6 with fail
   refine wfn [] [(19,.int .i64 s),(20,.pointer (some ⟨B0,1,none⟩)),(21,.agg ma.toArray),(22,.pointer (some ⟨B1,1,none⟩)),(23,.agg mb.toArray),(24,.int .i64 x),(25,.int .i64 (s*x)),(4,.int .i64 (s*x))] _ (by simp only [zz4,zz5,zq];rfl) (by kernel_rfl) (by kernel_rfl) rfl ?_ ?_ ?_ ?_
   ·intro W' hW'
    have rd0:=AB0_1.out.below hW'
    have rd1:=AB1_1.out.below hW'
    iterate 2 (refine fxo ?_ ?_;(go_big_quiet_step (fail);(try simp only [zq]);exact wqn rfl))
    refine fxo (wlg (by rfl) rfl rfl rd0 Try.underlying49 rfl (sizeM V_ma.out) (wqn (by simp only [zq]))) ?_
    refine fxo ?_ ?_;(go_big_quiet_step (fail);(try simp only [zq]);exact wqn rfl)
    refine fxo (wlg (by rfl) rfl rfl rd1 Try.underlying49 rfl (sizeM V_mb.out) (wqn (by simp only [zq]))) ?_
    refine fxo ?_ ?_;(go_big_quiet_step ((go_at_call 68;exact Calls.below_of (HX.out _)));(try simp only [zq]);exact wqn rfl)
    iterate 2 (refine fxo ?_ ?_;(go_big_quiet_step (fail);(try simp only [zq]);exact wqn rfl))
    exact fxn
   ·exact oN
   ·exact oN
   intro β wx2 E
   replace FR:=hid (FR.out.fnw E rfl)
   replace AB0:=hid (AB0.out.fnw E rfl)
   replace AB1:=hid (AB1.out.fnw E rfl)
   replace AB0_1:=hid (AB0_1.out.fnw E rfl)
   replace AB1_1:=hid (AB1_1.out.fnw E rfl)
   have hE:=E.below rfl
   simp only [nP,zr,zq]
   replace FR0:=hid FR.out.le
   clear E
   go_wp2
   go_ret
   exact ⟨ret_int HE.out.symm,by rw [HB0.out] at FR;exact FR.out.below⟩
end Go.Proofs.Ytnkmhbiklffjlaa
