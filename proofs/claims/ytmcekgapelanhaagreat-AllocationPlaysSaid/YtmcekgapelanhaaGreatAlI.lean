import Derived.Test.YtmcekgapelanhaaGreatAlH
set_option linter.unusedVariables false
set_option linter.unusedSimpArgs false
set_option maxRecDepth 100000
namespace Go.Proofs.YtmcekgapelanhaaGreat
open Go.RowKit Al Tok Big
theorem equalSh (s:Sh) (w:World):(Op.equalIn 10000 37 (.agg s.cells.toArray) (.agg s.cells.toArray)).run Tryz.prog w=.ok true w:=by
 have hu:Tryz.prog.underlying 37=some (.struct (Tryz.prog.fieldsOf 37)):=by rw [Program.fieldsOf,Tryz.underlying37]
 have hst:Tryz.prog.stoodInHeld 37=false:=by kernel_rfl
 rw [run_equalIn_struct w 9999 37 _ _ hu hst]
 rw [Program.fieldsOf,Tryz.underlying37]
 simp [Op.eqFields,Sh.cells,go_sem,part]
theorem eqSh (s:Sh) (w:World):(binOp .eql 37 (.agg s.cells.toArray) (.agg s.cells.toArray)).run Tryz.prog w=.ok (.bool true) w:=by
 rw [run_eql_struct,equalSh];rfl
theorem neSh (s:Sh) (w:World):(binOp .neq 37 (.agg s.cells.toArray) (.agg s.cells.toArray)).run Tryz.prog w=.ok (.bool false) w:=by
 rw [run_neq_struct,equalSh];rfl
theorem Tryz.infoI33s:(Tryz.prog.info? 25).map (·.size)=some 33:=by kernel_rfl
theorem equalR {n m:Bool} {p q:Nat} (hp:p<BB^32) (hq:q<BB^32) (w:World):(Op.equalIn 10000 27 (.agg (rat n p m q).toArray) (.agg (rat n p m q).toArray)).run Tryz.prog w=.ok true w:=by
 have hu:Tryz.prog.underlying 27=some (.struct (Tryz.prog.fieldsOf 27)):=by rw [Program.fieldsOf,Tryz.underlying27]
 have hst:Tryz.prog.stoodInHeld 27=false:=by kernel_rfl
 rw [run_equalIn_struct w 9999 27 _ _ hu hst]
 have hf : (Tryz.prog.fieldsOf 27).toList = [{ name := "Num", type := 25, offset := 0, embedded := false, tag := "", pkgPath := "", byteOffset := 0 }, { name := "Den", type := 25, offset := 33, embedded := false, tag := "", pkgPath := "", byteOffset := 132 }] := by rw [Program.fieldsOf, Tryz.underlying27]
 rw [hf]
 obtain ⟨i,hi,hs⟩:∃ i,Tryz.prog.info? 25=some i∧i.size=33:=by
  have:=Tryz.infoI33s
  cases h:Tryz.prog.info? 25 with
  | none=>rw [h] at this;cases this
  | some i=>rw [h] at this;injection this with this;exact ⟨i,rfl,this⟩
 have e1:=eq_at 9996 n n p p hp hp w
 have e2:=eq_at 9996 m m q q hq hq w
 simp only [Nat.reduceAdd,and_self,decide_true] at e1 e2
 have q1:(part 25 (rat n p m q).toArray 0).run Tryz.prog w=.ok (iV n p) w:=by
  have hx:List.take 33 (Value.bool n::lv 32 p++Value.bool m::lv 32 q)=Value.bool n::lv 32 p:=List.take_left' (by rw [List.length_cons,qlL])
  simp [part,isAgg,Sem.run_bind,run_underlying Tryz.underlying25,run_sizeOf w hi,Program.cellsOf,hi,hs,rat]
  simpa [iV] using hx
 have q2:(part 25 (rat n p m q).toArray 33).run Tryz.prog w=.ok (iV m q) w:=by
  have hx:List.drop 33 (Value.bool n::lv 32 p++Value.bool m::lv 32 q)=Value.bool m::lv 32 q:=List.drop_left' (by rw [List.length_cons,qlL])
  have hy:List.take 33 (Value.bool m::lv 32 q)=Value.bool m::lv 32 q:=by rw [List.take_of_length_le];rw [List.length_cons,qlL];exact Nat.le_refl _
  simp [part,isAgg,Sem.run_bind,run_underlying Tryz.underlying25,run_sizeOf w hi,Program.cellsOf,hi,hs,rat]
  rw [show List.drop 32 (lv 32 p++Value.bool m::lv 32 q)=Value.bool m::lv 32 q from List.drop_left' (qlL _ _),hy];rfl
 have n1 : ("Num" : String) ≠ "_" := by simp
 have n2 : ("Den" : String) ≠ "_" := by simp
 unfold Op.eqFields
 rw [if_pos n1]
 simp only [Sem.run_bind,q1,e1,Result.andThen_ok,and_self,decide_true,Bool.not_true,Bool.false_eq_true,if_false]
 unfold Op.eqFields
 rw [if_pos n2]
 simp only [Sem.run_bind,q2,e2,Result.andThen_ok,and_self,decide_true,Bool.not_true,Bool.false_eq_true,if_false]
 unfold Op.eqFields
 simp only [Sem.run_pure]
theorem eqRr {n m:Bool} {p q:Nat} (hp:p<BB^32) (hq:q<BB^32) (w:World):(binOp .eql 27 (.agg (rat n p m q).toArray) (.agg (rat n p m q).toArray)).run Tryz.prog w=.ok (.bool true) w:=by
 rw [run_eql_struct,equalR hp hq];rfl
theorem neRr {n m:Bool} {p q:Nat} (hp:p<BB^32) (hq:q<BB^32) (w:World):(binOp .neq 27 (.agg (rat n p m q).toArray) (.agg (rat n p m q).toArray)).run Tryz.prog w=.ok (.bool false) w:=by
 rw [run_neq_struct,equalR hp hq];rfl
theorem eqQ {c:List Value} {r:Qn} (h:c=ratZ r.1 r.2) (hv:VQ r) (w:World):(binOp .eql 27 (.agg c.toArray) (.agg c.toArray)).run Tryz.prog w=.ok (.bool true) w:=by
 rw [h];exact eqRr (b480_bb hv.num) (b480_bb hv.den) w
theorem neQ {c:List Value} {r:Qn} (h:c=ratZ r.1 r.2) (hv:VQ r) (w:World):(binOp .neq 27 (.agg c.toArray) (.agg c.toArray)).run Tryz.prog w=.ok (.bool false) w:=by
 rw [h];exact neRr (b480_bb hv.num) (b480_bb hv.den) w
theorem eqS {c:List Value} {s:Sh} (h:c=s.cells) (w:World):(binOp .eql 37 (.agg c.toArray) (.agg c.toArray)).run Tryz.prog w=.ok (.bool true) w:=by
 rw [h];exact eqSh s w
theorem neS {c:List Value} {s:Sh} (h:c=s.cells) (w:World):(binOp .neq 37 (.agg c.toArray) (.agg c.toArray)).run Tryz.prog w=.ok (.bool false) w:=by
 rw [h];exact neSh s w
theorem wqs {ops:Array Oper} {C:World→Prop} {Q:Act→Prop} {a:Act} {op:Oper} {rest:List Oper} {x y:Operand} {t ty:TypeId} {c:List Value} {b:BinOp} {r:Bool} (hgd:Region.wanted op (yielded ops a.tmps)=true) (ho:op.op=.binOp b ty x y t) (hx:a.eval x=.agg c.toArray) (hy:a.eval y=.agg c.toArray)
  (hm:Tryz.prog.eqGuardType Tryz.prog.depth ty=false) (he:∀ W,(binOp b ty (.agg c.toArray) (.agg c.toArray)).run Tryz.prog W=.ok (.bool r) W)
  (h:wpQuiet Tryz.prog ops C Q rest (a.put op.dst (.bool r))):wpQuiet Tryz.prog ops C Q (op::rest) a:=by
 refine wpQuiet_step (fun K hK=>?_)
 rw [if_pos hgd]
 refine ⟨.bool r,fun W hW=>?_,hK _ h⟩
 have hg:=run_eqGuard_agg (P:=Tryz.prog) W b ty x y c.toArray c.toArray hm
 unfold Oper.quietAt execOp
 simp [ho,hx,hy,hg,he W,Oper.quietUpon]
theorem rd_fresh (w:World) (size n:Nat) (xs:List Value) (t:TypeId) (hn:n≤1000000) (h:xs.length=n*size):Rd (w.alloc (.cells xs.toArray t)) size (.slice (some ⟨w.heap.size,0,none⟩) n n) n xs :=
 ⟨h,by omega,_,n,rfl,fun _=>⟨w.heap.size,0,rfl,fun j u hu=>(At.fresh w xs t rfl).range j u hu⟩⟩
theorem cellsS_mid (l:List Sh) (k:Nat) (x:Sh) (h:l[k]?=some x):∃ a b,cellsS l=a++(x.cells++b)∧a.length=k*5:=by
 refine ⟨cellsS (l.take k),cellsS (l.drop (k+1)),?_,?_⟩
 ·have hk:=(List.getElem?_eq_some_iff.1 h)
  obtain ⟨h1,h2⟩:=hk
  have:l=l.take k++(x::l.drop (k+1)):=by rw [←h2,←List.drop_eq_getElem_cons h1,List.take_append_drop]
  conv=>lhs;rw [this]
  simp [cellsS]
 ·rw [cellsS_len,List.length_take,Nat.min_eq_left (Nat.le_of_lt (List.getElem?_eq_some_iff.1 h).1)]
theorem cellsQ_mid (l:List Qn) (k:Nat) (x:Qn) (h:l[k]?=some x):∃ a b,cellsQ l=a++(ratZ x.1 x.2++b)∧a.length=k*66:=by
 refine ⟨cellsQ (l.take k),cellsQ (l.drop (k+1)),?_,?_⟩
 ·have hk:=(List.getElem?_eq_some_iff.1 h)
  obtain ⟨h1,h2⟩:=hk
  have:l=l.take k++(x::l.drop (k+1)):=by rw [←h2,←List.drop_eq_getElem_cons h1,List.take_append_drop]
  conv=>lhs;rw [this]
  simp [cellsQ]
 ·rw [cellsQ_len,List.length_take,Nat.min_eq_left (Nat.le_of_lt (List.getElem?_eq_some_iff.1 h).1)]
theorem get_mid {a b c:List Value} {n j:Nat} {u:Value} (h:a.length=n) (hj:b[j]?=some u):(a++(b++c))[n+j]?=some u:=by
 rw [←h,List.getElem?_append_right (by omega),Nat.add_sub_cancel_left,List.getElem?_append_left (List.getElem?_eq_some_iff.1 hj).1];exact hj
theorem shs_some {w:World} {v:Value} {l:List Sh} (h:Rd w 5 v l.length (cellsS l)) (hn:0<l.length):∃ g off cap,v=.slice (some ⟨g,off,none⟩) l.length cap∧∀ k x,l[k]?=some x→∀ j u,x.cells[j]?=some u→w.cell? ⟨g,off+(k*5+j),none⟩=some u:=by
 obtain ⟨h1,h2,A,cap,rfl,h3⟩:=h
 obtain ⟨g,off,rfl,hc⟩:=h3 hn
 refine ⟨g,off,cap,rfl,fun k x hx j u hu=>hc _ u ?_⟩
 obtain ⟨a,b,e,ha⟩:=cellsS_mid l k x hx
 rw [e];exact get_mid ha hu
theorem qs_some {w:World} {v:Value} {l:List Qn} (h:Rd w 66 v l.length (cellsQ l)) (hn:0<l.length):∃ g off cap,v=.slice (some ⟨g,off,none⟩) l.length cap∧∀ k x,l[k]?=some x→∀ j u,(ratZ x.1 x.2)[j]?=some u→w.cell? ⟨g,off+(k*66+j),none⟩=some u:=by
 obtain ⟨h1,h2,A,cap,rfl,h3⟩:=h
 obtain ⟨g,off,rfl,hc⟩:=h3 hn
 refine ⟨g,off,cap,rfl,fun k x hx j u hu=>hc _ u ?_⟩
 obtain ⟨a,b,e,ha⟩:=cellsQ_mid l k x hx
 rw [e];exact get_mid ha hu
end Go.Proofs.YtmcekgapelanhaaGreat
